import Derived.Test.YtdipcmigdbnheaaGreatX30
import Derived.Test.YtdipcmigdbnheaaGreatX23
import Derived.KernelRfl
set_option linter.all false
set_option maxHeartbeats 0
set_option maxRecDepth 20000
open Nat renaming zero_le→aI,min_eq_left→pC,le_of_lt→Py,sub_self→hJ,sub_zero→vU,le_refl→aN
open List renaming drop_eq_nil_of_le→cR,replicate→bH,set_append_right→Dx,length_take→eN,map_nil→kJ,nil_append→dY,take_of_length_le→dJ,length_set→bF,take→kL,take_take→Pz
open Go Go.Am Go.Proofs
namespace T
def agP(l:List Bool)(hl:l.length<1000000):ao Tryz.prog 161 [.tree 1 (aX l),.lit (.bool true)] [] (aaC (tX l 0)) []:=by
 generalize ak:tX l 0=res;refine ao.aD 19 0 [.tmp 4] Tryz.func161 ?_;refine Vb X0 ?_;refine aM (λk:Nat=>(⟨aw [(0,.tree 1 (aX l)),(1,.lit (.bool true)),(7,aaC l.length),(8,aaC k)],[]⟩:St)) (λk=>k<=l.length/\tX (l.drop k) k=res) (λk=>l.length-k) 0 ⟨aI _,ak⟩ (Xv X0) ?_;rintro k⟨hk,hr⟩Ql an ar;by_cases aK:k<l.length
 ·have hd:=cP l k false aK;generalize fY:l.getD k false=b at *;rw[hd,tX]at hr;cases b
  ·rw[if_neg GF]at hr;((repeat'(first|refine Va @fY ?_|(refine Xi ?_ ?_<;>try intro ht)|exact Xx|fail)))
   all_goals try(exfalso;simp_all;done)
   all_goals exact an _ (k+1) ⟨GC,hr⟩ GC (Xv X0)
  ·rw[if_pos rfl]at hr;((repeat'(first|refine Va @fY ?_|(refine Xi ?_ ?_<;>try intro ht)|exact Xx|fail)))
   all_goals try(exfalso;simp_all;done)
   all_goals
    repeat(refine Xu ?_)
    refine Vb X0 ?_;exact aE rfl (by rw[hr])
 ·((repeat'(first|refine Va X0 ?_|(refine Xi ?_ ?_<;>try intro ht)|exact Xx|fail)))
  rw[cR GC,tX]at hr;refine ar _ _ rfl ?_;clear an ar Ql;repeat(refine Xu ?_)
  refine Vb X0 ?_;exact aE rfl (by rw[hr])
def agQ{left:List (List Bool)}{i:Nat}(h:i<left.length):(ints (kd (left.take i)++bH (left.length-i) 0)).set i [aaC (tX (left.getD i default) 0)]=ints (kd (left.take (i+1))++bH (left.length-(i+1)) 0):=by
 rw[eG h,show left.length-i=(left.length-(i+1))+1 by omega,List.replicate_succ];unfold kd ints;rw[<- List.map_set];congr 1;rw[List.map_append,Dx _ _ aar];simp only[List.length_map,eN,pC (Py h),hJ,List.set_cons_zero,List.map_cons,kJ,List.append_assoc,List.cons_append,dY]
def agR(left:List (List Bool))(hl:left.length<=24)(hw:∀ l∈left,l.length<=24):ao Tryz.prog 105 [.tree 1 (rowsOf aQ left)] [] (.ref 0 1 0 left.length) [.arr 1 (ints (kd left))]:=by
 refine ao.aD 23 0 [.tmp 2] Tryz.func105 ?_;refine Vb X0 ?_;refine aM (λk:Nat=>(⟨aw [(3,.ref 0 1 0 left.length),(9,.tree 1 (rowsOf aQ left)),(10,aaC left.length),(11,aaC k)],[.arr 1 (ints (kd (left.take k)++bH (left.length-k) 0))]⟩:St)) (λk=>k<=left.length) (λk=>left.length-k) 0 (aI _) (by rw[List.take_zero];unfold kd;simp only[kJ,dY,vU];exact Xs false [0] @BS) ?_;rintro k hk Ql an ar;by_cases aK:k<left.length
 ·have hm:=hw _ (ay (d:=default) aK);have eh:=agP (left.getD k default) GC;have iy:=agQ aK;have hlen:(ints (kd (left.take k)++bH (left.length-k) 0)).length=left.length:=by unfold kd ints;simp;omega
  have hAk:(ints (kd (left.take k)++bH (left.length-k) 0))[k]?=some [aaC 0]:=by
   unfold kd ints;rw[List.getElem?_map,List.getElem?_append_right aar,List.getElem?_replicate,if_pos aar];rfl
  generalize hA:ints (kd (left.take k)++bH (left.length-k) 0)=A at *;generalize aS:left.getD k default=row at *;generalize tX row 0=x at *;((repeat'(first|refine Vc (X4 @aS @aQ.eq_1 @hlen @hAk) eh ?_|(refine Xi ?_ ?_<;>try intro ht)|exact Xx|fail)))
  all_goals exact an _ (k+1) GC GC (by rw[<- iy];exact Xv X0)
 ·((repeat'(first|refine Va X0 ?_|(refine Xi ?_ ?_<;>try intro ht)|exact Xx|fail)))
  refine ar _ _ rfl ?_;clear an ar Ql;repeat(refine Xu ?_)
  rw[dJ GC,show left.length-k=0 by omega,List.replicate_zero,List.append_nil];refine Vb X0 ?_;exact Xw false [0] X0
def agy(m:aj)(hm:MB m):ao Tryz.prog 19 [.agg (aq m)] [] (aaC (gj m)) []:=by
 have h1:=wx m hm;have rR:=hm.cls;generalize ak:gj m=res;unfold gj at ak;refine ao.aD 32 0 [.tmp 2] Tryz.func19 ?_;by_cases hv:df m=0;rotate_left
 ·rw[if_neg hv]at ak;generalize df m=e at *;((repeat'(first|refine Vd X0 h1 ?_|(refine Xi ?_ ?_<;>try intro ht)|exact Xx|fail)))
  all_goals exact aE rfl (by rw[ak])
 rw[if_pos hv]at ak;rw[hv]at h1;have bT:=eK.1 hv;((repeat'(first|refine Vd @bne_self_eq_false.{0} h1 ?_|(refine Xi ?_ ?_<;>try intro ht)|exact Xx|fail)))
 refine aM (λz:Nat×Int=>(⟨aw [(1,.ptr 0 0 0),(3,aaC z.2),(4,aaC z.1)],[.var (aq m)]⟩:St))
  (λz=>z.1<=m.cls.length/\0<=z.2/\z.2<=65537/\rQ (m.cls.drop z.1) z.2=res) (λz=>m.cls.length-z.1) (0,1) ⟨aI _,PA,PA,ak⟩ (Xv X0) ?_
 rintro⟨i,n⟩⟨hi,ef,gp,hr⟩Ql an ar;dsimp only at hi ef gp hr ⊢;by_cases hi':i<m.cls.length
 ·have hd:=cP m.cls i default hi';have hc:=bT.opt _ (ay (d:=default) hi');generalize aR:m.cls.getD i default=c at *;rw[hd,rQ]at hr;have hmul:0<=n*(c.length:Int)/\n*(c.length:Int)<=65537*24:=⟨Int.mul_nonneg ef GC,Int.mul_le_mul gp GC GC GC⟩;generalize AP:n*(c.length:Int)=nc at *;by_cases h0:c.length=0
  ·rw[if_pos h0]at hr;((repeat'(first|refine Va (X3 @aR @bu.eq_1 @AP) ?_|(refine Xi ?_ ?_<;>try intro ht)|exact Xx|fail)))
   all_goals
    repeat(refine Xu ?_)
    refine Vb X0 ?_;exact aE rfl (by rw[hr])
  ·rw[if_neg h0]at hr;((repeat'(first|refine Va (X3 @aR @bu.eq_1 @AP) ?_|(refine Xi ?_ ?_<;>try intro ht)|exact Xx|fail)))
   all_goals exact an _ (i+1,min nc 65537) ⟨PA,PA,PA,hr⟩ PA (Xv X0)
 ·rw[cR GC,rQ]at hr;((repeat'(first|refine Va X0 ?_|(refine Xi ?_ ?_<;>try intro ht)|exact Xx|fail)))
  refine ar _ _ rfl ?_;clear an ar Ql;repeat(refine Xu ?_)
  refine Vb X0 ?_;exact aE rfl (by rw[hr])
def zt(f:List Int->List Int)(c:Nat):Nat->Nat->List Int->List Int
 |0,_,P=>P
 |w+1,k,P=>zt f c w (k+1) (f (P.set c (k:Int)))
def r8(m:aj):Nat->List Int->List Int
 |0,P=>P
 |d+1,P=>zt (r8 m d) (m.cls.length-(d+1)) (m.cls.getD (m.cls.length-(d+1)) default).length 0 P
def agT{P:List Int}{c:Nat}(hc:c<P.length)(x:Int):(P.set c x).take (c+1)=P.take c++[x]:=by
 rw[List.take_set,List.take_succ_eq_append_getElem hc,Dx _ _ (by rw[eN];exact Nat.min_le_left _ _),eN,pC (Py hc),hJ];rfl
def U5{m:aj}:∀ (d:Nat) (P:List Int),d<=m.cls.length->P.length=m.cls.length->(r8 m d P).length=m.cls.length/\(r8 m d P).take (m.cls.length-d)=P.take (m.cls.length-d)
 |0,P,hd,hP=>⟨hP,rfl⟩
 |d+1,P,hd,hP=>by
  unfold r8;have key:∀ (w k:Nat) (R:List Int),R.length=m.cls.length->(zt (r8 m d) (m.cls.length-(d+1)) w k R).length=m.cls.length/\(zt (r8 m d) (m.cls.length-(d+1)) w k R).take (m.cls.length-(d+1))=R.take (m.cls.length-(d+1)):=by
   intro w
   induction w with
   |zero=>intro k R hR;exact⟨hR,rfl⟩
   |succ w ih =>
    intro k R hR;obtain⟨h1,h2⟩:=U5 (m:=m) d (R.set (m.cls.length-(d+1)) (k:Int)) GC (by rw[bF];exact hR);obtain⟨i1,i2⟩:=ih (k+1) _ h1;rw[zt];refine⟨i1,i2.trans ?_⟩;have h3:=congrArg (kL (m.cls.length-(d+1))) h2;rw[Pz,Pz,pC (show m.cls.length-(d+1)<=m.cls.length-d by omega)]at h3;rw[h3,List.take_set_of_le (aN _)]
  exact key _ 0 P hP
def agU(m:aj)(hm:VM m):∀ (d:Nat) (P p:List Int),d<=m.cls.length->P.length=m.cls.length->P.take (m.cls.length-d)=p->BP m p ->
  ao Tryz.prog 52 [.agg (aq m),.ref 0 1 0 m.cls.length,aaC (m.cls.length-d:Nat)] [.arr 1 (ints P)] (.bJ [.tree 1 (ints (fO m d p).1),aaC (fO m d p).2]) [.arr 1 (ints (r8 m d P))]:=by
 intro d;have nu:=hm.cls
 induction d with
 |zero =>
  intro P p hd hP hp Mg;rw[vU,<- hP,List.take_length]at hp;subst hp;have xX:=Mg.fp hP;have kR:=US m P hm.mb GC;rw[H8 hm xX.pm]at kR;dsimp only at kR;have kR:=kR.Kn;generalize ak:fO m 0 P=res;unfold fO iz at ak;generalize jX (jr m P) 0=n at *;have gD:(ints P).length=m.cls.length:=by rw[lI];exact hP
  have vn:∀ l:List Ob,eS l [] ([]:List Ob)=l:=λl=>by simp[eS]
  unfold r8;refine ao.aD 61 1 [.tmp 6,.tmp 7] Tryz.func52 ?_;((repeat'(first|refine Vb @gD ?_|(refine Xi ?_ ?_<;>try intro ht)|exact Xx|fail))<;>try with_reducible intro K hK)
  refine nM [] kR Px trivial ⟨.pure rfl,aJ.fz rfl gD.symm,trivial⟩ rfl GF ?_;rw[kJ,vn];simp(disch:=omega)only[Ac,↓Pc,simprocAttr];refine hK _ ?_;clear hK K;have im:kL m.cls.length (ints P)=ints P:=dJ GC;by_cases hF:1099511627776<=n
  ·rw[if_pos hF]at ak;subst ak;((repeat'(first|refine Vb X0 ?_|(refine Xi ?_ ?_<;>try intro ht)|exact Xx|fail)))
   refine cZ [0] true Px ⟨⟨GF,.inr (by simp[rG])⟩,trivial⟩ Px Px (aJ.lq aJ.nil (.pure rfl))
  ·rw[if_neg hF]at ak;subst ak;((repeat'(first|refine Vb (X3 @gD @im @BT) ?_|(refine Xi ?_ ?_<;>try intro ht)|exact Xx|fail)))
   refine cZ [0] true Px ⟨⟨GF,.inr (by simp[rG])⟩,trivial⟩ Px Px (aJ.lq ?_ (.pure rfl));exact .fz rfl gD.symm
 |succ d ih =>
  intro P p hd hP hp Mg;have cu:p.length=m.cls.length-(d+1):=by rw[<- hp,eN,hP];omega
  have anG:=hm.opt _ (ay (l:=m.cls) (i:=m.cls.length-(d+1)) (d:=default) GC);have U6:((m.cls.length-(d+1):Nat):Int)+1=((m.cls.length-d:Nat):Int):=GC;generalize H':fO m (d+1) p=RB;generalize Mh:r8 m (d+1) P=RP;unfold fO at H';unfold r8 at Mh;rw[cu]at H';generalize aR:m.cls.getD (m.cls.length-(d+1)) default=cl at *;have e9:m.cls.length-(d+1)<m.cls.length:=GC;have iy:∀ (R:List Int) (k:Nat),R.length=m.cls.length->R.take (m.cls.length-(d+1))=p->(R.set (m.cls.length-(d+1)) (k:Int)).take (m.cls.length-d)=p++[(k:Int)]:=λR k hR Mi=>by
   rw[show m.cls.length-d=m.cls.length-(d+1)+1 by omega,agT GC,Mi]
  generalize hc:m.cls.length-(d+1)=c at *;refine ao.aD 61 1 [.tmp 6,.tmp 7] Tryz.func52 ?_;((repeat'(first|refine Vb @lI ?_|(refine Xi ?_ ?_<;>try intro ht)|exact Xx|fail)))
  refine aM (λz:Nat×(List Int×Int)×List Int=>(⟨aw [(1,.ref 0 1 0 m.cls.length),(2,aaC (c:Nat)),(3,.ptr 1 0 0),(11,.tree 1 (ints z.2.1.1)),(12,aaC z.2.1.2),(13,aaC z.1)],[.arr 1 (ints z.2.2),.var (aq m)]⟩:St))
   (λz=>z.1<=cl.length/\z.2.2.length=m.cls.length/\z.2.2.take c=p/\qK (fO m d) p (cl.length-z.1) z.1 z.2.1=RB/\zt (r8 m d) c (cl.length-z.1) z.1 z.2.2=RP) (λz=>cl.length-z.1) (0,([],1099511627776),P) ⟨aI _,hP,hp,H',Mh⟩ ?_ ?_
  ·refine aF.trans (aF.Ep 11 1 (a:=none) (cap:=0) (by simp only[Kc,simprocAttr])) ?_;exact Xv X0
  clear H' Mh hp hP P;rintro⟨k,bb,P⟩⟨hk,hP,hp,tY,ja⟩Ql an ar;dsimp only at hk hP hp tY ja ⊢;have gD:(ints P).length=m.cls.length:=by rw[lI];exact hP
  by_cases aK:k<cl.length
  ·have agV:=Mg.snoc (k:=k) GC (by rw[cu,aR];exact aK);have Ia:=ih (P.set c (k:Int)) (p++[(k:Int)]) GC (by rw[bF];exact hP) (iy P k hP hp) agV;have hl:=U5 (m:=m) d (P.set c (k:Int)) GC (by rw[bF];exact hP);have mj:(r8 m d (P.set c (k:Int))).take c=p:=by
    have h3:=congrArg (kL c) hl.2;rw[Pz,Pz,pC (show c<=m.cls.length-d by omega),List.take_set_of_le (aN _),hp]at h3;exact h3
   rw[<- U6]at Ia;rw[show cl.length-k=(cl.length-(k+1))+1 by omega,qK]at tY;rw[show cl.length-k=(cl.length-(k+1))+1 by omega,zt]at ja;generalize fO m d (p++[(k:Int)])=q at *;generalize r8 m d (P.set c (k:Int))=P2 at *;obtain⟨q1,q2⟩:=q;obtain⟨b1,b2⟩:=bb;dsimp only at Ia tY ⊢;by_cases hq:q2<b2
   ·rw[if_pos hq]at tY;((repeat'(first|refine Va (X4 @gD @aR @bu.eq_1 @ints_set) ?_|(refine Xi ?_ ?_<;>try intro ht)|exact Xx|fail))<;>try with_reducible intro K hK)
    (refine Xn [0] (Ia) ?_;simp(disch:=omega)only[Ac,↓Pc,simprocAttr,rG])
    ((try revert hK K);(repeat'(first|refine Va X0 ?_|(refine Xi ?_ ?_<;>try intro ht)|exact Xx|fail)))
    all_goals exact an _ (k+1,(q1,q2),P2) ⟨PA,hl.1,mj,tY,ja⟩ PA (Xv X0)
   ·rw[if_neg hq]at tY;((repeat'(first|refine Va (X4 @gD @aR @bu.eq_1 @ints_set) ?_|(refine Xi ?_ ?_<;>try intro ht)|exact Xx|fail))<;>try with_reducible intro K hK)
    (refine Xn [0] (Ia) ?_;simp(disch:=omega)only[Ac,↓Pc,simprocAttr,rG])
    ((try revert hK K);(repeat'(first|refine Va X0 ?_|(refine Xi ?_ ?_<;>try intro ht)|exact Xx|fail)))
    all_goals exact an _ (k+1,(b1,b2),P2) ⟨PA,hl.1,mj,tY,ja⟩ PA (Xv X0)
  ·obtain rfl:k=cl.length:=GC;rw[hJ,qK]at tY;rw[hJ,zt]at ja;subst tY ja;((repeat'(first|refine Va (X3 @gD @aR @bu.eq_1) ?_|(refine Xi ?_ ?_<;>try intro ht)|exact Xx|fail)))
   refine ar _ _ rfl ?_;clear an ar Ql;repeat(refine Xu ?_)
   refine Vb X0 ?_;refine cZ [0] true Px ⟨⟨GF,.inr (by simp[rG])⟩,trivial⟩ Px Px (aJ.lq (.pure rfl) (.pure rfl))
def agC(m:aj)(hm:VM m):ao Tryz.prog 20 [.agg (aq m)] [] (.bJ [.tree 1 (ints (fO m m.cls.length []).1),aaC (fO m m.cls.length []).2]) []:=by
 have nu:=hm.cls;have h:=agU m hm m.cls.length (bH m.cls.length 0) [] (aN _) GF (by rw[hJ];rfl) (Mj m);rw[hJ]at h;generalize r8 m m.cls.length (bH m.cls.length 0)=P at *;generalize fO m m.cls.length []=b at *;refine ao.aD 14 0 [.tmp 2,.tmp 3] Tryz.func20 ?_;((refine Vb @BS ?_)<;>try with_reducible intro K hK)
 (refine Xn [1] (h) ?_;simp(disch:=omega)only[Ac,↓Pc,simprocAttr,rG,BS])
 ((try revert hK K);(refine Vb X0 ?_))
 all_goals exact aE rfl rfl
end T

