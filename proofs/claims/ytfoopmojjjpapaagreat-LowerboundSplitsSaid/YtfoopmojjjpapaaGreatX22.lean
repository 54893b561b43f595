import Derived.Test.YtfoopmojjjpapaaGreatX21
set_option linter.all false
set_option maxHeartbeats 0
set_option maxRecDepth 20000
open Nat renaming zero_le→aP,mul_le_mul→w8,sub_self→jC,add_zero→jK
open List renaming getD_eq_getElem?_getD→ay,getElem?_map→bM,getElem?_eq_getElem→bx,length_take→e9,take_zero→mu,map_nil→oP,foldl_nil→AW,mem_of_mem_take→sV,take_of_length_le→dt,mem_append→cG,mem_singleton→cS,length_map→gD,append_assoc→bH,length_append→bN,length_set→bJ,getElem?_eq_some_iff→aY,map_append→dU,nodup_append→pE,mem_cons→bu,not_mem_nil→iI,set_set→sZ,range_zero→QO
open Bool renaming true_and→ic,false_and→rI,and_eq_true→bc,not_false→kP,not_true→iH
open Go Go.Am Go.Proofs
namespace T
def aj1(l:List cP)(R:Int)(hl:l.length<=24)(lZ:∀ o∈l,eT R none o.ch=true)(hlen:∀ o∈l,o.ch.length<=100):Holds Tryz.prog 46 [.tree 6 (rowsOf cB l)] [] (.tree 1 (ints (cj l))) []:=by
 refine Holds.aM 39 0 [.tmp 2] Tryz.func46 ?_;refine Vb X0 ?_;refine aQ (λz:Nat×List Int=>(⟨ar [(0,.tree 6 (rowsOf cB l)),(3,.ref 0 1 0 z.2.length),(4,QM z.1)],[.arr 1 (ints z.2)]⟩:St)) (λz=>z.1<=l.length/\z.2=(cj l).take z.1) (λz=>l.length-z.1) (0,[]) ⟨aP _,rfl⟩ ?_ ?_
 ·refine aD.trans (aD.nil 3 1 (by simp only[Kc,simprocAttr]) Hg) ?_;exact Xv X0
 rintro⟨i,xs⟩⟨hi,cJ⟩Ql ak aq;dsimp only at hi cJ ⊢;have nN:(cj l).length=l.length:=by unfold cj;simp
 by_cases au:i<l.length
 ·have eu:=ep (l:=cj l) (k:=i) Ey;have ql:(cj l).getD i default=sJ (l.getD i default):=by
   unfold cj;rw[ay,bM,ay,bx au];rfl
  have gx:=aF (l:=l) (d:=default) au;have hc:=IS (lZ _ gx);have hle:=hlen _ gx;have aX:xs.length=i:=by rw[cJ,e9];omega
  rw[ql,<- cJ]at eu;generalize uV:l.getD i default=o at *;((repeat'(first|refine Va @uV ?_|(refine Xi ?_ ?_<;>try intro ht)|exact Xx|fail)))
  refine aQ (λk:Nat=>(⟨ar [(0,.tree 6 (rowsOf cB l)),(3,.ref 0 1 0 xs.length),(4,QM i),(5,QM (((o.ch.take k).map (·.2)).foldl eM 0)),(6,QM k)],[.arr 1 (ints xs)]⟩:St)) (λk=>k<=o.ch.length) (λk=>o.ch.length-k) 0 (aP _) (Xv (X3 @mu.{0} @oP.{0,0} @AW.{0,0})) ?_;rintro k hk cR bg bm;have hs:=FI ((o.ch.take k).map (·.2)) 0 (λx hx=>by
   obtain⟨c,gq,rfl⟩:=List.mem_map.1 hx;exact hc c (sV gq)) (by unfold bX;decide)
  by_cases bj:k<o.ch.length
  ·have a6:=hc _ (aF (d:=default) bj);have dF:=aam o.ch k bj;generalize ((o.ch.take k).map (·.2)).foldl eM 0=s at *;have xV:=ail s (o.ch.getD k default).2 hs a6;generalize cd:o.ch.getD k default=x at *;((repeat'(first|refine Vc (X4 @uV @cd @cB.eq_1 @bf.eq_1) xV ?_|(refine Xi ?_ ?_<;>try intro ht)|exact Xx|fail)))
   exact bg _ (k+1) Ey Ey (by simp only[dF];exact Xv X0)
  ·have lF:((o.ch.take k).map (·.2)).foldl eM 0=sJ o:=by rw[dt Ey];rfl
   rw[lF]at hs;generalize ((o.ch.take k).map (·.2)).foldl eM 0=s at *;((repeat'(first|refine Va (X2 @uV @cB.eq_1) ?_|(refine Xi ?_ ?_<;>try intro ht)|exact Xx|fail)))
   refine bm _ _ rfl ?_;clear bg bm cR;repeat(refine Xu ?_)
   refine Va X0 ?_;refine ak _ (i+1,xs++[s]) ⟨Hi,by rw[eu,<- lF]⟩ Hi ?_;exact Xs false [2] X0
 ·rw[dt Ey]at cJ;subst cJ;((repeat'(first|refine Va X0 ?_|(refine Xi ?_ ?_<;>try intro ht)|exact Xx|fail)))
  refine aq _ _ rfl ?_;clear ak aq Ql;repeat(refine Xu ?_)
  refine Vb X0 ?_;exact Xw true [] X0
def aa9(l:List Int)(hl:l.length<=1000):Holds Tryz.prog 45 [.tree 1 (ints l)] [] (.ref 0 2 0 (dL l).length) [.arr 2 (rowsOf jG (dL l))]:=by
 refine Holds.aM 25 0 [.tmp 2] Tryz.func45 ?_;refine Vb X0 ?_;refine aQ (λz:Nat×List Nm=>(⟨ar [(0,.tree 1 (ints l)),(3,.ref 0 2 0 z.2.length),(4,QM z.1)],[.arr 2 (rowsOf jG z.2)]⟩:St)) (λz=>z.1<=l.length/\z.2=(dL l).take z.1) (λz=>l.length-z.1) (0,[]) ⟨aP _,rfl⟩ ?_ ?_
 ·refine aD.trans (aD.nil 3 2 (by simp only[Kc,simprocAttr]) Hg) ?_;exact Xv X0
 rintro⟨i,xs⟩⟨hi,cJ⟩Ql ak aq;dsimp only at hi cJ ⊢;have nN:(dL l).length=l.length:=by unfold dL;simp
 by_cases au:i<l.length
 ·have eu:=ep (l:=dL l) (k:=i) Ey;have ql:(dL l).getD i default=e8 (l.getD i 0):=by
   unfold dL;rw[ay,bM,ay,bx au];rfl
  have aX:xs.length=i:=by rw[cJ,e9];omega
  rw[ql,<- cJ]at eu;generalize uV:l.getD i 0=o at *;((repeat'(first|refine Va @uV ?_|(refine Xi ?_ ?_<;>try intro ht)|exact Xx|fail)))
  refine ak _ (i+1,xs++[e8 o]) ⟨Hi,eu.symm⟩ Hi ?_;have eno:[[AV.lit (.bool (decide (o >= 1099511627776))),AV.lit (.int .i64 o)]]=rowsOf jG [e8 o]:=rfl;exact Xs false [2] (X2 @eno @Mt)
 ·rw[dt Ey]at cJ;subst cJ;((repeat'(first|refine Va X0 ?_|(refine Xi ?_ ?_<;>try intro ht)|exact Xx|fail)))
  refine aq _ _ rfl ?_;clear ak aq Ql;repeat(refine Xu ?_)
  refine Vb X0 ?_;exact Xw false [0] X0
def aa'(l:List Nm)(s:List Bool)(hl:l.length=s.length)(eY:l.length<9223372036854775808):Holds Tryz.prog 47 [.tree 2 (rowsOf jG l),.tree 1 (aV s)] [] (.bC [QM (cW l s (0,false)).1,.lit (.bool (cW l s (0,false)).2)]) []:=by
 refine Holds.aM 47 0 [.tmp 4,.tmp 5] Tryz.func47 ?_;refine Vb X0 ?_;refine aQ (λi:Nat=>(⟨ar [(0,.tree 2 (rowsOf jG l)),(1,.tree 1 (aV s)),(6,QM (cW (l.take i) (s.take i) (0,false)).1),(7,.lit (.bool (cW (l.take i) (s.take i) (0,false)).2)),(8,QM i)],[]⟩:St)) (λi=>i<=l.length) (λi=>l.length-i) 0 (aP _) (Xv (X2 @mu.{0} (X2 @cW.eq_1 @cW.eq_2))) ?_;rintro i hi Ql ak aq;by_cases au:i<l.length
 ·have h1:=ep au;have h2:=ep (l:=s) (k:=i) Ey;have h3:=aao (l.getD i default) (s.getD i default) (l.take i) (s.take i) (0,false) (by rw[e9,e9];omega);rw[<- h1,<- h2]at h3;have u5:s.getD i default=s.getD i false:=rfl;rw[u5]at h3;generalize cW (l.take i) (s.take i) (0,false)=b at *;generalize cu:l.getD i default=p at *;generalize py:s.getD i false=is at *;unfold aan at h3;obtain⟨b1,b2⟩:=b;obtain⟨p1,p2⟩:=p;dsimp only at h3 ⊢;by_cases aX:p1<b1;all_goals
   cases is<;>cases p2<;>cases b2
  all_goals
   simp[aX]at h3;((repeat'(first|refine Va (X3 @cu @py @jG.eq_1) ?_|(refine Xi ?_ ?_<;>try intro ht)|exact Xx|fail)))
   all_goals
    refine ak _ (i+1) Ey Ey ?_;simp only[h3];exact Xv X0
 ·((repeat'(first|refine Va X0 ?_|(refine V2 X0 ?_ ?_<;>try with_reducible intro hb)|(refine Xi ?_ ?_<;>try intro ht)|exact Xx|fail)))
  refine aq _ _ rfl ?_;clear ak aq Ql;repeat(refine Xu ?_)
  rw[dt Ey,dt Ey];refine Vb X0 ?_;exact aN rfl rfl
def aaO(l:List Nm)(eY:l.length<9223372036854775808):Holds Tryz.prog 114 [.tree 2 (rowsOf bb l)] [] (.agg (bb (u7 l))) []:=by
 refine Holds.aM 30 0 [.cell 2 182] Tryz.func114 ?_;refine Vb X0 ?_;refine aQ (λi:Nat=>(⟨ar [(2,.ptr 0 0 0),(3,.ptr 1 0 0),(7,.tree 2 (rowsOf bb l)),(8,QM l.length),(9,QM i)],[.var [QM 0,.lit (.bool false)],.var (bb (u7 (l.take i)))]⟩:St)) (λi=>i<=l.length) (λi=>l.length-i) 0 (aP _) (Xv @mu.{0}) ?_;rintro i hi Ql ak aq;by_cases au:i<l.length
 ·have h1:=ep au;have h3:=ajc (l.take i) (l.getD i default);rw[<- h1]at h3;generalize u7 (l.take i)=b at *;generalize cu:l.getD i default=p at *;unfold DJ at h3;obtain⟨b1,b2⟩:=b;obtain⟨p1,p2⟩:=p;dsimp only at h3 ⊢;unfold bb;dsimp only;by_cases aX:p1<b1;all_goals
   cases p2<;>cases b2
  all_goals
   simp[aX]at h3;((repeat'(first|refine Va (X2 @cu @bb.eq_1) ?_|(refine Xi ?_ ?_<;>try intro ht)|exact Xx|fail)))
   all_goals
    refine ak _ (i+1) Ey Ey ?_;simp only[h3];exact Xs false [0,1] @bb.eq_1
 ·((repeat'(first|refine Va @bb.eq_1 ?_|(refine V2 @bb.eq_1 ?_ ?_<;>try with_reducible intro hb)|(refine Xi ?_ ?_<;>try intro ht)|exact Xx|fail)))
  refine aq _ _ rfl ?_;clear ak aq Ql;repeat(refine Xu ?_)
  rw[dt Ey];refine Vb @bb.eq_1 ?_;simp(disch:=omega)only[Ac,↓Pc,simprocAttr,bb,dP];exact aN rfl rfl
def aj3(m:ah)(x:Mv)(hm:VM m):Holds Tryz.prog 44 [.agg (ao m),.agg (aU x)] [] (.lit (.bool (jx m x))) []:=by
 have uU:=hm.ae;have ho:=Na m (fq m x) x.opt;generalize an:jx m x=res;unfold jx at an;unfold fq at an ho;refine Holds.aM 58 0 [.tmp 4] Tryz.func44 ?_;by_cases hr:0<=x.pair/\x.pair<m.ae.length/\0<=x.side/\x.side<=1/\-268435456<=x.amt/\x.amt<=268435456
 ·rw[decide_eq_true hr,ic]at an;generalize cu:m.ae.getD x.pair.toNat default=p at *;by_cases hs:x.side=0
  ·rw[if_pos hs]at an ho;rw[an]at ho;((repeat'(first|refine Vd (X3 @cu @aU.eq_1 @aI.eq_1) ho ?_|(refine V2 (X3 @cu @aU.eq_1 @aI.eq_1) ?_ ?_<;>try with_reducible intro hb)|(refine Xi ?_ ?_<;>try intro ht)|exact Xx|fail)))
   all_goals exact aN rfl rfl
  ·rw[if_neg hs]at an ho;rw[an]at ho;((repeat'(first|refine Vd (X3 @cu @aU.eq_1 @aI.eq_1) ho ?_|(refine V2 (X3 @cu @aU.eq_1 @aI.eq_1) ?_ ?_<;>try with_reducible intro hb)|(refine Xi ?_ ?_<;>try intro ht)|exact Xx|fail)))
   all_goals exact aN rfl rfl
 ·rw[decide_eq_false hr,rI]at an;((repeat'(first|refine Vb (X2 @aU.eq_1 @aI.eq_1) ?_|(refine V2 (X2 @aU.eq_1 @aI.eq_1) ?_ ?_<;>try with_reducible intro hb)|(refine Xi ?_ ?_<;>try intro ht)|exact Xx|fail)))
  all_goals exact aN rfl (by rw[an])
def aa6{m:ah}(hm:VM m){c:List cP}(hc:c∈m.cls){o:cP}(ho:o∈c):o.ch.length<=100:=by
 have h:=hm.tA c hc o ho;have hr:=hm.wm;cases lZ:o.ch with
 |nil=>simp
 |cons x r =>
  rw[lZ,eT]at h;simp only[bc,decide_eq_true_eq,ki]at h;rcases Nx h.2 with rfl|h2
  ·simp
  ·simp only[List.length_cons];omega
def DV{m:ah}{p:Pr}(hp:iC m p=true)(hm:VM m):p.aB.length<=576:=by
 unfold iC at hp;simp only[bc,decide_eq_true_eq]at hp;obtain⟨⟨_,h1,h2,h3,h4⟩,_⟩:=hp;have a:=hm.opt _ (aF (l:=m.cls) (i:=p.fst.toNat) (d:=default) Ey);have b:=hm.opt _ (aF (l:=m.cls) (i:=p.snd.toNat) (d:=default) Ey);have:=w8 a b;have e:(p.aB.length:Int)=((m.cls.getD p.fst.toNat default).length*(m.cls.getD p.snd.toNat default).length:Nat):=by rw[h4];simp
 omega
def FV{m:ah}{p:Pr}(hp:iC m p=true):0<=p.fst/\p.fst<p.snd/\p.snd<m.cls.length/\(p.aB.length:Int)=(m.cls.getD p.fst.toNat default).length*(m.cls.getD p.snd.toNat default).length:=by
 unfold iC at hp;simp only[bc,decide_eq_true_eq]at hp;exact hp.1.2
def Jd{a k c n:Int}(ha:0<=a/\a<n)(hk:0<=k/\k<c)(hc:c<=24)(hn:n<=24):0<=a*c/\a*c<=576/\0<=a*c+k/\a*c+k<n*c:=by
 have h1:0<=a*c:=Int.mul_nonneg ha.1 Ey;have h2:(a+1)*c<=n*c:=Int.mul_le_mul_of_nonneg_right Ey Ey;rw[Int.add_mul]at h2;have h3:n*c<=24*24:=Int.mul_le_mul hn hc Ey Ey;omega
def U8(m:ah)(left:List (List Bool))(l:List Mv)(hm:MB m)(hb:BB left)(hl:l.length<9223372036854775808):Holds Tryz.prog 18 [.agg (ao m),.tree 1 (rowsOf aA left),.tree 4 (rowsOf aU l)] [] (.bC [QM (cp m left l).1,QM (cp m left l).2]) []:=by
 have h1:=Fk m hm;have h2:=aj4 m left hm hb;generalize an:cp m left l=res;unfold cp kj at an;refine Holds.aM 342 0 [.tmp 6,.tmp 7] Tryz.func18 ?_;by_cases hv:gv m=0;rotate_left
 ·rw[if_pos (c:=gv m≠0) hv,if_pos hv]at an;generalize gv m=e at *;subst an;((repeat'(first|refine Vd X0 (X2 h1 h2) ?_|(refine Xi ?_ ?_<;>try intro ht)|exact Xx|fail)))
  all_goals exact aN rfl rfl
 rw[if_neg (c:=gv m≠0) (by rw[hv];simp)]at an;rw[hv]at h1;by_cases hf:cK m left;rotate_left
 ·rw[if_neg hf,if_pos G9]at an;rw[decide_eq_false hf]at h2;subst an;((repeat'(first|refine Vd (X2 @bne_self_eq_false.{0} @kP) (X2 h1 h2) ?_|(refine Xi ?_ ?_<;>try intro ht)|exact Xx|fail)))
  all_goals exact aN rfl rfl
 rw[if_pos hf,if_neg G9]at an;rw[decide_eq_true hf]at h2;have b8:=kf.1 hv;have np:=b8.cls;have p6:=b8.ae;have HT:=b8.aE;unfold gZ at an;by_cases hlen:2000<l.length
 ·rw[if_pos hlen]at an;subst an;((repeat'(first|refine Vd (X2 @bne_self_eq_false.{0} @iH) (X2 h1 h2) ?_|(refine Xi ?_ ?_<;>try intro ht)|exact Xx|fail)))
  all_goals exact aN rfl rfl
 rw[if_neg hlen]at an;((repeat'(first|refine Vd (X2 @bne_self_eq_false.{0} @iH) (X2 h1 h2) ?_|(refine Xi ?_ ?_<;>try intro ht)|exact Xx|fail)))
 refine aQ (λi:Nat=>(⟨ar [(1,.tree 1 (rowsOf aA left)),(2,.tree 4 (rowsOf aU l)),(3,.ptr 0 0 0),(9,QM i)],[.var (ao m)]⟩:St)) (λi=>i<=l.length/\∀ x∈l.take i,jx m x=true) (λi=>l.length-i) 0 ⟨aP _,G9⟩ (Xv X0) ?_;rintro i⟨hi,dS⟩Ql ak aq;by_cases au:i<l.length
 ·have qj:=aj3 m (l.getD i default) b8;have eu:=ep au;have bR:=aF (d:=default) au;generalize cd:l.getD i default=x at *;by_cases hx:jx m x=true
  ·rw[hx]at qj;((repeat'(first|refine Vc (X3 @cd @aU.eq_1 @iH) qj ?_|(refine Xi ?_ ?_<;>try intro ht)|exact Xx|fail)))
   exact ak _ (i+1) ⟨Ey,λy hy=>by
    rw[eu]at hy;rcases cG.1 hy with hy|hy
    ·exact dS y hy
    ·simp only[cS]at hy;subst hy;exact hx⟩ Ey (Xv X0)
  ·have cf:jx m x=false:=by simpa using hx
   rw[cf]at qj;rw[if_pos (by rw[List.all_eq_false];exact⟨x,bR,hx⟩)]at an;subst an;((repeat'(first|refine Vc (X3 @cd @aU.eq_1 @kP) qj ?_|(refine Xi ?_ ?_<;>try intro ht)|exact Xx|fail)))
   repeat(refine Xu ?_)
   refine Vb X0 ?_;exact aN rfl rfl
 rw[dt Ey]at dS;rw[if_neg (by rw[Bool.not_eq_false];exact List.all_eq_true.2 dS)]at an;((repeat'(first|refine Va X0 ?_|(refine Xi ?_ ?_<;>try intro ht)|exact Xx|fail)))
 refine aq _ _ rfl ?_;clear ak aq Ql;repeat(refine Xu ?_)
 refine Va X0 ?_;have ho0:([.var (ao m)]:List Ob)[0]?=some (.var (ao m)):=rfl;refine aQ (λz:Nat×List Ob×Nat×List (Nat×Nat)=>(⟨ar [(1,.tree 1 (rowsOf aA left)),(2,.tree 4 (rowsOf aU l)),(3,.ptr 0 0 0),(10,.ref z.2.2.1 1 0 z.2.2.2.length),(11,.lit (.slice none 0 0)),(12,QM z.1)],z.2.1⟩:St))
  (λz=>z.1<=m.cls.length/\z.2.2.2.length=z.1/\z.2.1[0]?=some (.var (ao m))/\z.2.1[z.2.2.1]?=some (.arr 1 (rowsOf cL z.2.2.2))/\RI jG z.2.1 z.2.2.2 ((S0 m).take z.1)/\(z.2.2.2.map (·.1)).Nodup)
  (λz=>m.cls.length-z.1) (0,[.var (ao m),.arr 1 []],1,[]) ⟨aP _,rfl,rfl,rfl,by rw[mu];exact RI.nil,G9⟩ ?_ ?_
 ·refine aD.trans (aD.nil 10 1 (by simp only[Kc,simprocAttr]) Hg) ?_;exact Xv X0
 clear hi au ho0;rintro⟨i,os,ai,D⟩⟨hi,hD,f0,fa,hR,bG⟩Ql ak aq;dsimp only at hi hD f0 fa hR bG ⊢;have e0:=aR f0;have ea:=aR fa;have sa:=jm fa;by_cases au:i<m.cls.length
 ·have jU:=aF (d:=default) au;have p8:=b8.opt _ jU;have B7:=aj1 (m.cls.getD i default) m.rules p8 (b8.tA _ jU) (λo ho=>aa6 b8 jU ho);have Ot:=aa9 (cj (m.cls.getD i default)) (by unfold cj;rw[gD];omega);generalize a6:m.cls.getD i default=c at *;((repeat'(first|refine Vc (X5 @f0 @fa @e0 @ea (X3 @a6 @aT.eq_1 @bT)) B7 ?_|(refine Xi ?_ ?_<;>try intro ht)|exact Xx|fail))<;>try with_reducible intro K hK)
  refine jf [] Ot G9 trivial ⟨.pure rfl,trivial⟩ ?_;have Ou:(0:Nat)≠ai:=λe=>by rw[<- e,f0]at fa;cases fa
  obtain⟨g1,g2,g3,g4⟩:=RI.step fa G9 hR bG (dL (cj c)) (.arr 1 [[.ref os.length 2 0 (dL (cj c)).length]]) (.arr 1 (rowsOf cL (D++[(os.length,(dL (cj c)).length)])));have eu:(S0 m).take (i+1)=(S0 m).take i++[dL (cj c)]:=by
   rw[ep (by unfold S0;rw[gD];exact au)];unfold S0;rw[kD _ _ _ au,a6]
  ((try revert hK K);((refine Va (X5 @f0 @fa @e0 @ea (X5 @sa @a6 @aT.eq_1 @bT (X5 @bH.{0} @jC @jK @IU (X2 @bN.{0} @bJ.{0})))) ?_)))
  refine ak _ (i+1,_,os.length+2,D++[(os.length,(dL (cj c)).length)]) ⟨Hi,Hj,g4 _ _ f0 Ou,g1,by rw[eu];exact g2,g3⟩ Hi ?_;exact Xv X0
 rw[dt (by unfold S0;rw[gD];omega)]at hR;have B4:D.length=m.cls.length:=Ey;((repeat'(first|refine Va (X4 @f0 @fa @e0 @ea) ?_|(refine Xi ?_ ?_<;>try intro ht)|exact Xx|fail)))
 refine aq _ _ rfl ?_;clear ak aq Ql;repeat(refine Xu ?_)
 refine Va (X2 @f0 @fa) ?_;clear hi au hD e0 ea sa;have fb0:(os++[Ob.arr 1 []])[os.length]?=some (.arr 1 (rowsOf cL [])):=by rw[kF];rfl
 refine aQ (λz:Nat×List Ob×Nat×List (Nat×Nat)=>(⟨ar [(1,.tree 1 (rowsOf aA left)),(2,.tree 4 (rowsOf aU l)),(3,.ptr 0 0 0),(10,.ref ai 1 0 D.length),(11,.ref z.2.2.1 1 0 z.2.2.2.length),(13,QM z.1)],z.2.1⟩:St))
  (λz=>z.1<=m.ae.length/\z.2.2.2.length=z.1/\z.2.1[0]?=some (.var (ao m))/\z.2.1[ai]?=some (.arr 1 (rowsOf cL D))/\z.2.1[z.2.2.1]?=some (.arr 1 (rowsOf cL z.2.2.2))/\z.2.2.1≠ai/\RI jG z.2.1 D (S0 m)/\RI jG z.2.1 z.2.2.2 ((T0 m).take z.1)/\((D++z.2.2.2).map (·.1)).Nodup)
  (λz=>m.ae.length-z.1) (0,os++[.arr 1 []],os.length,[]) ⟨aP _,rfl,aR f0 _,aR fa _,fb0,λe=>by have h2:=(aY.1 fa).1;dsimp only at e;omega,hR.app _,by rw[mu];exact RI.nil,by simpa using bG⟩ ?_ ?_
 ·refine aD.trans (aD.nil 11 1 (by simp only[Kc,simprocAttr]) Hg) ?_;exact Xv X0
 clear f0 fa hR bG fb0 os;rintro⟨i,os,bi,E⟩⟨hi,hE,f0,fa,fb,gN,F5,F6,bG⟩Ql ak aq;dsimp only at hi hE f0 fa fb gN F5 F6 bG ⊢;have e0:=aR f0;have eb:=aR fb;have sb:=jm fb;by_cases au:i<m.ae.length
 ·have Jf:=kC b8.pr _ (aF (d:=default) au);have oJ:=(DV Jf b8);have Ot:=aa9 (m.ae.getD i default).aB Ey;have Ou:(0:Nat)≠bi:=λe=>by rw[<- e,f0]at fb;cases fb
  rw[dU,pE]at bG;obtain⟨g1,g2,g3,g4⟩:=RI.step fb G9 F6 bG.2.1 (dL (m.ae.getD i default).aB) (.arr 1 [[.ref os.length 2 0 (dL (m.ae.getD i default).aB).length]]) (.arr 1 (rowsOf cL (E++[(os.length,(dL (m.ae.getD i default).aB).length)])));have eu:(T0 m).take (i+1)=(T0 m).take i++[dL (m.ae.getD i default).aB]:=by
   rw[ep (by unfold T0;rw[gD];exact au)];unfold T0;rw[kD _ _ _ au]
  have aj6:=(F5.kill (y:=.gone) fb G9).app [.arr 2 (rowsOf jG (dL (m.ae.getD i default).aB)),.arr 1 [[.ref os.length 2 0 (dL (m.ae.getD i default).aB).length]],.arr 1 (rowsOf cL (E++[(os.length,(dL (m.ae.getD i default).aB).length)]))];have Jg:((D++(E++[(os.length,(dL (m.ae.getD i default).aB).length)])).map (·.1)).Nodup:=by
   rw[dU,pE];refine⟨bG.1,g3,λa ha b hb=>?_⟩;rw[dU,cG]at hb;rcases hb with hb|hb
   ·exact bG.2.2 a ha b hb
   ·simp only[List.map_cons,oP,cS]at hb;subst hb;exact λe=>F5.fresh (Nat.le_refl _) (e▸ha)
  have fal:=(aY.1 fa).1;generalize cu:m.ae.getD i default=p at *;((repeat'(first|refine Va (X5 @f0 @fb @e0 @eb (X3 @cu @aI.eq_1 @bT)) ?_|(refine Xi ?_ ?_<;>try intro ht)|exact Xx|fail))<;>try with_reducible intro K hK)
  refine jf [] Ot G9 trivial ⟨.pure rfl,trivial⟩ ?_;((try revert hK K);((refine Va (X5 @f0 @fb @e0 @eb (X5 @sb @cu @aI.eq_1 @bT (X5 @bH.{0} @jC @jK @IU (X2 @bN.{0} @bJ.{0})))) ?_)))
  refine ak _ (i+1,_,os.length+2,E++[(os.length,(dL p.aB).length)]) ⟨Hi,Hj,g4 _ _ f0 Ou,g4 _ _ fa gN.symm,g1,Hi,aj6,by rw[eu];exact g2,Jg⟩ Hi ?_;exact Xv X0
 rw[dt (by unfold T0;rw[gD];omega)]at F6;have Ap:E.length=m.ae.length:=Ey;((repeat'(first|refine Va (X4 @f0 @fa @e0 @eb) ?_|(refine Xi ?_ ?_<;>try intro ht)|exact Xx|fail)))
 refine aq _ _ rfl ?_;clear ak aq Ql;repeat(refine Xu ?_)
 refine Va (X2 @f0 @fa) ?_;clear hi au hE e0 eb sb;have jn:LO jG [(0,.var (ao m)),(ai,.arr 1 (rowsOf cL D)),(bi,.arr 1 (rowsOf cL E))] D E (S0 m) (T0 m) os:=⟨λb hb=>by
  simp only[bu,iI,or_false]at hb;rcases hb with rfl|rfl|rfl
  ·exact⟨f0,G9⟩
  ·exact⟨fa,G9⟩
  ·exact⟨fb,G9⟩,F5,F6,bG⟩
 refine aQ (λz:Nat×List Ob=>(⟨ar [(1,.tree 1 (rowsOf aA left)),(2,.tree 4 (rowsOf aU l)),(3,.ptr 0 0 0),(10,.ref ai 1 0 D.length),(11,.ref bi 1 0 E.length),(14,QM z.1)],z.2⟩:St))
  (λz=>z.1<=l.length/\LO jG [(0,.var (ao m)),(ai,.arr 1 (rowsOf cL D)),(bi,.arr 1 (rowsOf cL E))] D E (j1 m (l.take z.1) (S0 m,T0 m)).1 (j1 m (l.take z.1) (S0 m,T0 m)).2 z.2)
  (λz=>l.length-z.1) (0,os) ⟨aP _,jn⟩ (Xv X0) ?_
 clear f0 fa fb F5 F6 bG jn os;rintro⟨i,os⟩⟨hi,jn⟩Ql ak aq;dsimp only at hi jn ⊢;have f0:=(jn.base (0,.var (ao m)) G9).1;have fa:=(jn.base (ai,.arr 1 (rowsOf cL D)) G9).1;have fb:=(jn.base (bi,.arr 1 (rowsOf cL E)) G9).1;have e0:=aR f0;have ea:=aR fa;have eb:=aR fb;dsimp only at f0 fa fb e0 ea eb;by_cases au:i<l.length
 ·have hxm:=aF (d:=default) au;have pg:=dS _ hxm;have eu:j1 m (l.take (i+1)) (S0 m,T0 m)=kl m (l.getD i default) (j1 m (l.take i) (S0 m,T0 m)):=by rw[ep au,aap]
  have lH:=IZ b8 (l.take i) (λx hx=>dS x (sV hx));rw[e9,Nat.min_eq_left Ey]at lH;generalize j1 m (l.take i) (S0 m,T0 m)=g at *;generalize cd:l.getD i default=x at *;have Ov:=pg;unfold jx at Ov;rw[bc,decide_eq_true_eq]at Ov;obtain⟨⟨x1,x2,x3,x4,x5,x6⟩,nq⟩:=Ov;obtain⟨o1,o2,o3,o4⟩:=k0.1 nq;have dY:=kC b8.pr _ (aF (l:=m.ae) (i:=x.pair.toNat) (d:=default) Ey);obtain⟨NT,NU,NV,FU⟩:=FV dY;have hlF:=b8.opt _ (aF (l:=m.cls) (i:=(m.ae.getD x.pair.toNat default).fst.toNat) (d:=default) Ey);have hlS:=b8.opt _ (aF (l:=m.cls) (i:=(m.ae.getD x.pair.toNat default).snd.toNat) (d:=default) Ey);obtain⟨tK,FT⟩:=jn.rE.row x.pair.toNat Ey;obtain⟨mN,Ao⟩:=jn.rD.row (fq m x).toNat Ey;have qe:=aR tK;have qd:=aR mN;have FQ:=lH.sl (fq m x).toNat Ey;have DU:=lH.tl x.pair.toNat Ey;have aqw:(List.getD E x.pair.toNat default).1=(List.getD E x.pair.toNat default).1:=rfl;by_cases hs:x.side=0
  ·have hc:fq m x=(m.ae.getD x.pair.toNat default).fst:=by unfold fq;rw[if_pos hs]
   rw[hc]at mN Ao qd FQ o1 o2 o4;have sd:=jm mN;have pf:=(u9 lH.sb (m.ae.getD x.pair.toNat default).fst.toNat).get Ey x.opt.toNat;have hF:pw m x=(λk:Nat=>(x.opt*(m.cls.getD (m.ae.getD x.pair.toNat default).snd.toNat default).length+k).toNat,(m.cls.getD (m.ae.getD x.pair.toNat default).snd.toNat default).length):=by unfold pw;rw[if_pos hs]
   have y0:kl m x g=(g.1.set (m.ae.getD x.pair.toNat default).fst.toNat (jZ (g.1.getD (m.ae.getD x.pair.toNat default).fst.toNat default) x.opt.toNat x.amt),g.2.set x.pair.toNat (il (pw m x).1 x.amt (pw m x).2 (g.2.getD x.pair.toNat default))):=by unfold kl;rw[hc]
   have DW:=(jn.BX (j:=(m.ae.getD x.pair.toNat default).fst.toNat) Ey (r:=jZ (g.1.getD (m.ae.getD x.pair.toNat default).fst.toNat default) x.opt.toNat x.amt) (yU _ _ _)).vars (bJ ..) (.var (aU x)) (.var (aI (m.ae.getD x.pair.toNat default))) G9 G9;generalize cu:m.ae.getD x.pair.toNat default=p at *;generalize F4:(m.cls.getD p.snd.toNat default).length=dC at *;((repeat'(first|refine Va (X5 @f0 @fa @fb @e0 (X5 @ea @eb @cd @cu (X5 @F4 @aU.eq_1 @aI.eq_1 @aT.eq_1 (X5 @cL.eq_1 @jG.eq_1 @tK @mN (X5 @qe @qd @sd @bT (X5 @IW @bH.{0} @jC @jK @bN.{0})))))) ?_|(refine Xi ?_ ?_<;>try intro ht)|exact Xx|fail)))
   rw[hF]at y0;dsimp only at y0;refine aQ (λz:Nat×List Ob=>(⟨ar [(1,.tree 1 (rowsOf aA left)),(2,.tree 4 (rowsOf aU l)),(3,.ptr 0 0 0),(10,.ref ai 1 0 D.length),(11,.ref bi 1 0 E.length),(14,QM i),(15,.ptr os.length 0 0),(18,QM dC),(19,.ref (E.getD x.pair.toNat default).1 2 0 (E.getD x.pair.toNat default).2),(20,QM z.1)],z.2⟩:St))
    (λz=>z.1<=dC/\LO jG ((os.length,.var (aU x))::(os.length+1,.var (aI p))::[(0,.var (ao m)),(ai,.arr 1 (rowsOf cL D)),(bi,.arr 1 (rowsOf cL E))]) D E (g.1.set p.fst.toNat (jZ (g.1.getD p.fst.toNat default) x.opt.toNat x.amt)) (g.2.set x.pair.toNat (il (λk:Nat=>(x.opt*dC+k).toNat) x.amt z.1 (g.2.getD x.pair.toNat default))) z.2)
    (λz=>dC-z.1) (0,_) ⟨aP _,by rw[il,BY];exact DW⟩ (Xv X0) ?_
   rintro⟨k,ok⟩⟨hk,kH⟩cR bg bm;dsimp only at hk kH ⊢;have fx:=(kH.base (os.length,.var (aU x)) G9).1;dsimp only at fx;obtain⟨tM,B6⟩:=kH.rE.row x.pair.toNat Ey;have xW:x.pair.toNat<g.2.length:=by rw[lH.t];omega
   rw[wE _ _ _ xW]at tM B6;have jE:=B1 (λk:Nat=>(x.opt*dC+k).toNat) x.amt k (g.2.getD x.pair.toNat default);have Oa:=((u9 lH.tb x.pair.toNat).sub Ey (λk:Nat=>(x.opt*dC+k).toNat) (a:=x.amt) Ey k).get Ey (x.opt*dC+k:Int).toNat;by_cases bj:k<dC
   ·have nt:=kH.Aj (j:=x.pair.toNat) Ey (r:=jZ (il (λk:Nat=>(x.opt*dC+k).toNat) x.amt k (g.2.getD x.pair.toNat default)) (x.opt*dC+k:Int).toNat (-x.amt)) (by rw[wE _ _ _ xW];exact yU _ _ _);rw[sZ]at nt;obtain⟨Od,Oe,Of,Og⟩:=Jd (a:=x.opt) (k:=(k:Int)) (c:=(dC:Int)) (n:=((m.cls.getD p.fst.toNat default).length:Int)) ⟨o3,o4⟩ Ey Ey Ey;generalize wH:(x.opt*dC+k:Int)=ix at *;generalize ik:il (λk:Nat=>(x.opt*dC+k).toNat) x.amt k (g.2.getD x.pair.toNat default)=tk at *;((repeat'(first|refine Va (X5 @fx @cd @tM @aU.eq_1 (X4 @jG.eq_1 @IW @wH @Int.sub_eq_add_neg)) ?_|(refine Xi ?_ ?_<;>try intro ht)|exact Xx|fail)))
    refine bg _ (k+1,_) ⟨Hi,by rw[il,ik,wH];exact nt⟩ Hi ?_;exact Xv X0
   ·have tN:k=dC:=Ey;rw[tN]at kH;((repeat'(first|refine Va X0 ?_|(refine Xi ?_ ?_<;>try intro ht)|exact Xx|fail)))
    refine bm _ _ rfl ?_;clear bg bm cR;repeat(refine Xu ?_)
    refine Va X0 ?_;refine ak _ (i+1,_) ⟨Hi,by rw[eu,y0];exact kH.sub G9⟩ Hi ?_;exact Xv X0
  ·have hc:fq m x=(m.ae.getD x.pair.toNat default).snd:=by unfold fq;rw[if_neg hs]
   rw[hc]at mN Ao qd FQ o1 o2 o4;have sd:=jm mN;have pf:=(u9 lH.sb (m.ae.getD x.pair.toNat default).snd.toNat).get Ey x.opt.toNat;have hF:pw m x=(λk:Nat=>((k:Int)*(m.cls.getD (m.ae.getD x.pair.toNat default).snd.toNat default).length+x.opt).toNat,(m.cls.getD (m.ae.getD x.pair.toNat default).fst.toNat default).length):=by unfold pw;rw[if_neg hs]
   have y0:kl m x g=(g.1.set (m.ae.getD x.pair.toNat default).snd.toNat (jZ (g.1.getD (m.ae.getD x.pair.toNat default).snd.toNat default) x.opt.toNat x.amt),g.2.set x.pair.toNat (il (pw m x).1 x.amt (pw m x).2 (g.2.getD x.pair.toNat default))):=by unfold kl;rw[hc]
   have DW:=(jn.BX (j:=(m.ae.getD x.pair.toNat default).snd.toNat) Ey (r:=jZ (g.1.getD (m.ae.getD x.pair.toNat default).snd.toNat default) x.opt.toNat x.amt) (yU _ _ _)).vars (bJ ..) (.var (aU x)) (.var (aI (m.ae.getD x.pair.toNat default))) G9 G9;generalize cu:m.ae.getD x.pair.toNat default=p at *;generalize F4:(m.cls.getD p.snd.toNat default).length=dC at *;generalize N8:(m.cls.getD p.fst.toNat default).length=rows at *;((repeat'(first|refine Va (X5 @f0 @fa @fb @e0 (X5 @ea @eb @cd @cu (X5 @F4 @N8 @aU.eq_1 @aI.eq_1 (X5 @aT.eq_1 @cL.eq_1 @jG.eq_1 @tK (X5 @mN @qe @qd @sd (X5 @bT @IW @bH.{0} @jC (X2 @jK @bN.{0}))))))) ?_|(refine Xi ?_ ?_<;>try intro ht)|exact Xx|fail)))
   rw[hF]at y0;dsimp only at y0;refine aQ (λz:Nat×List Ob=>(⟨ar [(1,.tree 1 (rowsOf aA left)),(2,.tree 4 (rowsOf aU l)),(3,.ptr 0 0 0),(10,.ref ai 1 0 D.length),(11,.ref bi 1 0 E.length),(14,QM i),(15,.ptr os.length 0 0),(17,QM rows),(18,QM dC),(19,.ref (E.getD x.pair.toNat default).1 2 0 (E.getD x.pair.toNat default).2),(21,QM z.1)],z.2⟩:St))
    (λz=>z.1<=rows/\LO jG ((os.length,.var (aU x))::(os.length+1,.var (aI p))::[(0,.var (ao m)),(ai,.arr 1 (rowsOf cL D)),(bi,.arr 1 (rowsOf cL E))]) D E (g.1.set p.snd.toNat (jZ (g.1.getD p.snd.toNat default) x.opt.toNat x.amt)) (g.2.set x.pair.toNat (il (λk:Nat=>((k:Int)*dC+x.opt).toNat) x.amt z.1 (g.2.getD x.pair.toNat default))) z.2)
    (λz=>rows-z.1) (0,_) ⟨aP _,by rw[il,BY];exact DW⟩ (Xv X0) ?_
   rintro⟨k,ok⟩⟨hk,kH⟩cR bg bm;dsimp only at hk kH ⊢;have fx:=(kH.base (os.length,.var (aU x)) G9).1;dsimp only at fx;obtain⟨tM,B6⟩:=kH.rE.row x.pair.toNat Ey;have xW:x.pair.toNat<g.2.length:=by rw[lH.t];omega
   rw[wE _ _ _ xW]at tM B6;have jE:=B1 (λk:Nat=>((k:Int)*dC+x.opt).toNat) x.amt k (g.2.getD x.pair.toNat default);have Oa:=((u9 lH.tb x.pair.toNat).sub Ey (λk:Nat=>((k:Int)*dC+x.opt).toNat) (a:=x.amt) Ey k).get Ey ((k:Int)*dC+x.opt).toNat;by_cases bj:k<rows
   ·have nt:=kH.Aj (j:=x.pair.toNat) Ey (r:=jZ (il (λk:Nat=>((k:Int)*dC+x.opt).toNat) x.amt k (g.2.getD x.pair.toNat default)) ((k:Int)*dC+x.opt).toNat (-x.amt)) (by rw[wE _ _ _ xW];exact yU _ _ _);rw[sZ]at nt;obtain⟨Od,Oe,Of,Og⟩:=Jd (a:=(k:Int)) (k:=x.opt) (c:=(dC:Int)) (n:=(rows:Int)) Ey ⟨o3,o4⟩ Ey Ey;generalize wH:((k:Int)*dC+x.opt)=ix at *;generalize ik:il (λk:Nat=>((k:Int)*dC+x.opt).toNat) x.amt k (g.2.getD x.pair.toNat default)=tk at *;((repeat'(first|refine Va (X5 @fx @cd @tM @aU.eq_1 (X4 @jG.eq_1 @IW @wH @Int.sub_eq_add_neg)) ?_|(refine Xi ?_ ?_<;>try intro ht)|exact Xx|fail)))
    refine bg _ (k+1,_) ⟨Hi,by rw[il,ik,wH];exact nt⟩ Hi ?_;exact Xv X0
   ·have tN:k=rows:=Ey;rw[tN]at kH;((repeat'(first|refine Va X0 ?_|(refine Xi ?_ ?_<;>try intro ht)|exact Xx|fail)))
    refine bm _ _ rfl ?_;clear bg bm cR;repeat(refine Xu ?_)
    refine Va X0 ?_;refine ak _ (i+1,_) ⟨Hi,by rw[eu,y0];exact kH.sub G9⟩ Hi ?_;exact Xv X0
 rw[dt Ey]at jn;have lH:=IZ b8 l dS;have aqx:l.length<=2000:=Ey;generalize j1 m l (S0 m,T0 m)=g at *;have DY:(∀ r∈g.1,NB mM r)/\∀ r∈g.2,NB mM r:=⟨λr hr=>(lH.sb r hr).mono (by unfold mM;omega),λr hr=>(lH.tb r hr).mono (by unfold mM;omega)⟩;((repeat'(first|refine Va @f0 ?_|(refine Xi ?_ ?_<;>try intro ht)|exact Xx|fail)))
 refine aq _ _ rfl ?_;clear ak aq Ql;repeat(refine Xu ?_)
 refine Va @f0 ?_;have jg:=hf.1;refine aQ (λi:Nat=>(⟨ar [(1,.tree 1 (rowsOf aA left)),(3,.ptr 0 0 0),(10,.ref ai 1 0 D.length),(11,.ref bi 1 0 E.length),(22,QM (bV (PC left g.1 i) (0,false)).1),(23,.lit (.bool (bV (PC left g.1 i) (0,false)).2)),(24,QM i)],os⟩:St))
  (λi=>i<=m.cls.length) (λi=>m.cls.length-i) 0 (aP _) (Xv (X5 @PC.eq_1 @bV.eq_1 @QO @oP.{0,0} @AW.{0,0})) ?_
 rintro i hi Ql ak aq;by_cases au:i<m.cls.length
 ·have mf:=Al _ (0,false) (NM (left:=left) (by unfold mM;decide) DY.1 i);rw[DP]at mf;have hlen:=hf.2 i Ey;have cV:=lH.sl i au;have F7:=aa' (g.1.getD i default) (left.getD i default) Ey (by have:=b8.opt _ (aF (d:=default) au);omega);have nj:=FM (g.1.getD i default) (left.getD i default) (0,false) (u9 DY.1 i) (by unfold mM;decide);have dF:bV (PC left g.1 (i+1)) (0,false)=((bV (PC left g.1 i) (0,false)).1+(cW (g.1.getD i default) (left.getD i default) (0,false)).1,(bV (PC left g.1 i) (0,false)).2||!(cW (g.1.getD i default) (left.getD i default) (0,false)).2):=by
   rw[show PC left g.1 (i+1)=PC left g.1 i++[cW (g.1.getD i default) (left.getD i default) (0,false)] from Ak _ i,DO]
  obtain⟨mN,Ao⟩:=jn.rD.row i Ey;generalize bV (PC left g.1 i) (0,false)=z at *;obtain⟨z1,z2⟩:=z;generalize cW (g.1.getD i default) (left.getD i default) (0,false)=q at *;obtain⟨q1,q2⟩:=q;unfold mM at mf nj;dsimp only at *;generalize eY:left.getD i default=ll at *;((repeat'(first|refine Va (X5 @f0 @fa @mN @cL.eq_1 (X2 @eY @aA.eq_1)) ?_|(refine Xi ?_ ?_<;>try intro ht)|exact Xx|fail))<;>try with_reducible intro K hK)
  cases z2<;>cases q2;all_goals
   refine ug [] F7 G9 trivial ⟨a7.fz mN (by rw[cF];exact Ao.symm) G9,.pure rfl,trivial⟩ rfl G9 ?_;((try revert hK K);(repeat'(first|refine Va (X4 @f0 @fa @iH @kP) ?_|fail)))
   refine ak _ (i+1) Ey Ey ?_;simp only[dF];exact Xv X0
 have I7:i=m.cls.length:=Ey;rw[I7];have Jh:=Al _ (0,false) (NM (left:=left) (by unfold mM;decide) DY.1 m.cls.length);rw[DP]at Jh;unfold mL at an;generalize bV (PC left g.1 m.cls.length) (0,false)=zc at *;((repeat'(first|refine Va @f0 ?_|(refine Xi ?_ ?_<;>try intro ht)|exact Xx|fail)))
 refine aq _ _ rfl ?_;clear ak aq Ql;repeat(refine Xu ?_)
 refine Va @f0 ?_;clear hi au;have abb:LO jG [(0,.var (ao m)),(bi,.arr 1 (rowsOf cL E))] D E g.1 g.2 os:=jn.sub G9;refine aQ (λz:Nat×List Ob=>(⟨ar [(1,.tree 1 (rowsOf aA left)),(3,.ptr 0 0 0),(11,.ref bi 1 0 E.length),(22,QM (bV (PP m left g.2 z.1) zc).1),(23,.lit (.bool (bV (PP m left g.2 z.1) zc).2)),(27,QM z.1)],z.2⟩:St))
  (λz=>z.1<=m.ae.length/\LO jG [(0,.var (ao m)),(bi,.arr 1 (rowsOf cL E))] D E g.1 g.2 z.2) (λz=>m.ae.length-z.1) (0,os) ⟨aP _,abb⟩ (Xv (X5 @PP.eq_1 @bV.eq_1 @QO @oP.{0,0} @AW.{0,0})) ?_
 clear jn abb f0 fa fb e0 ea eb os;rintro⟨i,os⟩⟨hi,jn⟩Ql ak aq;dsimp only at hi jn ⊢;have f0:=(jn.base (0,.var (ao m)) G9).1;have fb:=(jn.base (bi,.arr 1 (rowsOf cL E)) G9).1;dsimp only at f0 fb;have e0:=aR f0;have eb:=aR fb;by_cases au:i<m.ae.length
 ·have dY:=kC b8.pr _ (aF (d:=default) au);obtain⟨NT,NU,NV,FU⟩:=FV dY;have mf:=Al _ zc (NN (m:=m) (left:=left) (by unfold mM;decide) DY.2 i);rw[FN]at mf;have dF:bV (PP m left g.2 (i+1)) zc=((bV (PP m left g.2 i) zc).1+(cW (g.2.getD i default) (jb m left i) (0,false)).1,(bV (PP m left g.2 i) zc).2||!(cW (g.2.getD i default) (jb m left i) (0,false)).2):=by
   rw[show PP m left g.2 (i+1)=PP m left g.2 i++[cW (g.2.getD i default) (jb m left i) (0,false)] from Ak _ i,DO]
  have nj:=FM (g.2.getD i default) (jb m left i) (0,false) (u9 DY.2 i) (by unfold mM;decide);have I4:=hf.2 (m.ae.getD i default).fst.toNat Ey;have xF:=hf.2 (m.ae.getD i default).snd.toNat Ey;have hoa:=b8.opt _ (aF (l:=m.cls) (i:=(m.ae.getD i default).fst.toNat) (d:=default) Ey);have bS:=b8.opt _ (aF (l:=m.cls) (i:=(m.ae.getD i default).snd.toNat) (d:=default) Ey);have cV:=lH.tl i au;have yV:(g.2.getD i default).length=(jb m left i).length:=by
   unfold jb;rw[DQ,I4,xF,cV];have:=FU;rw[<- Int.natCast_mul]at this;exact Int.ofNat_inj.1 this
  have oJ:=DV dY b8;have F7:=aa' (g.2.getD i default) (jb m left i) yV Ey;have NX:jb m left i=sK (left.getD (m.ae.getD i default).fst.toNat default) (left.getD (m.ae.getD i default).snd.toNat default):=rfl;generalize cW (g.2.getD i default) (jb m left i) (0,false)=q at *;generalize bV (PP m left g.2 i) zc=z at *;generalize jb m left i=pb at *;generalize cu:m.ae.getD i default=p at *;generalize FZ:left.getD p.fst.toNat default=la at *;generalize xT:left.getD p.snd.toNat default=lb at *;obtain⟨z1,z2⟩:=z;obtain⟨q1,q2⟩:=q;unfold mM at mf nj Jh;dsimp only at dF mf nj F7 ⊢;((repeat'(first|refine Va (X4 @f0 @fb @cu @bT) ?_|(refine Xi ?_ ?_<;>try intro ht)|exact Xx|fail)))
  have hLv:LO jG ((os.length,.var (aI p))::[(0,.var (ao m)),(bi,.arr 1 (rowsOf cL E))]) D E g.1 g.2 ((os++[.var (aI p)])++[.arr 1 []]):=((jn.app _).app _).add (aR (kF _ _ _) _) G9;refine aQ (λy:Nat×List Ob×Nat×List Bool=>(⟨ar [(1,.tree 1 (rowsOf aA left)),(3,.ptr 0 0 0),(11,.ref bi 1 0 E.length),(22,QM z1),(23,.lit (.bool z2)),(27,QM i),(28,.ptr os.length 0 0),(29,.ref y.2.2.1 1 0 y.2.2.2.length),(30,QM y.1)],y.2.1⟩:St))
   (λy=>y.1<=la.length/\LO jG ((os.length,.var (aI p))::[(0,.var (ao m)),(bi,.arr 1 (rowsOf cL E))]) D E g.1 g.2 y.2.1/\y.2.1[y.2.2.1]?=some (.arr 1 (aV y.2.2.2))/\os.length<y.2.2.1/\y.2.2.2=sK (la.take y.1) lb)
   (λy=>la.length-y.1) (0,(os++[.var (aI p)])++[.arr 1 []],(os++[Ob.var (aI p)]).length,[]) ⟨aP _,hLv,kF _ _ _,G9,rfl⟩ ?_ ?_
  ·refine aD.trans (aD.nil 29 1 (by simp only[Kc,simprocAttr]) Hg) ?_;exact Xv X0
  clear hLv;rintro⟨a,oy,ti,bs⟩⟨ha,DZ,fD,lg,nM⟩cR bg bm;dsimp only at ha DZ fD lg nM ⊢;have fp:=(DZ.base (os.length,.var (aI p)) G9).1;have fby:=(DZ.base (bi,.arr 1 (rowsOf cL E)) G9).1;have bil:=(aY.1 fb).1;have osl:=(aY.1 f0).1;dsimp only at fp fby
  by_cases nQ:a<la.length
  ·((repeat'(first|refine Va (X5 @fp @cu @FZ @aA.eq_1 @aI.eq_1) ?_|(refine Xi ?_ ?_<;>try intro ht)|exact Xx|fail)))
   have hta:=ep nQ;refine aQ (λy:Nat×List Ob×Nat×List Bool=>(⟨ar [(1,.tree 1 (rowsOf aA left)),(3,.ptr 0 0 0),(11,.ref bi 1 0 E.length),(22,QM z1),(23,.lit (.bool z2)),(27,QM i),(28,.ptr os.length 0 0),(29,.ref y.2.2.1 1 0 y.2.2.2.length),(30,QM a),(31,QM y.1)],y.2.1⟩:St))
    (λy=>y.1<=lb.length/\LO jG ((os.length,.var (aI p))::[(0,.var (ao m)),(bi,.arr 1 (rowsOf cL E))]) D E g.1 g.2 y.2.1/\y.2.1[y.2.2.1]?=some (.arr 1 (aV y.2.2.2))/\os.length<y.2.2.1/\y.2.2.2=bs++(lb.take y.1).map (la.getD a default && ·))
    (λy=>lb.length-y.1) (0,oy,ti,bs) ⟨aP _,DZ,fD,lg,G9⟩ (Xv X0) ?_
   rintro⟨b,ob,tb,cs⟩⟨ba,Ji,B8,F8,fX⟩mH gw fK;dsimp only at ba Ji B8 F8 fX ⊢;have F9:=(Ji.base (os.length,.var (aI p)) G9).1;dsimp only at F9;have tJ:=aR B8;have epb:=aR F9;have stb:=jm B8;have bI:cs.length<=24*24+24:=by
    rw[fX,nM,bN,DQ,gD,e9,e9];have:=w8 (show min a la.length<=24 by omega) (show lb.length<=24 by omega);omega
   by_cases lG:b<lb.length
   ·have aka:=ep lG;have hLn:=((Ji.kill (y:=.gone) B8 G9 (by simp only[bu,iI,or_false,forall_eq_or_imp,forall_eq];omega)).app [.arr 1 [[.lit (.bool (la.getD a false&&lb.getD b false))]],.arr 1 (aV (cs++[la.getD a false&&lb.getD b false]))]);have eL:cs++[la.getD a false&&lb.getD b false]=bs++(lb.take (b+1)).map (la.getD a default && ·):=by rw[aka,dU,<- bH,<- fX];rfl
    have aqA:=(aY.1 B8).1;generalize hxa:la.getD a false=xa at *;generalize akc:lb.getD b false=xb at *;cases xa;all_goals
     simp only[rI,ic]at hLn eL;((repeat'(first|refine Va (X5 @F9 @B8 @tJ @epb (X5 @stb @cu @FZ @xT (X5 @hxa @akc @aA.eq_1 @aI.eq_1 (X5 @bT @bH.{0} @jC @jK (X3 @bN.{0} @bJ.{0} @EJ))))) ?_|(refine Xi ?_ ?_<;>try intro ht)|exact Xx|fail)))
     refine gw _ (b+1,_,ob.length+1,_) ⟨Hi,hLn,q7 _ _ _ _ _,Hi,eL⟩ Hi ?_;exact Xv X0
   ·rw[dt Ey]at fX;((repeat'(first|refine Va (X5 @F9 @cu @xT @aA.eq_1 @aI.eq_1) ?_|(refine V2 (X5 @F9 @cu @xT @aA.eq_1 @aI.eq_1) ?_ ?_<;>try with_reducible intro hb)|(refine Xi ?_ ?_<;>try intro ht)|exact Xx|fail)))
    refine fK _ _ rfl ?_;clear gw fK mH;repeat(refine Xu ?_)
    refine Va X0 ?_;refine bg _ (a+1,ob,tb,cs) ⟨Hi,Ji,B8,F8,by rw[hta,ajj,<- nM];exact fX⟩ Hi ?_;exact Xv X0
  ·rw[dt Ey,<- NX]at nM;subst nM;obtain⟨tK,FT⟩:=DZ.rE.row i Ey;((repeat'(first|refine Va (X5 @fp @cu @FZ @aA.eq_1 @aI.eq_1) ?_|(refine Xi ?_ ?_<;>try intro ht)|exact Xx|fail)))
   refine bm _ _ rfl ?_;clear bg bm cR;repeat(refine Xu ?_)
   ((refine Va (X3 @fby @tK @cL.eq_1) ?_)<;>try with_reducible intro K hK)
   cases z2<;>cases q2;all_goals
    refine ug [] F7 G9 trivial ⟨a7.fz tK (by rw[cF];exact FT.symm) G9,a7.fz fD (by rw[A4]) G9,trivial⟩ rfl G9 ?_;((try revert hK K);(repeat'(first|refine Va (X2 @iH @kP) ?_|fail)))
    refine ak _ (i+1,oy) ⟨Hi,DZ.sub G9⟩ Hi ?_;simp only[dF];exact Xv X0
 have I8:i=m.ae.length:=Ey;rw[I8];have Ow:=Al _ zc (NN (m:=m) (left:=left) (by unfold mM;decide) DY.2 m.ae.length);rw[FN]at Ow;generalize bV (PP m left g.2 m.ae.length) zc=zp at *;((repeat'(first|refine Va @f0 ?_|(refine Xi ?_ ?_<;>try intro ht)|exact Xx|fail)))
 refine aq _ _ rfl ?_;clear ak aq Ql;repeat(refine Xu ?_)
 refine Va @f0 ?_;clear hi au;refine aQ (λi:Nat=>(⟨ar [(1,.tree 1 (rowsOf aA left)),(3,.ptr 0 0 0),(22,QM (bV (PK m left i) zp).1),(23,.lit (.bool (bV (PK m left i) zp).2)),(34,QM i)],os⟩:St))
  (λi=>i<=m.aE.length) (λi=>m.aE.length-i) 0 (aP _) (Xv (X5 @PK.eq_1 @bV.eq_1 @QO @oP.{0,0} @AW.{0,0})) ?_
 rintro i hi Ql ak aq;unfold mM at Jh Ow;dsimp only at Jh Ow;by_cases au:i<m.aE.length
 ·have jU:=aF (d:=default) au;obtain⟨q1,q2,q3,q4⟩:=N3 b8 hf jU;have h3:=akd m left _ b8 hf jU;have BF:=FG (λx hx=>(q1 x hx).2) left;have h4:=aio (kE (m.aE.getD i default).bd 0 left 0-(m.aE.getD i default).most) (m.aE.getD i default).cA Ey q3;rw[ahX q3]at h4;have mf:=Al _ zp (NO b8 (left:=left) i);rw[I0]at mf;have hvr:=aau (m.aE.getD i default).most (m.aE.getD i default).cA (kE (m.aE.getD i default).bd 0 left 0) q2 q3.1;have dF:bV (PK m left (i+1)) zp=((bV (PK m left i) zp).1+ju left (m.aE.getD i default),(bV (PK m left i) zp).2||!!(decide ((m.aE.getD i default).cA=1099511627776)&&decide (0<ju left (m.aE.getD i default)))):=by
   rw[show PK m left (i+1)=PK m left i++[(ju left (m.aE.getD i default),!(decide ((m.aE.getD i default).cA=1099511627776)&&decide (0<ju left (m.aE.getD i default))))] from Ak _ i,DO]
  unfold ju at dF;generalize bV (PK m left i) zp=z at *;obtain⟨z1,z2⟩:=z;generalize a6:m.aE.getD i default=c at *;generalize l7 c.most c.cA (kE c.bd 0 left 0)=v at *;dsimp only at dF mf ⊢;by_cases M3:c.cA=1099511627776;all_goals
   by_cases qU:0<v
  all_goals
   simp only[M3,qU,decide_true,decide_false,Bool.and_true,Bool.and_false,iH,kP,Bool.or_true,Bool.or_false]at dF;cases z2
  all_goals
   ((repeat'(first|refine Vc (X3 @f0 @a6 @dz.eq_1) (X2 h3 h4) ?_|(refine V2 (X3 @f0 @a6 @dz.eq_1) ?_ ?_<;>try with_reducible intro hb)|(refine Xi ?_ ?_<;>try intro ht)|exact Xx|fail)))
   refine ak _ (i+1) Ey Ey ?_;simp only[dF];exact Xv (X4 @gt_iff_lt.{0} @qU @decide_true @decide_false)
 ·have N6:i=m.aE.length:=Ey;rw[N6];have abf:=Al _ zp (NO b8 (left:=left) m.aE.length);rw[I0]at abf;generalize bV (PK m left m.aE.length) zp=zk at *;obtain⟨k1,k2⟩:=zk;dsimp only at an abf ⊢;((repeat'(first|refine Va @f0 ?_|(refine Xi ?_ ?_<;>try intro ht)|exact Xx|fail)))
  refine aq _ _ rfl ?_;clear ak aq Ql;repeat(refine Xu ?_)
  cases k2
  ·simp only[Bool.false_eq_true,if_false]at an;subst an;((repeat'(first|refine Vb @f0 ?_|(refine Xi ?_ ?_<;>try intro ht)|exact Xx|fail)))
   exact aN rfl rfl
  ·simp only[if_true]at an;subst an;((repeat'(first|refine Vb @f0 ?_|(refine Xi ?_ ?_<;>try intro ht)|exact Xx|fail)))
   exact aN rfl rfl
end T

