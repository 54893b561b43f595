import Derived.Test.YtdipcmigdbnheaaGreatX16
import Derived.Test.YtdipcmigdbnheaaGreatX13
set_option linter.all false
set_option maxHeartbeats 0
set_option maxRecDepth 20000
open Bool renaming and_eq_true→bw,not_false→je,not_true→gT,false_and→jR,true_and→eQ
open Nat renaming mul_le_mul→BD,zero_le→aI,sub_self→hJ,add_zero→iS
open List renaming mem_append→cH,mem_singleton→fE,take_of_length_le→dJ,take_zero→kK,length_map→dX,append_assoc→cM,length_append→bQ,length_set→bF,getElem?_eq_some_iff→a8,map_append→fW,nodup_append→vX,map_nil→kJ,mem_cons→cB,not_mem_nil→kI,length_take→eN,set_set→xn,range_zero→Po,foldl_nil→yJ
open And renaming intro→eR
open Go Go.Am Go.Proofs
namespace T
def aaJ{m:aj}(hm:VM m){c:List bU}(hc:c∈m.cls){o:bU}(ho:o∈c):o.ch.length<=100:=by
 have h:=hm.mA c hc o ho;have hr:=hm.jq;cases ek:o.ch with
 |nil=>simp
 |cons x r =>
  rw[ek,eo]at h;simp only[bw,decide_eq_true_eq,jI]at h;rcases Ie h.2 with rfl|h2
  ·simp
  ·simp only[List.length_cons];omega
def Bh{m:aj}{p:Pr}(hp:gH m p=true)(hm:VM m):p.aB.length<=576:=by
 unfold gH at hp;simp only[bw,decide_eq_true_eq]at hp;obtain⟨⟨_,h1,h2,h3,h4⟩,_⟩:=hp;have a:=hm.opt _ (ay (l:=m.cls) (i:=p.fst.toNat) (d:=default) GC);have b:=hm.opt _ (ay (l:=m.cls) (i:=p.snd.toNat) (d:=default) GC);have:=BD a b;have e:(p.aB.length:Int)=((m.cls.getD p.fst.toNat default).length*(m.cls.getD p.snd.toNat default).length:Nat):=by rw[h4];simp
 omega
def FH{m:aj}{p:Pr}(hp:gH m p=true):0<=p.fst/\p.fst<p.snd/\p.snd<m.cls.length/\(p.aB.length:Int)=(m.cls.getD p.fst.toNat default).length*(m.cls.getD p.snd.toNat default).length:=by
 unfold gH at hp;simp only[bw,decide_eq_true_eq]at hp;exact hp.1.2
def Jk{a k c n:Int}(ha:0<=a/\a<n)(hk:0<=k/\k<c)(hc:c<=24)(hn:n<=24):0<=a*c/\a*c<=576/\0<=a*c+k/\a*c+k<n*c:=by
 have h1:0<=a*c:=Int.mul_nonneg ha.1 GC;have h2:(a+1)*c<=n*c:=Int.mul_le_mul_of_nonneg_right GC GC;rw[Int.add_mul]at h2;have h3:n*c<=24*24:=Int.mul_le_mul hn hc GC GC;omega
def aj'(m:aj)(left:List (List Bool))(l:List Mv)(hm:MB m)(hb:BB left)(hl:l.length<9223372036854775808):ao Tryz.prog 97 [.agg (aq m),.tree 1 (rowsOf aQ left),.tree 4 (rowsOf ca l)] [] (.bJ [aaC (CP m left l).1,aaC (CP m left l).2]) []:=by
 have h1:=wx m hm;have h2:=ajA m left hm hb;generalize ak:CP m left l=res;unfold CP IS at ak;refine ao.aD 342 0 [.tmp 6,.tmp 7] Tryz.func97 ?_;by_cases hv:df m=0;rotate_left
 ·rw[if_pos (c:=df m≠0) hv,if_pos hv]at ak;generalize df m=e at *;subst ak;((repeat'(first|refine Vd X0 (X2 h1 h2) ?_|(refine Xi ?_ ?_<;>try intro ht)|exact Xx|fail)))
  all_goals exact aE rfl rfl
 rw[if_neg (c:=df m≠0) (by rw[hv];simp)]at ak;rw[hv]at h1;by_cases hf:dD m left;rotate_left
 ·rw[if_neg hf,if_pos GF]at ak;rw[decide_eq_false hf]at h2;subst ak;((repeat'(first|refine Vd (X2 @bne_self_eq_false.{0} @je) (X2 h1 h2) ?_|(refine Xi ?_ ?_<;>try intro ht)|exact Xx|fail)))
  all_goals exact aE rfl rfl
 rw[if_pos hf,if_neg GF]at ak;rw[decide_eq_true hf]at h2;have bT:=eK.1 hv;have nu:=bT.cls;have s5:=bT.ae;have D8:=bT.av;unfold iC at ak;by_cases hlen:2000<l.length
 ·rw[if_pos hlen]at ak;subst ak;((repeat'(first|refine Vd (X2 @bne_self_eq_false.{0} @gT) (X2 h1 h2) ?_|(refine Xi ?_ ?_<;>try intro ht)|exact Xx|fail)))
  all_goals exact aE rfl rfl
 rw[if_neg hlen]at ak;((repeat'(first|refine Vd (X2 @bne_self_eq_false.{0} @gT) (X2 h1 h2) ?_|(refine Xi ?_ ?_<;>try intro ht)|exact Xx|fail)))
 refine aM (λi:Nat=>(⟨aw [(1,.tree 1 (rowsOf aQ left)),(2,.tree 4 (rowsOf ca l)),(3,.ptr 0 0 0),(9,aaC i)],[.var (aq m)]⟩:St)) (λi=>i<=l.length/\∀ x∈l.take i,jL m x=true) (λi=>l.length-i) 0 ⟨aI _,GF⟩ (Xv X0) ?_;rintro i⟨hi,dF⟩Ql an ar;by_cases hi':i<l.length
 ·have wW:=ajE m (l.getD i default) bT;have cN:=eG hi';have bO:=ay (d:=default) hi';generalize aS:l.getD i default=x at *;by_cases hx:jL m x=true
  ·rw[hx]at wW;((repeat'(first|refine Vc (X3 @aS @ca.eq_1 @gT) wW ?_|(refine Xi ?_ ?_<;>try intro ht)|exact Xx|fail)))
   exact an _ (i+1) ⟨GC,λy hy=>by
    rw[cN]at hy;rcases cH.1 hy with hy|hy
    ·exact dF y hy
    ·simp only[fE]at hy;subst hy;exact hx⟩ GC (Xv X0)
  ·have dw:jL m x=false:=by simpa using hx
   rw[dw]at wW;rw[if_pos (by rw[List.all_eq_false];exact⟨x,bO,hx⟩)]at ak;subst ak;((repeat'(first|refine Vc (X3 @aS @ca.eq_1 @je) wW ?_|(refine Xi ?_ ?_<;>try intro ht)|exact Xx|fail)))
   repeat(refine Xu ?_)
   refine Vb X0 ?_;exact aE rfl rfl
 rw[dJ GC]at dF;rw[if_neg (by rw[Bool.not_eq_false];exact List.all_eq_true.2 dF)]at ak;((repeat'(first|refine Va X0 ?_|(refine Xi ?_ ?_<;>try intro ht)|exact Xx|fail)))
 refine ar _ _ rfl ?_;clear an ar Ql;repeat(refine Xu ?_)
 refine Va X0 ?_;have ho0:([.var (aq m)]:List Ob)[0]?=some (.var (aq m)):=rfl;refine aM (λz:Nat×List Ob×Nat×List (Nat×Nat)=>(⟨aw [(1,.tree 1 (rowsOf aQ left)),(2,.tree 4 (rowsOf ca l)),(3,.ptr 0 0 0),(10,.ref z.2.2.1 1 0 z.2.2.2.length),(11,.lit (.slice none 0 0)),(12,aaC z.1)],z.2.1⟩:St))
  (λz=>z.1<=m.cls.length/\z.2.2.2.length=z.1/\z.2.1[0]?=some (.var (aq m))/\z.2.1[z.2.2.1]?=some (.arr 1 (rowsOf cW z.2.2.2))/\RI j6 z.2.1 z.2.2.2 ((S0 m).take z.1)/\(z.2.2.2.map (·.1)).Nodup)
  (λz=>m.cls.length-z.1) (0,[.var (aq m),.arr 1 []],1,[]) ⟨aI _,rfl,rfl,rfl,by rw[kK];exact RI.nil,GF⟩ ?_ ?_
 ·refine aF.trans (aF.nil 10 1 (by simp only[Kc,simprocAttr]) Px) ?_;exact Xv X0
 clear hi hi' ho0;rintro⟨i,os,ai,D⟩⟨hi,hD,f0,fa,hR,bX⟩Ql an ar;dsimp only at hi hD f0 fa hR bX ⊢;have e0:=bg f0;have ea:=bg fa;have sa:=fP fa;by_cases hi':i<m.cls.length
 ·have fi:=ay (d:=default) hi';have s6:=bT.opt _ fi;have akb:=ajC (m.cls.getD i default) m.rules s6 (bT.mA _ fi) (λo ho=>aaJ bT fi ho);have N0:=aaA (gG (m.cls.getD i default)) (by unfold gG;rw[dX];omega);generalize aR:m.cls.getD i default=c at *;((repeat'(first|refine Vc (X5 @f0 @fa @e0 @ea (X3 @aR @bu.eq_1 @cy)) akb ?_|(refine Xi ?_ ?_<;>try intro ht)|exact Xx|fail))<;>try with_reducible intro K hK)
  refine jn [] N0 GF trivial ⟨.pure rfl,trivial⟩ ?_;have N1:(0:Nat)≠ai:=λe=>by rw[<- e,f0]at fa;cases fa
  obtain⟨g1,g2,g3,g4⟩:=RI.step fa GF hR bX (ep (gG c)) (.arr 1 [[.ref os.length 2 0 (ep (gG c)).length]]) (.arr 1 (rowsOf cW (D++[(os.length,(ep (gG c)).length)])));have cN:(S0 m).take (i+1)=(S0 m).take i++[ep (gG c)]:=by
   rw[eG (by unfold S0;rw[dX];exact hi')];unfold S0;rw[iR _ _ _ hi',aR]
  ((try revert hK K);((refine Va (X5 @f0 @fa @e0 @ea (X5 @sa @aR @bu.eq_1 @cy (X5 @cM.{0} @hJ @iS @I1 (X2 @bQ.{0} @bF.{0})))) ?_)))
  refine an _ (i+1,_,os.length+2,D++[(os.length,(ep (gG c)).length)]) ⟨PA,aar,g4 _ _ f0 N1,g1,by rw[cN];exact g2,g3⟩ PA ?_;exact Xv X0
 rw[dJ (by unfold S0;rw[dX];omega)]at hR;have yo:D.length=m.cls.length:=GC;((repeat'(first|refine Va (X4 @f0 @fa @e0 @ea) ?_|(refine Xi ?_ ?_<;>try intro ht)|exact Xx|fail)))
 refine ar _ _ rfl ?_;clear an ar Ql;repeat(refine Xu ?_)
 refine Va (X2 @f0 @fa) ?_;clear hi hi' hD e0 ea sa;have fb0:(os++[Ob.arr 1 []])[os.length]?=some (.arr 1 (rowsOf cW [])):=by rw[kf];rfl
 refine aM (λz:Nat×List Ob×Nat×List (Nat×Nat)=>(⟨aw [(1,.tree 1 (rowsOf aQ left)),(2,.tree 4 (rowsOf ca l)),(3,.ptr 0 0 0),(10,.ref ai 1 0 D.length),(11,.ref z.2.2.1 1 0 z.2.2.2.length),(13,aaC z.1)],z.2.1⟩:St))
  (λz=>z.1<=m.ae.length/\z.2.2.2.length=z.1/\z.2.1[0]?=some (.var (aq m))/\z.2.1[ai]?=some (.arr 1 (rowsOf cW D))/\z.2.1[z.2.2.1]?=some (.arr 1 (rowsOf cW z.2.2.2))/\z.2.2.1≠ai/\RI j6 z.2.1 D (S0 m)/\RI j6 z.2.1 z.2.2.2 ((T0 m).take z.1)/\((D++z.2.2.2).map (·.1)).Nodup)
  (λz=>m.ae.length-z.1) (0,os++[.arr 1 []],os.length,[]) ⟨aI _,rfl,bg f0 _,bg fa _,fb0,λe=>by have h2:=(a8.1 fa).1;dsimp only at e;omega,hR.app _,by rw[kK];exact RI.nil,by simpa using bX⟩ ?_ ?_
 ·refine aF.trans (aF.nil 11 1 (by simp only[Kc,simprocAttr]) Px) ?_;exact Xv X0
 clear f0 fa hR bX fb0 os;rintro⟨i,os,bi,E⟩⟨hi,hE,f0,fa,fb,nB,FU,FV,bX⟩Ql an ar;dsimp only at hi hE f0 fa fb nB FU FV bX ⊢;have e0:=bg f0;have eb:=bg fb;have sb:=fP fb;by_cases hi':i<m.ae.length
 ·have uc:=iA bT.pr _ (ay (d:=default) hi');have nW:=(Bh uc bT);have N0:=aaA (m.ae.getD i default).aB GC;have N1:(0:Nat)≠bi:=λe=>by rw[<- e,f0]at fb;cases fb
  rw[fW,vX]at bX;obtain⟨g1,g2,g3,g4⟩:=RI.step fb GF FV bX.2.1 (ep (m.ae.getD i default).aB) (.arr 1 [[.ref os.length 2 0 (ep (m.ae.getD i default).aB).length]]) (.arr 1 (rowsOf cW (E++[(os.length,(ep (m.ae.getD i default).aB).length)])));have cN:(T0 m).take (i+1)=(T0 m).take i++[ep (m.ae.getD i default).aB]:=by
   rw[eG (by unfold T0;rw[dX];exact hi')];unfold T0;rw[iR _ _ _ hi']
  have akc:=(FU.kill (y:=.gone) fb GF).app [.arr 2 (rowsOf j6 (ep (m.ae.getD i default).aB)),.arr 1 [[.ref os.length 2 0 (ep (m.ae.getD i default).aB).length]],.arr 1 (rowsOf cW (E++[(os.length,(ep (m.ae.getD i default).aB).length)]))];have akd:((D++(E++[(os.length,(ep (m.ae.getD i default).aB).length)])).map (·.1)).Nodup:=by
   rw[fW,vX];refine⟨bX.1,g3,λa ha b hb=>?_⟩;rw[fW,cH]at hb;rcases hb with hb|hb
   ·exact bX.2.2 a ha b hb
   ·simp only[List.map_cons,kJ,fE]at hb;subst hb;exact λe=>FU.fresh (Nat.le_refl _) (e▸ha)
  have fal:=(a8.1 fa).1;generalize b6:m.ae.getD i default=p at *;((repeat'(first|refine Va (X5 @f0 @fb @e0 @eb (X3 @b6 @aP.eq_1 @cy)) ?_|(refine Xi ?_ ?_<;>try intro ht)|exact Xx|fail))<;>try with_reducible intro K hK)
  refine jn [] N0 GF trivial ⟨.pure rfl,trivial⟩ ?_;((try revert hK K);((refine Va (X5 @f0 @fb @e0 @eb (X5 @sb @b6 @aP.eq_1 @cy (X5 @cM.{0} @hJ @iS @I1 (X2 @bQ.{0} @bF.{0})))) ?_)))
  refine an _ (i+1,_,os.length+2,E++[(os.length,(ep p.aB).length)]) ⟨PA,aar,g4 _ _ f0 N1,g4 _ _ fa nB.symm,g1,PA,akc,by rw[cN];exact g2,akd⟩ PA ?_;exact Xv X0
 rw[dJ (by unfold T0;rw[dX];omega)]at FV;have hEl:E.length=m.ae.length:=GC;((repeat'(first|refine Va (X4 @f0 @fa @e0 @eb) ?_|(refine Xi ?_ ?_<;>try intro ht)|exact Xx|fail)))
 refine ar _ _ rfl ?_;clear an ar Ql;repeat(refine Xu ?_)
 refine Va (X2 @f0 @fa) ?_;clear hi hi' hE e0 eb sb;have gJ:LO j6 [(0,.var (aq m)),(ai,.arr 1 (rowsOf cW D)),(bi,.arr 1 (rowsOf cW E))] D E (S0 m) (T0 m) os:=⟨λb hb=>by
  simp only[cB,kI,or_false]at hb;rcases hb with rfl|rfl|rfl
  ·exact⟨f0,GF⟩
  ·exact⟨fa,GF⟩
  ·exact⟨fb,GF⟩,FU,FV,bX⟩
 refine aM (λz:Nat×List Ob=>(⟨aw [(1,.tree 1 (rowsOf aQ left)),(2,.tree 4 (rowsOf ca l)),(3,.ptr 0 0 0),(10,.ref ai 1 0 D.length),(11,.ref bi 1 0 E.length),(14,aaC z.1)],z.2⟩:St))
  (λz=>z.1<=l.length/\LO j6 [(0,.var (aq m)),(ai,.arr 1 (rowsOf cW D)),(bi,.arr 1 (rowsOf cW E))] D E (jd m (l.take z.1) (S0 m,T0 m)).1 (jd m (l.take z.1) (S0 m,T0 m)).2 z.2)
  (λz=>l.length-z.1) (0,os) ⟨aI _,gJ⟩ (Xv X0) ?_
 clear f0 fa fb FU FV bX gJ os;rintro⟨i,os⟩⟨hi,gJ⟩Ql an ar;dsimp only at hi gJ ⊢;have f0:=(gJ.base (0,.var (aq m)) GF).1;have fa:=(gJ.base (ai,.arr 1 (rowsOf cW D)) GF).1;have fb:=(gJ.base (bi,.arr 1 (rowsOf cW E)) GF).1;have e0:=bg f0;have ea:=bg fa;have eb:=bg fb;dsimp only at f0 fa fb e0 ea eb;by_cases hi':i<l.length
 ·have sh:=ay (d:=default) hi';have o8:=dF _ sh;have cN:jd m (l.take (i+1)) (S0 m,T0 m)=kC m (l.getD i default) (jd m (l.take i) (S0 m,T0 m)):=by rw[eG hi',ZQ]
  have jG:=Fh bT (l.take i) (λx hx=>dF x (List.mem_of_mem_take hx));rw[eN,Nat.min_eq_left GC]at jG;generalize jd m (l.take i) (S0 m,T0 m)=g at *;generalize aS:l.getD i default=x at *;have N2:=o8;unfold jL at N2;rw[bw,decide_eq_true_eq]at N2;obtain⟨⟨x1,x2,x3,x4,x5,x6⟩,kA⟩:=N2;obtain⟨o1,o2,o3,o4⟩:=fD.1 kA;have dE:=iA bT.pr _ (ay (l:=m.ae) (i:=x.pair.toNat) (d:=default) GC);obtain⟨NR,NS,NT,FG⟩:=FH dE;have hlF:=bT.opt _ (ay (l:=m.cls) (i:=(m.ae.getD x.pair.toNat default).fst.toNat) (d:=default) GC);have hlS:=bT.opt _ (ay (l:=m.cls) (i:=(m.ae.getD x.pair.toNat default).snd.toNat) (d:=default) GC);obtain⟨te,FF⟩:=gJ.rE.row x.pair.toNat GC;obtain⟨m5,zP⟩:=gJ.rD.row (fR m x).toNat GC;have qe:=bg te;have qd:=bg m5;have AK:=jG.sl (fR m x).toNat GC;have zo:=jG.tl x.pair.toNat GC;have an2:(List.getD E x.pair.toNat default).1=(List.getD E x.pair.toNat default).1:=rfl;by_cases hs:x.side=0
  ·have hc:fR m x=(m.ae.getD x.pair.toNat default).fst:=by unfold fR;rw[if_pos hs]
   rw[hc]at m5 zP qd AK o1 o2 o4;have sd:=fP m5;have rK:=(uh jG.sb (m.ae.getD x.pair.toNat default).fst.toNat).get GC x.opt.toNat;have hF:pw m x=(λk:Nat=>(x.opt*(m.cls.getD (m.ae.getD x.pair.toNat default).snd.toNat default).length+k).toNat,(m.cls.getD (m.ae.getD x.pair.toNat default).snd.toNat default).length):=by unfold pw;rw[if_pos hs]
   have yr:kC m x g=(g.1.set (m.ae.getD x.pair.toNat default).fst.toNat (kl (g.1.getD (m.ae.getD x.pair.toNat default).fst.toNat default) x.opt.toNat x.dR),g.2.set x.pair.toNat (iB (pw m x).1 x.dR (pw m x).2 (g.2.getD x.pair.toNat default))):=by unfold kC;rw[hc]
   have C6:=(gJ.Ns (j:=(m.ae.getD x.pair.toNat default).fst.toNat) GC (r:=kl (g.1.getD (m.ae.getD x.pair.toNat default).fst.toNat default) x.opt.toNat x.dR) (yg _ _ _)).vars (bF ..) (.var (ca x)) (.var (aP (m.ae.getD x.pair.toNat default))) GF GF;generalize b6:m.ae.getD x.pair.toNat default=p at *;generalize FX:(m.cls.getD p.snd.toNat default).length=dV at *;((repeat'(first|refine Va (X5 @f0 @fa @fb @e0 (X5 @ea @eb @aS @b6 (X5 @FX @ca.eq_1 @aP.eq_1 @bu.eq_1 (X5 @cW.eq_1 @j6.eq_1 @te @m5 (X5 @qe @qd @sd @cy (X5 @I3 @cM.{0} @hJ @iS @bQ.{0})))))) ?_|(refine Xi ?_ ?_<;>try intro ht)|exact Xx|fail)))
   rw[hF]at yr;dsimp only at yr;refine aM (λz:Nat×List Ob=>(⟨aw [(1,.tree 1 (rowsOf aQ left)),(2,.tree 4 (rowsOf ca l)),(3,.ptr 0 0 0),(10,.ref ai 1 0 D.length),(11,.ref bi 1 0 E.length),(14,aaC i),(15,.ptr os.length 0 0),(18,aaC dV),(19,.ref (E.getD x.pair.toNat default).1 2 0 (E.getD x.pair.toNat default).2),(20,aaC z.1)],z.2⟩:St))
    (λz=>z.1<=dV/\LO j6 ((os.length,.var (ca x))::(os.length+1,.var (aP p))::[(0,.var (aq m)),(ai,.arr 1 (rowsOf cW D)),(bi,.arr 1 (rowsOf cW E))]) D E (g.1.set p.fst.toNat (kl (g.1.getD p.fst.toNat default) x.opt.toNat x.dR)) (g.2.set x.pair.toNat (iB (λk:Nat=>(x.opt*dV+k).toNat) x.dR z.1 (g.2.getD x.pair.toNat default))) z.2)
    (λz=>dV-z.1) (0,_) ⟨aI _,by rw[iB,Ft];exact C6⟩ (Xv X0) ?_
   rintro⟨k,ok⟩⟨hk,k8⟩cJ ba bd;dsimp only at hk k8 ⊢;have fx:=(k8.base (os.length,.var (ca x)) GF).1;dsimp only at fx;obtain⟨tj,Bo⟩:=k8.rE.row x.pair.toNat GC;have w0:x.pair.toNat<g.2.length:=by rw[jG.t];omega
   rw[vz _ _ _ w0]at tj Bo;have fM:=A5 (λk:Nat=>(x.opt*dV+k).toNat) x.dR k (g.2.getD x.pair.toNat default);have Jl:=((uh jG.tb x.pair.toNat).sub GC (λk:Nat=>(x.opt*dV+k).toNat) (a:=x.dR) GC k).get GC (x.opt*dV+k:Int).toNat;by_cases aK:k<dV
   ·have pz:=k8.I2 (j:=x.pair.toNat) GC (r:=kl (iB (λk:Nat=>(x.opt*dV+k).toNat) x.dR k (g.2.getD x.pair.toNat default)) (x.opt*dV+k:Int).toNat (-x.dR)) (by rw[vz _ _ _ w0];exact yg _ _ _);rw[xn]at pz;obtain⟨N3,N4,N5,N6⟩:=Jk (a:=x.opt) (k:=(k:Int)) (c:=(dV:Int)) (n:=((m.cls.getD p.fst.toNat default).length:Int)) ⟨o3,o4⟩ GC GC GC;generalize vG:(x.opt*dV+k:Int)=ix at *;generalize im:iB (λk:Nat=>(x.opt*dV+k).toNat) x.dR k (g.2.getD x.pair.toNat default)=tk at *;((repeat'(first|refine Va (X5 @fx @aS @tj @ca.eq_1 (X4 @j6.eq_1 @I3 @vG @Int.sub_eq_add_neg)) ?_|(refine Xi ?_ ?_<;>try intro ht)|exact Xx|fail)))
    refine ba _ (k+1,_) ⟨PA,by rw[iB,im,vG];exact pz⟩ PA ?_;exact Xv X0
   ·have vH:k=dV:=GC;rw[vH]at k8;((repeat'(first|refine Va X0 ?_|(refine Xi ?_ ?_<;>try intro ht)|exact Xx|fail)))
    refine bd _ _ rfl ?_;clear ba bd cJ;repeat(refine Xu ?_)
    refine Va X0 ?_;refine an _ (i+1,_) ⟨PA,by rw[cN,yr];exact k8.sub GF⟩ PA ?_;exact Xv X0
  ·have hc:fR m x=(m.ae.getD x.pair.toNat default).snd:=by unfold fR;rw[if_neg hs]
   rw[hc]at m5 zP qd AK o1 o2 o4;have sd:=fP m5;have rK:=(uh jG.sb (m.ae.getD x.pair.toNat default).snd.toNat).get GC x.opt.toNat;have hF:pw m x=(λk:Nat=>((k:Int)*(m.cls.getD (m.ae.getD x.pair.toNat default).snd.toNat default).length+x.opt).toNat,(m.cls.getD (m.ae.getD x.pair.toNat default).fst.toNat default).length):=by unfold pw;rw[if_neg hs]
   have yr:kC m x g=(g.1.set (m.ae.getD x.pair.toNat default).snd.toNat (kl (g.1.getD (m.ae.getD x.pair.toNat default).snd.toNat default) x.opt.toNat x.dR),g.2.set x.pair.toNat (iB (pw m x).1 x.dR (pw m x).2 (g.2.getD x.pair.toNat default))):=by unfold kC;rw[hc]
   have C6:=(gJ.Ns (j:=(m.ae.getD x.pair.toNat default).snd.toNat) GC (r:=kl (g.1.getD (m.ae.getD x.pair.toNat default).snd.toNat default) x.opt.toNat x.dR) (yg _ _ _)).vars (bF ..) (.var (ca x)) (.var (aP (m.ae.getD x.pair.toNat default))) GF GF;generalize b6:m.ae.getD x.pair.toNat default=p at *;generalize FX:(m.cls.getD p.snd.toNat default).length=dV at *;generalize N7:(m.cls.getD p.fst.toNat default).length=rows at *;((repeat'(first|refine Va (X5 @f0 @fa @fb @e0 (X5 @ea @eb @aS @b6 (X5 @FX @N7 @ca.eq_1 @aP.eq_1 (X5 @bu.eq_1 @cW.eq_1 @j6.eq_1 @te (X5 @m5 @qe @qd @sd (X5 @cy @I3 @cM.{0} @hJ (X2 @iS @bQ.{0}))))))) ?_|(refine Xi ?_ ?_<;>try intro ht)|exact Xx|fail)))
   rw[hF]at yr;dsimp only at yr;refine aM (λz:Nat×List Ob=>(⟨aw [(1,.tree 1 (rowsOf aQ left)),(2,.tree 4 (rowsOf ca l)),(3,.ptr 0 0 0),(10,.ref ai 1 0 D.length),(11,.ref bi 1 0 E.length),(14,aaC i),(15,.ptr os.length 0 0),(17,aaC rows),(18,aaC dV),(19,.ref (E.getD x.pair.toNat default).1 2 0 (E.getD x.pair.toNat default).2),(21,aaC z.1)],z.2⟩:St))
    (λz=>z.1<=rows/\LO j6 ((os.length,.var (ca x))::(os.length+1,.var (aP p))::[(0,.var (aq m)),(ai,.arr 1 (rowsOf cW D)),(bi,.arr 1 (rowsOf cW E))]) D E (g.1.set p.snd.toNat (kl (g.1.getD p.snd.toNat default) x.opt.toNat x.dR)) (g.2.set x.pair.toNat (iB (λk:Nat=>((k:Int)*dV+x.opt).toNat) x.dR z.1 (g.2.getD x.pair.toNat default))) z.2)
    (λz=>rows-z.1) (0,_) ⟨aI _,by rw[iB,Ft];exact C6⟩ (Xv X0) ?_
   rintro⟨k,ok⟩⟨hk,k8⟩cJ ba bd;dsimp only at hk k8 ⊢;have fx:=(k8.base (os.length,.var (ca x)) GF).1;dsimp only at fx;obtain⟨tj,Bo⟩:=k8.rE.row x.pair.toNat GC;have w0:x.pair.toNat<g.2.length:=by rw[jG.t];omega
   rw[vz _ _ _ w0]at tj Bo;have fM:=A5 (λk:Nat=>((k:Int)*dV+x.opt).toNat) x.dR k (g.2.getD x.pair.toNat default);have Jl:=((uh jG.tb x.pair.toNat).sub GC (λk:Nat=>((k:Int)*dV+x.opt).toNat) (a:=x.dR) GC k).get GC ((k:Int)*dV+x.opt).toNat;by_cases aK:k<rows
   ·have pz:=k8.I2 (j:=x.pair.toNat) GC (r:=kl (iB (λk:Nat=>((k:Int)*dV+x.opt).toNat) x.dR k (g.2.getD x.pair.toNat default)) ((k:Int)*dV+x.opt).toNat (-x.dR)) (by rw[vz _ _ _ w0];exact yg _ _ _);rw[xn]at pz;obtain⟨N3,N4,N5,N6⟩:=Jk (a:=(k:Int)) (k:=x.opt) (c:=(dV:Int)) (n:=(rows:Int)) GC ⟨o3,o4⟩ GC GC;generalize vG:((k:Int)*dV+x.opt)=ix at *;generalize im:iB (λk:Nat=>((k:Int)*dV+x.opt).toNat) x.dR k (g.2.getD x.pair.toNat default)=tk at *;((repeat'(first|refine Va (X5 @fx @aS @tj @ca.eq_1 (X4 @j6.eq_1 @I3 @vG @Int.sub_eq_add_neg)) ?_|(refine Xi ?_ ?_<;>try intro ht)|exact Xx|fail)))
    refine ba _ (k+1,_) ⟨PA,by rw[iB,im,vG];exact pz⟩ PA ?_;exact Xv X0
   ·have vH:k=rows:=GC;rw[vH]at k8;((repeat'(first|refine Va X0 ?_|(refine Xi ?_ ?_<;>try intro ht)|exact Xx|fail)))
    refine bd _ _ rfl ?_;clear ba bd cJ;repeat(refine Xu ?_)
    refine Va X0 ?_;refine an _ (i+1,_) ⟨PA,by rw[cN,yr];exact k8.sub GF⟩ PA ?_;exact Xv X0
 rw[dJ GC]at gJ;have jG:=Fh bT l dF;have an3:l.length<=2000:=GC;generalize jd m l (S0 m,T0 m)=g at *;have C7:(∀ r∈g.1,NB jM r)/\∀ r∈g.2,NB jM r:=⟨λr hr=>(jG.sb r hr).mono (by unfold jM;omega),λr hr=>(jG.tb r hr).mono (by unfold jM;omega)⟩;((repeat'(first|refine Va @f0 ?_|(refine Xi ?_ ?_<;>try intro ht)|exact Xx|fail)))
 refine ar _ _ rfl ?_;clear an ar Ql;repeat(refine Xu ?_)
 refine Va @f0 ?_;have fC:=hf.1;refine aM (λi:Nat=>(⟨aw [(1,.tree 1 (rowsOf aQ left)),(3,.ptr 0 0 0),(10,.ref ai 1 0 D.length),(11,.ref bi 1 0 E.length),(22,aaC (cf (PC left g.1 i) (0,false)).1),(23,.lit (.bool (cf (PC left g.1 i) (0,false)).2)),(24,aaC i)],os⟩:St))
  (λi=>i<=m.cls.length) (λi=>m.cls.length-i) 0 (aI _) (Xv (X5 @PC.eq_1 @cf.eq_1 @Po @kJ.{0,0} @yJ.{0,0})) ?_
 rintro i hi Ql an ar;by_cases hi':i<m.cls.length
 ·have jH:=yh _ (0,false) (IT (left:=left) (by unfold jM;decide) C7.1 i);rw[wP]at jH;have hlen:=hf.2 i GC;have cD:=jG.sl i hi';have jy:=aaB (g.1.getD i default) (left.getD i default) GC (by have:=bT.opt _ (ay (d:=default) hi');omega);have nh:=Fk (g.1.getD i default) (left.getD i default) (0,false) (uh C7.1 i) (by unfold jM;decide);have dP:cf (PC left g.1 (i+1)) (0,false)=((cf (PC left g.1 i) (0,false)).1+(dQ (g.1.getD i default) (left.getD i default) (0,false)).1,(cf (PC left g.1 i) (0,false)).2||!(dQ (g.1.getD i default) (left.getD i default) (0,false)).2):=by
   rw[show PC left g.1 (i+1)=PC left g.1 i++[dQ (g.1.getD i default) (left.getD i default) (0,false)] from wL _ i,A6]
  obtain⟨m5,zP⟩:=gJ.rD.row i GC;generalize cf (PC left g.1 i) (0,false)=z at *;obtain⟨z1,z2⟩:=z;generalize dQ (g.1.getD i default) (left.getD i default) (0,false)=q at *;obtain⟨q1,q2⟩:=q;unfold jM at jH nh;dsimp only at *;generalize e7:left.getD i default=ll at *;((repeat'(first|refine Va (X5 @f0 @fa @m5 @cW.eq_1 (X2 @e7 @aQ.eq_1)) ?_|(refine Xi ?_ ?_<;>try intro ht)|exact Xx|fail))<;>try with_reducible intro K hK)
  cases z2<;>cases q2;all_goals
   refine nM [] jy GF trivial ⟨aJ.fz m5 (by rw[b8];exact zP.symm) GF,.pure rfl,trivial⟩ rfl GF ?_;((try revert hK K);(repeat'(first|refine Va (X4 @f0 @fa @gT @je) ?_|fail)))
   refine an _ (i+1) GC GC ?_;simp only[dP];exact Xv X0
 have Bl:i=m.cls.length:=GC;rw[Bl];have Jm:=yh _ (0,false) (IT (left:=left) (by unfold jM;decide) C7.1 m.cls.length);rw[wP]at Jm;unfold oR at ak;generalize cf (PC left g.1 m.cls.length) (0,false)=zc at *;((repeat'(first|refine Va @f0 ?_|(refine Xi ?_ ?_<;>try intro ht)|exact Xx|fail)))
 refine ar _ _ rfl ?_;clear an ar Ql;repeat(refine Xu ?_)
 refine Va @f0 ?_;clear hi hi';have aa0:LO j6 [(0,.var (aq m)),(bi,.arr 1 (rowsOf cW E))] D E g.1 g.2 os:=gJ.sub GF;refine aM (λz:Nat×List Ob=>(⟨aw [(1,.tree 1 (rowsOf aQ left)),(3,.ptr 0 0 0),(11,.ref bi 1 0 E.length),(22,aaC (cf (PP m left g.2 z.1) zc).1),(23,.lit (.bool (cf (PP m left g.2 z.1) zc).2)),(27,aaC z.1)],z.2⟩:St))
  (λz=>z.1<=m.ae.length/\LO j6 [(0,.var (aq m)),(bi,.arr 1 (rowsOf cW E))] D E g.1 g.2 z.2) (λz=>m.ae.length-z.1) (0,os) ⟨aI _,aa0⟩ (Xv (X5 @PP.eq_1 @cf.eq_1 @Po @kJ.{0,0} @yJ.{0,0})) ?_
 clear gJ aa0 f0 fa fb e0 ea eb os;rintro⟨i,os⟩⟨hi,gJ⟩Ql an ar;dsimp only at hi gJ ⊢;have f0:=(gJ.base (0,.var (aq m)) GF).1;have fb:=(gJ.base (bi,.arr 1 (rowsOf cW E)) GF).1;dsimp only at f0 fb;have e0:=bg f0;have eb:=bg fb;by_cases hi':i<m.ae.length
 ·have dE:=iA bT.pr _ (ay (d:=default) hi');obtain⟨NR,NS,NT,FG⟩:=FH dE;have jH:=yh _ zc (IU (m:=m) (left:=left) (by unfold jM;decide) C7.2 i);rw[zK]at jH;have dP:cf (PP m left g.2 (i+1)) zc=((cf (PP m left g.2 i) zc).1+(dQ (g.2.getD i default) (gZ m left i) (0,false)).1,(cf (PP m left g.2 i) zc).2||!(dQ (g.2.getD i default) (gZ m left i) (0,false)).2):=by
   rw[show PP m left g.2 (i+1)=PP m left g.2 i++[dQ (g.2.getD i default) (gZ m left i) (0,false)] from wL _ i,A6]
  have nh:=Fk (g.2.getD i default) (gZ m left i) (0,false) (uh C7.2 i) (by unfold jM;decide);have AZ:=hf.2 (m.ae.getD i default).fst.toNat GC;have vq:=hf.2 (m.ae.getD i default).snd.toNat GC;have hoa:=bT.opt _ (ay (l:=m.cls) (i:=(m.ae.getD i default).fst.toNat) (d:=default) GC);have bk:=bT.opt _ (ay (l:=m.cls) (i:=(m.ae.getD i default).snd.toNat) (d:=default) GC);have cD:=jG.tl i hi';have wU:(g.2.getD i default).length=(gZ m left i).length:=by
   unfold gZ;rw[Fi,AZ,vq,cD];have:=FG;rw[<- Int.natCast_mul]at this;exact Int.ofNat_inj.1 this
  have nW:=Bh dE bT;have jy:=aaB (g.2.getD i default) (gZ m left i) wU GC;have NV:gZ m left i=sk (left.getD (m.ae.getD i default).fst.toNat default) (left.getD (m.ae.getD i default).snd.toNat default):=rfl;generalize dQ (g.2.getD i default) (gZ m left i) (0,false)=q at *;generalize cf (PP m left g.2 i) zc=z at *;generalize gZ m left i=pb at *;generalize b6:m.ae.getD i default=p at *;generalize FJ:left.getD p.fst.toNat default=la at *;generalize FL:left.getD p.snd.toNat default=lb at *;obtain⟨z1,z2⟩:=z;obtain⟨q1,q2⟩:=q;unfold jM at jH nh Jm;dsimp only at dP jH nh jy ⊢;((repeat'(first|refine Va (X4 @f0 @fb @b6 @cy) ?_|(refine Xi ?_ ?_<;>try intro ht)|exact Xx|fail)))
  have hLv:LO j6 ((os.length,.var (aP p))::[(0,.var (aq m)),(bi,.arr 1 (rowsOf cW E))]) D E g.1 g.2 ((os++[.var (aP p)])++[.arr 1 []]):=((gJ.app _).app _).add (bg (kf _ _ _) _) GF;refine aM (λy:Nat×List Ob×Nat×List Bool=>(⟨aw [(1,.tree 1 (rowsOf aQ left)),(3,.ptr 0 0 0),(11,.ref bi 1 0 E.length),(22,aaC z1),(23,.lit (.bool z2)),(27,aaC i),(28,.ptr os.length 0 0),(29,.ref y.2.2.1 1 0 y.2.2.2.length),(30,aaC y.1)],y.2.1⟩:St))
   (λy=>y.1<=la.length/\LO j6 ((os.length,.var (aP p))::[(0,.var (aq m)),(bi,.arr 1 (rowsOf cW E))]) D E g.1 g.2 y.2.1/\y.2.1[y.2.2.1]?=some (.arr 1 (aX y.2.2.2))/\os.length<y.2.2.1/\y.2.2.2=sk (la.take y.1) lb)
   (λy=>la.length-y.1) (0,(os++[.var (aP p)])++[.arr 1 []],(os++[Ob.var (aP p)]).length,[]) ⟨aI _,hLv,kf _ _ _,GF,rfl⟩ ?_ ?_
  ·refine aF.trans (aF.nil 29 1 (by simp only[Kc,simprocAttr]) Px) ?_;exact Xv X0
  clear hLv;rintro⟨a,oy,ti,bs⟩⟨ha,C8,c9,g6,lL⟩cJ ba bd;dsimp only at ha C8 c9 g6 lL ⊢;have fp:=(C8.base (os.length,.var (aP p)) GF).1;have fby:=(C8.base (bi,.arr 1 (rowsOf cW E)) GF).1;have bil:=(a8.1 fb).1;have osl:=(a8.1 f0).1;dsimp only at fp fby
  by_cases nk:a<la.length
  ·((repeat'(first|refine Va (X5 @fp @b6 @FJ @aQ.eq_1 @aP.eq_1) ?_|(refine Xi ?_ ?_<;>try intro ht)|exact Xx|fail)))
   have hta:=eG nk;refine aM (λy:Nat×List Ob×Nat×List Bool=>(⟨aw [(1,.tree 1 (rowsOf aQ left)),(3,.ptr 0 0 0),(11,.ref bi 1 0 E.length),(22,aaC z1),(23,.lit (.bool z2)),(27,aaC i),(28,.ptr os.length 0 0),(29,.ref y.2.2.1 1 0 y.2.2.2.length),(30,aaC a),(31,aaC y.1)],y.2.1⟩:St))
    (λy=>y.1<=lb.length/\LO j6 ((os.length,.var (aP p))::[(0,.var (aq m)),(bi,.arr 1 (rowsOf cW E))]) D E g.1 g.2 y.2.1/\y.2.1[y.2.2.1]?=some (.arr 1 (aX y.2.2.2))/\os.length<y.2.2.1/\y.2.2.2=bs++(lb.take y.1).map (la.getD a default && ·))
    (λy=>lb.length-y.1) (0,oy,ti,bs) ⟨aI _,C8,c9,g6,GF⟩ (Xv X0) ?_
   rintro⟨b,ob,tb,cs⟩⟨du,Jn,Bp,H6,iu⟩lB fQ eV;dsimp only at du Jn Bp H6 iu ⊢;have FY:=(Jn.base (os.length,.var (aP p)) GF).1;dsimp only at FY;have n9:=bg Bp;have epb:=bg FY;have stb:=fP Bp;have cm:cs.length<=24*24+24:=by
    rw[iu,lL,bQ,Fi,dX,eN,eN];have:=BD (show min a la.length<=24 by omega) (show lb.length<=24 by omega);omega
   by_cases uf:b<lb.length
   ·have akj:=eG uf;have hLn:=((Jn.kill (y:=.gone) Bp GF (by simp only[cB,kI,or_false,forall_eq_or_imp,forall_eq];omega)).app [.arr 1 [[.lit (.bool (la.getD a false&&lb.getD b false))]],.arr 1 (aX (cs++[la.getD a false&&lb.getD b false]))]);have e9:cs++[la.getD a false&&lb.getD b false]=bs++(lb.take (b+1)).map (la.getD a default && ·):=by rw[akj,fW,<- cM,<- iu];rfl
    have an6:=(a8.1 Bp).1;generalize hxa:la.getD a false=xa at *;generalize akl:lb.getD b false=xb at *;cases xa;all_goals
     simp only[jR,eQ]at hLn e9;((repeat'(first|refine Va (X5 @FY @Bp @n9 @epb (X5 @stb @b6 @FJ @FL (X5 @hxa @akl @aQ.eq_1 @aP.eq_1 (X5 @cy @cM.{0} @hJ @iS (X3 @bQ.{0} @bF.{0} @KH))))) ?_|(refine Xi ?_ ?_<;>try intro ht)|exact Xx|fail)))
     refine fQ _ (b+1,_,ob.length+1,_) ⟨PA,hLn,vA _ _ _ _ _,PA,e9⟩ PA ?_;exact Xv X0
   ·rw[dJ GC]at iu;((repeat'(first|refine Va (X5 @FY @b6 @FL @aQ.eq_1 @aP.eq_1) ?_|(refine V2 (X5 @FY @b6 @FL @aQ.eq_1 @aP.eq_1) ?_ ?_<;>try with_reducible intro hb)|(refine Xi ?_ ?_<;>try intro ht)|exact Xx|fail)))
    refine eV _ _ rfl ?_;clear fQ eV lB;repeat(refine Xu ?_)
    refine Va X0 ?_;refine ba _ (a+1,ob,tb,cs) ⟨PA,Jn,Bp,H6,by rw[hta,aiH,<- lL];exact iu⟩ PA ?_;exact Xv X0
  ·rw[dJ GC,<- NV]at lL;subst lL;obtain⟨te,FF⟩:=C8.rE.row i GC;((repeat'(first|refine Va (X5 @fp @b6 @FJ @aQ.eq_1 @aP.eq_1) ?_|(refine Xi ?_ ?_<;>try intro ht)|exact Xx|fail)))
   refine bd _ _ rfl ?_;clear ba bd cJ;repeat(refine Xu ?_)
   ((refine Va (X3 @fby @te @cW.eq_1) ?_)<;>try with_reducible intro K hK)
   cases z2<;>cases q2;all_goals
    refine nM [] jy GF trivial ⟨aJ.fz te (by rw[b8];exact FF.symm) GF,aJ.fz c9 (by rw[yS]) GF,trivial⟩ rfl GF ?_;((try revert hK K);(repeat'(first|refine Va (X2 @gT @je) ?_|fail)))
    refine an _ (i+1,oy) ⟨PA,C8.sub GF⟩ PA ?_;simp only[dP];exact Xv X0
 have Bm:i=m.ae.length:=GC;rw[Bm];have N8:=yh _ zc (IU (m:=m) (left:=left) (by unfold jM;decide) C7.2 m.ae.length);rw[zK]at N8;generalize cf (PP m left g.2 m.ae.length) zc=zp at *;((repeat'(first|refine Va @f0 ?_|(refine Xi ?_ ?_<;>try intro ht)|exact Xx|fail)))
 refine ar _ _ rfl ?_;clear an ar Ql;repeat(refine Xu ?_)
 refine Va @f0 ?_;clear hi hi';refine aM (λi:Nat=>(⟨aw [(1,.tree 1 (rowsOf aQ left)),(3,.ptr 0 0 0),(22,aaC (cf (PK m left i) zp).1),(23,.lit (.bool (cf (PK m left i) zp).2)),(34,aaC i)],os⟩:St))
  (λi=>i<=m.av.length) (λi=>m.av.length-i) 0 (aI _) (Xv (X5 @PK.eq_1 @cf.eq_1 @Po @kJ.{0,0} @yJ.{0,0})) ?_
 rintro i hi Ql an ar;unfold jM at Jm N8;dsimp only at Jm N8;by_cases hi':i<m.av.length
 ·have fi:=ay (d:=default) hi';obtain⟨q1,q2,q3,q4⟩:=Nz bT hf fi;have h3:=ajB m left _ bT hf fi;have xY:=E5 (λx hx=>(q1 x hx).2) left;have h4:=Yw (k7 (m.av.getD i default).aH 0 left 0-(m.av.getD i default).most) (m.av.getD i default).bM GC q3;rw[aax q3]at h4;have jH:=yh _ zp (IV bT (left:=left) i);rw[CQ]at jH;have hvr:=ZT (m.av.getD i default).most (m.av.getD i default).bM (k7 (m.av.getD i default).aH 0 left 0) q2 q3.1;have dP:cf (PK m left (i+1)) zp=((cf (PK m left i) zp).1+jJ left (m.av.getD i default),(cf (PK m left i) zp).2||!!(decide ((m.av.getD i default).bM=1099511627776)&&decide (0<jJ left (m.av.getD i default)))):=by
   rw[show PK m left (i+1)=PK m left i++[(jJ left (m.av.getD i default),!(decide ((m.av.getD i default).bM=1099511627776)&&decide (0<jJ left (m.av.getD i default))))] from wL _ i,A6]
  unfold jJ at dP;generalize cf (PK m left i) zp=z at *;obtain⟨z1,z2⟩:=z;generalize aR:m.av.getD i default=c at *;generalize j4 c.most c.bM (k7 c.aH 0 left 0)=v at *;dsimp only at dP jH ⊢;by_cases NG:c.bM=1099511627776;all_goals
   by_cases hv0:0<v
  all_goals
   simp only[NG,hv0,decide_true,decide_false,Bool.and_true,Bool.and_false,gT,je,Bool.or_true,Bool.or_false]at dP;cases z2
  all_goals
   ((repeat'(first|refine Vc (X3 @f0 @aR @aV.eq_1) (X2 h3 h4) ?_|(refine V2 (X3 @f0 @aR @aV.eq_1) ?_ ?_<;>try with_reducible intro hb)|(refine Xi ?_ ?_<;>try intro ht)|exact Xx|fail)))
   refine an _ (i+1) GC GC ?_;simp only[dP];exact Xv (X4 @gt_iff_lt.{0} @hv0 @decide_true @decide_false)
 ·have FN:i=m.av.length:=GC;rw[FN];have aa5:=yh _ zp (IV bT (left:=left) m.av.length);rw[CQ]at aa5;generalize cf (PK m left m.av.length) zp=zk at *;obtain⟨k1,k2⟩:=zk;dsimp only at ak aa5 ⊢;((repeat'(first|refine Va @f0 ?_|(refine Xi ?_ ?_<;>try intro ht)|exact Xx|fail)))
  refine ar _ _ rfl ?_;clear an ar Ql;repeat(refine Xu ?_)
  cases k2
  ·simp only[Bool.false_eq_true,if_false]at ak;subst ak;((repeat'(first|refine Vb @f0 ?_|(refine Xi ?_ ?_<;>try intro ht)|exact Xx|fail)))
   exact aE rfl rfl
  ·simp only[if_true]at ak;subst ak;((repeat'(first|refine Vb @f0 ?_|(refine Xi ?_ ?_<;>try intro ht)|exact Xx|fail)))
   exact aE rfl rfl
def aa6{m:aj}{gi ai bi:Nat}{D E:List (Nat×Nat)}{S T:List (List Nm)}{os:List Ob}(h:LO a7 (GB m gi ai bi D E) D E S T os)(x:Mv)(hx:0<=x.pair/\x.pair<m.ae.length)(s5:m.ae.length<=4000):
  ao Tryz.prog 175 [.ptr gi 0 0,.agg (ca x)] os (aaC (fR m x)) (os++[.var (ca x)]):=by
 obtain⟨fg,fa,fb⟩:=zL h;have eg:=bg fg;generalize ak:fR m x=res;unfold fR at ak;refine ao.aD 28 os.length [.tmp 4] Tryz.func175 ?_;by_cases hs:x.side=0
 ·rw[if_pos hs]at ak;generalize b6:m.ae.getD x.pair.toNat default=p at *;((repeat'(first|refine Vb (X5 @fg @eg @gC.eq_1 @cy (X3 @b6 @ca.eq_1 @aP.eq_1)) ?_|(refine Xi ?_ ?_<;>try intro ht)|exact Xx|fail)))
  exact eu rfl GF (by rw[ak])
 ·rw[if_neg hs]at ak;generalize b6:m.ae.getD x.pair.toNat default=p at *;((repeat'(first|refine Vb (X5 @fg @eg @gC.eq_1 @cy (X3 @b6 @ca.eq_1 @aP.eq_1)) ?_|(refine Xi ?_ ?_<;>try intro ht)|exact Xx|fail)))
  exact eu rfl GF (by rw[ak])
def N9{os:List Ob}{id r:Nat}{row:List Nm}(h:os[id]?=some (.arr 2 (rowsOf a7 row)))(hr:r<row.length)(n:Int)(gp:gk ((row.getD r default).1+n)):
  ao Tryz.prog 176 [.ptr id r 0,aaC n] os (.bJ []) (os.set id (.arr 2 (rowsOf a7 (kl row r n)))):=by
 unfold gk at gp;refine ao.aD 12 os.length [] Tryz.func176 ?_;refine Vb (X3 @h @a7.eq_1 @aiX) ?_;exact eu rfl GF rfl
def akm{m:aj}(hm:VM m){x:Mv}(h1:0<=x.pair)(h2:x.pair<m.ae.length):0<=fR m x/\fR m x<m.cls.length:=by
 obtain⟨a,b,c,_⟩:=FH (iA hm.pr _ (ay (l:=m.ae) (i:=x.pair.toNat) (d:=default) GC));unfold fR;split<;>omega
def ajR{m:aj}(hm:VM m){gi ai bi:Nat}{D E:List (Nat×Nat)}{S T:List (List Nm)}{os:List Ob}(h:LO a7 (GB m gi ai bi D E) D E S T os){B:Int}(hg:LG m B (S,T))(x:Mv):
  fh Tryz.prog 133 [.ptr gi 0 0,.agg (ca x)] os λr ob=>r=.lit (.bool (jL m x))/\∃ l,ob=os++l:=by
 obtain⟨fg,fa,fb⟩:=zL h;have eg:=bg fg;have ea:=bg fa;have hE:=h.rE.len;have hD:=h.rD.len;have jS:S.length=m.cls.length:=hg.s;have C1:T.length=m.ae.length:=hg.t;have s5:=hm.ae;have yn:=hm.cls;generalize ak:jL m x=res;unfold jL at ak;refine fh.aD 56 os.length [.tmp 4] Tryz.func133 ?_;by_cases hr:0<=x.pair/\x.pair<m.ae.length/\0<=x.side/\x.side<=1/\-268435456<=x.dR/\x.dR<=268435456
 ·rw[decide_eq_true hr,eQ]at ak;have cm:=aa6 (h.app [.gone]) x ⟨hr.1,hr.2.1⟩ s5;have eb:=bg fb;((repeat'(first|refine Vb (X5 @fg @eg @fb @eb (X3 @gC.eq_1 @cy @ca.eq_1)) ?_|(refine V2 (X5 @fg @eg @fb @eb (X3 @gC.eq_1 @cy @ca.eq_1)) ?_ ?_<;>try with_reducible intro hb)|(refine Xi ?_ ?_<;>try intro ht)|exact Xx|fail)))
  refine bY (aF.mR 3 os.length (cells:=ca x) (by rw[kf];rfl) (by simp only[Kc,simprocAttr]) (by simp[ca])) ?_;refine bY (σ':=⟨aw [(0,.ptr gi 0 0),(3,.cq (ca x))],os++[.gone]⟩) (by rw[zz];exact Xv @ca.eq_1) ?_;obtain⟨c1,c2⟩:=akm hm hr.1 hr.2.1;obtain⟨m5,zP⟩:=h.rD.row (fR m x).toNat GC;have qd:=bg m5;have fM:=hg.sl (fR m x).toNat GC;have aaz:=hm.opt _ (ay (l:=m.cls) (i:=(fR m x).toNat) (d:=default) GC);generalize N':fR m x=c at *;obtain⟨bo,hd⟩:∃b,decide (x.opt >= 0)=b:=⟨_,rfl⟩;cases bo;all_goals
   have da:=hd;simp only[decide_eq_true_eq,decide_eq_false_iff_not]at da;have akn:res=(decide (0<=x.opt)&&decide (x.opt<((D.getD c.toNat default).2:Int))):=by
    rw[<- ak,Bool.eq_iff_iff,bw,decide_eq_true_eq,decide_eq_true_eq,fD];dsimp only at fM;omega
   refine kv [1,5,11] (.take 0 (.take 1 (.take 2 (.take 3 (.take 6 (.take 10 (.take 11 (.three 4 (.take 5 (.both 7 (.both 8 (.both 9 (.take 12 (.take 13 (.take 14 (.take 15 (.take 16 (.take 17 (.take 18 .nil))))))) 12 (.take 9 (.take 13 (.take 14 (.take 15 (.take 16 (.take 17 (.take 18 .nil)))))))) 12 (.take 8 (.take 9 (.take 13 (.take 14 (.take 15 (.take 16 (.take 17 (.take 18 .nil))))))))) 12 (.take 7 (.take 8 (.take 9 (.take 13 (.take 14 (.take 15 (.take 16 (.take 17 (.take 18 .nil))))))))))) 7 (.three 4 (.take 5 (.both 8 (.both 9 (.take 12 (.take 13 (.take 14 (.take 15 (.take 16 (.take 17 (.take 18 .nil))))))) 12 (.take 9 (.take 13 (.take 14 (.take 15 (.take 16 (.take 17 (.take 18 .nil)))))))) 12 (.take 8 (.take 9 (.take 13 (.take 14 (.take 15 (.take 16 (.take 17 (.take 18 .nil)))))))))) 8 (.three 4 (.take 5 (.both 9 (.take 12 (.take 13 (.take 14 (.take 15 (.take 16 (.take 17 (.take 18 .nil))))))) 12 (.take 9 (.take 13 (.take 14 (.take 15 (.take 16 (.take 17 (.take 18 .nil))))))))) 9 (.both 4 (.take 5 (.take 12 (.take 13 (.take 14 (.take 15 (.take 16 (.take 17 (.take 18 .nil)))))))) 12 (.take 4 (.take 5 (.take 13 (.take 14 (.take 15 (.take 16 (.take 17 (.take 18 .nil))))))))) 12 (.take 4 (.take 5 (.take 9 (.take 13 (.take 14 (.take 15 (.take 16 (.take 17 (.take 18 .nil)))))))))) 12 (.take 4 (.take 5 (.take 8 (.take 9 (.take 13 (.take 14 (.take 15 (.take 16 (.take 17 (.take 18 .nil))))))))))) 12 (.take 4 (.take 5 (.take 7 (.take 8 (.take 9 (.take 13 (.take 14 (.take 15 (.take 16 (.take 17 (.take 18 .nil))))))))))))))))))) rfl Px (by decide +kernel) ?_;simp(disch:=omega)only[Ac,↓Pc,simprocAttr,DM,xw,uM,uL,dj,↓Lq,fg,eg,fa,ea,gC,cW,cy,qd,m5,ca,hd];repeat'(first|with_reducible refine eR ?_ ?_|omega|(refine ig cm GF ?_;simp(disch:=omega)only[Ac,↓Pc,simprocAttr,DM,xw,uM,uL,dj,↓Lq,fg,eg,fa,ea,gC,cW,cy,qd,m5,ca,hd,cM]))
   all_goals
    repeat(refine Xu ?_)
    ((repeat'(first|refine Vb X0 ?_|fail)))
    unfold gu;simp only[eF,ew];simp(disch:=omega)only[Ac,↓Pc,simprocAttr];refine⟨.lit (.bool res),_,⟨rfl,_,rfl⟩,eu rfl GF ?_⟩;rw[akn];first|rfl|(rw[decide_eq_true da,eQ])|(rw[decide_eq_false da,jR])
 ·rw[decide_eq_false hr,jR]at ak;have eb:=bg fb;((repeat'(first|refine Vb (X5 @fg @eg @fb @eb (X3 @gC.eq_1 @cy @ca.eq_1)) ?_|(refine V2 (X5 @fg @eg @fb @eb (X3 @gC.eq_1 @cy @ca.eq_1)) ?_ ?_<;>try with_reducible intro hb)|(refine Xi ?_ ?_<;>try intro ht)|exact Xx|fail)))
  all_goals
   unfold gu;simp only[eF,ew];simp(disch:=omega)only[Ac,↓Pc,simprocAttr];exact⟨.lit (.bool res),_,⟨rfl,_,rfl⟩,eu rfl GF (by rw[<- ak])⟩
def ajT{m:aj}(hm:VM m){gi ai bi:Nat}{D E:List (Nat×Nat)}{S T:List (List Nm)}{os:List Ob}(h:LO a7 (GB m gi ai bi D E) D E S T os){B:Int}(hB:0<=B/\B<=4611686018427387904)(hg:LG m B (S,T))(x:Mv)(hx:jL m x=true):
  fh Tryz.prog 134 [.ptr gi 0 0,.agg (ca x)] os λr ob=>r=.bJ []/\LO a7 (GB m gi ai bi D E) D E (kC m x (S,T)).1 (kC m x (S,T)).2 ob/\os.length<=ob.length:=by
 obtain⟨fg,fa,fb⟩:=zL h;have eg:=bg fg;have ea:=bg fa;have eb:=bg fb;have hE:=h.rE.len;have hD:=h.rD.len;have jS:S.length=m.cls.length:=hg.s;have C1:T.length=m.ae.length:=hg.t;have s5:=hm.ae;have yn:=hm.cls;have dw:=hx;unfold jL at dw;rw[bw,decide_eq_true_eq]at dw;obtain⟨⟨x1,x2,x3,x4,x5,x6⟩,kA⟩:=dw;obtain⟨o1,o2,o3,o4⟩:=fD.1 kA;have dE:=iA hm.pr _ (ay (l:=m.ae) (i:=x.pair.toNat) (d:=default) GC);obtain⟨NR,NS,NT,FG⟩:=FH dE;have hlF:=hm.opt _ (ay (l:=m.cls) (i:=(m.ae.getD x.pair.toNat default).fst.toNat) (d:=default) GC);have hlS:=hm.opt _ (ay (l:=m.cls) (i:=(m.ae.getD x.pair.toNat default).snd.toNat) (d:=default) GC);obtain⟨te,FF⟩:=h.rE.row x.pair.toNat GC;obtain⟨m5,zP⟩:=h.rD.row (fR m x).toNat GC;have qe:=bg te;have qd:=bg m5;have AK:(S.getD (fR m x).toNat default).length=(m.cls.getD (fR m x).toNat default).length:=hg.sl (fR m x).toNat GC;have zo:(T.getD x.pair.toNat default).length=(m.ae.getD x.pair.toNat default).aB.length:=hg.tl x.pair.toNat GC;have rK:=(uh hg.sb (fR m x).toNat).get hB.1 x.opt.toNat;dsimp only at rK;obtain⟨Jh,NU⟩:=h.rD.row (m.ae.getD x.pair.toNat default).snd.toNat GC;obtain⟨rF1,rF2⟩:=h.rD.row (m.ae.getD x.pair.toNat default).fst.toNat GC;have FI:(S.getD (m.ae.getD x.pair.toNat default).snd.toNat default).length=(m.cls.getD (m.ae.getD x.pair.toNat default).snd.toNat default).length:=hg.sl _ GC;have hFl:(S.getD (m.ae.getD x.pair.toNat default).fst.toNat default).length=(m.cls.getD (m.ae.getD x.pair.toNat default).fst.toNat default).length:=hg.sl _ GC;generalize b6:m.ae.getD x.pair.toNat default=p at *;generalize FX:(m.cls.getD p.snd.toNat default).length=dV at *;generalize N7:(m.cls.getD p.fst.toNat default).length=rows at *;refine fh.aD 95 os.length [] Tryz.func134 ?_;refine Xk ?_;refine TE ?_;intro K hK;simp(disch:=omega)only[Ac,↓Pc,simprocAttr,fg,eg,ca];refine hK _ ?_;clear hK K;refine hn _ ?_;(try clear hn;try clear he)
 refine bY (aF.mR 3 os.length (cells:=ca x) (by rw[kf];rfl) (by simp only[Kc,simprocAttr]) (by simp[ca])) ?_;refine bY (σ':=⟨aw [(0,.ptr gi 0 0),(3,.cq (ca x))],os++[.gone]⟩) (by rw[zz];exact Xv @ca.eq_1) ?_;refine Xk ?_;refine Mx ?_;intro Q hn he;refine yV ⟨aw [(0,.ptr gi 0 0),(3,.cq (ca x)),(4,.ptr (os.length+1) 0 0),(5,.ref (E.getD x.pair.toNat default).1 2 0 (E.getD x.pair.toNat default).2)],os++[.gone,.var (aP p)]⟩ hn ?_ (λkey=>?_);rotate_left
 ·refine kv [6,8,14] (.take 0 (.take 1 (.take 2 (.take 3 (.take 4 (.take 5 (.take 6 (.take 7 (.take 8 (.take 9 (.take 10 (.take 11 (.take 13 (.take 14 (.both 12 (.take 15 (.both 16 (.take 17 (.take 18 (.take 19 .nil))) 17 (.both 16 (.take 18 (.take 19 .nil)) 18 (.take 16 (.take 19 .nil))))) 17 (.both 12 (.take 15 (.both 16 (.take 18 (.take 19 .nil)) 18 (.take 16 (.take 19 .nil)))) 18 (.take 12 (.take 15 (.take 16 (.take 19 .nil)))))))))))))))))))) rfl Px (by decide +kernel) ?_;simp(disch:=omega)only[Ac,↓Pc,simprocAttr,DM,xw,uM,uL,dj,↓Lq,fg,eg,fb,eb,gC,cW,cy,qe,te,ca,aP,b6,cM,bQ];repeat'(first|with_reducible refine eR ?_ ?_|omega)
  all_goals
   refine key _ ?_;exact Xv (X2 @ca.eq_1 @aP.eq_1)
 (try clear hn;try clear he)
 try(try clear Q)
 have C6:LO a7 (GB m gi ai bi D E) D E S T (os++[.gone,.var (aP p)]):=h.app _;have fp:(os++[Ob.gone,.var (aP p)])[os.length+1]?=some (.var (aP p)):=by rw[nX];rfl
 have cm:=aa6 C6 x ⟨x1,x2⟩ s5;have fg1:=eg [.gone,.var (aP p)];have fa1:=ea [.gone,.var (aP p)];have qd1:=qd [.gone,.var (aP p)];have eg1:=bg fg1;have ea1:=bg fa1;have ed1:=bg qd1;have ep1:=bg fp;refine Xk ?_;have nY:=N9 (os:=os++[Ob.gone,.var (aP p),.var (ca x)]) (id:=(D.getD (fR m x).toNat default).1) (r:=x.opt.toNat) (row:=S.getD (fR m x).toNat default) (qd _) GC x.dR (by unfold gk;omega);have sd:=fP m5;generalize N':fR m x=c at *;refine Mx ?_;intro Q hn he;refine yV ⟨aw [(0,.ptr gi 0 0),(3,.cq (ca x)),(4,.ptr (os.length+1) 0 0),(5,.ref (E.getD x.pair.toNat default).1 2 0 (E.getD x.pair.toNat default).2)],os.set (D.getD c.toNat default).1 (.arr 2 (rowsOf a7 (kl (S.getD c.toNat default) x.opt.toNat x.dR)))++[.gone,.var (aP p),.var (ca x)]⟩ hn ?_ (λkey=>?_);rotate_left
 ·refine afD [5,10,13] (.take 0 (.take 4 (.take 5 (.four 1 (.four 2 (.four 3 (.three 6 (.take 7 (.take 8 (.take 9 (.take 10 (.take 11 (.take 12 (.take 13 (.take 14 .nil)))))))) 9 (.take 10 (.both 6 (.take 7 (.take 8 (.take 11 (.take 12 (.take 13 (.take 14 .nil)))))) 12 (.take 6 (.take 7 (.take 8 (.take 11 (.take 13 (.take 14 .nil)))))))) 12 (.take 13 (.both 6 (.take 7 (.take 8 (.take 9 (.take 10 (.take 11 (.take 14 .nil)))))) 9 (.take 6 (.take 7 (.take 8 (.take 10 (.take 11 (.take 14 .nil))))))))) 6 (.take 3 (.take 7 (.take 8 (.take 9 (.take 10 (.take 11 (.take 12 (.take 13 (.take 14 .nil))))))))) 9 (.take 10 (.three 3 (.both 6 (.take 7 (.take 8 (.take 11 (.take 12 (.take 13 (.take 14 .nil)))))) 12 (.take 6 (.take 7 (.take 8 (.take 11 (.take 13 (.take 14 .nil))))))) 6 (.take 3 (.take 7 (.take 8 (.take 11 (.take 12 (.take 13 (.take 14 .nil))))))) 12 (.take 13 (.both 3 (.take 6 (.take 7 (.take 8 (.take 11 (.take 14 .nil))))) 6 (.take 3 (.take 7 (.take 8 (.take 11 (.take 14 .nil))))))))) 12 (.take 13 (.three 3 (.both 6 (.take 7 (.take 8 (.take 9 (.take 10 (.take 11 (.take 14 .nil)))))) 9 (.take 6 (.take 7 (.take 8 (.take 10 (.take 11 (.take 14 .nil))))))) 6 (.take 3 (.take 7 (.take 8 (.take 9 (.take 10 (.take 11 (.take 14 .nil))))))) 9 (.take 10 (.both 3 (.take 6 (.take 7 (.take 8 (.take 11 (.take 14 .nil))))) 6 (.take 3 (.take 7 (.take 8 (.take 11 (.take 14 .nil)))))))))) 6 (.take 2 (.take 3 (.take 7 (.take 8 (.take 9 (.take 10 (.take 11 (.take 12 (.take 13 (.take 14 .nil)))))))))) 9 (.take 10 (.three 2 (.three 3 (.both 6 (.take 7 (.take 8 (.take 11 (.take 12 (.take 13 (.take 14 .nil)))))) 12 (.take 6 (.take 7 (.take 8 (.take 11 (.take 13 (.take 14 .nil))))))) 6 (.take 3 (.take 7 (.take 8 (.take 11 (.take 12 (.take 13 (.take 14 .nil))))))) 12 (.take 13 (.both 3 (.take 6 (.take 7 (.take 8 (.take 11 (.take 14 .nil))))) 6 (.take 3 (.take 7 (.take 8 (.take 11 (.take 14 .nil)))))))) 6 (.take 2 (.take 3 (.take 7 (.take 8 (.take 11 (.take 12 (.take 13 (.take 14 .nil)))))))) 12 (.take 13 (.both 2 (.both 3 (.take 6 (.take 7 (.take 8 (.take 11 (.take 14 .nil))))) 6 (.take 3 (.take 7 (.take 8 (.take 11 (.take 14 .nil)))))) 6 (.take 2 (.take 3 (.take 7 (.take 8 (.take 11 (.take 14 .nil)))))))))) 12 (.take 13 (.three 2 (.three 3 (.both 6 (.take 7 (.take 8 (.take 9 (.take 10 (.take 11 (.take 14 .nil)))))) 9 (.take 6 (.take 7 (.take 8 (.take 10 (.take 11 (.take 14 .nil))))))) 6 (.take 3 (.take 7 (.take 8 (.take 9 (.take 10 (.take 11 (.take 14 .nil))))))) 9 (.take 10 (.both 3 (.take 6 (.take 7 (.take 8 (.take 11 (.take 14 .nil))))) 6 (.take 3 (.take 7 (.take 8 (.take 11 (.take 14 .nil)))))))) 6 (.take 2 (.take 3 (.take 7 (.take 8 (.take 9 (.take 10 (.take 11 (.take 14 .nil)))))))) 9 (.take 10 (.both 2 (.both 3 (.take 6 (.take 7 (.take 8 (.take 11 (.take 14 .nil))))) 6 (.take 3 (.take 7 (.take 8 (.take 11 (.take 14 .nil)))))) 6 (.take 2 (.take 3 (.take 7 (.take 8 (.take 11 (.take 14 .nil))))))))))) 6 (.take 1 (.take 2 (.take 3 (.take 7 (.take 8 (.take 9 (.take 10 (.take 11 (.take 12 (.take 13 (.take 14 .nil))))))))))) 9 (.take 10 (.three 1 (.three 2 (.three 3 (.both 6 (.take 7 (.take 8 (.take 11 (.take 12 (.take 13 (.take 14 .nil)))))) 12 (.take 6 (.take 7 (.take 8 (.take 11 (.take 13 (.take 14 .nil))))))) 6 (.take 3 (.take 7 (.take 8 (.take 11 (.take 12 (.take 13 (.take 14 .nil))))))) 12 (.take 13 (.both 3 (.take 6 (.take 7 (.take 8 (.take 11 (.take 14 .nil))))) 6 (.take 3 (.take 7 (.take 8 (.take 11 (.take 14 .nil)))))))) 6 (.take 2 (.take 3 (.take 7 (.take 8 (.take 11 (.take 12 (.take 13 (.take 14 .nil)))))))) 12 (.take 13 (.both 2 (.both 3 (.take 6 (.take 7 (.take 8 (.take 11 (.take 14 .nil))))) 6 (.take 3 (.take 7 (.take 8 (.take 11 (.take 14 .nil)))))) 6 (.take 2 (.take 3 (.take 7 (.take 8 (.take 11 (.take 14 .nil))))))))) 6 (.take 1 (.take 2 (.take 3 (.take 7 (.take 8 (.take 11 (.take 12 (.take 13 (.take 14 .nil))))))))) 12 (.take 13 (.both 1 (.both 2 (.both 3 (.take 6 (.take 7 (.take 8 (.take 11 (.take 14 .nil))))) 6 (.take 3 (.take 7 (.take 8 (.take 11 (.take 14 .nil)))))) 6 (.take 2 (.take 3 (.take 7 (.take 8 (.take 11 (.take 14 .nil))))))) 6 (.take 1 (.take 2 (.take 3 (.take 7 (.take 8 (.take 11 (.take 14 .nil))))))))))) 12 (.take 13 (.three 1 (.three 2 (.three 3 (.both 6 (.take 7 (.take 8 (.take 9 (.take 10 (.take 11 (.take 14 .nil)))))) 9 (.take 6 (.take 7 (.take 8 (.take 10 (.take 11 (.take 14 .nil))))))) 6 (.take 3 (.take 7 (.take 8 (.take 9 (.take 10 (.take 11 (.take 14 .nil))))))) 9 (.take 10 (.both 3 (.take 6 (.take 7 (.take 8 (.take 11 (.take 14 .nil))))) 6 (.take 3 (.take 7 (.take 8 (.take 11 (.take 14 .nil)))))))) 6 (.take 2 (.take 3 (.take 7 (.take 8 (.take 9 (.take 10 (.take 11 (.take 14 .nil)))))))) 9 (.take 10 (.both 2 (.both 3 (.take 6 (.take 7 (.take 8 (.take 11 (.take 14 .nil))))) 6 (.take 3 (.take 7 (.take 8 (.take 11 (.take 14 .nil)))))) 6 (.take 2 (.take 3 (.take 7 (.take 8 (.take 11 (.take 14 .nil))))))))) 6 (.take 1 (.take 2 (.take 3 (.take 7 (.take 8 (.take 9 (.take 10 (.take 11 (.take 14 .nil))))))))) 9 (.take 10 (.both 1 (.both 2 (.both 3 (.take 6 (.take 7 (.take 8 (.take 11 (.take 14 .nil))))) 6 (.take 3 (.take 7 (.take 8 (.take 11 (.take 14 .nil)))))) 6 (.take 2 (.take 3 (.take 7 (.take 8 (.take 11 (.take 14 .nil))))))) 6 (.take 1 (.take 2 (.take 3 (.take 7 (.take 8 (.take 11 (.take 14 .nil))))))))))))))) rfl Px (by decide +kernel) ?_;simp(disch:=omega)only[Ac,↓Pc,simprocAttr,HX,HW,HV,HU,Ey,dj,↓Lq,eg,ea,gC,cW,cy,qd,ca];repeat'(first|with_reducible refine eR ?_ ?_|omega|(refine ig cm GF ?_;simp(disch:=omega)only[Ac,↓Pc,simprocAttr,HX,HW,HV,HU,Ey,dj,↓Lq,eg,ea,gC,cW,cy,qd,ca,cM])|(refine ig nY GF ?_;simp(disch:=omega)only[Ac,↓Pc,simprocAttr,Ey,sd,cM]))
  all_goals
   refine key _ ?_;exact Xv @ca.eq_1
 (try clear hn;try clear he)
 try(try clear Q)
 have pz:=(h.Ns (j:=c.toNat) GC (r:=kl (S.getD c.toNat default) x.opt.toNat x.dR) (yg _ _ _)).app [.gone,.var (aP p),.var (ca x)];have Oa:os.length<=(os.set (D.getD c.toNat default).1 (.arr 2 (rowsOf a7 (kl (S.getD c.toNat default) x.opt.toNat x.dR)))++[Ob.gone,Ob.var (aP p),Ob.var (ca x)]).length:=GF;have fp2:(os.set (D.getD c.toNat default).1 (.arr 2 (rowsOf a7 (kl (S.getD c.toNat default) x.opt.toNat x.dR)))++[Ob.gone,Ob.var (aP p),Ob.var (ca x)])[os.length+1]?=some (.var (aP p)):=vA _ _ _ _ _;have hmS:kC m x (S,T)=(S.set c.toNat (kl (S.getD c.toNat default) x.opt.toNat x.dR),T.set x.pair.toNat (iB (pw m x).1 x.dR (pw m x).2 (T.getD x.pair.toNat default))):=by unfold kC;rw[N']
 rw[hmS];dsimp only;have w0:x.pair.toNat<T.length:=GC;have Jo:pw m x=if x.side=0 then(λk:Nat=>(x.opt*dV+k).toNat,dV) else(λk:Nat=>((k:Int)*dV+x.opt).toNat,rows):=by unfold pw;rw[b6,FX,N7]
 have Jp:c=if x.side=0 then p.fst else p.snd:=by rw[<- N'];unfold fR;rw[b6]
 have Od:=uh hg.tb x.pair.toNat;dsimp only at Od;have nW:=Bh dE hm;generalize hS':S.set c.toNat (kl (S.getD c.toNat default) x.opt.toNat x.dR)=S' at *;generalize os.set (D.getD c.toNat default).1 (.arr 2 (rowsOf a7 (kl (S.getD c.toNat default) x.opt.toNat x.dR)))++[Ob.gone,.var (aP p),.var (ca x)]=tp at *;obtain⟨gg,ga,gb⟩:=zL pz;obtain⟨u1,u2⟩:=pz.rD.row p.snd.toNat GC;obtain⟨v1,v2⟩:=pz.rD.row p.fst.toNat GC;clear fg eg fa ea fb eb te m5 qe qd Jh rF1 C6 fp cm fg1 fa1 qd1 eg1 ea1 ed1 ep1 nY sd h;have FM:(D.getD p.snd.toNat default).2=dV:=by rw[<- NU];exact FI
 have aba:(D.getD p.fst.toNat default).2=rows:=by rw[<- rF2];exact hFl
 by_cases hs:x.side=0
 ·rw[if_pos hs]at Jp Jo;rw[Jp]at o4;rw[Jo];dsimp only;((repeat'(first|refine Vb (X5 @gg @ga @gC.eq_1 @cW.eq_1 (X5 @fp2 @aP.eq_1 @u1 @v1 (X3 @FM @aba @ca.eq_1))) ?_|(refine Xi ?_ ?_<;>try intro ht)|exact Xx|fail)))
  refine aM (λz:Nat×List Ob=>(⟨aw [(3,.cq (ca x)),(5,.ref (E.getD x.pair.toNat default).1 2 0 (E.getD x.pair.toNat default).2),(6,aaC dV),(53,aaC dV),(54,aaC z.1)],z.2⟩:St))
   (λz=>z.1<=dV/\LO a7 (GB m gi ai bi D E) D E S' (T.set x.pair.toNat (iB (λk:Nat=>(x.opt*dV+k).toNat) x.dR z.1 (T.getD x.pair.toNat default))) z.2/\os.length<=z.2.length)
   (λz=>dV-z.1) (0,tp) ⟨aI _,by rw[iB,Ft];exact pz,Oa⟩ (Xv @ca.eq_1) ?_
  rintro⟨k,ok⟩⟨hk,k8,iX⟩Ql an ar;dsimp only at hk k8 iX ⊢;obtain⟨tj,Bo⟩:=k8.rE.row x.pair.toNat GC;rw[vz _ _ _ w0]at tj Bo;have fM:=A5 (λk:Nat=>(x.opt*dV+k).toNat) x.dR k (T.getD x.pair.toNat default);have Jl:=(Od.sub GC (λk:Nat=>(x.opt*dV+k).toNat) (a:=x.dR) GC k).get GC (x.opt*dV+k:Int).toNat;by_cases aK:k<dV
  ·have yq:=k8.I2 (j:=x.pair.toNat) GC (r:=kl (iB (λk:Nat=>(x.opt*dV+k).toNat) x.dR k (T.getD x.pair.toNat default)) (x.opt*dV+k:Int).toNat (-x.dR)) (by rw[vz _ _ _ w0];exact yg _ _ _);rw[xn]at yq;obtain⟨N3,N4,N5,N6⟩:=Jk (a:=x.opt) (k:=(k:Int)) (c:=(dV:Int)) (n:=(rows:Int)) ⟨o3,GC⟩ GC GC GC;generalize vG:(x.opt*dV+k:Int)=ix at *;generalize im:iB (λk:Nat=>(x.opt*dV+k).toNat) x.dR k (T.getD x.pair.toNat default)=tk at *;have nY:=N9 tj (r:=ix.toNat) GC (-x.dR) (by unfold gk;omega);((repeat'(first|refine Va (X3 @tj @ca.eq_1 @vG) ?_|(refine Xi ?_ ?_<;>try intro ht)|exact Xx|fail))<;>try with_reducible intro K hK)
   refine ig nY GF ?_;((try revert hK K);(refine Va X0 ?_))
   refine an _ (k+1,_) ⟨PA,by rw[iB,im,vG];exact yq,by dsimp only;rw[bF];exact iX⟩ PA ?_;exact Xv @ca.eq_1
  ·have vH:k=dV:=GC;rw[vH]at k8;((repeat'(first|refine Va X0 ?_|(refine Xi ?_ ?_<;>try intro ht)|exact Xx|fail)))
   refine ar _ _ rfl ?_;clear an ar Ql;repeat(refine Xu ?_)
   refine Vb X0 ?_;unfold gu;simp only[eF,ew];exact⟨.bJ [],_,⟨rfl,k8,iX⟩,eu rfl iX rfl⟩
 ·rw[if_neg hs]at Jp Jo;rw[Jp]at o4;rw[Jo];dsimp only;((repeat'(first|refine Vb (X5 @gg @ga @gC.eq_1 @cW.eq_1 (X5 @fp2 @aP.eq_1 @u1 @v1 (X3 @FM @aba @ca.eq_1))) ?_|(refine Xi ?_ ?_<;>try intro ht)|exact Xx|fail)))
  refine aM (λz:Nat×List Ob=>(⟨aw [(3,.cq (ca x)),(5,.ref (E.getD x.pair.toNat default).1 2 0 (E.getD x.pair.toNat default).2),(6,aaC dV),(78,aaC rows),(79,aaC z.1)],z.2⟩:St))
   (λz=>z.1<=rows/\LO a7 (GB m gi ai bi D E) D E S' (T.set x.pair.toNat (iB (λk:Nat=>((k:Int)*dV+x.opt).toNat) x.dR z.1 (T.getD x.pair.toNat default))) z.2/\os.length<=z.2.length)
   (λz=>rows-z.1) (0,tp) ⟨aI _,by rw[iB,Ft];exact pz,Oa⟩ (Xv @ca.eq_1) ?_
  rintro⟨k,ok⟩⟨hk,k8,iX⟩Ql an ar;dsimp only at hk k8 iX ⊢;obtain⟨tj,Bo⟩:=k8.rE.row x.pair.toNat GC;rw[vz _ _ _ w0]at tj Bo;have fM:=A5 (λk:Nat=>((k:Int)*dV+x.opt).toNat) x.dR k (T.getD x.pair.toNat default);have Jl:=(Od.sub GC (λk:Nat=>((k:Int)*dV+x.opt).toNat) (a:=x.dR) GC k).get GC ((k:Int)*dV+x.opt).toNat;by_cases aK:k<rows
  ·have yq:=k8.I2 (j:=x.pair.toNat) GC (r:=kl (iB (λk:Nat=>((k:Int)*dV+x.opt).toNat) x.dR k (T.getD x.pair.toNat default)) ((k:Int)*dV+x.opt).toNat (-x.dR)) (by rw[vz _ _ _ w0];exact yg _ _ _);rw[xn]at yq;obtain⟨N3,N4,N5,N6⟩:=Jk (a:=(k:Int)) (k:=x.opt) (c:=(dV:Int)) (n:=(rows:Int)) GC ⟨o3,GC⟩ GC GC;generalize vG:((k:Int)*dV+x.opt)=ix at *;generalize im:iB (λk:Nat=>((k:Int)*dV+x.opt).toNat) x.dR k (T.getD x.pair.toNat default)=tk at *;have nY:=N9 tj (r:=ix.toNat) GC (-x.dR) (by unfold gk;omega);((repeat'(first|refine Va (X3 @tj @ca.eq_1 @vG) ?_|(refine Xi ?_ ?_<;>try intro ht)|exact Xx|fail))<;>try with_reducible intro K hK)
   refine ig nY GF ?_;((try revert hK K);(refine Va X0 ?_))
   refine an _ (k+1,_) ⟨PA,by rw[iB,im,vG];exact yq,by dsimp only;rw[bF];exact iX⟩ PA ?_;exact Xv @ca.eq_1
  ·have vH:k=rows:=GC;rw[vH]at k8;((repeat'(first|refine Va X0 ?_|(refine Xi ?_ ?_<;>try intro ht)|exact Xx|fail)))
   refine ar _ _ rfl ?_;clear an ar Ql;repeat(refine Xu ?_)
   ((skip))
   unfold gu;simp only[eF,ew];exact⟨.bJ [],_,⟨rfl,k8,iX⟩,eu rfl iX rfl⟩
end T

