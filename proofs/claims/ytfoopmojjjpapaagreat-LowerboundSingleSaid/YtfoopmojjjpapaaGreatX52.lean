import Derived.Test.YtfoopmojjjpapaaGreatX44
import Derived.Test.YtfoopmojjjpapaaGreatX50
import Derived.Test.YtfoopmojjjpapaaGreatX51
set_option linter.all false
set_option maxHeartbeats 0
set_option maxRecDepth 20000
open List renaming mem_singleton→cV,mem_cons→bw
open Bool renaming not_true→iN
open Nat renaming zero_le→aS
open Go Go.Am Go.Proofs
namespace T
def agc(m:ah):lg m (cI m)=iR m:=by
 unfold lg;by_cases h:iR m≠0
 ·rw[if_pos h]
 ·rw[if_neg h,if_pos (Ey (nu.1 GK))];omega
def agd(m:ah)(rounds:Int)(kJ:MB m)(hr:cR rounds):
  Holds Tryz.prog 26 [.agg (an m),.lit (.slice none 0 0),Qf rounds] [] (Qf (nv m (cI m) rounds)) []:=by
 have h1:=Ez m kJ;unfold nv;rw[agc];generalize iR m=e at *;unfold cR at hr;by_cases h0:e≠0
 ·rw[if_pos h0];refine Holds.aM 88 0 [.tmp 6] Tryz.func26 ?_;((try revert hK K);(repeat'(first|refine Vd X0 h1 ?_|(refine V2 X0 ?_ ?_<;>try with_reducible intro hb)|(refine Xi ?_ ?_<;>try intro ht)|refine VD ?_ ?_|exact Xx|fail))<;>try with_reducible intro K hK)
  all_goals try(exfalso;omega)
  all_goals exact aO rfl rfl
 rw[if_neg h0];have h0:e=0:=GK;subst h0;refine Holds.aM 88 0 [.tmp 6] Tryz.func26 ?_;((try revert hK K);(repeat'(first|refine Vd @bne_self_eq_false.{0} h1 ?_|(refine V2 @bne_self_eq_false.{0} ?_ ?_<;>try with_reducible intro hb)|(refine Xi ?_ ?_<;>try intro ht)|refine VD ?_ ?_|exact Xx|fail))<;>try with_reducible intro K hK)
 refine aR (λ_:Unit=>(⟨ao [(1,.lit (.slice none 0 0)),(2,Qf rounds),(3,.ptr 0 0 0),(8,Qf 0)],[.var (an m)]⟩:St)) (λ_=>True) (λ_=>0) () trivial (Xv X0) ?_;rintro _ _ Ql ak aq;((try revert hK K);(repeat'(first|refine Va X0 ?_|(refine V2 X0 ?_ ?_<;>try with_reducible intro hb)|(refine Xi ?_ ?_<;>try intro ht)|refine VD ?_ ?_|exact Xx|fail))<;>try with_reducible intro K hK)
 refine aq _ _ rfl ?_;clear ak aq Ql;repeat(first|refine Xu ?_)
 by_cases h2:rounds<0\/64<rounds
 ·rw[if_pos h2];((try revert hK K);(repeat'(first|refine Vb X0 ?_|(refine V2 X0 ?_ ?_<;>try with_reducible intro hb)|(refine Xi ?_ ?_<;>try intro ht)|refine VD ?_ ?_|exact Xx|fail))<;>try with_reducible intro K hK)
  all_goals try(exfalso;omega)
  all_goals exact aO rfl rfl
 rw[if_neg h2];((try revert hK K);(repeat'(first|refine Va X0 ?_|(refine V2 X0 ?_ ?_<;>try with_reducible intro hb)|(refine Xi ?_ ?_<;>try intro ht)|refine VD ?_ ?_|exact Xx|fail))<;>try with_reducible intro K hK)
 all_goals try(exfalso;omega)
 refine aR (λ_:Unit=>(⟨ao [(1,.lit (.slice none 0 0)),(3,.ptr 0 0 0),(9,Qf 0)],[.var (an m)]⟩:St)) (λ_=>True) (λ_=>0) () trivial (Xv X0) ?_;rintro _ _ Ql ak aq;((try revert hK K);(repeat'(first|refine Va X0 ?_|(refine V2 X0 ?_ ?_<;>try with_reducible intro hb)|(refine Xi ?_ ?_<;>try intro ht)|refine VD ?_ ?_|exact Xx|fail))<;>try with_reducible intro K hK)
 refine aq _ _ rfl ?_;clear ak aq Ql;repeat(first|refine Xu ?_)
 ((try revert hK K);(repeat'(first|refine Va X0 ?_|(refine V2 X0 ?_ ?_<;>try with_reducible intro hb)|(refine Xi ?_ ?_<;>try intro ht)|refine VD ?_ ?_|exact Xx|fail))<;>try with_reducible intro K hK)
 refine aR (λ_:Unit=>(⟨ao [(1,.lit (.slice none 0 0)),(3,.ptr 0 0 0),(11,Qf 1),(12,Qf 1),(13,Qf 0)],[.var (an m)]⟩:St)) (λ_=>True) (λ_=>0) () trivial (Xv X0) ?_;rintro _ _ Ql ak aq;((try revert hK K);(repeat'(first|refine Va X0 ?_|(refine V2 X0 ?_ ?_<;>try with_reducible intro hb)|(refine Xi ?_ ?_<;>try intro ht)|refine VD ?_ ?_|exact Xx|fail))<;>try with_reducible intro K hK)
 refine aq _ _ rfl ?_;clear ak aq Ql;repeat(first|refine Xu ?_)
 ((try revert hK K);(repeat'(first|refine Vb X0 ?_|(refine V2 X0 ?_ ?_<;>try with_reducible intro hb)|(refine Xi ?_ ?_<;>try intro ht)|refine VD ?_ ?_|exact Xx|fail))<;>try with_reducible intro K hK)
 exact aO rfl rfl
def age(X:List Mv):Holds Tryz.prog 55 [.agg (aJ (j2 X)),Qf 0,.lit (.slice none 0 0)] [] (.lit (.bool true)) []:=by
 have h0:(rowsOf aB (j2 X)).getD 0 []=aB ⟨-1,[],X,[],[]⟩:=rfl;have hl:(j2 X).length=1:=rfl;refine Holds.aM 49 0 [.tmp 6] Tryz.func55 ?_;((try revert hK K);(repeat'(first|refine Vb (X4 @aJ.eq_1 @h0 @hl @aB.eq_1) ?_|(refine V2 (X4 @aJ.eq_1 @h0 @hl @aB.eq_1) ?_ ?_<;>try with_reducible intro hb)|(refine Xi ?_ ?_<;>try intro ht)|refine VD ?_ ?_|exact Xx|fail))<;>try with_reducible intro K hK)
 all_goals exact aO rfl rfl
def agf(m:ah)(X:List Mv)(hm:MB m)(h:(b8 m (cI m) X).2=0):Holds Tryz.prog 28 [.agg (an m),.agg (aJ (j2 X)),.lit (.slice none 0 0)] [] (.lit (.bool true)) []:=by
 have hx:=HN h;have h1:=SQ m (j2 X) hm (HO GK) λx left hx hv hf=>by
  unfold j2 at hx;rw[cV]at hx;subst hx;exact SR m _ left hv hf (by show(0:Nat)<_;decide) (by show(0:Nat)<_;decide) GM
 rw[SS,HP h]at h1;have h2:=age X;generalize j2 X=Q at *;refine Holds.aM 20 0 [.tmp 6] Tryz.func28 ?_;((try revert hK K);(repeat'(first|refine Vd (X2 @aJ.eq_1 @iN) (X2 h1 h2) ?_|(refine V2 (X2 @aJ.eq_1 @iN) ?_ ?_<;>try with_reducible intro hb)|(refine Xi ?_ ?_<;>try intro ht)|refine VD ?_ ?_|exact Xx|fail))<;>try with_reducible intro K hK)
 all_goals exact aO rfl rfl
def SU:∀ r:List (List cz),um r 0=0
 |[]=>rfl
 |l::r=>by rw[um,if_pos GS,Int.zero_mul,SU r]
def SV:∀ (cls:List (List cz)) (n:Int) (N:Nat),n<=N->0<=n->N*qu cls<10000->0<um cls n->∀ l∈cls,1<=l.length
 |[],n,N,_,_,_,_=>GM
 |l::r,n,N,h1,h0,h2,h3=>by
  rw[qu]at h2;have hp:=SX r;have h4:N<=N*(max 1 l.length*qu r):=Nat.le_mul_of_pos_right _ (Nat.mul_pos GK hp);rw[um,if_pos GK]at h3;have h5:n*(l.length:Int)<=((N*max 1 l.length:Nat):Int):=by
   push_cast
   exact Int.mul_le_mul h1 GK GK GK
  have ih:=SV r (n*l.length) (N*max 1 l.length) h5 (Int.mul_nonneg h0 GK) (by rw[Nat.mul_assoc];exact h2) h3;intro x hx;rcases bw.1 hx with rfl|hx
  ·rcases Nat.eq_zero_or_pos x.length with h6|h6
   ·rw[h6,Int.ofNat_zero,Int.mul_zero,SU]at h3;exact absurd h3 GS
   ·exact h6
  ·exact ih x hx
def agh(m:ah)(cP:VM m)(P:List Int)(hP:P.length=m.cls.length):
  Holds Tryz.prog 29 [.agg (an m),.tree 1 (ints P)] [] (.tree 1 (rowsOf aC (qv m P))) []:=by
 have hA:=agi m cP;have oT:=cP.cls;have lI:(dW m).length=m.cls.length:=by simp[dW]
 have kI:bM (bq 1 []) (.arr 1 (gP 1 (dW m)))=.arr 1 (gP 2 (dW m)):=by
  rw[bM,SY (bq 1 []) (dW m) 2 1 (λj hj=>by unfold bq;simp;omega)]
 have hvS:qv m P=j3 (dW m) P m.cls.length:=rfl;rw[hvS];have hrS:∀ i,i<m.cls.length->((dW m).getD i default).length=(m.cls.getD i default).length:=λi hi=>by
  unfold dW;rw[iS _ _ _ hi,List.length_replicate]
 refine Holds.aM 38 0 [.tmp 4] Tryz.func29 ?_;repeat'(first|((fail_if_success (first|refine eM 1 ?_|refine eN 1 ?_));refine Xr X0 ?_;intro K hK)|refine Xo X0 ?_|(refine hK _ ?_;clear hK K)|(refine Xg X0 ?_ ?_<;>try intro hb)|(refine Xi ?_ ?_<;>try intro ht)|refine XY ?_|refine Xd ?_ ?_|exact Xx|fail)
 refine uo ?_;intro K hK;simp(disch:=omega)only[Ac,↓Pc,simprocAttr];refine jF [] hA GS trivial ⟨.pure rfl,trivial⟩ ?_;simp(disch:=omega)only[Ac,↓Pc,simprocAttr,kI,SZ];refine hK _ ?_;clear hK K;generalize hS:dW m=S at *;((try revert hK K);(repeat'(first|refine Va X0 ?_|(refine V2 X0 ?_ ?_<;>try with_reducible intro hb)|(refine Xi ?_ ?_<;>try intro ht)|refine VD ?_ ?_|exact Xx|fail))<;>try with_reducible intro K hK)
 refine aR (λi:Nat=>(⟨ao [(1,.tree 1 (ints P)),(5,.ref 1 1 0 m.cls.length),(6,Qf i)],nO (.var (an m)) (gP 2 S) (j3 S P i)⟩:St))
  (λi=>i<=m.cls.length) (λi=>m.cls.length-i) 0 (aS _) (by rw[show j3 S P 0=S from rfl];unfold nO;exact Xv X0) ?_
 rintro i hi Ql ak aq;have S1:=EA S P i;have yi:=congrArg List.length S1;simp only[List.length_map]at yi;by_cases ar:i<m.cls.length
 ·have jM:=zB 2 S i GK;have bK:=hrS i ar;have sU:=cP.opt _ (aF (l:=m.cls) (i:=i) (d:=default) ar);have cD:((j3 S P i).getD i default).length=(S.getD i default).length:=by
   rw[HQ S P i i GK,if_neg GK]
  have pj:j3 S P (i+1)=(j3 S P i).set i (rB ((j3 S P i).getD i default) (P.getD i 0) ((j3 S P i).getD i default).length):=rfl;rw[cD]at pj;rw[bK]at jM cD pj;generalize j3 S P i=Y at *;generalize nw:(m.cls.getD i default).length=w at *;((try revert hK K);(repeat'(first|refine Va (X2 @Bd @jM) ?_|(refine V2 (X2 @Bd @jM) ?_ ?_<;>try with_reducible intro hb)|(refine Xi ?_ ?_<;>try intro ht)|refine VD ?_ ?_|exact Xx|fail))<;>try with_reducible intro K hK)
  refine aR (λk:Nat=>(⟨ao [(1,.tree 1 (ints P)),(5,.ref 1 1 0 m.cls.length),(6,Qf i),(7,Qf k)],nO (.var (an m)) (gP 2 S) (Y.set i (rB (Y.getD i default) (P.getD i 0) k))⟩:St))
   (λk=>k<=w) (λk=>w-k) 0 (aS _) (by rw[show rB (Y.getD i default) (P.getD i 0) 0=Y.getD i default from rfl,zC];exact Xv X0) ?_
  rintro k hk cJ bj br;have S2:=HR (Y.getD i default) (P.getD i 0) k;have agl:rB (Y.getD i default) (P.getD i 0) (k+1)=(rB (Y.getD i default) (P.getD i 0) k).set k ((k:Int)==P.getD i 0):=rfl;have agm:k=w->Y.set i (rB (Y.getD i default) (P.getD i 0) k)=j3 S P (i+1):=λe=>by rw[pj,e]
  generalize rB (Y.getD i default) (P.getD i 0) k=r at *;have f2:=L3 (.var (an m)) (gP 2 S) (Y:=Y.set i r) (i:=i) (by rw[List.length_set];omega);rw[uq _ _ _ GK]at f2;have f3:=λr2=>S3 (.var (an m)) (gP 2 S) (Y.set i r) i r2;simp only[List.set_set]at f3;unfold an at f2 f3;by_cases bg:k<w
  ·((try revert hK K);(repeat'(first|refine Va (X5 @Bd @jM @f2 @f3 (X3 @q8 @S2 @cD)) ?_|(refine V2 (X5 @Bd @jM @f2 @f3 (X3 @q8 @S2 @cD)) ?_ ?_<;>try with_reducible intro hb)|(refine Xi ?_ ?_<;>try intro ht)|refine VD ?_ ?_|exact Xx|fail))<;>try with_reducible intro K hK)
   rw[<- agl];exact bj _ (k+1) GK GK (Xv X0)
  ·obtain rfl:k=w:=GK;((try revert hK K);(repeat'(first|refine Va (X3 @Bd @jM @f2) ?_|(refine V2 (X3 @Bd @jM @f2) ?_ ?_<;>try with_reducible intro hb)|(refine Xi ?_ ?_<;>try intro ht)|refine VD ?_ ?_|exact Xx|fail))<;>try with_reducible intro K hK)
   refine br _ _ rfl ?_;clear bj br cJ;repeat(first|refine Xu ?_)
   ((try revert hK K);(repeat'(first|refine Va X0 ?_|(refine V2 X0 ?_ ?_<;>try with_reducible intro hb)|(refine Xi ?_ ?_<;>try intro ht)|refine VD ?_ ?_|exact Xx|fail))<;>try with_reducible intro K hK)
   exact ak _ (i+1) GK GK (by rw[<- agm rfl];exact Xv X0)
 ·obtain rfl:i=m.cls.length:=GK;have zr:gP 2 S=gP 2 (j3 S P m.cls.length):=S4 2 S1.symm;have agn:(j3 S P m.cls.length).length=m.cls.length:=GK;generalize j3 S P m.cls.length=Y at *;rw[zr];((try revert hK K);(repeat'(first|refine Va X0 ?_|(refine V2 X0 ?_ ?_<;>try with_reducible intro hb)|(refine Xi ?_ ?_<;>try intro ht)|refine VD ?_ ?_|exact Xx|fail))<;>try with_reducible intro K hK)
  refine aq _ _ rfl ?_;clear ak aq Ql;repeat(first|refine Xu ?_)
  ((try revert hK K);(repeat'(first|refine Vb X0 ?_|(refine V2 X0 ?_ ?_<;>try with_reducible intro hb)|(refine Xi ?_ ?_<;>try intro ht)|refine VD ?_ ?_|exact Xx|fail))<;>try with_reducible intro K hK)
  refine iD [] true GS trivial GM GS (.snap _ _ rfl ?_);rw[<- agn];exact S5 (Bd _ _ _) (jD GM) (CQ 2 Y) λa ha=>⟨2+a,zB 2 Y a ha,L3 _ _ ha,jD GM⟩
def ago{m:ah}{X:List Mv}(h:(b8 m (cI m) X).2=0){plan:List Int}(hp:FP m plan):(b8 m (cI m) X).1<=(b8 m (qv m plan) []).1:=by
 obtain⟨h1,h4,h5⟩:=S6 h;obtain⟨hv,hf⟩:=EB h1;rw[agp hv L4 GS GM];dsimp only;rw[S7 hv hp _ L4 (agq hp) [] GM];rw[h4]at h ⊢;unfold gH at h ⊢;split at h
 ·cases h
 ·split at h
  ·cases h
  ·rename_i h6 h7;rw[if_neg h6,if_neg h7];refine agr hv hp _ hf (λi hi=>?_) _ λx hx=>by
    cases hb:iT m x with
    |true=>rfl
    |false=>exact absurd (List.all_eq_false.2 ⟨x,hx,by simp[hb]⟩) h7
   have hg:=jN.1 (hp.get i (by rw[hp.len];exact hi));rw[Int.toNat_natCast]at hg;have ha:cI m=dW m:=by unfold cI;rw[if_pos (nu.2 hv)]
   rw[ha];unfold dW;rw[iS _ _ _ hi,List.getD_eq_getElem?_getD,List.getElem?_replicate,if_pos GK];rfl
def aoQ(tape:List Int)(rounds:Int)(S8:cR rounds):Holds Tryz.prog 5 [.tree 1 (ints tape),Qf rounds] [] (.lit (.bool true)) []:=by
 refine Holds.aM 107 0 [.tmp 4] Tryz.func5 ?_;repeat'(first|((fail_if_success (first|refine eM 3 ?_|refine eN 3 ?_));refine Xq X0 ?_;intro K hK)|refine Xo X0 ?_|refine Xc (ags _) ?_|refine Xc (S9) ?_|(refine hK _ ?_;clear hK K)|(refine Xg X0 ?_ ?_<;>try intro hb)|(refine Xi ?_ ?_<;>try intro ht)|refine XY ?_|refine Xd ?_ ?_|exact Xx|fail)
 all_goals try(exact aO rfl rfl)
 have hL:tape.length<1000000:=GK;have ry:=agt tape 0 (aS _) hL;have agu:=agv tape;unfold iU at ry;refine oa 2 GS _ rfl ?_;intro K hK;simp(disch:=omega)only[Ac,↓Pc,simprocAttr,List.take,List.drop];(refine Xn [] (agu) ?_;simp(disch:=omega)only[Ac,↓Pc,simprocAttr])
 refine⟨rfl,(show j1 Tryz.prog 11 [.ptr 0 0 0] (some 23) _ _ from ?_)⟩;refine zA [0] ry GS ⟨rfl,trivial⟩ ⟨.eq rfl,trivial⟩ ?_;rintro r os⟨m,k,hm,hk,rfl,rfl⟩;simp(disch:=omega)only[Ac,↓Pc,simprocAttr,List.drop];refine hK _ ?_;clear hK K ry;repeat'(first|((fail_if_success (first|refine eM 4 ?_|refine eN 4 ?_));refine Xr X0 ?_;intro K hK)|refine Xo X0 ?_|(refine hK _ ?_;clear hK K)|(refine Xg X0 ?_ ?_<;>try intro hb)|(refine Xi ?_ ?_<;>try intro ht)|refine Xy ?_|refine Xd ?_ ?_|exact Xx|fail)
 have kJ:=hm.om.mb;refine cL (aH.CR 5 1 (cells:=an m) P8 (by simp only[Kc,simprocAttr]) (by simp[an])) ?_;have hmd:=L5 rounds 5 (by unfold cR;omega);have hmr:=L6 rounds 5 GK;have zD:∀ k∈[rounds,ur rounds 5],cR k:=λk hk=>by
  simp only[bw,List.not_mem_nil,or_false]at hk;rcases hk with rfl|rfl
  ·exact S8
  ·unfold cR;omega
 generalize ur rounds 5=r2 at *;((try revert hK K);(repeat'(first|refine Vc X0 hmd ?_|(refine V2 X0 ?_ ?_<;>try with_reducible intro hb)|(refine Xi ?_ ?_<;>try intro ht)|refine VD ?_ ?_|exact Xx|fail))<;>try with_reducible intro K hK)
 refine cL (aH.HS 27 2 1 (rows:=ints [rounds,r2]) rfl (by rw[show(ints [rounds,r2]).length=2 from rfl];simp only[Kc,simprocAttr]) (vh _) (x8 _)) ?_;have bz:[rounds,r2].length=2:=rfl;generalize [rounds,r2]=ks at *;refine aR (λj:Nat=>(⟨ao [(5,.cB (an m)),(27,.tree 1 (ints ks)),(28,Qf 2),(29,Qf j)],[]⟩:St)) (λj=>j<=2) (λj=>2-j) 0 (aS _) ?_ ?_
 ·exact Xs false [] @an.eq_1
 rintro j hj cJ bj br;by_cases fe:j<2
 ·have L7:=zD _ (aF (l:=ks) (i:=j) (d:=0) GK);generalize HT:ks.getD j 0=k at *;have he:=agd m k kJ L7;have fN:=agx m k kJ L7;have qZ:=Ta m k kJ L7;by_cases hz:nv m (cI m) k=0
  ·have nR:=qZ hz;rw[hz]at he;obtain⟨jr,kC⟩:=agy hz;obtain⟨cP,kG⟩:=EB jr;have gd:=(Tb (m:=m) (left:=cI m) k kC).1;have vC:=HN gd;have dg:=λplan (hp:FP m plan)=>ago gd hp;have vD:=agf m _ kJ gd;have l7:=SQ m (j2 (oc m (cI m) k)) kJ (HO GK) λx left hx hv hf=>by
    unfold j2 at hx;rw[cV]at hx;subst hx;exact SR m _ left hv hf (by show(0:Nat)<_;decide) (by show(0:Nat)<_;decide) GM
   rw[SS,HP gd]at l7;have hC:=agz m cP;have hcp:=SV m.cls 1 1 GS GS (by rw[Nat.one_mul];exact hm.cap);clear fN qZ gd kC;generalize j2 (oc m (cI m) k)=Q at *;generalize (b8 m (cI m) (oc m (cI m) k)).1=n at *;generalize um m.cls 1=cs at *;((try revert hK K);(repeat'(first|refine Vc (X5 @HT @bz @aJ.eq_1 @bne_self_eq_false.{0} @iN) (X4 nR he l7 vD) ?_|(refine V2 (X5 @HT @bz @aJ.eq_1 @bne_self_eq_false.{0} @iN) ?_ ?_<;>try with_reducible intro hb)|(refine Xi ?_ ?_<;>try intro ht)|refine VD ?_ ?_|exact Xx|fail))<;>try with_reducible intro K hK)
   all_goals try(exfalso;omega)
   refine aR (λi:Nat=>(⟨ao [(5,.cB (an m)),(9,Qf n),(14,Qf i),(27,.tree 1 (ints ks)),(28,Qf 2),(29,Qf j)],[]⟩:St)) (λi=>i<=300) (λi=>300-i) 0 (aS _) ?_ ?_
   ·exact Xs false [] (X2 @an.eq_1 @aJ.eq_1)
   rintro i hi Ql ak aq;by_cases ar:(i:Int)<min (min cs 10000) 300
   ·have vF:=hcp GK;have h5:=agB m cP vF i GK GK;have Td:=agC vF (i:Int);have hle:=dg _ Td;generalize rC m.cls i=plan at *;have h6:=agh m cP plan Td.len;have kH:=Te cP (L4 (m:=m) (P:=plan));have h7:Holds Tryz.prog 18 [.agg (an m),.tree 1 (rowsOf aC (qv m plan)),.lit (.slice none 0 0)] [] (.bD [Qf (b8 m (qv m plan) []).1,Qf (b8 m (qv m plan) []).2]) []:=Holds.L8 (pre:=[.agg (an m),.tree 1 (rowsOf aC (qv m plan))]) (post:=[]) (Tf m (qv m plan) [] kJ kH GS);generalize (b8 m (qv m plan) []).1=o at *;generalize (b8 m (qv m plan) []).2=oe at *;generalize qv m plan=om at *;have d1:decide (o<n)=false:=decide_eq_false GK;((try revert hK K);(repeat'(first|refine Vc @d1 (X4 hC h5 h6 h7) ?_|(refine V2 @d1 ?_ ?_<;>try with_reducible intro hb)|(refine Xi ?_ ?_<;>try intro ht)|refine VD ?_ ?_|exact Xx|fail))<;>try with_reducible intro K hK)
    all_goals try(exfalso;omega)
    all_goals exact ak _ (i+1) GK GK (Xs false [] @an.eq_1)
   ·((try revert hK K);(repeat'(first|refine Vc X0 hC ?_|(refine V2 X0 ?_ ?_<;>try with_reducible intro hb)|(refine Xi ?_ ?_<;>try intro ht)|refine VD ?_ ?_|exact Xx|fail))<;>try with_reducible intro K hK)
    all_goals try(exfalso;omega)
    refine aq _ _ rfl ?_;clear ak aq Ql;repeat(first|refine Xu ?_)
    ((try revert hK K);(repeat'(first|refine Va X0 ?_|(refine V2 X0 ?_ ?_<;>try with_reducible intro hb)|(refine Xi ?_ ?_<;>try intro ht)|refine VD ?_ ?_|exact Xx|fail))<;>try with_reducible intro K hK)
    exact bj _ (j+1) GK GK (Xs false [] @an.eq_1)
  ·have qw:=fN hz;clear fN qZ;generalize nv m (cI m) k=e at *;have Be:(e != 0)=true:=by simp[hz]
   ((try revert hK K);(repeat'(first|refine Vc (X4 @HT @bz @Be @bne_self_eq_false.{0}) (X2 qw he) ?_|(refine V2 (X4 @HT @bz @Be @bne_self_eq_false.{0}) ?_ ?_<;>try with_reducible intro hb)|(refine Xi ?_ ?_<;>try intro ht)|refine VD ?_ ?_|exact Xx|fail))<;>try with_reducible intro K hK)
   all_goals try(exfalso;omega)
   all_goals exact bj _ (j+1) GK GK (Xs false [] @an.eq_1)
 ·((try revert hK K);(repeat'(first|refine Va X0 ?_|(refine V2 X0 ?_ ?_<;>try with_reducible intro hb)|(refine Xi ?_ ?_<;>try intro ht)|refine VD ?_ ?_|exact Xx|fail))<;>try with_reducible intro K hK)
  refine br _ _ rfl ?_;clear bj br cJ;repeat(first|refine Xu ?_)
  ((try revert hK K);(repeat'(first|refine Vd X0 S9 ?_|(refine V2 X0 ?_ ?_<;>try with_reducible intro hb)|(refine Xi ?_ ?_<;>try intro ht)|refine VD ?_ ?_|exact Xx|fail))<;>try with_reducible intro K hK)
  exact aO rfl rfl
end T

