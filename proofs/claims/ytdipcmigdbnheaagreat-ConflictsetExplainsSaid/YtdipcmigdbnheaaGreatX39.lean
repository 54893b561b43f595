import Derived.Test.YtdipcmigdbnheaaGreatX38
import Derived.Test.YtdipcmigdbnheaaGreatX37
set_option linter.all false
set_option maxHeartbeats 0
set_option maxRecDepth 20000
open List renaming length_map→dX,getD_eq_getElem?_getD→aA,getElem?_eq_getElem→bK,take_of_length_le→dJ,isEmpty_iff→J4,take→kL,drop→iT
open Nat renaming zero_le→aI,mul_le_mul→BD,le_trans→j7,le_refl→aN,add_sub_cancel→Du,sub_self→hJ
open Bool renaming false_and→jR,true_and→eQ
open And renaming intro→eR
open Go Go.Am Go.Proofs
namespace T
def afZ:ij []=[]:=rfl
def af0(ρ:Nat->Nat)(n:Nat):cg ρ (.arr n [])=.arr n []:=rfl
def UD(m:aj)(hm:VM m)(hp:gj m<=1000)(l:List Int)(hl:pf m l):∃pa b t,ao Tryz.prog 66 [.agg (aq m),.tree 1 (ints l)] [] (.bJ [.agg [pa,aaC t,aaC b,.tree 5 (rowsOf aG (tryD (bN m l)).nodes)],aaC 0]) [] /\
  gL pa=true/\cO pa=true/\(∀ ρ,bC ρ pa=pa)/\(jW m l=true->pa=.tree 1 (ints (tryD (bN m l)).plan)):=by
 have h:=UE m hm l hl;have hv:VM (bN m l):=vd hm _;have cu:gj (bN m l)<=1000:=by rw[EC hm];exact hp
 have hf:=ED hv cu;have hk:jW m l=true->(tryD (bN m l)).bA<1099511627776:=λhb=>(LU hv cu λe=>by
  have:=hf.2.2.1 e;unfold jW at hb;rw[decide_eq_true_eq]at hb;exact this hb).2.2
 generalize bN m l=r at *;unfold EE at h;rw[if_pos hf.1,hf.1]at h;exact⟨_,_,_,h,zn rfl,EF _,EG _,λhb=>by unfold eP;rw[if_pos (hk hb)]⟩
def UF(m:aj)(hm:MB m)(hp:VM m->gj m<=1000):ao Tryz.prog 31 [.agg (aq m)] [] (.bJ [.agg (mS (sU m).1),aaC (sU m).2]) []:=by
 have h1:=tV m hm;by_cases hv:df m=0;rotate_left
 ·rw[show sU m=(pS,df m) by unfold sU;rw[if_pos hv]];generalize df m=e at *;refine ao.aD 69 0 [.cell 2 59,.tmp 3] Tryz.func31 ?_;((repeat'(first|refine Vd X0 h1 ?_|(refine Xi ?_ ?_<;>try intro ht)|exact Xx|fail)))
  simp(disch:=omega)only[Ac,↓Pc,simprocAttr,rowOf];refine cZ [] true Px trivial Px Px (aJ.lq (aJ.agg _ _ rfl (fF.spec (R:=aJ _ _ _ _) (cs:=mS pS) (ds:=[.lit (.slice none 0 0),.lit (.slice none 0 0),.lit (.slice none 0 0)]) ⟨.snap _ _ rfl (.nil 1),.snap _ _ rfl (.nil 5),.snap _ _ rfl (.nil 1),trivial⟩).2) (.pure rfl))
 have bT:=eK.1 hv;have hp:=hp bT;have h2:=UG m bT;by_cases hr:(ly m).2=0;rotate_left
 ·rw[show sU m=(pS,(ly m).2) by unfold sU;rw[if_neg GC,if_pos hr]];rw[hv]at h1;generalize ly m=rd at *;refine ao.aD 69 0 [.cell 2 59,.tmp 3] Tryz.func31 ?_;((repeat'(first|refine Vd @bne_self_eq_false.{0} (X2 h1 h2) ?_|(refine Xi ?_ ?_<;>try intro ht)|exact Xx|fail)))
  simp(disch:=omega)only[Ac,↓Pc,simprocAttr,rowOf];refine cZ [] true Px trivial Px Px (aJ.lq (aJ.agg _ _ rfl (fF.spec (R:=aJ _ _ _ _) (cs:=mS pS) (ds:=[.lit (.slice none 0 0),.lit (.slice none 0 0),.lit (.slice none 0 0)]) ⟨.snap _ _ rfl (.nil 1),.snap _ _ rfl (.nil 5),.snap _ _ rfl (.nil 1),trivial⟩).2) (.pure rfl))
 have cD:=H2 bT hp hr;rw[show sU m=(nm m (ly m).1,0) by unfold sU;rw[if_neg GC,if_neg GC]];rw[hv]at h1;rw[hr]at h2;have oI:=cD.ru bT;generalize (ly m).1=l at *;obtain⟨pa,b,t,h3,n1,s1,r1,_⟩:=UD m bT hp l oI;unfold nm mS;dsimp only;have e7:=oI.1;generalize hP:(tryD (bN m l)).nodes=P at *;refine ao.aD 69 0 [.cell 2 59,.tmp 3] Tryz.func31 ?_;((repeat'(first|refine Vc X0 h1 ?_|(refine Xi ?_ ?_<;>try intro ht)|exact Xx|fail))<;>try with_reducible intro K hK)
 (refine Xn [] (h2) ?_;simp(disch:=omega)only[Ac,↓Pc,simprocAttr])
 ((try revert hK K);(repeat'(first|refine Va X0 ?_|(refine Xi ?_ ?_<;>try intro ht)|exact Xx|fail))<;>try with_reducible intro K hK)
 (refine Xn [] (h3) ?_;simp(disch:=omega)only[Ac,↓Pc,simprocAttr,r1])
 ((try revert hK K);(repeat'(first|refine Va (X3 @s1 @r1 @bne_self_eq_false.{0}) ?_|(refine Xi ?_ ?_<;>try intro ht)|exact Xx|fail)))
 refine bY (aF.ni 3 2 1 rfl rfl Px) ?_;refine bY (aF.mR 1 0 (cells:=aq m) aau (by simp only[Kc,simprocAttr]) (by simp[aq])) ?_;clear h1 h2 h3 n1 s1 r1;generalize hS:(l.map λn=>(tryD (bN m (cd l n))).plan)=S;have AK:S.length=l.length:=by rw[<- hS,dX]
 refine aM (λi:Nat=>(⟨aw [(1,.cq (aq m)),(2,.ptr 0 0 0),(5,.tree 1 (ints l)),(8,.ptr 1 0 0),(42,.tree 1 (ints l)),(43,aaC l.length),(44,aaC i)],[.var [.lit (.slice none 0 0),.lit (.slice none 0 0),.lit (.slice none 0 0)],.var [.tree 1 (ints l),.tree 5 (rowsOf aG P),.ref 2 1 0 i],.arr 1 (ij (S.take i))]⟩:St))
  (λi=>i<=l.length) (λi=>l.length-i) 0 (aI _) (by rw[List.take_zero];exact Xs false [1,3,4] (X2 @afZ @af0)) ?_
 rintro i hi Ql an ar;by_cases hi':i<l.length
 ·have hw:=LV l (l.getD i 0) oI.1;have ve:=oI.cd (l.getD i 0);obtain⟨pa,b,t,h3,n1,s1,r1,hq⟩:=UD m bT hp _ ve;have H3:=hq (cD.one _ (ay hi'));subst H3;clear hq n1 s1 r1;have cN:=eG (l:=S) (k:=i) GC;have hSi:S.getD i default=(tryD (bN m (cd l (l.getD i 0)))).plan:=by
   rw[<- hS,aA,List.getElem?_map,bK hi',aA,bK hi'];rfl
  rw[<- hSi]at h3;generalize aS:l.getD i 0=n at *;generalize (tryD (bN m (cd l n))).nodes=P2 at *;generalize cd l n=lw at *;generalize S.getD i default=q at *;repeat'(first|((fail_if_success (first|refine eT 14 ?_|refine eU 14 ?_));refine Xr @aS ?_;intro K hK)|(refine hK _ ?_;clear hK K)|(refine Xi ?_ ?_<;>try intro ht)|refine Xy ?_|refine Xd ?_ ?_|exact Xx|fail)
  refine kv [0,3,4] (.take 0 (.take 1 (.take 2 (.take 3 (.take 4 (.take 5 (.take 6 (.take 7 (.take 8 (.take 9 (.take 10 .nil))))))))))) rfl Px (by decide +kernel) ?_;simp(disch:=omega)only[Ac,↓Pc,simprocAttr,Pw,↓Lq,aq];refine bZ hw rfl rfl ?_;simp(disch:=omega)only[Ac,↓Pc,simprocAttr,Pw,↓Lq,aq];refine bZ h3 rfl rfl ?_;simp(disch:=omega)only[Ac,↓Pc,simprocAttr,Pw,↓Lq,aq];repeat(refine Xu ?_)
  have zo:(ij (S.take i)).length=i:=by rw[ou,List.length_take];omega
  have hTt:(ij (S.take i)).take i=ij (S.take i):=dJ GC;have hTa:ij (S.take i)++[[.tree 1 (ints q)]]=ij (S.take (i+1)):=by rw[cN,KG]
  clear cN;((repeat'(first|refine Va (X4 @bne_self_eq_false.{0} @zo @hTt @hTa) ?_|(refine Xi ?_ ?_<;>try intro ht)|exact Xx|fail)))
  all_goals exact an _ (i+1) GC GC (Xs false [0,1,5] X0)
 ·obtain rfl:i=l.length:=GC;rw[dJ GC];((repeat'(first|refine Va X0 ?_|(refine Xi ?_ ?_<;>try intro ht)|exact Xx|fail)))
  refine ar _ _ rfl ?_;clear an ar Ql;repeat(refine Xu ?_)
  refine Vb X0 ?_;simp(disch:=omega)only[Ac,↓Pc,simprocAttr,rowOf];refine cZ [] true Px trivial Px Px (aJ.lq (aJ.agg _ _ rfl (fF.spec (R:=aJ _ _ _ _) (cs:=[.tree 1 (ints l),.tree 5 (rowsOf aG P),.tree 1 (ij S)]) (ds:=[.tree 1 (ints l),.tree 5 (rowsOf aG P),.ref 2 1 0 l.length]) ⟨.pure rfl,.pure rfl,aJ.cC rfl (Qw _) (by rw[ou,AK]) (iK GF) (Qv _),trivial⟩).2) (.pure rfl))
def af4(c:sV)(hc:CB c):ao Tryz.prog 32 [.agg (mS c)] [] (.lit (.bool (decide (c.rules.length=0/\c.nodes.length=0/\c.qI.length=0)))) []:=by
 have h1:=hc.jq;have h2:=hc.qJ.qJ;have h3:=hc.LW;clear hc;obtain⟨R,P,S⟩:=c;unfold mS;dsimp only at h1 h2 h3 ⊢;generalize ak:decide (R.length=0/\P.length=0/\S.length=0)=res;refine ao.aD 20 0 [.tmp 2] Tryz.func32 ?_;((repeat'(first|refine Vb (X3 @ou @lI @b8) ?_|(refine V2 (X3 @ou @lI @b8) ?_ ?_<;>try with_reducible intro hb)|fail)))
 ·rw[show res=((S.length:Int)==0) by rw[<- ak,Bool.eq_iff_iff,decide_eq_true_eq,beq_iff_eq];omega];exact aE rfl rfl
 all_goals
  rw[show res=false by rw[<- ak,decide_eq_false_iff_not];omega];exact aE rfl rfl
def af5(m:aj)(hm:MB m):ao Tryz.prog 30 [.agg (aq m)] [] (.bJ [.tree 1 (ints (wu m).1),aaC (wu m).2]) []:=by
 by_cases hv:df m=0
 ·rw[show wu m=wv m by unfold wu;rw[if_neg GC]];exact af6 m (eK.1 hv)
 ·rw[show wu m=([],df m) by unfold wu;rw[if_pos hv]];have h1:=wx m hm;generalize df m=e at *;refine ao.aD 60 0 [.tmp 2,.tmp 3] Tryz.func30 ?_;((repeat'(first|refine Vd X0 h1 ?_|(refine Xi ?_ ?_<;>try intro ht)|exact Xx|fail)))
  all_goals exact cZ [] true Px trivial Px Px (aJ.lq aJ.nil (.pure rfl))
def oA3:bU:=⟨0,0,0,0,0,[(1,1099511627776)]⟩
def mq:aj:=⟨[[oA3]],[],[],3⟩
def sW:VM mq:=eK.1 (by decide +kernel)
def Cl:gj mq<=1000:=by decide +kernel
def H4:ly mq=([1],0):=by
 rw[H5 sW Cl];decide +kernel
def af8:wy mq pS=false:=by decide +kernel
def af9:∀ x∈(tryD (bN mq [1])).nodes,x.cV=[]/\x.a9=[]:=by
 have h:((tryD (bN mq [1])).nodes.all λx=>x.cV.isEmpty&&x.a9.isEmpty)=true:=by decide +kernel
 intro x hx;have:=List.all_eq_true.1 h x hx;rw[Bool.and_eq_true,J4,J4]at this;exact this
def LX:CB pS:=⟨Px,Px,λ_ h=>(by cases h),⟨Px,λ_ h=>(by cases h),λ_ h=>(by cases h),λ_ h=>(by cases h),λ_ h=>(by cases h),λ_ h=>(by cases h)⟩⟩
def LY{m:aj}(hm:VM m)(hp:gj m<=1000){l:List Int}(h:wz m l):CB (nm m l):=by
 have hl:=(h.ru hm).1;refine⟨by show l.length<_;omega,by unfold nm;dsimp only;rw[dX];omega,λp b6=>?_,(UH (r:=bN m l) (vd hm _) (show gj (bN m l)<=1000 by rw[EC hm];exact hp)).1⟩;unfold nm at b6;obtain⟨n,hn,rfl⟩:=List.mem_map.1 b6;have hv:VM (bN m (cd l n)):=vd hm _;have jV:=h.one n hn;have cu:gj (bN m (cd l n))<=1000:=by rw[EC hm];exact hp
 have h1:=(LU hv cu (λe=>by
  have:=(ED hv cu).2.2.1 e;unfold jW at jV;rw[decide_eq_true_eq]at jV;exact this jV)).1
 have:=h1.len;have:=hv.cls;omega
def LZ:ao Tryz.prog 27 [] [] (.lit (.bool true)) []:=by
 have cD:=H2 sW Cl (by rw[H4]);have h1:=af' mq sW.mb;rw[show kc mq=([1],0) by unfold kc;rw[if_neg (by rw[eK.2 sW];simp)];exact H4]at h1;have h2:=UF mq sW.mb (λ_=>Cl);rw[show sU mq=(nm mq [1],0) by unfold sU;rw[if_neg (by rw[eK.2 sW];simp),H4];rfl]at h2;rw[H4]at cD;have h3:=L1 mq sW.mb (nm mq [1]) (LY sW Cl cD) λ_ _=>UJ (bN mq [1]) (tryD (bN mq [1])).nodes af9 rfl (xQ sW [1]).mb (LY sW Cl cD).qJ;rw[UK sW Cl cD]at h3;have h4:=L1 mq sW.mb pS LX λ_ _=>UJ (bN mq []) [] (λx hx=>by cases hx) rfl (xQ sW []).mb LX.qJ;rw[af8]at h4;have h5:=UL [1] [1] Px;rw[show decide (([1]:List Int)=[1])=true from rfl]at h5;dsimp only at h1 h2;unfold mS at h2 h3;unfold nm at h2 h3;dsimp only at h2 h3;generalize (tryD (bN mq [1])).nodes=P at *;generalize ([1].map λn=>(tryD (bN mq (cd [1] n))).plan)=S at *;refine ao.aD 44 0 [.tmp 0] Tryz.func27 ?_;repeat'(first|((fail_if_success (first|refine eT 1 ?_|refine eU 1 ?_));refine Xr X0 ?_;intro K hK)|(refine hK _ ?_;clear hK K)|refine XY ?_|fail)
 refine LR 6 Px ?_;intro K K1 hK zq;simp(disch:=omega)only[Ac,↓Pc,simprocAttr,kL];refine zq _ ⟨aw [(11,.agg (aq mq))],[]⟩ ?_ ?_
 ·refine aF.au [] true _ _ Px trivial Px Px ⟨?_,trivial⟩;simp only[Kc,simprocAttr];refine aJ.agg _ _ rfl (fF.spec (R:=aJ _ _ _ _) (cs:=aq mq) (ds:=[.ref 2 1 0 1,.lit (.slice none 0 0),.lit (.slice none 0 0),aaC 3]) ⟨.snap _ _ rfl ?_,.snap _ _ rfl (.nil 4),.snap _ _ rfl (.nil 4),.pure rfl,trivial⟩).2;exact cL.mk rfl rfl (iK Px) (gr _) ⟨⟨cL.mk rfl rfl (iK Px) (gr _) ⟨⟨.lit _,.lit _,.lit _,.lit _,.lit _,cL.mk rfl rfl (iK Px) (gr _) ⟨⟨.lit _,.lit _,trivial⟩,trivial⟩,trivial⟩,trivial⟩,trivial⟩,trivial⟩
 clear zq K1;simp(disch:=omega)only[Ac,↓Pc,simprocAttr,iT];refine hK _ ?_;clear hK K;generalize mq=m at *;repeat(refine Xu ?_)
 ((refine Vd X0 (X2 h1 h2) ?_)<;>try with_reducible intro K hK)
 (refine Xf [] (h5) ?_;simp(disch:=omega)only[Ac,↓Pc,simprocAttr])
 ((try revert hK K);(refine Vd X0 h3 ?_)<;>try with_reducible intro K hK)
 refine nM [] h4 Px trivial ⟨.pure rfl,(aJ.agg _ _ rfl (fF.spec (R:=aJ _ _ _ _) (cs:=mS pS) (ds:=[.lit (.slice none 0 0),.lit (.slice none 0 0),.lit (.slice none 0 0)]) ⟨aJ.nil,aJ.nil,aJ.nil,trivial⟩).2),trivial⟩ rfl GF ?_;simp(disch:=omega)only[Ac,↓Pc,simprocAttr];((try revert hK K);(refine Vb X0 ?_))
 all_goals exact aE rfl rfl
def UM:∀ (l:List (List bU)) (n:Nat),rQ l n<=((n*nq l:Nat):Int)
 |[],n=>by rw[rQ,nq,Nat.mul_one];exact Int.le_refl _
 |c::r,n=>by
  rw[rQ];split
  ·exact Int.natCast_nonneg _
  ·rw[show(min ((n:Int)*c.length) 65537:Int)=((min (n*c.length) 65537:Nat):Int) by rw[<- Int.natCast_mul];omega];refine Int.le_trans (UM r _) (Int.ofNat_le.2 ?_);rw[nq,<- Nat.mul_assoc];exact Nat.mul_le_mul_right _ (Nat.min_le_left _ _)
def L3{w:Nat}(hw:1<=w):∀ (l:List (List bU)) (k:Nat),l.length<=k->(∀ x∈l,x.length<=w)->nq l<=w^k
 |[],k,_,_=>Nat.pow_pos hw
 |c::r,0,h,_=>by simp at h
 |c::r,k+1,h,hx=>by
  rw[nq,Nat.pow_succ,Nat.mul_comm (w^k)];exact BD (hx c GF) (L3 hw r k (by simpa using h) λx h1=>hx x (by simp[h1]))
def UN(x:List bU):∀ l:List (List bU),nq (l++[x])=nq l*x.length
 |[]=>by show x.length*1=1*x.length;omega
 |c::r=>by rw[List.cons_append,nq,nq,UN x r,Nat.mul_assoc]
def UO{m:aj}(k:Nat)(h:nq m.cls<=k):gj m<=k:=by
 unfold gj;split
 ·have:=UM m.cls 1;rw[show((1:Nat):Int)=1 from rfl,Nat.one_mul]at this;omega
 ·exact Int.natCast_nonneg k
structure TM(m:aj):Prop where
 om:OM m
 nr:VM m->gj m<=1000
def L4.tm{m m':aj}{q:Nat}(hm:MM m 3 3)(hq:q<=24)(h:L4 q m m'):TM m':=⟨h.om.mono GC,λhv=>UO 1000 (by
 have h3:=L3 (w:=3) Px m.cls 3 hm.nr λx hx=>(hm.some x hx).2;rcases h.cl with e|⟨x,e⟩
 ·rw[e];omega
 ·have hx:x.length<=24:=hv.opt x (by rw[e];simp);rw[e,UN];exact j7 (BD h3 hx) Px)⟩
def FW.tm{m:aj}(h:FW m){xs:List Pr}(hx:xs.length=m.ae.length)(ht:∀ p∈xs,p.aB.length<=576)(r:Int):TM ⟨m.cls,xs,m.av,r⟩:=⟨(mu.ae (l:=xs) h.vm.om (by have:=h.vm.ae;omega) λp hp=>by have:=ht p hp;omega).rules r,λ_=>UO 1000 (j7 (L3 Px m.cls 4 h.nr h.opt) Px)⟩
def aga(L:List Int)(k:Nat)(hk:k<=L.length)(hL:L.length<1000000):
  fh Tryz.prog 28 [.ptr 0 0 0] [kX L k] (λr os=>∃ m k',TM m/\k'<=L.length/\r=.agg (aq m)/\os=[kX L k']):=by
 have jV:=Cm L k 9 (by unfold gk;omega) GC hk hL;have b9:=iY hk;generalize AL L k 9=bo at *;generalize dM L k=k2 at *;clear hk;unfold kX at *;refine fh.aD 51 1 [.cell 2 29] Tryz.func28 ?_;((refine Va X0 ?_)<;>try with_reducible intro K hK)
 (refine Xn [0] (jV) ?_;simp(disch:=omega)only[Ac,↓Pc,simprocAttr])
 have Co:∀ (env:Nat->AV) (m:aj) (k':Nat) (os:List Ob) (v:AV),TM m->k'<=L.length->env 2=.ptr 1 0 0->os[0]?=some (.var [.tree 1 (ints L),aaC k'])->os[1]?=some (.var [.tree 1 (rowsOf bu m.cls),v,.tree 4 (rowsOf aV m.av),aaC m.rules])->(v=.tree 4 (rowsOf aP m.ae)\/∃ q,v=.ref q 4 0 m.ae.length/\q≠0/\os[q]?=some (.arr 4 (rowsOf aP m.ae))) ->
   gu Tryz.prog 1 [.cell 2 29] (λr os=>∃ m k',TM m/\k'<=L.length/\r=.agg (aq m)/\os=[.var [.tree 1 (ints L),aaC k']]) .ret ⟨env,os⟩:=by
  intro env m k' os v fj aK wa h0 h1 hv;have hl0:=(List.getElem?_eq_some_iff.1 h0).1;have Hu:cO v=true:=by rcases hv with rfl|⟨q,rfl,_⟩<;>rfl
  unfold gu;simp only[eF,ew,wa];simp(disch:=omega)only[Ac,↓Pc,simprocAttr,wa,h1,Hu];refine⟨_,_,⟨m,k',fj,aK,rfl,rfl⟩,?_⟩;refine cZ [0] true Px ⟨⟨hl0,.inr (by rw[h0];rfl)⟩,trivial⟩ Px (λi hi=>by
   obtain rfl:i=0:=GC;rfl) ?_
  refine(aJ.agg _ _ rfl (fF.spec (R:=aJ _ _ _ _) (cs:=aq m) (ds:=[.tree 1 (rowsOf bu m.cls),v,.tree 4 (rowsOf aV m.av),aaC m.rules]) ⟨.pure rfl,?_,.pure rfl,.pure rfl,trivial⟩).2);rcases hv with rfl|⟨q,rfl,L5,hq⟩
  ·exact .pure rfl
  ·exact aJ.cC hq (gr _) (by rw[b8]) (iK (by simpa using L5)) (kW _)
 repeat'(first|(refine hK _ ?_;clear hK K)|(refine Xi ?_ ?_<;>try intro ht)|refine Xy ?_|fail)
 ·have y9:=agb L k2 3 3 b9 hL Px Px Px;unfold kX at y9;refine afC 2 0 Px _ _ rfl rfl ?_;intro K hK;simp(disch:=omega)only[Ac,↓Pc,simprocAttr,kL,iT];refine⟨rfl,(show lP Tryz.prog 26 [.ptr 0 0 0,aaC (3:Nat),aaC (3:Nat)] (some 11) _ _ from ?_)⟩;refine En [0] y9 Px ⟨rfl,trivial⟩ ⟨.eq rfl,.pure rfl,.pure rfl,trivial⟩ ?_;rintro r os⟨m,k,hm,hk,rfl,rfl⟩;have xR:=hm;have UP:=agc 24 (aN _) L k m hm.vm hm.vm.cls hk hL;unfold kX at UP;simp(disch:=omega)only[Ac,↓Pc,simprocAttr];refine⟨rfl,(show lP Tryz.prog 43 [.ptr 0 0 0,.agg (aq m)] (some 12) _ _ from ?_)⟩;refine En [0] UP Px ⟨rfl,trivial⟩ ⟨.eq rfl,.pure rfl,trivial⟩ ?_;rintro r os⟨m1,k,rR,hk,rfl,rfl⟩;have rS:=rR.tm xR (aN _);simp(disch:=omega)only[Ac,↓Pc,simprocAttr];refine hK _ ?_;clear hK K;refine Va X0 ?_;exact Co _ m1 k _ (.tree 4 (rowsOf aP m1.ae)) rS hk (by simp only[Kc,simprocAttr]) rfl rfl (.inl rfl)
 ·have L6:=agd L k2 b9 hL;unfold kX xS at L6;refine pe 1 Px _ rfl ?_;intro K hK;simp(disch:=omega)only[Ac,↓Pc,simprocAttr,kL,iT];refine⟨rfl,(show lP Tryz.prog 44 [.ptr 0 0 0] (some 14) _ _ from ?_)⟩;refine En [0] L6 Px ⟨rfl,trivial⟩ ⟨.eq rfl,trivial⟩ ?_;rintro r os⟨m,k3,hm,mQ,rfl,rfl⟩;simp(disch:=omega)only[Ac,↓Pc,simprocAttr,tP];refine hK _ ?_;clear hK K;clear L6 b9 jV;have bT:=hm.vm;have cD:=bT.jq;have cu:=bT.ae;have H6:∀ p∈m.ae,p.aB.length<=576:=λp hp=>UQ bT hp;refine Va X0 ?_;refine aM (λz:Nat×Nat×List Pr=>(⟨aw [(0,.ptr 0 0 0),(2,.ptr 1 0 0),(3,.ptr 3 0 0),(4,aaC z.1)],[.var [.tree 1 (ints L),aaC z.2.1],.var [.lit (.slice none 0 0),.lit (.slice none 0 0),.lit (.slice none 0 0),aaC 0],.arr 4 (rowsOf aP z.2.2),.var [.tree 1 (rowsOf bu m.cls),.ref 2 4 0 m.ae.length,.tree 4 (rowsOf aV m.av),aaC (m.rules+2)]]⟩:St))
   (λz=>z.1<=m.ae.length/\z.2.1<=L.length/\z.2.2.length=m.ae.length/\∀ p∈z.2.2,p.aB.length<=576) (λz=>m.ae.length-z.1) (0,k3,m.ae) ⟨aI _,mQ,rfl,H6⟩ (Xv X0) ?_
  rintro⟨i,k,xs⟩⟨hi,hk,rT,H7⟩Ql an ar;dsimp only at hi hk rT H7 ⊢;by_cases hi':i<m.ae.length
  ·have nW:=H7 _ (ay (l:=xs) (i:=i) (d:=default) GC);generalize b6:xs.getD i default=p at *;((repeat'(first|refine Va (X2 @b6 @aP.eq_1) ?_|(refine Xi ?_ ?_<;>try intro ht)|exact Xx|fail)))
   refine aM (λz:Nat×Nat×List Int=>(⟨aw [(0,.ptr 0 0 0),(2,.ptr 1 0 0),(3,.ptr 3 0 0),(4,aaC i),(5,.ref 4 1 0 p.aB.length),(6,aaC z.1)],[.var [.tree 1 (ints L),aaC z.2.1],.var [.lit (.slice none 0 0),.lit (.slice none 0 0),.lit (.slice none 0 0),aaC 0],.arr 4 (rowsOf aP xs),.var [.tree 1 (rowsOf bu m.cls),.ref 2 4 0 m.ae.length,.tree 4 (rowsOf aV m.av),aaC (m.rules+2)],.arr 1 (ints z.2.2)]⟩:St))
    (λz=>z.1<=p.aB.length/\z.2.1<=L.length/\z.2.2.length=p.aB.length) (λz=>p.aB.length-z.1) (0,k,p.aB) ⟨aI _,hk,rfl⟩ (Xv X0) ?_
   rintro⟨j,kk,t⟩⟨hj,iO,EH⟩cJ ba bd;dsimp only at hj iO EH ⊢;by_cases db:j<p.aB.length
   ·have jV:=Cm L kk 3 (by unfold gk;omega) GC iO hL;have zr:=iY iO;unfold kX at *;generalize AL L kk 3=bo2 at *;generalize dM L kk=k4 at *;((repeat'(first|refine Va X0 ?_|(refine Xi ?_ ?_<;>try intro ht)|exact Xx|fail))<;>try with_reducible intro K hK)
    (refine Xn [0] (jV) ?_;simp(disch:=omega)only[Ac,↓Pc,simprocAttr])
    ((try revert hK K);(repeat'(first|refine Va @ints_set ?_|(refine Xi ?_ ?_<;>try intro ht)|fail)))
    ·exact ba _ (j+1,k4,t.set j 1099511627776) ⟨PA,zr,by simpa using EH⟩ PA (Xv X0)
    ·exact ba _ (j+1,k4,t) ⟨PA,zr,EH⟩ PA (Xv X0)
   ·((repeat'(first|refine Va X0 ?_|(refine Xi ?_ ?_<;>try intro ht)|exact Xx|fail)))
    refine bd _ _ rfl ?_;repeat(refine Xu ?_)
    have ht5:t.length<9223372036854775808:=GC;refine bY (aF.Kr 5 4 1 (rows:=ints t) rfl (by rw[lI,EH];simp only[Kc,simprocAttr]) (rH _) (sL _)) ?_;have lR:(rowsOf aP xs).set i [aaC p.fst,aaC p.snd,aaC p.bz,.tree 1 (ints t)]=rowsOf aP (xs.set i ⟨p.fst,p.snd,p.bz,t⟩):=Ce (enc:=aP) xs i ⟨p.fst,p.snd,p.bz,t⟩;refine Va (X3 @b6 @aP.eq_1 @lR) ?_;exact an _ (i+1,kk,xs.set i ⟨p.fst,p.snd,p.bz,t⟩) ⟨PA,iO,by simpa using rT,λy hy=>(List.mem_or_eq_of_mem_set hy).elim (H7 y) λe=>by rw[e];show t.length<=576;omega⟩ PA (Xs false [0,1,2,3] X0)
  ·((repeat'(first|refine Va X0 ?_|(refine Xi ?_ ?_<;>try intro ht)|exact Xx|fail)))
   refine ar _ _ rfl ?_;clear an ar Ql;repeat(refine Xu ?_)
   refine Va X0 ?_;exact Co _ ⟨m.cls,xs,m.av,m.rules+2⟩ k _ (.ref 2 4 0 m.ae.length) (hm.tm rT H7 _) hk (by simp only[Kc,simprocAttr]) rfl rfl (.inr ⟨2,by rw[rT],Px,rfl⟩)
def age{m:aj}(h:df m≠0):kc m=wu m:=by unfold kc wu;rw[if_pos h,if_pos h]
def agf{m:aj}(h:TM m):kc m=wu m:=by
 by_cases hv:df m=0
 ·unfold kc wu;rw[if_neg GC,if_neg GC];exact H5 (eK.1 hv) (h.nr (eK.1 hv))
 ·exact age hv
def agh{m:aj}(h:TM m):(kc m).1.length<=1000:=by
 unfold kc;by_cases hv:df m=0
 ·rw[if_neg GC];have hm:=eK.1 hv;by_cases he:(ly m).2=0
  ·exact((H2 hm (h.nr hm) he).ru hm).1
  ·rw[agi hm (h.nr hm) he];exact aI _
 ·rw[if_pos hv];exact aI _
def agj{m:aj}(h:TM m):(kc m).2≠0/\sU m=(pS,(kc m).2)\/(kc m).2=0/\VM m/\wz m (kc m).1/\sU m=(nm m (kc m).1,0):=by
 unfold kc sU;by_cases hv:df m=0
 ·have hm:=eK.1 hv;rw[if_neg GC,if_neg GC];by_cases he:(ly m).2=0
  ·rw[if_neg GC];exact .inr ⟨he,hm,H2 hm (h.nr hm) he,rfl⟩
  ·rw[if_pos he];exact .inl ⟨he,rfl⟩
 ·rw[if_pos hv,if_pos hv];exact .inl ⟨hv,rfl⟩
def agk{m:aj}(hm:VM m)(l pl:List Int):pg (bN m l) pl=0↔pg m pl=0 :=
 ⟨λh=>L7 hm (EI.1 (L8 h).2),λh=>L7 (vd hm _:VM (bN m l)) (EI.2 (L8 h).2)⟩
def agl{m:aj}(hm:VM m)(c:sV)(i:Nat):AM m c i=decide (pg (bN m (cd c.rules (c.rules.getD i 0))) (c.qI.getD i default)=0/\(ph (bN m (cd c.rules (c.rules.getD i 0))) (c.qI.getD i default)).1<1099511627776):=by
 have hv:VM (bN m (cd c.rules (c.rules.getD i 0))):=vd hm _;have h:=agk hm (cd c.rules (c.rules.getD i 0)) (c.qI.getD i default);unfold AM;rw[decide_eq_decide];constructor
 ·rintro⟨a,b,d⟩;exact⟨h.2 a,d⟩
 ·rintro⟨a,d⟩;refine⟨h.1 a,?_,d⟩;rw[H8 hv (L8 a).2.pm]
def agm(m:aj)(hm:MB m)(c:sV)(hc:CB c):ao Tryz.prog 34 [.agg (aq m),.agg (mS c)] [] (.lit (.bool (wy m c))) [] :=
 L1 m hm c hc λbT _=>agn (bN m c.rules) c.nodes (xQ bT c.rules).mb hc.qJ
def ago(m:aj)(hm:MB m)(c:sV)(hc:CB c):ao Tryz.prog 33 [.agg (aq m),.agg (mS c)] [] (.lit (.bool (wy m c))) []:=by
 have h1:=wx m hm;have cD:=hc.jq;have cu:=hc.LW;have ky:=hc.row;have bX:=hc.qJ;clear hc;obtain⟨R,P,S⟩:=c;generalize ak:wy m ⟨R,P,S⟩=res;unfold wy at ak;unfold mS;dsimp only at cD cu ky bX ak ⊢;by_cases hv:df m=0;rotate_left
 ·rw[decide_eq_false (λe=>hv e.1),jR]at ak;subst ak;generalize df m=e at *;refine ao.aD 133 0 [.tmp 4] Tryz.func33 ?_;((repeat'(first|refine Vd X0 h1 ?_|(refine V2 X0 ?_ ?_<;>try with_reducible intro hb)|(refine Xi ?_ ?_<;>try intro ht)|exact Xx|fail)))
  all_goals exact aE rfl rfl
 by_cases hlen:S.length=R.length;rotate_left
 ·rw[decide_eq_false (λe=>hlen e.2),jR]at ak;subst ak;rw[hv]at h1;refine ao.aD 133 0 [.tmp 4] Tryz.func33 ?_;((repeat'(first|refine Vd (X2 @bne_self_eq_false.{0} @ou) h1 ?_|(refine Xi ?_ ?_<;>try intro ht)|exact Xx|fail)))
  all_goals exact aE rfl rfl
 rw[decide_eq_true ⟨hv,hlen⟩,eQ]at ak;rw[hv]at h1;have bT:=eK.1 hv;refine ao.aD 133 0 [.tmp 4] Tryz.func33 ?_;((repeat'(first|refine Vc (X2 @bne_self_eq_false.{0} @ou) h1 ?_|(refine Xi ?_ ?_<;>try intro ht)|exact Xx|fail)))
 refine bY (aF.mR 2 0 (cells:=aq m) aau (by simp only[Kc,simprocAttr]) (by simp[aq])) ?_;refine bY (aF.mR 3 1 (cells:=mS ⟨R,P,S⟩) aau (by simp only[Kc,simprocAttr]) (by simp[mS])) ?_;unfold mS;dsimp only;generalize hF:my (nt m.rules R) R.length 0=fb at *;refine aM (λi:Nat=>(⟨aw [(2,.cq (aq m)),(3,.cq [.tree 1 (ints R),.tree 5 (rowsOf aG P),.tree 1 (ij S)]),(5,aaC i)],[]⟩:St))
  (λi=>i<=R.length/\my (nt m.rules R) (R.length-i) i=fb) (λi=>R.length-i) 0 ⟨aI _,hF⟩ (Xs false [] X0) ?_
 rintro i⟨hi,hf⟩Ql an ar;by_cases hi':i<R.length
 ·rw[show R.length-i=(R.length-(i+1))+1 by omega,my]at hf;by_cases ha:nt m.rules R i=true
  ·rw[ha,eQ]at hf;unfold nt at ha;rw[decide_eq_true_eq]at ha;obtain⟨a1,a2,a3⟩:=ha;cases i with
   |zero =>
    generalize aS:R.getD 0 0=n at *;((repeat'(first|refine Va @aS ?_|(refine V2 @aS ?_ ?_<;>try with_reducible intro hb)|(refine Xi ?_ ?_<;>try intro ht)|exact Xx|fail)))
    all_goals exact an _ 1 ⟨GC,hf⟩ GC (Xv X0)
   |succ j =>
    have qF:((j+1:Nat):Int)-1=(j:Nat):=GC;rw[Du]at a3;generalize aS:R.getD (j+1) 0=n at *;generalize gw:R.getD j 0=y at *;((repeat'(first|refine Va (X3 @aS @gw @qF) ?_|(refine V2 (X3 @aS @gw @qF) ?_ ?_<;>try with_reducible intro hb)|(refine Xi ?_ ?_<;>try intro ht)|exact Xx|fail)))
    all_goals exact an _ (j+1+1) ⟨GC,hf⟩ GC (Xv X0)
  ·rw[show nt m.rules R i=false by simpa using ha,jR]at hf;subst hf;rw[jR]at ak;subst ak;unfold nt at ha;rw[decide_eq_true_eq]at ha;cases i with
   |zero =>
    generalize aS:R.getD 0 0=n at *;((repeat'(first|refine Va @aS ?_|(refine V2 @aS ?_ ?_<;>try with_reducible intro hb)|(refine Xi ?_ ?_<;>try intro ht)|exact Xx|fail)))
    all_goals
     repeat(refine Xu ?_)
     ((repeat'(first|refine Vb X0 ?_|fail)))
     exact aE rfl rfl
   |succ j =>
    have qF:((j+1:Nat):Int)-1=(j:Nat):=GC;rw[Du]at ha;generalize aS:R.getD (j+1) 0=n at *;generalize gw:R.getD j 0=y at *;((repeat'(first|refine Va (X3 @aS @gw @qF) ?_|(refine V2 (X3 @aS @gw @qF) ?_ ?_<;>try with_reducible intro hb)|(refine Xi ?_ ?_<;>try intro ht)|exact Xx|fail)))
    all_goals
     repeat(refine Xu ?_)
     ((repeat'(first|refine Vb X0 ?_|fail)))
     exact aE rfl rfl
 ·obtain rfl:i=R.length:=GC;rw[hJ]at hf;subst hf;rw[my,eQ]at ak;have oI:=UR bT (hF.trans rfl);have bm:=L9 m bT R oI (-1);rw[agp oI]at bm;have mT:=Ma m bT R;have oz:VM (bN m R):=xQ bT R;have ek:=agq (bN m R) P oz.mb bX (λx left hx hv hf=>agr _ x left hv hf (bX.a9 x hx) (bX.cells x hx) (bX.cell x hx));rw[ags]at ek;unfold EJ at ak;dsimp only at ak;generalize hq:jx (bN m R) P=q at *;obtain⟨bn,ok⟩:=q;generalize bN m R=r at *;generalize il m.rules R=kb at *;repeat'(first|((fail_if_success (first|refine eT 8 ?_|refine eU 8 ?_));refine Xr X0 ?_;intro K hK)|(refine hK _ ?_;clear hK K)|(refine Xg X0 ?_ ?_<;>try intro hb)|(refine Xi ?_ ?_<;>try intro ht)|refine Xy ?_|refine Xd ?_ ?_|exact Xx|fail)
  refine ar _ _ rfl ?_;clear an ar Ql;repeat(refine Xu ?_)
  refine Xy ?_;refine kv [0,1,3,4,5] (.take 0 (.take 1 (.take 2 (.take 3 (.take 4 (.take 5 (.take 6 (.take 7 (.take 8 (.take 9 (.take 10 (.take 11 .nil)))))))))))) rfl Px (by decide +kernel) ?_;simp(disch:=omega)only[Ac,↓Pc,simprocAttr,Pw,↓Lq,aq];refine bZ bm rfl rfl ?_;simp(disch:=omega)only[Ac,↓Pc,simprocAttr,Pw,↓Lq,aq];refine bZ mT rfl rfl ?_;simp(disch:=omega)only[Ac,↓Pc,simprocAttr,Pw,↓Lq,aq];repeat(refine Xu ?_)
  clear bm mT;by_cases pj:(bn,ok)=(1099511627776,true);rotate_left
  ·rw[decide_eq_false pj,jR]at ak;subst ak;have Mb:ok=true->bn≠1099511627776:=λe e'=>pj (by rw[e,e']);cases ok with
   |false =>
    ((repeat'(first|refine Vd X0 ek ?_|(refine Xi ?_ ?_<;>try intro ht)|exact Xx|fail)))
    all_goals exact aE rfl rfl
   |true =>
    have agt:=Mb rfl;((repeat'(first|refine Vd X0 ek ?_|(refine Xi ?_ ?_<;>try intro ht)|exact Xx|fail)))
    all_goals exact aE rfl rfl
  rw[decide_eq_true pj,eQ]at ak;obtain⟨rfl,rfl⟩:bn=1099511627776/\ok=true:=⟨congrArg Prod.fst pj,congrArg Prod.snd pj⟩;((repeat'(first|refine Vc @bne_self_eq_false.{0} ek ?_|(refine Xi ?_ ?_<;>try intro ht)|exact Xx|fail)))
  clear ek pj;clear hi' hi oz hq;refine aM (λi:Nat=>(⟨aw [(2,.cq (aq m)),(3,.cq [.tree 1 (ints R),.tree 5 (rowsOf aG P),.tree 1 (ij S)]),(10,aaC i)],[]⟩:St))
   (λi=>i<=R.length/\my (AM m ⟨R,P,S⟩) (R.length-i) i=res) (λi=>R.length-i) 0 ⟨aI _,ak⟩ (Xs false [] X0) ?_
  clear ak;rintro i⟨hi,hf⟩Ql an ar;by_cases hi':i<R.length
  ·rw[show R.length-i=(R.length-(i+1))+1 by omega,my,agl bT]at hf;have bq:=ky _ (ay (d:=(default:List Int)) (show i<S.length by omega));have EK:(S.getD i []).length<9223372036854775808:=bq;have ve:=oI.cd (R.getD i 0);have bm:=L9 m bT R oI (R.getD i 0);have mT:=Ma m bT (cd R (R.getD i 0));have oz:VM (bN m (cd R (R.getD i 0))):=xQ bT _;have fi:=agu (bN m (cd R (R.getD i 0))) (S.getD i []) oz.mb EK;have kR:=US (bN m (cd R (R.getD i 0))) (S.getD i []) oz.mb EK;dsimp only at hf;rw[show S.getD i default=S.getD i [] from rfl]at hf;generalize aS:R.getD i 0=n at *;generalize gw:S.getD i []=pl at *;generalize hq:ph (bN m (cd R n)) pl=q at *;obtain⟨bA,rs,er⟩:=q;clear hq oz bq;generalize bN m (cd R n)=r2 at *;generalize pg r2 pl=ce at *;generalize il m.rules (cd R n)=kb2 at *;dsimp only at hf kR;repeat'(first|((fail_if_success (first|refine eT 15 ?_|refine eU 15 ?_));refine Xr @aS ?_;intro K hK)|(refine hK _ ?_;clear hK K)|(refine Xi ?_ ?_<;>try intro ht)|refine Xy ?_|exact Xx|fail)
   refine kv [0,1,3,5,8,9,10] (.take 0 (.take 1 (.take 2 (.take 3 (.take 4 (.take 5 (.take 6 (.take 7 (.take 8 (.take 9 (.take 10 (.take 11 (.take 12 (.take 13 (.take 14 (.take 15 (.take 16 .nil))))))))))))))))) rfl Px (by decide +kernel) ?_;simp(disch:=omega)only[Ac,↓Pc,simprocAttr,Pw,↓Lq,aq,aS,lI];repeat'(first|with_reducible refine eR ?_ ?_|omega)
   refine bZ bm rfl rfl ?_;simp(disch:=omega)only[Ac,↓Pc,simprocAttr,Pw,↓Lq,aq];refine bZ mT rfl rfl ?_;simp(disch:=omega)only[Ac,↓Pc,simprocAttr,Pw,↓Lq,aq];repeat(refine Xu ?_)
   clear bm mT;refine bY (aF.mR 11 0 (cells:=aq r2) aau (by simp only[Kc,simprocAttr]) (by simp[aq])) ?_;repeat'(first|refine Xy ?_|fail)
   refine kv [0,2,5,6] (.take 0 (.take 1 (.take 2 (.take 3 (.take 4 (.take 5 (.take 6 (.take 7 .nil)))))))) rfl Px (by decide +kernel) ?_;simp(disch:=omega)only[Ac,↓Pc,simprocAttr,Pw,↓Lq,aq,gw,ou];repeat'(first|with_reducible refine eR ?_ ?_|omega)
   refine bZ fi rfl rfl ?_;simp(disch:=omega)only[Ac,↓Pc,simprocAttr,Pw,↓Lq,aq];repeat(refine Xu ?_)
   clear fi;by_cases EL:ce=0;rotate_left
   ·rw[decide_eq_false (λe=>EL e.1),jR]at hf;subst hf;((repeat'(first|refine Va X0 ?_|(refine Xi ?_ ?_<;>try intro ht)|exact Xx|fail)))
    all_goals
     repeat(refine Xu ?_)
     refine Vb X0 ?_;exact aE rfl rfl
   subst EL;repeat'(first|(refine Xi ?_ ?_<;>try intro ht)|refine Xy ?_|exact Xx|fail)
   refine kv [0,2,5,6] (.take 0 (.take 1 (.take 2 (.take 3 (.take 4 (.take 5 (.take 6 (.take 7 (.take 8 (.take 9 (.take 10 (.take 11 (.take 12 (.take 13 .nil)))))))))))))) rfl Px (by decide +kernel) ?_;simp(disch:=omega)only[Ac,↓Pc,simprocAttr,Pw,↓Lq,aq,gw,ou];repeat'(first|with_reducible refine eR ?_ ?_|omega)
   refine bZ kR rfl rfl ?_;simp(disch:=omega)only[Ac,↓Pc,simprocAttr,Pw,↓Lq,aq];repeat(refine Xu ?_)
   clear kR;by_cases ax:bA<1099511627776
   ·rw[decide_eq_true ⟨rfl,ax⟩,eQ]at hf;((repeat'(first|refine Va X0 ?_|(refine Xi ?_ ?_<;>try intro ht)|exact Xx|fail)))
    all_goals exact an _ (i+1) ⟨GC,hf⟩ GC (Xs false [] X0)
   ·rw[decide_eq_false (λe=>ax e.2),jR]at hf;subst hf;((repeat'(first|refine Va X0 ?_|(refine Xi ?_ ?_<;>try intro ht)|exact Xx|fail)))
    all_goals
     repeat(refine Xu ?_)
     refine Vb X0 ?_;exact aE rfl rfl
  ·obtain rfl:i=R.length:=GC;rw[hJ,my]at hf;subst hf;((repeat'(first|refine Va X0 ?_|(refine Xi ?_ ?_<;>try intro ht)|exact Xx|fail)))
   refine ar _ _ rfl ?_;clear an ar Ql;repeat(refine Xu ?_)
   refine Vb X0 ?_;exact aE rfl rfl
def anE(tape:List Int):ao Tryz.prog 7 [.tree 1 (ints tape)] [] (.lit (.bool true)) []:=by
 refine ao.aD 62 0 [.tmp 2] Tryz.func7 ?_;repeat'(first|((fail_if_success (first|refine eT 3 ?_|refine eU 3 ?_));refine Xq X0 ?_;intro K hK)|refine Xo X0 ?_|refine Xc (agw _) ?_|refine Xc (LZ) ?_|(refine hK _ ?_;clear hK K)|(refine Xg X0 ?_ ?_<;>try intro hb)|(refine Xi ?_ ?_<;>try intro ht)|refine XY ?_|refine Xd ?_ ?_|exact Xx|fail)
 ·exact aE rfl rfl
 have hL:tape.length<1000000:=GC;have jy:=aga tape 0 (aI _) hL;refine pe 2 Px _ rfl ?_;intro K hK;simp(disch:=omega)only[Ac,↓Pc,simprocAttr,kL,iT];(refine Xn [] (agx tape) ?_;simp(disch:=omega)only[Ac,↓Pc,simprocAttr])
 unfold kX at jy;refine⟨rfl,(show lP Tryz.prog 28 [.ptr 0 0 0] (some 14) _ _ from ?_)⟩;refine En [0] jy Px ⟨rfl,trivial⟩ ⟨.eq rfl,trivial⟩ ?_;rintro r os⟨m,k,hm,hk,rfl,rfl⟩;simp(disch:=omega)only[Ac,↓Pc,simprocAttr];refine hK _ ?_;clear hK K;repeat(first|refine Xu ?_)
 refine bY (σ':=⟨aw [(3,.ptr 0 0 0)],[.var (aq m)]⟩) (Xs false [1] X0) ?_;clear jy hk k hL;have h1:=agy m hm.om.mb;have h2:=UF m hm.om.mb hm.nr;have h3:=af5 m hm.om.mb;rw[<- agf hm]at h3;rcases agj hm with⟨he,hx⟩|⟨he,bT,cD,hx⟩
 ·have h4:=af4 pS LX;rw[show decide (pS.rules.length=0/\pS.nodes.length=0/\pS.qI.length=0)=true from rfl]at h4;rw[hx]at h2;clear hx;unfold mS pS at h2 h4;dsimp only at h2 h4;generalize kc m=rd at *;generalize gj m=pv at *;((try revert hK K);(repeat'(first|refine Vd (X2 @bne_self_eq_false.{0} @beq_self_eq_true.{0}) (X5 h1 h2 h3 h4 LZ) ?_|(refine V2 (X2 @bne_self_eq_false.{0} @beq_self_eq_true.{0}) ?_ ?_<;>try with_reducible intro hb)|(refine Xi ?_ ?_<;>try intro ht)|refine VD ?_ ?_|exact Xx|fail))<;>try with_reducible intro K hK)
  all_goals try(exfalso;omega)
  all_goals exact aE rfl (by first|rfl|simp)
 ·have oJ:=LY bT (hm.nr bT) cD;have h5:=ago m hm.om.mb _ oJ;have h6:=agm m hm.om.mb _ oJ;rw[UK bT (hm.nr bT) cD]at h5 h6;rw[hx]at h2;rw[he]at h3;have hlen:=agh hm;have h4:=UL (kc m).1 (kc m).1 GC;rw[decide_eq_true rfl]at h4;have cE:(nm m (kc m).1).rules=(kc m).1:=rfl;generalize nm m (kc m).1=c at *;unfold mS at h2 h5 h6;rw[cE]at h2 h5 h6;dsimp only at h2 h5 h6;clear hx oJ cD cE;generalize (kc m).1=l at *;generalize c.nodes=P at *;generalize c.qI=S at *;generalize gj m=pv at *;((try revert hK K);(repeat'(first|refine Vd (X2 @bne_self_eq_false.{0} @beq_self_eq_true.{0}) (X5 h1 h2 h3 h4 (X3 h5 h6 LZ)) ?_|(refine V2 (X2 @bne_self_eq_false.{0} @beq_self_eq_true.{0}) ?_ ?_<;>try with_reducible intro hb)|(refine Xi ?_ ?_<;>try intro ht)|refine VD ?_ ?_|exact Xx|fail))<;>try with_reducible intro K hK)
  all_goals try(exfalso;omega)
  all_goals exact aE rfl (by first|rfl|simp)
end T

