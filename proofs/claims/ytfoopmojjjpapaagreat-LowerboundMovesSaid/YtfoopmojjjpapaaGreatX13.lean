import Derived.Test.YtfoopmojjjpapaaGreatX10
set_option linter.all false
set_option maxHeartbeats 0
set_option maxRecDepth 20000
open List renaming all_eq_true→gH,mem_cons→bj,mem_of_getElem?→gk,map_congr_left→tL,mem_append→cC,range→bn,contains_iff_mem→uY,not_mem_nil→gU,range'→lH
open Bool renaming and_eq_true→aZ,false_or→pS,or_eq_true→kG
open Array renaming toList_append→AJ,replicate→uX,getElem?_eq_some_iff→mg
namespace Go.Am
variable {P:Program} {N n0:Nat} {σ:St}
def yi:Ob->Bool
 |.gone=>false
 |.var cs=>lL cs
 |.arr _ rows=>rows.all lL
 |.mp _ _=>false
def T5{ρ:Nat->Nat}{o:Ob}(h:yi o=true):bH ρ o=o:=by
 cases o with
 |gone=>simp[yi]at h
 |var cs =>
  have:=A6 ρ cs h;rw[wK]at this;simp[bH,this]
 |arr sz rows=>exact CE (by simpa [yi,gH] using h)
 |mp ag L=>simp[yi]at h
def T6(hd:Nat)(c a:AV):Prop:=(a=c/\ki c=true)\/(c=.ptr 0 0 0/\a=.ptr hd 0 0)
def Dd(P:Program)(hd:Nat)(g:FuncId)(args:List AV)(dst:Option Tmp)(K:St->Prop)(σ:St):Prop :=
 ∃ dz D res D',Holds P g dz [D] res [D']/\yi D=true/\yi D'=true/\σ.aa[hd]?=some D/\ki res=true/\ju (T6 hd) dz args/\K ((⟨σ.env,σ.aa.set hd D'⟩:St).put dst res)
def aeO{hd:Nat}{g:FuncId}{args:List AV}{dst:Option Tmp}{K:St->Prop}(h:Dd P hd g args dst K σ):r8 P g args dst K σ:=by
 obtain⟨dz,D,res,D',h1,h2,h3,h4,h5,h6,h7⟩:=h;obtain⟨h8,h9⟩:=h6.spec;have hρ:bq σ.aa.length [hd] 0=hd:=by simp[bq]
 refine⟨[hd],false,dz,[D],res,[D'],h1,⟨Iy,rfl,λj o hj=>?_,h8,λj c d hc ua=>?_,Iy⟩,?_⟩
 ·cases j with
  |zero=>simp at hj;subst hj;simp[T5 h2,h4]
  |succ j=>simp at hj
 ·rcases h9 j c d hc ua with⟨rfl,hn⟩|⟨rfl,rfl⟩
  ·exact .pure hn
  ·exact .eq (by simp[bf,hρ])
 ·have e:fl σ.aa [hd] ([D'].map (bH (bq σ.aa.length [hd])))=σ.aa.set hd D':=by simp[fl,T5 h3]
  show K (({ σ with aa:=fl σ.aa [hd] ([D'].map (bH (bq σ.aa.length [hd]))) }:St).put dst (bf (bq σ.aa.length [hd]) res));rw[e,zb _ _ h5];exact h7
def yj(hd:Nat)(P:Program)(o:Oper)(σ:St)(K:St->Prop):Prop :=
 match o.op with
 |.call { callee:=.value f,args,.. } =>
  match ev σ f with
  |.fn g bk=>Dd P hd g (args.toList.map (ev σ)++bk) o.dst K σ
  |_=>False
 |_=>False
def aeQ{hd:Nat}{o:Oper}{K:St->Prop}(h:yj hd P o σ K):aI P o σ K:=by
 unfold yj at h;unfold aI;split at h
 ·rename_i f args cp cZ;simp only[cZ];split at h
  ·rename_i g bk he;simp only[he];exact aeO h
  ·exact h.elim
 ·exact h.elim
def oC(hd:Nat):AV->Bool
 |.ptr id _ _=>id != hd
 |.ref id _ _ _=>id != hd
 |.du id=>id != hd
 |_=>true
def sV(hd:Nat)(σ:St):List Operand->Bool
 |[]=>true
 |x::l=>oC hd (ev σ x)&&sV hd σ l
def eR(hd:Nat)(q:Bool)(o:Oper)(σ:St):Bool:=q||cls o.op==0||decide (3<=cls o.op)||sV hd σ o.op.operands.toList
def T7{hd:Nat}:∀ {l:List Operand},sV hd σ l=true->∀ x∈l,og (ev σ x)≠some hd
 |[],_,x,hx=>by simp at hx
 |y::l,h,x,hx=>by
  simp only[sV,aZ]at h;rcases bj.1 hx with rfl|hx
  ·intro e;have h1:=h.1;cases hv:ev σ x<;>rw[hv]at e h1<;>simp[og,oC]at e h1
   ·exact h1 e
   ·exact h1 e
   ·exact h1 e
  ·exact T7 h.2 x hx
def Ki{hd:Nat}{σ2:St}:∀ {l:List Operand},(∀ x∈l,ev σ2 x=ev σ x)->sV hd σ2 l=sV hd σ l
 |[],_=>rfl
 |y::l,h=>by
  simp only[sV];rw[h y Iy,Ki λx hx=>h x (by simp[hx])]
def km(P:Program)(ops:Array Oper)(hd:Nat)(q dc:Bool)(o:Oper)(K:St->Prop)(σ:St):Prop :=
 match dc with
 |true=>o.guard=none/\yj hd P o σ K
 |false=>eR hd q o σ=true/\dX P ops q o K σ
def cT(q dc:Bool)(o:Oper):Nat:=if dc then 6 else eN q o
def De(hd c:Nat)(a b:List Ob):Prop:=if c=6 then ∀ id,id≠hd->b[id]?=a[id]? else kj c a b
def aeR{N:Nat}{os:List Ob}{γ0:Cx}{ops:Array Oper}{hh:Nat}(hd:∀ o∈ops.toList,∀ d,o.dst=some d->d<N){q dc:Bool}{i:Nat}{o:Oper}(hi:ops[i]?=some o){σ:St}{K:St->Prop}(h:km P ops hh q dc o K σ){a:Act}{w:World}(ay:fq N os γ0 σ a w){Q:Exit->Act->World->Prop}{next:Act->World->Prop}(hn:∀ σ' a' w',K σ'->fq N os γ0 σ' a' w'->next a' w'):wpOp P ops Q i next a w:=by
 cases dc with
 |false=>exact IT hd hi h.2 ay hn
 |true =>
  have cH:o∈ops.toList:=gk (by simpa using hi);unfold wpOp;simp only[hi];have hw:Region.wanted o (yielded ops a.tmps)=true:=by simp[Region.wanted,h.1]
  rw[if_pos hw];left;exact wI (aeQ h.2) ay (hd o cH) hn
def Gr{ops:Array Oper}{hh:Nat}{q dc:Bool}{o:Oper}{σ:St}{K:St->Prop}(hW:km P ops hh q dc o K σ):
  ∃ v os,De hh (cT q dc o) σ.aa os/\K ((⟨σ.env,os⟩:St).put o.dst v)/\∀ (e2:Nat->AV) (K2:St->Prop),(∀ t∈o.looksAt ops,e2 t=σ.env t)->K2 ((⟨e2,os⟩:St).put o.dst v)->km P ops hh q dc o K2 ⟨e2,σ.aa⟩:=by
 cases dc with
 |false =>
  obtain⟨hc,hW⟩:=hW;obtain⟨v,os,h1,h2,h3⟩:=A2 hW;refine⟨v,os,?_,h2,λe2 K2 hl hK=>⟨?_,h3 e2 K2 hl hK⟩⟩
  ·unfold De cT;simp only[Bool.false_eq_true,if_false];rw[if_neg]
   ·exact h1
   ·unfold eN;split
    ·omega
    ·unfold cls;split<;>omega
  ·unfold eR at hc ⊢;rw[Ki (σ:=σ) (sc hl)];exact hc
 |true =>
  obtain⟨hg,hW⟩:=hW;unfold yj at hW;split at hW
  ·rename_i f args cp cZ;split at hW
   ·rename_i g bk he;obtain⟨dz,D,res,D',h1,h2,h3,h4,h5,h6,h7⟩:=hW;refine⟨res,σ.aa.set hh D',?_,h7,λe2 K2 hl hK=>⟨hg,?_⟩⟩
    ·unfold De cT;simp only[if_true];intro id bO;rw[List.getElem?_set,if_neg (Ne.symm bO)]
    ·unfold yj;simp only[cZ];have hx:=sc (os:=σ.aa) hl;have e1:ev ⟨e2,σ.aa⟩ f=.fn g bk:=by rw[<- he];exact hx f (by simp[cZ,Op.operands,Call.operands])
     have e3:args.toList.map (ev ⟨e2,σ.aa⟩)=args.toList.map (ev σ):=tL λy hy=>hx y (by simp only[cZ,Op.operands,Call.operands,AJ,cC];exact .inr hy);simp only[e1,e3];exact⟨dz,D,res,D',h1,h2,h3,h4,h5,h6,hK⟩
   ·exact hW.elim
  ·exact hW.elim
def aeS{o:Oper}{σ:St}{K:St->Prop}(hc:cls o.op<=2)(hW:aI P o σ K):
  ∃ v,K (σ.put o.dst v)/\∀ (σ2:St) (K2:St->Prop),(∀ x∈o.op.operands.toList,ev σ2 x=ev σ x)->(∀ x∈o.op.operands.toList,∀ id,og (ev σ x)=some id->gJ (cls o.op) σ.aa[id]? σ2.aa[id]?)->K2 (σ2.put o.dst v)->aI P o σ2 K2:=by
 unfold aI at hW ⊢;split at hW
 ·rename_i f args cp cZ;rw[cZ]at hc;simp[cls]at hc
 ·rename_i r m args cp cZ;rw[cZ]at hc;simp[cls]at hc
 ·rename_i cA;obtain⟨v,h2,h3⟩:=O' hc hW;refine⟨v,h2,λσ2 K2 hx ho hK=>?_⟩;exact h3 σ2 K2 hx (ho) hK
def T8{q:Bool}{o:Oper}{σ:St}{K:St->Prop}(hc:eN q o<=2)(hW:lJ q P o σ K):
  ∃ v,K (σ.put o.dst v)/\∀ (σ2:St) (K2:St->Prop),(∀ x∈o.op.operands.toList,ev σ2 x=ev σ x)->(∀ x∈o.op.operands.toList,∀ id,og (ev σ x)=some id->gJ (eN q o) σ.aa[id]? σ2.aa[id]?)->K2 (σ2.put o.dst v)->lJ q P o σ2 K2:=by
 cases q with
 |false=>exact aeS hc hW
 |true =>
  unfold lJ at hW ⊢;simp only at hW ⊢;split at hW
  ·rename_i f args cp cZ;simp only[cZ];split at hW
   ·rename_i g bk he;obtain⟨res,h1,h2,h3,h4⟩:=hW;refine⟨res,h4,λσ2 K2 hx _ hK=>?_⟩;have e1:ev σ2 f=.fn g bk:=by rw[<- he];exact hx f (by simp[Op.operands,Call.operands])
    have e3:args.toList.map (ev σ2)=args.toList.map (ev σ):=tL λy hy=>hx y (by simp only[Op.operands,Call.operands,AJ,cC];exact .inr hy);simp only[e1,e3];exact⟨res,h1,h2,h3,hK⟩
   ·exact hW.elim
  ·rename_i t a cZ;obtain⟨x,h1,h2⟩:=IS hW;refine⟨x,h1,λσ2 K2 hx _ hK=>?_⟩;rw[hx a (by simp[cZ,Op.operands])];exact h2 _ K2 hK
  ·exact hW.elim
def T9{ops:Array Oper}{q:Bool}{o:Oper}{σ:St}{K:St->Prop}(hc:eN q o<=2)(hW:dX P ops q o K σ):
  ∃ v,K (σ.put o.dst v)/\∀ (σ2:St) (K2:St->Prop),(∀ t∈o.looksAt ops,σ2.env t=σ.env t)->(∀ x∈o.op.operands.toList,∀ id,og (ev σ x)=some id->gJ (eN q o) σ.aa[id]? σ2.aa[id]?)->K2 (σ2.put o.dst v)->dX P ops q o K2 σ2:=by
 unfold dX at hW ⊢;cases hg:o.guard with
 |none =>
  simp only[hg]at hW;obtain⟨v,h2,h3⟩:=T8 hc hW;exact⟨v,h2,λσ2 K2 hl ho hK=>h3 σ2 K2 (sc (e2:=σ2.env) (os:=σ2.aa) hl) ho hK⟩
 |some jw =>
  obtain⟨j,want⟩:=jw;simp only[hg]at hW;cases dW:(ops[j]?).bind (·.dst) with
  |none=>simp[dW]at hW
  |some d =>
   simp only[dW]at hW;split at hW
   ·rename_i b he;by_cases gn:b=want
    ·obtain⟨v,h2,h3⟩:=T8 hc (hW.1 gn);refine⟨v,h2,λσ2 K2 hl ho hK=>?_⟩;have:σ2.env d=.lit (.bool b):=by rw[hl d (wJ hg dW)];exact he
     simp only[dW,this];exact⟨λ_=>h3 σ2 K2 (sc (e2:=σ2.env) (os:=σ2.aa) hl) ho hK,λhn=>absurd gn hn⟩
    ·refine⟨.lit (.tuple #[]),hW.2 gn,λσ2 K2 hl ho hK=>?_⟩;have:σ2.env d=.lit (.bool b):=by rw[hl d (wJ hg dW)];exact he
     simp only[dW,this];exact⟨λhn=>absurd hn gn,λ_=>hK⟩
   ·rename_i vs he;refine⟨.lit (.tuple #[]),hW.2,λσ2 K2 hl ho hK=>?_⟩;have:σ2.env d=.lit (.tuple vs):=by rw[hl d (wJ hg dW)];exact he
    simp only[dW,this];exact⟨hW.1,hK⟩
   ·exact hW.elim
def T'{ops:Array Oper}{hh:Nat}{q dc:Bool}{o:Oper}{σ:St}{K:St->Prop}(hc:cT q dc o<=2)(hW:km P ops hh q dc o K σ):
  ∃ v,K (σ.put o.dst v)/\∀ (σ2:St) (K2:St->Prop),(∀ t∈o.looksAt ops,σ2.env t=σ.env t)->(∀ (id:Nat),id≠hh->gJ (cT q dc o) σ.aa[id]? σ2.aa[id]?)->K2 (σ2.put o.dst v)->km P ops hh q dc o K2 σ2:=by
 cases dc with
 |true=>simp[cT]at hc
 |false =>
  obtain⟨hk,hW⟩:=hW;have fD:eN q o<=2:=by simpa [cT] using hc
  obtain⟨v,h1,h2⟩:=T9 fD hW;refine⟨v,h1,λσ2 K2 hl ho hK=>⟨?_,h2 σ2 K2 hl (λx hx id hp=>?_) hK⟩⟩
  ·unfold eR at hk ⊢;rw[Ki (σ:=σ) (sc (e2:=σ2.env) (os:=σ2.aa) hl)];exact hk
  ·have cE:∀ id,id≠hh->gJ (eN q o) σ.aa[id]? σ2.aa[id]?:=by simpa [cT] using ho
   by_cases h0:eN q o=0
   ·rw[h0];simp[gJ]
   ·refine cE id λe=>?_;subst e;unfold eN at h0 fD;split at h0
    ·omega
    ·rename_i hq;simp only[hq]at fD;have vA:q=false:=by simpa using hq
     subst vA;unfold eR at hk;have yb:cls o.op<=2:=by simpa using fD
     have h3:decide (3<=cls o.op)=false:=decide_eq_false Ix;have h4:(cls o.op==0)=false:=by simpa using h0
     rw[h3,h4]at hk;simp only[pS]at hk;exact T7 hk x hx hp
def zJ(ci ck:Nat):Bool:=y8 ci ck||(decide (ci<=2)&&ck==6)
def aeT{hh ci ck:Nat}(h:(ci==0||(ci==1&&decide (ck<=4))||(ci==2&&decide (ck<=3))||(decide (ci<=2)&&ck==6))=true){a b:List Ob}(he:De hh ck a b)(id:Nat)(bO:id≠hh):gJ ci a[id]? b[id]?:=by
 unfold De at he;split at he
 ·rename_i h6;subst h6;rw[he id bO];unfold gJ;split
  ·trivial
  ·split
   ·intro o ho;exact⟨o,ho,xR o⟩
   ·intro o ho;exact ho
 ·rename_i h6;refine IV ?_ he id;have:(ck==6)=false:=by simpa using h6
  rw[this]at h;simpa using h
def aeU{ops:Array Oper}{hh:Nat}{qi qk di dk:Bool}{oi ok:Oper}(ha:oi.apart ops ok=true)(hi:cT qi di oi<=2)(hc:(cT qi di oi==0||(cT qi di oi==1&&decide (cT qk dk ok<=4))||(cT qi di oi==2&&decide (cT qk dk ok<=3))||(decide (cT qi di oi<=2)&&cT qk dk ok==6))=true){σ:St}{K:St->Prop}(h:km P ops hh qi di oi (km P ops hh qk dk ok K) σ):km P ops hh qk dk ok (km P ops hh qi di oi K) σ:=by
 obtain⟨a1,a2,a3⟩:=Oper.apart_spec ha;obtain⟨v,h1,run⟩:=T' hi h;obtain⟨vk,os,tV,h2,xS⟩:=Gr h1;rw[A4]at tV xS;refine xS σ.env _ (λt ht=>(sg λd hd e=>a1 d hd (e▸ht)).symm) ?_;refine run _ _ (λt ht=>?_) (λid bO=>?_) ?_
 ·rw[sg λd hd e=>a3 d hd (e▸ht)]
 ·rw[A4];exact aeT hc tV id bO
 ·rw[A5]at h2;rw[A3 (λd hd e=>a2 d e hd)];exact h2
def aeV{ops:Array Oper}{hh:Nat}{qi qk di dk:Bool}{oi ok:Oper}(ha:oi.apart ops ok=true)(hk:cT qk dk ok=0){σ:St}{K:St->Prop}(h:km P ops hh qi di oi (km P ops hh qk dk ok K) σ):km P ops hh qk dk ok (km P ops hh qi di oi K) σ:=by
 obtain⟨a1,a2,a3⟩:=Oper.apart_spec ha;obtain⟨vi,os,tV,h1,run⟩:=Gr h;obtain⟨vk,h2,CC⟩:=T' Ix h1;refine CC σ _ (λt ht=>(sg (σ:=⟨σ.env,os⟩) λd hd e=>a1 d hd (e▸ht)).symm) (λid _=>by rw[hk];simp[gJ]) ?_;rw[IU];refine run _ _ (λt ht=>sg λd hd e=>a3 d hd (e▸ht)) ?_;rw[A5,A3 (λd hd e=>a2 d e hd)];exact h2
def aeW{ops:Array Oper}{hh:Nat}{qi qk di dk:Bool}{oi ok:Oper}(ha:oi.apart ops ok=true)(hc:zJ (cT qi di oi) (cT qk dk ok)=true){σ:St}{K:St->Prop}(h:km P ops hh qi di oi (km P ops hh qk dk ok K) σ):km P ops hh qk dk ok (km P ops hh qi di oi K) σ:=by
 by_cases hk:cT qk dk ok=0
 ·exact aeV ha hk h
 ·have fD:(cT qi di oi==0||(cT qi di oi==1&&decide (cT qk dk ok<=4))||(cT qi di oi==2&&decide (cT qk dk ok<=3))||(decide (cT qi di oi<=2)&&cT qk dk ok==6))=true:=by
   simp only[zJ,y8,kG,aZ,beq_iff_eq,decide_eq_true_eq]at hc ⊢;rcases hc with(((h|h)|h)|h)|h
   ·exact .inl (.inl (.inl h))
   ·exact absurd h hk
   ·exact .inl (.inl (.inr h))
   ·exact .inl (.inr h)
   ·exact .inr h
  refine aeU ha ?_ fD h;simp only[kG,aZ,beq_iff_eq,decide_eq_true_eq]at fD;omega
def eY(P:Program)(ops:Array Oper)(hh:Nat)(qs ds:List Nat)(i:Nat)(K:St->Prop)(σ:St):Prop :=
 match ops[i]? with
 |none=>K σ
 |some o=>km P ops hh (qs.contains i) (ds.contains i) o K σ
def vB(P:Program)(ops:Array Oper)(hh:Nat)(qs ds:List Nat)(K:St->Prop):Nat->Array Bool->St->Prop
 |0,aE,σ=>Region.ready .any ops aE=[]/\K σ
 |n+1,aE,σ=>(Region.ready .any ops aE=[]->K σ)/\∀ i∈Region.ready .any ops aE,eY P ops hh qs ds i (vB P ops hh qs ds K n (aE.setIfInBounds i true)) σ
def aeX{ops:Array Oper}{hh:Nat}{q dc:Bool}{o:Oper}{σ:St}{K K2:St->Prop}(hk:∀ s,K s->K2 s)(h:km P ops hh q dc o K σ):km P ops hh q dc o K2 σ:=by
 obtain⟨v,os,_,h2,run⟩:=Gr h;exact run σ.env K2 (λ_ _=>rfl) (hk _ h2)
def aeY{ops:Array Oper}{hh:Nat}{q dc:Bool}{o:Oper}{σ:St}{K:St->Prop}(h:km P ops hh q dc o K σ):∃s,K s:=by
 obtain⟨v,os,_,h2,run⟩:=Gr h;exact⟨_,h2⟩
def yk{ops:Array Oper}{hh:Nat}{qs ds:List Nat}{i:Nat}{σ:St}{K K2:St->Prop}(hk:∀ s,K s->K2 s)(h:eY P ops hh qs ds i K σ):eY P ops hh qs ds i K2 σ:=by
 unfold eY at h ⊢;split at h
 ·exact hk _ h
 ·exact aeX hk h
def aeZ{ops:Array Oper}{hh:Nat}{qs ds:List Nat}{i:Nat}{σ:St}{K:St->Prop}(h:eY P ops hh qs ds i K σ):∃s,K s:=by
 unfold eY at h;split at h
 ·exact⟨_,h⟩
 ·exact aeY h
def Kj{os:List Ob}{γ0:Cx}{ops:Array Oper}{hh:Nat}{qs ds:List Nat}(hd:∀ o∈ops.toList,∀ d,o.dst=some d->d<N){K:St->Prop}{Q:Exit->Act->World->Prop}(hQ:∀ σ' a' w',K σ'->fq N os γ0 σ' a' w'->Q .normal a' w'):∀ (n:Nat) (aE:Array Bool) (σ:St) (a:Act) (w:World),vB P ops hh qs ds K n aE σ->fq N os γ0 σ a w->wpAny P .any ops Q n aE a w
 |0,aE,σ,a,w,h,ay=>⟨h.1,hQ _ _ _ h.2 ay⟩
 |n+1,aE,σ,a,w,h,ay=>by
  refine⟨λhr=>hQ _ _ _ (h.1 hr) ay,λi hi=>?_⟩;have:=h.2 i hi;unfold eY at this;split at this
  ·rename_i aq;unfold wpOp;simp only[aq];exact Kj hd hQ n _ _ _ _ this ay
  ·rename_i o aq;exact aeR hd aq this ay λσ' a' w' hK cP=>Kj hd hQ n _ _ _ _ hK cP
def ae0{id:Nat}{ops:Array Oper}{Q:Exit->St->Prop}(hh:Nat)(qs ds:List Nat)(hm:P.follows .mixedOrders=true)(hd:eU N ops=true)(h:vB P ops hh qs ds (Q .normal) ops.size (uX ops.size false) σ):W P N n0 (.region id ops true) Q σ:=by
 intro os γ0 a w _ ay;refine wp_region_any hm ?_;exact Kj (nx hd) (K:=Q .normal) (λσ' a' w' hK cP=>⟨σ',hK,cP⟩) _ _ _ _ _ h ay.drawn
def ae1{ops:Array Oper}{hh:Nat}{qs ds:List Nat}{K:St->Prop}{i:Nat}{o:Oper}(hi:ops[i]?=some o)(D:List Nat)(Pf:i∈D)(hD:∀ j∈D,j=i\/∃ oj,ops[j]?=some oj/\∃ e∈oj.after,Region.binds .any e=true/\e.on∈D):∀ (fuel:Nat) (aE:Array Bool) (σ:St),(∀ j∈D,aE.getD j true=false) ->
   i∈Region.ready .any ops aE ->
   (∀ j oj,ops[j]?=some oj->aE.getD j true=false->j ∉ D->o.apart ops oj=true/\zJ (cT (qs.contains i) (ds.contains i) o) (cT (qs.contains j) (ds.contains j) oj)=true) ->
   eY P ops hh qs ds i (vB P ops hh qs ds K fuel (aE.setIfInBounds i true)) σ->vB P ops hh qs ds K (fuel+1) aE σ:=by
 intro fuel
 induction fuel with
 |zero =>
  intro aE σ hu hr lN h;refine⟨λe=>by rw[e]at hr;simp at hr,λk hk=>?_⟩;by_cases eV:k=i
  ·subst eV;exact h
  ·obtain⟨s,hs⟩:=aeZ h;have:=ready_mono hk eV;rw[hs.1]at this;simp at this
 |succ m ih =>
  intro aE σ hu hr lN h;refine⟨λe=>by rw[e]at hr;simp at hr,λk hk=>?_⟩;by_cases eV:k=i
  ·subst eV;exact h
  ·have y9:=mem_ready.1 hk;obtain⟨eW,ok,ay,dJ⟩:=y9;have p8:k ∉ D:=by
    intro p8;rcases hD k p8 with e|⟨oj,gK,e,he,hb,nX⟩
    ·exact eV e
    ·rw[ay]at gK;simp only[Option.some.injEq]at gK;subst gK;have h1:=dJ e he hb;have h2:=hu e.on nX;rw[Array.getD_eq_getD_getElem?]at h1 h2;cases hx:aE[e.on]? with
     |none=>rw[hx]at h1;simp at h1
     |some b=>rw[hx]at h1 h2;simp at h1 h2;rw[h1]at h2;simp at h2
   obtain⟨ha,hc⟩:=lN k ok ay eW p8;have h1:eY P ops hh qs ds i (eY P ops hh qs ds k (vB P ops hh qs ds K m ((aE.setIfInBounds i true).setIfInBounds k true))) σ :=
    yk (λs hs=>hs.2 k (ready_mono hk eV)) h
   have h2:eY P ops hh qs ds k (eY P ops hh qs ds i (vB P ops hh qs ds K m ((aE.setIfInBounds i true).setIfInBounds k true))) σ:=by
    unfold eY at h1 ⊢;simp only[hi,ay]at h1 ⊢;exact aeW ha hc h1
   refine yk (λs hs=>?_) h2;refine ih (aE.setIfInBounds k true) s (λj hj=>?_) (ready_mono hr (Ne.symm eV)) (λj oj gK hl tX=>?_) ?_
   ·have cA:k≠j:=λe=>p8 (by rw[e];exact hj);rw[getD_set_ne _ cA];exact hu j hj
   ·refine lN j oj gK ?_ tX;by_cases xT:k=j
    ·subst xT;exact eW
    ·rwa [getD_set_ne _ xT]at hl
   ·rw[Array.setIfInBounds_comm _ _ (Ne.symm eV)]at hs;exact hs
def Df(ops:Array Oper)(qs ds:List Nat)(aE:Array Bool)(i:Nat)(D:List Nat):Bool :=
 match ops[i]? with
 |none=>false
 |some o =>
  D.contains i&&D.all (λj=>j==i||match ops[j]? with|some oj=>oj.after.any (λe=>Region.binds .any e&&D.contains e.on)|none=>false) &&
  D.all (λj=>!aE.getD j true)&&o.after.all (λe=>!Region.binds .any e||aE.getD e.on false) &&
  (bn ops.size).all λj=>D.contains j||aE.getD j true||match ops[j]? with|some oj=>o.apart ops oj&&zJ (cT (qs.contains i) (ds.contains i) o) (cT (qs.contains j) (ds.contains j) oj)|none=>true
def ae2{ops:Array Oper}{hh:Nat}{qs ds:List Nat}{K:St->Prop}{i:Nat}{D:List Nat}{fuel:Nat}{aE:Array Bool}(h:Df ops qs ds aE i D=true)(hs:eY P ops hh qs ds i (vB P ops hh qs ds K fuel (aE.setIfInBounds i true)) σ):vB P ops hh qs ds K (fuel+1) aE σ:=by
 unfold Df at h;cases hi:ops[i]? with
 |none=>simp[hi]at h
 |some o =>
  simp only[hi,aZ,gH,uY,kG,beq_iff_eq,Bool.not_eq_true']at h;obtain⟨⟨⟨⟨h1,h2⟩,h3⟩,h4⟩,h5⟩:=h;refine ae1 hi D h1 (λj hj=>?_) fuel aE σ h3 ?_ ?_ hs
  ·rcases h2 j hj with h|h
   ·exact .inl h
   ·right;split at h
    ·rename_i oj gK;rw[Array.any_eq_true']at h;obtain⟨e,he,hb⟩:=h;simp only[aZ,uY]at hb;exact⟨oj,gK,e,he,hb.1,hb.2⟩
    ·simp at h
  ·rw[mem_ready];refine⟨h3 i h1,o,hi,λe he hb=>?_⟩;rw[Array.all_eq_true']at h4;have:=h4 e he;simpa [hb] using this
  ·intro j oj gK hl tX;have hj:j<ops.size:=(mg.1 gK).1;rcases h5 j (List.mem_range.2 hj) with(h|h)|h
   ·exact absurd h tX
   ·rw[hl]at h;simp at h
   ·simpa [gK] using h
def PT.j6(ops:Array Oper)(qs ds:List Nat):PT->Nat->Array Bool->Bool
 |.nil,n,aE=>n==0&&(Region.ready .any ops aE).isEmpty
 |.take _ _,0,_=>false
 |.take i t,n+1,aE=>Df ops qs ds aE i (IX ops i)&&t.j6 ops qs ds n (aE.setIfInBounds i true)
 |.both _ _ _ _,0,_=>false
 |.both i t j u,n+1,aE=>(Region.ready .any ops aE==[i,j])&&t.j6 ops qs ds n (aE.setIfInBounds i true)&&u.j6 ops qs ds n (aE.setIfInBounds j true)
 |.three _ _ _ _ _ _,0,_=>false
 |.three i t j u k v,n+1,aE=>(Region.ready .any ops aE==[i,j,k])&&t.j6 ops qs ds n (aE.setIfInBounds i true)&&u.j6 ops qs ds n (aE.setIfInBounds j true)&&v.j6 ops qs ds n (aE.setIfInBounds k true)
def mY(P:Program)(ops:Array Oper)(hh:Nat)(qs ds:List Nat):PT->(St->Prop)->St->Prop
 |.nil,K,σ=>K σ
 |.take i t,K,σ=>eY P ops hh qs ds i (mY P ops hh qs ds t K) σ
 |.both i t j u,K,σ=>eY P ops hh qs ds i (mY P ops hh qs ds t K) σ/\eY P ops hh qs ds j (mY P ops hh qs ds u K) σ
 |.three i t j u k v,K,σ=>eY P ops hh qs ds i (mY P ops hh qs ds t K) σ/\eY P ops hh qs ds j (mY P ops hh qs ds u K) σ/\eY P ops hh qs ds k (mY P ops hh qs ds v K) σ
def zK{ops:Array Oper}{hh:Nat}{qs ds:List Nat}{K:St->Prop}:∀ (t:PT) (n:Nat) (aE:Array Bool) (σ:St),t.j6 ops qs ds n aE=true->mY P ops hh qs ds t K σ->vB P ops hh qs ds K n aE σ
 |.nil,n,aE,σ,h,hp=>by
  simp only[PT.j6,aZ,beq_iff_eq,List.isEmpty_iff]at h;obtain⟨rfl,h⟩:=h;exact⟨h,hp⟩
 |.take _ _,0,_,_,h,_=>by simp[PT.j6]at h
 |.take i t,n+1,aE,σ,h,hp=>by
  simp only[PT.j6,aZ]at h;exact ae2 h.1 (yk (λs hs=>zK t n _ s h.2 hs) hp)
 |.both _ _ _ _,0,_,_,h,_=>by simp[PT.j6]at h
 |.both i t j u,n+1,aE,σ,h,hp=>by
  simp only[PT.j6,aZ,beq_iff_eq]at h;obtain⟨⟨h1,h2⟩,h3⟩:=h;refine⟨λe=>by rw[h1]at e;simp at e,λk hk=>?_⟩;rw[h1]at hk;simp only[bj,gU,or_false]at hk;rcases hk with rfl|rfl
  ·exact yk (λs hs=>zK t n _ s h2 hs) hp.1
  ·exact yk (λs hs=>zK u n _ s h3 hs) hp.2
 |.three _ _ _ _ _ _,0,_,_,h,_=>by simp[PT.j6]at h
 |.three i t j u k v,n+1,aE,σ,h,hp=>by
  simp only[PT.j6,aZ,beq_iff_eq]at h;obtain⟨⟨⟨h1,h2⟩,h3⟩,h4⟩:=h;refine⟨λe=>by rw[h1]at e;simp at e,λx hk=>?_⟩;rw[h1]at hk;simp only[bj,gU,or_false]at hk;rcases hk with rfl|rfl|rfl
  ·exact yk (λs hs=>zK t n _ s h2 hs) hp.1
  ·exact yk (λs hs=>zK u n _ s h3 hs) hp.2.1
  ·exact yk (λs hs=>zK v n _ s h4 hs) hp.2.2
def Gs{id:Nat}{ops:Array Oper}{Q:Exit->St->Prop}(hh:Nat)(qs ds:List Nat)(t:PT)(hm:P.follows .mixedOrders=true)(hd:eU N ops=true)(ht:t.j6 ops qs ds ops.size (uX ops.size false)=true)(h:mY P ops hh qs ds t (Q .normal) σ):W P N n0 (.region id ops true) Q σ :=
 ae0 hh qs ds hm hd (zK t _ _ σ ht h)
def Ua{ops:Array Oper}{hh:Nat}{qs ds:List Nat}{K:St->Prop}:mY P ops hh qs ds .nil K σ=K σ:=rfl
def Ub{ops:Array Oper}{hh:Nat}{qs ds:List Nat}{i:Nat}{t:PT}{K:St->Prop}:mY P ops hh qs ds (.take i t) K σ=eY P ops hh qs ds i (mY P ops hh qs ds t K) σ:=rfl
def Uc{ops:Array Oper}{hh:Nat}{qs ds:List Nat}{i j k:Nat}{t u v:PT}{K:St->Prop}:mY P ops hh qs ds (.three i t j u k v) K σ=(eY P ops hh qs ds i (mY P ops hh qs ds t K) σ/\eY P ops hh qs ds j (mY P ops hh qs ds u K) σ/\eY P ops hh qs ds k (mY P ops hh qs ds v K) σ):=rfl
def Ud{ops:Array Oper}{hh:Nat}{qs ds:List Nat}{i j:Nat}{t u:PT}{K:St->Prop}:mY P ops hh qs ds (.both i t j u) K σ=(eY P ops hh qs ds i (mY P ops hh qs ds t K) σ/\eY P ops hh qs ds j (mY P ops hh qs ds u K) σ):=rfl
def Ue{ops:Array Oper}{hh:Nat}{q:Bool}{o:Oper}{K:St->Prop}:km P ops hh q true o K σ=(o.guard=none/\yj hh P o σ K):=rfl
def Uf{ops:Array Oper}{hh:Nat}{q:Bool}{o:Oper}{K:St->Prop}:km P ops hh q false o K σ=(eR hh q o σ=true/\dX P ops q o K σ):=rfl
def Ug(P:Program)(hh:Nat)(dst:Option Tmp)(args:List AV)(K:St->Prop)(σ:St):AV->Prop
 |.fn g bk=>Dd P hh g (args++bk) dst K σ
 |_=>False
def Uh{hh:Nat}{dst:Option Tmp}{args:List AV}{K:St->Prop}{g:FuncId}{bk:List AV}:Ug P hh dst args K σ (.fn g bk)=Dd P hh g (args++bk) dst K σ:=rfl
section
variable {dst:Option Tmp} {tt:TypeId} {p:String} {af:Array Edge} {g:Option (Nat×Bool)} {K:St->Prop} {hh:Nat}
def Ui(f:Operand)(args:Array Operand)(cp:Array TypeId):yj hh P ⟨dst,.call ⟨.value f,args,cp⟩,tt,p,af,g⟩ σ K=Ug P hh dst (args.toList.map (ev σ)) K σ (ev σ f):=by
 simp only[yj];cases ev σ f<;>rfl
def Uj{o:Oper}:eR hh true o σ=true:=by simp[eR]
def Uk(t:TypeId)(a:Operand):eR hh false ⟨dst,.load t a,tt,p,af,g⟩ σ=oC hh (ev σ a):=by simp[eR,cls,Op.operands,sV]
def Ul(t:TypeId)(a:Operand)(f:Nat):eR hh false ⟨dst,.fieldAddr t a f,tt,p,af,g⟩ σ=oC hh (ev σ a):=by simp[eR,cls,Op.operands,sV]
def Um(a:Operand):eR hh false ⟨dst,.nilCheck a,tt,p,af,g⟩ σ=oC hh (ev σ a):=by simp[eR,cls,Op.operands,sV]
def Un(t:TypeId)(a i:Operand):eR hh false ⟨dst,.indexAddr t a i,tt,p,af,g⟩ σ=(oC hh (ev σ a)&&oC hh (ev σ i)):=by simp[eR,cls,Op.operands,sV]
def Uo(x:Operand)(cp:Array TypeId):eR hh false ⟨dst,.call ⟨.builtin .len,#[x],cp⟩,tt,p,af,g⟩ σ=oC hh (ev σ x):=by simp[eR,cls,Op.operands,Call.operands,sV]
def mZ{o:Oper}(h:(cls o.op==0||decide (3<=cls o.op))=true):eR hh false o σ=true:=by simp only[eR,pS,h,Bool.true_or]
def Uq(id r c:Nat):oC hh (.ptr id r c) = !(id==hh):=rfl
def Ur(id a b c:Nat):oC hh (.ref id a b c) = !(id==hh):=rfl
def Us(v:Value):oC hh (.lit v)=true:=rfl
def Ut(s:Nat)(r:List (List AV)):oC hh (.tree s r)=true:=rfl
def Uu(r:List AV):oC hh (.cd r)=true:=rfl
def Uv(r:List AV):oC hh (.agg r)=true:=rfl
def Uw(r:List AV):oC hh (.bu r)=true:=rfl
def Ux:oC hh .undef=true:=rfl
def Uy(x:Operand):eR hh false ⟨dst,.move x,tt,p,af,g⟩ σ=true:=mZ NZ
def Uz(x:Operand):eR hh false ⟨dst,.assign x,tt,p,af,g⟩ σ=true:=mZ NZ
def UA(c a b:Operand):eR hh false ⟨dst,.pick c a b,tt,p,af,g⟩ σ=true:=mZ NZ
def UB(op:BinOp)(t:TypeId)(x y:Operand)(yt:TypeId):eR hh false ⟨dst,.binOp op t x y yt,tt,p,af,g⟩ σ=true:=mZ NZ
def UC(op:UnOp)(t:TypeId)(x:Operand):eR hh false ⟨dst,.unOp op t x,tt,p,af,g⟩ σ=true:=mZ NZ
def UD(fn:Fn)(a b:Array Operand):eR hh false ⟨dst,.makeFunc fn a b,tt,p,af,g⟩ σ=true:=mZ NZ
def UE(s:TypeId)(x:Operand)(f:Nat):eR hh false ⟨dst,.field s x f,tt,p,af,g⟩ σ=true:=mZ NZ
def UG(x:Operand)(i:Nat):eR hh false ⟨dst,.extract x i,tt,p,af,g⟩ σ=true:=mZ NZ
def UH(t:TypeId)(parts:Array (Nat×Operand)):eR hh false ⟨dst,.build t parts,tt,p,af,g⟩ σ=true:=mZ NZ
def UI(e:TypeId):eR hh false ⟨dst,.alloc e,tt,p,af,g⟩ σ=true:=mZ NZ
def UJ(e:TypeId)(x:Operand):eR hh false ⟨dst,.box e x,tt,p,af,g⟩ σ=true:=mZ NZ
def UK(t:TypeId)(l c:Operand):eR hh false ⟨dst,.makeSlice t l c,tt,p,af,g⟩ σ=true:=mZ NZ
def UL(t:TypeId)(len:Nat)(parts:Array (Nat×Operand)):eR hh false ⟨dst,.buildSlice t len parts,tt,p,af,g⟩ σ=true:=mZ NZ
def UM(t:TypeId)(a x:Operand):eR hh false ⟨dst,.store t a x,tt,p,af,g⟩ σ=true:=mZ NZ
def UP(f:Operand)(args:Array Operand)(cp:Array TypeId):eR hh false ⟨dst,.call ⟨.value f,args,cp⟩,tt,p,af,g⟩ σ=true:=mZ NZ
def UQ(args:Array Operand)(cp:Array TypeId):eR hh false ⟨dst,.call ⟨.builtin .append,args,cp⟩,tt,p,af,g⟩ σ=true:=mZ NZ
def UR(args:Array Operand)(cp:Array TypeId):eR hh false ⟨dst,.call ⟨.builtin .min,args,cp⟩,tt,p,af,g⟩ σ=true:=mZ NZ
def US(args:Array Operand)(cp:Array TypeId):eR hh false ⟨dst,.call ⟨.builtin .max,args,cp⟩,tt,p,af,g⟩ σ=true:=mZ NZ
end
def Hc:=aaI @Ua @Ub @Uc @Ud @Ue @Uf @Uh (aaI @Ui @Uj @Uk @Ul @Um @Un @Uo (aaI @Uq @Ur @Us @Ut @Uu @Uv @Uw (aaI @Ux @Uy @Uz @UA @UB @UC @UD (aaI @UE @UG @UH @UI @UJ @UK @UL (aaq @UM @UP @UQ @UR @US)))))
def yl{hh:Nat}{f:FuncId}{args dz:List AV}{D D':Ob}{dst:Option Tmp}{K:St->Prop}{res:AV}(h:Holds P f dz [D] res [D'])(h1:yi D=true)(h2:yi D'=true)(h3:σ.aa[hh]?=some D)(h4:ki res=true)(h5:ju (T6 hh) dz args)(hK:K ((⟨σ.env,σ.aa.set hh D'⟩:St).put dst res)):Dd P hh f args dst K σ:=⟨dz,D,res,D',h,h1,h2,h3,h4,h5,hK⟩
def nf{P:Program}{N n0:Nat}{σ:St}{Q:Exit->St->Prop}(n:Nat){id:Nat}{ops:Array Oper}(hd:eU N ops=true)(o:Oper)(ho:ops[n]?=some o)(h:∀ K:St->Prop,(∀ s,Q .normal s->K s)->opsL P ops (ops.toList.take n) (sN P o (opsL P ops (ops.toList.drop (n+1)) K)) σ):W P N n0 (.region id ops false) Q σ:=by
 intro os γ0 a w hn ay;refine wp_region ?_;have qg:n<ops.size:=(mg.1 ho).1;have e:bn ops.size=lH 0 (ops.toList.take n).length++(n::lH (n+1) (ops.toList.drop (n+1)).length):=by
  rw[List.range_eq_range',<- List.range'_succ];have:=List.range'_append (s:=0) (m:=n) (n:=(ops.toList.drop (n+1)).length+1) (step:=1);simp only[Nat.zero_add,Nat.one_mul]at this;rw[show(ops.toList.take n).length=n by simp;omega,this];congr 1;simp;omega
 rw[e];refine xQ _ a w ?_;refine qZ (nx hd) (K:=sN P o (opsL P ops (ops.toList.drop (n+1)) (Q .normal))) (λσ' a' w' hk cP=>?_) (ops.toList.take n) 0 σ a w (λk hk=>?_) (h _ (λ_ h=>h)) ay
 ·show wpOps P ops _ _ a' w';rw[wpOps_cons];unfold wpOp;simp only[ho];have hw:Region.wanted o (yielded ops a'.tmps)=true:=by simp[Region.wanted,hk.1]
  rw[if_pos hw];left;refine F6 hk cP (nx hd o (gk (by simpa using ho))) (λσ2 a2 w2 bd zD=>?_);refine qZ (nx hd) (K:=Q .normal) (λzE a3 w3 fU zF=>⟨zE,fU,zF⟩) (ops.toList.drop (n+1)) (n+1) σ2 a2 w2 (λk hk=>?_) bd zD;rw[List.getElem?_drop];simp
 ·simp only[List.length_take,Array.length_toList]at hk;rw[List.getElem?_take_of_lt Ix];simp
end Go.Am

