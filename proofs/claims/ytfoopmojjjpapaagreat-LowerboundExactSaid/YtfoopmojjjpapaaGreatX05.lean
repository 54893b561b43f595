import Derived.Test.YtfoopmojjjpapaaGreatX04
set_option linter.all false
set_option maxHeartbeats 0
set_option maxRecDepth 20000
open List renaming mem_of_getElem?→gY,mem_append→cT,map_congr_left→uX,getElem?_eq_some_iff→aR,range→bk,contains_iff_mem→pY,mem_cons→bm,not_mem_nil→iT,getD_eq_getElem?_getD→ax,getElem?_range→pX,nodup_range→ES,range'→nr,range_eq_range'→wj,map_set→p6,replicate→aO,mem_map→bS
open Array renaming getD_eq_getD_getElem?→eA,toList_append→CC,replicate→xK
open Bool renaming or_eq_true→l7,and_eq_true→bg
open Option renaming some→cy
namespace Go.Am
variable {P:Program}
def I7(P:Program)(g:FuncId)(args:List AV)(dst:Option Tmp)(K:St->Prop)(σ:St):Prop :=
 ∃ res,Holds P g args [] res []/\mK args=true/\lH res=true/\K (σ.put dst res)
def ua(P:Program)(t:TypeId)(dst:Option Tmp)(K:St->Prop)(σ:St):AV->Prop
 |.bY cells=>(ty P t).kind≠99/\ma (ty P t) cells 0 λv=>K (σ.put dst v)
 |_=>False
def lD(q:Bool)(P:Program)(o:Oper)(σ:St)(K:St->Prop):Prop :=
 match q with
 |false=>aH P o σ K
 |true =>
  match o.op with
  |.call { callee:=.value f,args,.. } =>
   match ev σ f with
   |.fn g bF=>I7 P g (args.toList.map (ev σ)++bF) o.dst K σ
   |_=>False
  |.load t a=>ua P t o.dst K σ (ev σ a)
  |_=>False
def acj{o:Oper}{σ:St}{K:St->Prop}{t:TypeId}{a:Operand}(dt:o.op=.load t a)(h:ua P t o.dst K σ (ev σ a)):aH P o σ K:=by
 unfold aH;simp only[dt];unfold b8;simp only[dt];unfold ua at h;split at h
 ·rename_i cells he;simp only[he];exact h
 ·exact h.elim
def Jb{t:TypeId}{dst:Option Tmp}{K:St->Prop}{σ:St}{v:AV}(h:ua P t dst K σ v):∃x,K (σ.put dst x)/\∀ (σ2:St) (K2:St->Prop),K2 (σ2.put dst x)->ua P t dst K2 σ2 v:=by
 unfold ua at h;split at h
 ·rename_i cells;obtain⟨h1,h2⟩:=h;unfold ma at h2;split at h2
  ·rename_i ha;refine⟨_,h2.2,λσ2 K2 hK=>?_⟩;unfold ua ma;simp only;rw[if_pos ha];exact⟨h1,h2.1,hK⟩
  ·rename_i ha;split at h2
   ·rename_i x hx;refine⟨x,h2,λσ2 K2 hK=>?_⟩;unfold ua ma;simp only;rw[if_neg ha,hx];exact⟨h1,hK⟩
   ·exact h2.elim
 ·exact h.elim
def pg(q:Bool)(P:Program)(o:Oper)(K:St->Prop)(b want:Bool)(σ:St):Prop:=(b=want->lD q P o σ K)/\(b≠want->K (σ.put o.dst (.lit (.tuple #[]))))
def dY(P:Program)(ops:Array Oper)(q:Bool)(o:Oper)(K:St->Prop)(σ:St):Prop :=
 match o.guard with
 |none=>lD q P o σ K
 |some (j,want) =>
  match (ops[j]?).bind (·.dst) with
  |none=>False
  |some d =>
   match σ.env d with
   |.lit (.bool b)=>pg q P o K b want σ
   |.lit (.tuple vs)=>vs = #[]/\K (σ.put o.dst (.lit (.tuple #[])))
   |_=>False
def PZ{q:Bool}{o:Oper}{σ:St}{K:St->Prop}(h:lD q P o σ K):aH P o σ K:=by
 cases q with
 |false=>exact h
 |true =>
  unfold lD at h;simp only at h;unfold aH;split at h
  ·rename_i f args dh dt;simp only[dt];split at h
   ·rename_i g bF he;simp only[he];obtain⟨res,h1,h2,h3,h4⟩:=h;exact bX h1 h2 h3 h4
   ·exact h.elim
  ·rename_i t a dt;have:=acj dt h;unfold aH at this;simpa only[dt] using this
  ·exact h.elim
def P0{N:Nat}{os:List Ob}{γ0:Cx}{ops:Array Oper}(hd:∀ o∈ops.toList,∀ d,o.dst=some d->d<N){q:Bool}{i:Nat}{o:Oper}(hi:ops[i]?=some o){σ:St}{K:St->Prop}(h:dY P ops q o K σ){a:Act}{w:World}(aA:h9 N os γ0 σ a w){Q:Exit->Act->World->Prop}{next:Act->World->Prop}(hn:∀ σ' a' w',K σ'->h9 N os γ0 σ' a' w'->next a' w'):wpOp P ops Q i next a w:=by
 have cq:o∈ops.toList:=gY (by simpa using hi);unfold wpOp;simp only[hi];unfold dY at h;cases hg:o.guard with
 |none =>
  simp only[hg]at h;have hw:Region.wanted o (yielded ops a.tmps)=true:=by simp[Region.wanted,hg]
  rw[if_pos hw];left;exact xT (PZ h) aA (hd o cq) hn
 |some jw =>
  obtain⟨j,want⟩:=jw;simp only[hg]at h;cases dO:(ops[j]?).bind (·.dst) with
  |none=>simp[dO]at h
  |some d =>
   simp only[dO]at h;split at h
   ·rename_i b he;obtain⟨gH,aJ,γ,rfl,ha,hs,hf⟩:=aA;have jd:=hs.ao d;rw[he,ha]at jd;have hv:=jd.cD;have hy:yielded ops a.tmps j=some b:=by
     unfold yielded;rw[dO];have:a.tmps[d]?=some (.bool b):=by
      rw[eA]at hv;cases hx:a.tmps[d]? with
      |none=>rw[hx]at hv;simp[Go.undef]at hv
      |some y=>rw[hx]at hv;simp at hv;rw[hv]
     simp[this]
    by_cases gj:b=want
    ·have hw:Region.wanted o (yielded ops a.tmps)=true:=by simp[Region.wanted,hg,hy,gj]
     rw[if_pos hw];left;exact xT (PZ (h.1 gj)) ⟨gH,aJ,γ,rfl,ha,hs,hf⟩ (hd o cq) hn
    ·have hw:Region.wanted o (yielded ops a.tmps)=false:=by simp[Region.wanted,hg,hy,gj]
     rw[if_neg (by rw[hw];simp)];refine hn _ _ _ (h.2 gj) ⟨by rw[put_defers];exact gH,by rw[tZ];exact aJ,{ γ with tmps:=(a.put o.dst Go.undef).tmps },rfl,rfl,rm hs ha (λd h=>by rw[aJ];exact hd o cq d h) (.lit _),?_⟩;rw[qh];exact hf.put _
   ·rename_i vs he;obtain⟨gH,aJ,γ,rfl,ha,hs,hf⟩:=aA;have jd:=hs.ao d;rw[he,ha]at jd;have hv:=jd.cD;have hy:yielded ops a.tmps j=none:=by
     unfold yielded;rw[dO];rw[eA]at hv;cases hx:a.tmps[d]? with
     |none=>simp[hx]
     |some y=>rw[hx]at hv;simp at hv;subst hv;simp[hx]
    have hw:Region.wanted o (yielded ops a.tmps)=false:=by simp[Region.wanted,hg,hy]
    rw[if_neg (by rw[hw];simp)];refine hn _ _ _ h.2 ⟨by rw[put_defers];exact gH,by rw[tZ];exact aJ,{ γ with tmps:=(a.put o.dst Go.undef).tmps },rfl,rfl,rm hs ha (λd h=>by rw[aJ];exact hd o cq d h) (.lit _),?_⟩;rw[qh];exact hf.put _
   ·exact h.elim
def Fe(c:Nat)(a:List Ob):kF c a a:=by
 unfold kF;split
 ·rfl
 ·split
  ·intro id _;rfl
  ·split
   ·exact⟨rfl,λid o o' h h'=>by rw[h]at h';simp at h';subst h';exact zl o⟩
   ·trivial
def dF.aa{σ σ2:St}(h:σ2.aa=σ.aa){kp:Nat->Prop}{c d:AV}(ha:dF σ kp c d):dF σ2 kp c d:=by
 induction ha with
 |lit x=>exact .lit x
 |tree s r=>exact .tree s r
 |nil sz=>exact .nil sz
 |ref id sz off len rows gx g bI sw hl0 A8 sH nY ih=>exact .ref id sz off len rows gx g (by rw[h];exact bI) sw hl0 A8 sH ih
def bT.aa{σ σ2:St}(h:σ2.aa=σ.aa){kp:Nat->Prop}{ρ:Nat->Nat}{snap:Bool}{c d:AV}(ha:bT σ kp ρ snap c d):bT σ2 kp ρ snap c d:=by
 induction ha with
 |same v=>exact .same v
 |snap c d hs hf=>exact .snap c d hs (hf.aa h)
 |agg cs ds hl _ ih=>exact .agg cs ds hl ih
 |bu cs ds hl _ ih=>exact .bu cs ds hl ih
def fS(q:Bool)(o:Oper):Nat:=if q then 0 else cls o.op
def wz{ops:Array Oper}{o:Oper}{σ:St}{e2:Nat->AV}{os:List Ob}(h:∀ t∈o.looksAt ops,e2 t=σ.env t):∀ x∈o.op.operands.toList,ev ⟨e2,os⟩ x=ev σ x:=by
 intro x hx;cases x with
 |tmp t =>
  show e2 t=σ.env t;refine h t ?_;unfold Oper.looksAt;rw[cT];left;rw[List.mem_filterMap];exact⟨_,hx,rfl⟩
 |const v=>rfl
 |func f=>rfl
 |global g=>rfl
def ack{σ:St}{v:AV}{K:FuncId->AV->Prop}{r:Option (FuncId×Option TypeId)}(h:o5 P σ v K r):
  ∃ g x,K g x/\∀ (e2:Nat->AV) (K2:FuncId->AV->Prop),K2 g x->o5 P ⟨e2,σ.aa⟩ v K2 r:=by
 match r,h with
 |none,h=>exact h.elim
 |some (g,none),h=>exact⟨g,v,h,λ_ _ h=>h⟩
 |some (g,some e),h =>
  unfold o5 at h;obtain⟨hk,h⟩:=h;cases v with
  |ptr id rr c =>
   simp only at h;cases bE:rowOf σ id rr with
   |none=>simp[bE]at h
   |some row =>
    simp only[bE]at h;obtain⟨x,h1,h2⟩:=P1 h;refine⟨g,x,h1,λe2 K2 hK=>?_⟩;unfold o5;have:rowOf ⟨e2,σ.aa⟩ id rr=some row:=bE;simp only[this];exact⟨hk,h2 _ hK⟩
  |_=>exact h.elim
def acm{o:Oper}{σ:St}{K:St->Prop}(hW:aH P o σ K):
  ∃ v os,kF (cls o.op) σ.aa os/\K ((⟨σ.env,os⟩:St).put o.dst v)/\∀ (e2:Nat->AV) (K2:St->Prop),(∀ x∈o.op.operands.toList,ev ⟨e2,σ.aa⟩ x=ev σ x)->K2 ((⟨e2,os⟩:St).put o.dst v)->aH P o ⟨e2,σ.aa⟩ K2:=by
 unfold aH at hW ⊢;split at hW
 ·rename_i f args dh dt;simp only[dt];split at hW
  ·rename_i g bF he;obtain⟨aj,snap,eN,bU,res,cV,h1,⟨h2,h3,h4,h5,h6,h7⟩,h8⟩:=hW;refine⟨_,_,(by simp[kF,cls]),h8,λe2 K2 hx hK=>?_⟩;have e1:ev ⟨e2,σ.aa⟩ f=.fn g bF:=by rw[<- he];exact hx f (by simp[Op.operands,Call.operands])
   have e3:args.toList.map (ev ⟨e2,σ.aa⟩)=args.toList.map (ev σ):=uX λy hy=>hx y (by simp only[Op.operands,Call.operands,CC,cT];exact .inr hy);simp only[e1,e3];exact⟨aj,snap,eN,bU,res,cV,h1,⟨h2,h3,h4,h5,λj c d hc hd=>bT.aa (σ:=σ) (σ2:=⟨e2,σ.aa⟩) rfl (h6 j c d hc hd),h7⟩,hK⟩
  ·exact hW.elim
 ·rename_i r m args dh dt;simp only[dt];split at hW
  ·rename_i t v he;obtain⟨g,x,⟨aj,snap,eN,bU,res,cV,h1,⟨h2,h3,h4,h5,h6,h7⟩,h8⟩,acn⟩:=ack hW;refine⟨_,_,(by simp[kF,cls]),h8,λe2 K2 hx hK=>?_⟩;have e1:ev ⟨e2,σ.aa⟩ r=.hZ t v:=by rw[<- he];exact hx r (by simp[Op.operands,Call.operands])
   have e3:args.toList.map (ev ⟨e2,σ.aa⟩)=args.toList.map (ev σ):=uX λy hy=>hx y (by simp only[Op.operands,Call.operands,CC,cT];exact .inr hy);simp only[e1,e3];exact acn e2 _ ⟨aj,snap,eN,bU,res,cV,h1,⟨h2,h3,h4,h5,λj c d hc hd=>bT.aa (σ:=σ) (σ2:=⟨e2,σ.aa⟩) rfl (h6 j c d hc hd),h7⟩,hK⟩
  ·exact hW.elim
 ·rename_i bZ;obtain⟨v,os,h1,h2,h3⟩:=aco hW;refine⟨v,os,h1,h2,λe2 K2 hx hK=>?_⟩;have:=h3 e2 K2 hx hK;exact this
def acp{o:Oper}{σ:St}{K:St->Prop}(hc:cls o.op<=2)(hW:aH P o σ K):
  ∃ v,K (σ.put o.dst v)/\∀ (σ2:St) (K2:St->Prop),(∀ x∈o.op.operands.toList,ev σ2 x=ev σ x)->(∀ (id:Nat),jz (cls o.op) σ.aa[id]? σ2.aa[id]?)->K2 (σ2.put o.dst v)->aH P o σ2 K2:=by
 unfold aH at hW ⊢;split at hW
 ·rename_i f args dh dt;rw[dt]at hc;simp[cls]at hc
 ·rename_i r m args dh dt;rw[dt]at hc;simp[cls]at hc
 ·rename_i bZ;obtain⟨v,h2,h3⟩:=P2 hc hW;refine⟨v,h2,λσ2 K2 hx ho hK=>?_⟩;exact h3 σ2 K2 hx (λx _ id _=>ho id) hK
def P3{q:Bool}{o:Oper}{σ:St}{K:St->Prop}(hW:lD q P o σ K):
  ∃ v os,kF (fS q o) σ.aa os/\K ((⟨σ.env,os⟩:St).put o.dst v)/\∀ (e2:Nat->AV) (K2:St->Prop),(∀ x∈o.op.operands.toList,ev ⟨e2,σ.aa⟩ x=ev σ x)->K2 ((⟨e2,os⟩:St).put o.dst v)->lD q P o ⟨e2,σ.aa⟩ K2:=by
 cases q with
 |false=>exact acm hW
 |true =>
  unfold lD at hW ⊢;simp only at hW ⊢;split at hW
  ·rename_i f args dh dt;simp only[dt];split at hW
   ·rename_i g bF he;obtain⟨res,h1,h2,h3,h4⟩:=hW;refine⟨res,σ.aa,Fe _ _,h4,λe2 K2 hx hK=>?_⟩;have e1:ev ⟨e2,σ.aa⟩ f=.fn g bF:=by rw[<- he];exact hx f (by simp[Op.operands,Call.operands])
    have e3:args.toList.map (ev ⟨e2,σ.aa⟩)=args.toList.map (ev σ):=uX λy hy=>hx y (by simp only[Op.operands,Call.operands,CC,cT];exact .inr hy);simp only[e1,e3];exact⟨res,h1,h2,h3,hK⟩
   ·exact hW.elim
  ·rename_i t a dt;obtain⟨x,h1,h2⟩:=Jb hW;refine⟨x,σ.aa,Fe _ _,h1,λe2 K2 hx hK=>?_⟩;rw[hx a (by simp[dt,Op.operands])];exact h2 _ K2 hK
  ·exact hW.elim
def P4{q:Bool}{o:Oper}{σ:St}{K:St->Prop}(hc:fS q o<=2)(hW:lD q P o σ K):
  ∃ v,K (σ.put o.dst v)/\∀ (σ2:St) (K2:St->Prop),(∀ x∈o.op.operands.toList,ev σ2 x=ev σ x)->(∀ (id:Nat),jz (fS q o) σ.aa[id]? σ2.aa[id]?)->K2 (σ2.put o.dst v)->lD q P o σ2 K2:=by
 cases q with
 |false=>exact acp hc hW
 |true =>
  unfold lD at hW ⊢;simp only at hW ⊢;split at hW
  ·rename_i f args dh dt;simp only[dt];split at hW
   ·rename_i g bF he;obtain⟨res,h1,h2,h3,h4⟩:=hW;refine⟨res,h4,λσ2 K2 hx _ hK=>?_⟩;have e1:ev σ2 f=.fn g bF:=by rw[<- he];exact hx f (by simp[Op.operands,Call.operands])
    have e3:args.toList.map (ev σ2)=args.toList.map (ev σ):=uX λy hy=>hx y (by simp only[Op.operands,Call.operands,CC,cT];exact .inr hy);simp only[e1,e3];exact⟨res,h1,h2,h3,hK⟩
   ·exact hW.elim
  ·rename_i t a dt;obtain⟨x,h1,h2⟩:=Jb hW;refine⟨x,h1,λσ2 K2 hx _ hK=>?_⟩;rw[hx a (by simp[dt,Op.operands])];exact h2 _ K2 hK
  ·exact hW.elim
def wA{ops:Array Oper}{o:Oper}{j d:Nat}{want:Bool}(hg:o.guard=some (j,want))(hd:(ops[j]?).bind (·.dst)=some d):d∈o.looksAt ops:=by
 unfold Oper.looksAt;rw[cT];right;simp[hg,hd]
def CR{ops:Array Oper}{q:Bool}{o:Oper}{σ:St}{K:St->Prop}(hW:dY P ops q o K σ):
  ∃ v os,kF (fS q o) σ.aa os/\K ((⟨σ.env,os⟩:St).put o.dst v)/\∀ (e2:Nat->AV) (K2:St->Prop),(∀ t∈o.looksAt ops,e2 t=σ.env t)->K2 ((⟨e2,os⟩:St).put o.dst v)->dY P ops q o K2 ⟨e2,σ.aa⟩:=by
 unfold dY at hW ⊢;cases hg:o.guard with
 |none =>
  simp only[hg]at hW;obtain⟨v,os,h1,h2,h3⟩:=P3 hW;exact⟨v,os,h1,h2,λe2 K2 hl hK=>h3 e2 K2 (wz hl) hK⟩
 |some jw =>
  obtain⟨j,want⟩:=jw;simp only[hg]at hW;cases dO:(ops[j]?).bind (·.dst) with
  |none=>simp[dO]at hW
  |some d =>
   simp only[dO]at hW;split at hW
   ·rename_i b he;by_cases gj:b=want
    ·obtain⟨v,os,h1,h2,h3⟩:=P3 (hW.1 gj);refine⟨v,os,h1,h2,λe2 K2 hl hK=>?_⟩;have:e2 d=.lit (.bool b):=by rw[hl d (wA hg dO)];exact he
     simp only[dO,this];exact⟨λ_=>h3 e2 K2 (wz hl) hK,λhn=>absurd gj hn⟩
    ·refine⟨.lit (.tuple #[]),σ.aa,Fe _ _,hW.2 gj,λe2 K2 hl hK=>?_⟩;have:e2 d=.lit (.bool b):=by rw[hl d (wA hg dO)];exact he
     simp only[dO,this];exact⟨λhn=>absurd hn gj,λ_=>hK⟩
   ·rename_i vs he;refine⟨.lit (.tuple #[]),σ.aa,Fe _ _,hW.2,λe2 K2 hl hK=>?_⟩;have:e2 d=.lit (.tuple vs):=by rw[hl d (wA hg dO)];exact he
    simp only[dO,this];exact⟨hW.1,hK⟩
   ·exact hW.elim
def P5{ops:Array Oper}{q:Bool}{o:Oper}{σ:St}{K:St->Prop}(hc:fS q o<=2)(hW:dY P ops q o K σ):
  ∃ v,K (σ.put o.dst v)/\∀ (σ2:St) (K2:St->Prop),(∀ t∈o.looksAt ops,σ2.env t=σ.env t)->(∀ (id:Nat),jz (fS q o) σ.aa[id]? σ2.aa[id]?)->K2 (σ2.put o.dst v)->dY P ops q o K2 σ2:=by
 unfold dY at hW ⊢;cases hg:o.guard with
 |none =>
  simp only[hg]at hW;obtain⟨v,h2,h3⟩:=P4 hc hW;exact⟨v,h2,λσ2 K2 hl ho hK=>h3 σ2 K2 (wz (e2:=σ2.env) (os:=σ2.aa) hl) ho hK⟩
 |some jw =>
  obtain⟨j,want⟩:=jw;simp only[hg]at hW;cases dO:(ops[j]?).bind (·.dst) with
  |none=>simp[dO]at hW
  |some d =>
   simp only[dO]at hW;split at hW
   ·rename_i b he;by_cases gj:b=want
    ·obtain⟨v,h2,h3⟩:=P4 hc (hW.1 gj);refine⟨v,h2,λσ2 K2 hl ho hK=>?_⟩;have:σ2.env d=.lit (.bool b):=by rw[hl d (wA hg dO)];exact he
     simp only[dO,this];exact⟨λ_=>h3 σ2 K2 (wz (e2:=σ2.env) (os:=σ2.aa) hl) ho hK,λhn=>absurd gj hn⟩
    ·refine⟨.lit (.tuple #[]),hW.2 gj,λσ2 K2 hl ho hK=>?_⟩;have:σ2.env d=.lit (.bool b):=by rw[hl d (wA hg dO)];exact he
     simp only[dO,this];exact⟨λhn=>absurd hn gj,λ_=>hK⟩
   ·rename_i vs he;refine⟨.lit (.tuple #[]),hW.2,λσ2 K2 hl ho hK=>?_⟩;have:σ2.env d=.lit (.tuple vs):=by rw[hl d (wA hg dO)];exact he
    simp only[dO,this];exact⟨hW.1,hK⟩
   ·exact hW.elim
def xV{σ:St}{dst:Option Tmp}{v:AV}{t:Nat}(h:∀ d,dst=some d->d≠t):(σ.put dst v).env t=σ.env t:=by
 cases dst with
 |none=>rfl
 |some d =>
  have:=h d rfl;simp[St.put,je,Ne.symm this]
def Ff{σ:St}{x y:Option Tmp}{v u:AV}(h:∀ d,x=some d->y≠some d):(σ.put x v).put y u=(σ.put y u).put x v:=by
 cases x with
 |none=>rfl
 |some d =>
  cases y with
  |none=>rfl
  |some d' =>
   have bZ:d'≠d:=λe=>h d rfl (by rw[e]);simp only[St.put];congr 1;funext k;simp only[je];split<;>split<;>simp_all
def Fg{σ:St}{x:Option Tmp}{v:AV}:(σ.put x v).aa=σ.aa:=by cases x<;>rfl
def P6{σ:St}{x:Option Tmp}{v:AV}:σ.put x v=⟨(σ.put x v).env,σ.aa⟩:=by cases x<;>rfl
def Fh{σ:St}{os:List Ob}{x:Option Tmp}{v:AV}:(⟨(σ.put x v).env,os⟩:St)=(⟨σ.env,os⟩:St).put x v:=by cases x<;>rfl
def A9(ci ck:Nat):Bool:=ci==0||ck==0||(ci==1&&decide (ck<=4))||(ci==2&&decide (ck<=3))
def P7{ci ck:Nat}(h:(ci==0||(ci==1&&decide (ck<=4))||(ci==2&&decide (ck<=3)))=true){a b:List Ob}(he:kF ck a b)(id:Nat):jz ci a[id]? b[id]?:=by
 simp only[l7,bg,beq_iff_eq,decide_eq_true_eq]at h;rcases h with(rfl|⟨rfl,hk⟩)|⟨rfl,hk⟩
 ·simp[jz]
 ·unfold kF at he;have:∀ o,a[id]?=some o->∃ o',b[id]?=some o'/\ub o o':=by
   intro o ho;have aS:=(aR.1 ho).1;split at he
   ·subst he;exact⟨o,ho,zl o⟩
   ·split at he
    ·exact⟨o,by rw[he id aS];exact ho,zl o⟩
    ·split at he
     ·have hb:id<b.length:=AT;exact⟨b[id],by simp[hb],he.2 id o _ ho (by simp[hb])⟩
     ·omega
  simpa [jz] using this
 ·unfold kF at he;have:∀ o,a[id]?=some o->b[id]?=some o:=by
   intro o ho;have aS:=(aR.1 ho).1;split at he
   ·subst he;exact ho
   ·split at he
    ·rw[he id aS];exact ho
    ·omega
  simpa [jz] using this
def acq{ops:Array Oper}{qi qk:Bool}{oi ok:Oper}(ha:oi.apart ops ok=true)(hi:fS qi oi<=2)(hc:(fS qi oi==0||(fS qi oi==1&&decide (fS qk ok<=4))||(fS qi oi==2&&decide (fS qk ok<=3)))=true){σ:St}{K:St->Prop}(h:dY P ops qi oi (dY P ops qk ok K) σ):dY P ops qk ok (dY P ops qi oi K) σ:=by
 obtain⟨a1,a2,a3⟩:=Oper.apart_spec ha;obtain⟨v,h1,run⟩:=P5 hi h;obtain⟨vk,os,zm,h2,CS⟩:=CR h1;rw[Fg]at zm CS;refine CS σ.env _ (λt ht=>(xV λd hd e=>a1 d hd (e▸ht)).symm) ?_;refine run _ _ (λt ht=>?_) (λid=>?_) ?_
 ·rw[xV λd hd e=>a3 d hd (e▸ht)]
 ·rw[Fg];exact P7 hc zm id
 ·rw[Fh]at h2;rw[Ff (λd hd e=>a2 d e hd)];exact h2
def acr{ops:Array Oper}{qi qk:Bool}{oi ok:Oper}(ha:oi.apart ops ok=true)(hk:fS qk ok=0){σ:St}{K:St->Prop}(h:dY P ops qi oi (dY P ops qk ok K) σ):dY P ops qk ok (dY P ops qi oi K) σ:=by
 obtain⟨a1,a2,a3⟩:=Oper.apart_spec ha;obtain⟨vi,os,zm,h1,run⟩:=CR h;obtain⟨vk,h2,Jc⟩:=P5 AT h1;refine Jc σ _ (λt ht=>(xV (σ:=⟨σ.env,os⟩) λd hd e=>a1 d hd (e▸ht)).symm) (λid=>by rw[hk];simp[jz]) ?_;rw[P6];refine run _ _ (λt ht=>xV λd hd e=>a3 d hd (e▸ht)) ?_;rw[Fh,Ff (λd hd e=>a2 d e hd)];exact h2
def acs{ops:Array Oper}{qi qk:Bool}{oi ok:Oper}(ha:oi.apart ops ok=true)(hc:A9 (fS qi oi) (fS qk ok)=true){σ:St}{K:St->Prop}(h:dY P ops qi oi (dY P ops qk ok K) σ):dY P ops qk ok (dY P ops qi oi K) σ:=by
 by_cases hk:fS qk ok=0
 ·exact acr ha hk h
 ·have iK:(fS qi oi==0||(fS qi oi==1&&decide (fS qk ok<=4))||(fS qi oi==2&&decide (fS qk ok<=3)))=true:=by
   simp only[A9,l7,bg,beq_iff_eq,decide_eq_true_eq]at hc ⊢;rcases hc with((h|h)|h)|h
   ·exact .inl (.inl h)
   ·exact absurd h hk
   ·exact .inl (.inr h)
   ·exact .inr h
  refine acq ha ?_ iK h;simp only[l7,bg,beq_iff_eq,decide_eq_true_eq]at iK;omega
end Go.Am
namespace Go.Am
variable {P:Program} {N n0:Nat} {σ:St}
def cj(P:Program)(ops:Array Oper)(qs:List Nat)(i:Nat)(K:St->Prop)(σ:St):Prop :=
 match ops[i]? with
 |none=>K σ
 |some o=>dY P ops (qs.contains i) o K σ
def uc(P:Program)(ops:Array Oper)(qs:List Nat)(K:St->Prop):Nat->Array Bool->St->Prop
 |0,aI,σ=>Region.ready .any ops aI=[]/\K σ
 |n+1,aI,σ=>(Region.ready .any ops aI=[]->K σ)/\∀ i∈Region.ready .any ops aI,cj P ops qs i (uc P ops qs K n (aI.setIfInBounds i true)) σ
def CT{ops:Array Oper}{q:Bool}{o:Oper}{σ:St}{K K2:St->Prop}(hk:∀ s,K s->K2 s)(h:dY P ops q o K σ):dY P ops q o K2 σ:=by
 obtain⟨v,os,_,h2,run⟩:=CR h;exact run σ.env K2 (λ_ _=>rfl) (hk _ h2)
def acu{ops:Array Oper}{q:Bool}{o:Oper}{σ:St}{K:St->Prop}(h:dY P ops q o K σ):∃s,K s:=by
 obtain⟨v,os,_,h2,run⟩:=CR h;exact⟨_,h2⟩
def mL{ops:Array Oper}{qs:List Nat}{i:Nat}{σ:St}{K K2:St->Prop}(hk:∀ s,K s->K2 s)(h:cj P ops qs i K σ):cj P ops qs i K2 σ:=by
 unfold cj at h ⊢;split at h
 ·exact hk _ h
 ·exact CT hk h
def acv{ops:Array Oper}{qs:List Nat}{i:Nat}{σ:St}{K:St->Prop}(h:cj P ops qs i K σ):∃s,K s:=by
 unfold cj at h;split at h
 ·exact⟨_,h⟩
 ·exact acu h
def Jd{os:List Ob}{γ0:Cx}{ops:Array Oper}{qs:List Nat}(hd:∀ o∈ops.toList,∀ d,o.dst=some d->d<N){K:St->Prop}{Q:Exit->Act->World->Prop}(hQ:∀ σ' a' w',K σ'->h9 N os γ0 σ' a' w'->Q .normal a' w'):∀ (n:Nat) (aI:Array Bool) (σ:St) (a:Act) (w:World),uc P ops qs K n aI σ->h9 N os γ0 σ a w->wpAny P .any ops Q n aI a w
 |0,aI,σ,a,w,h,aA=>⟨h.1,hQ _ _ _ h.2 aA⟩
 |n+1,aI,σ,a,w,h,aA=>by
  refine⟨λhr=>hQ _ _ _ (h.1 hr) aA,λi hi=>?_⟩;have:=h.2 i hi;unfold cj at this;split at this
  ·rename_i ar;unfold wpOp;simp only[ar];exact Jd hd hQ n _ _ _ _ this aA
  ·rename_i o ar;exact P0 hd ar this aA λσ' a' w' hK dj=>Jd hd hQ n _ _ _ _ hK dj
def P8{id:Nat}{ops:Array Oper}{Q:Exit->St->Prop}(qs:List Nat)(hm:P.follows .mixedOrders=true)(hd:fU N ops=true)(h:uc P ops qs (Q .normal) ops.size (xK ops.size false) σ):W P N n0 (.region id ops true) Q σ:=by
 intro os γ0 a w _ aA;refine wp_region_any hm ?_;exact Jd (ud hd) (K:=Q .normal) (λσ' a' w' hK dj=>⟨σ',hK,dj⟩) _ _ _ _ _ h aA.drawn
def acw{ops:Array Oper}{qs:List Nat}{K:St->Prop}{i:Nat}{o:Oper}(hi:ops[i]?=some o)(D:List Nat)(hiD:i∈D)(hD:∀ j∈D,j=i\/∃ oj,ops[j]?=some oj/\∃ e∈oj.after,Region.binds .any e=true/\e.on∈D):∀ (fuel:Nat) (aI:Array Bool) (σ:St),(∀ j∈D,aI.getD j true=false) ->
   i∈Region.ready .any ops aI ->
   (∀ j oj,ops[j]?=some oj->aI.getD j true=false->j ∉ D->o.apart ops oj=true/\A9 (fS (qs.contains i) o) (fS (qs.contains j) oj)=true) ->
   cj P ops qs i (uc P ops qs K fuel (aI.setIfInBounds i true)) σ->uc P ops qs K (fuel+1) aI σ:=by
 intro fuel
 induction fuel with
 |zero =>
  intro aI σ hu hr nZ h;refine⟨λe=>by rw[e]at hr;simp at hr,λk hk=>?_⟩;by_cases iA:k=i
  ·subst iA;exact h
  ·obtain⟨s,hs⟩:=acv h;have:=ready_mono hk iA;rw[hs.1]at this;simp at this
 |succ m ih =>
  intro aI σ hu hr nZ h;refine⟨λe=>by rw[e]at hr;simp at hr,λk hk=>?_⟩;by_cases iA:k=i
  ·subst iA;exact h
  ·have CU:=mem_ready.1 hk;obtain⟨ed,ok,aA,dP⟩:=CU;have wB:k ∉ D:=by
    intro wB;rcases hD k wB with e|⟨oj,k0,e,he,hb,qj⟩
    ·exact iA e
    ·rw[aA]at k0;simp only[cy.injEq]at k0;subst k0;have h1:=dP e he hb;have h2:=hu e.on qj;rw[eA]at h1 h2;cases hx:aI[e.on]? with
     |none=>rw[hx]at h1;simp at h1
     |some b=>rw[hx]at h1 h2;simp at h1 h2;rw[h1]at h2;simp at h2
   obtain⟨ha,hc⟩:=nZ k ok aA ed wB;have h1:cj P ops qs i (cj P ops qs k (uc P ops qs K m ((aI.setIfInBounds i true).setIfInBounds k true))) σ :=
    mL (λs hs=>hs.2 k (ready_mono hk iA)) h
   have h2:cj P ops qs k (cj P ops qs i (uc P ops qs K m ((aI.setIfInBounds i true).setIfInBounds k true))) σ:=by
    unfold cj at h1 ⊢;simp only[hi,aA]at h1 ⊢;exact acs ha hc h1
   refine mL (λs hs=>?_) h2;refine ih (aI.setIfInBounds k true) s (λj hj=>?_) (ready_mono hr (Ne.symm iA)) (λj oj k0 hl sI=>?_) ?_
   ·have bZ:k≠j:=λe=>wB (by rw[e];exact hj);rw[getD_set_ne _ bZ];exact hu j hj
   ·refine nZ j oj k0 ?_ sI;by_cases CV:k=j
    ·subst CV;exact ed
    ·rwa [getD_set_ne _ CV]at hl
   ·rw[Array.setIfInBounds_comm _ _ (Ne.symm iA)]at hs;exact hs
def Je(ops:Array Oper)(i:Nat):List Nat :=
 (bk ops.size).foldl (λD j=>if j==i||(match ops[j]? with|some oj=>oj.after.any (λe=>Region.binds .any e&&D.contains e.on)|none=>false) then D++[j] else D) []
def Fi(ops:Array Oper)(qs:List Nat)(aI:Array Bool)(i:Nat)(D:List Nat):Bool :=
 match ops[i]? with
 |none=>false
 |some o =>
  D.contains i&&D.all (λj=>j==i||match ops[j]? with|some oj=>oj.after.any (λe=>Region.binds .any e&&D.contains e.on)|none=>false) &&
  D.all (λj=>!aI.getD j true)&&o.after.all (λe=>!Region.binds .any e||aI.getD e.on false) &&
  (bk ops.size).all λj=>D.contains j||aI.getD j true||match ops[j]? with|some oj=>o.apart ops oj&&A9 (fS (qs.contains i) o) (fS (qs.contains j) oj)|none=>true
def P9{ops:Array Oper}{qs:List Nat}{K:St->Prop}{i:Nat}{D:List Nat}{fuel:Nat}{aI:Array Bool}(h:Fi ops qs aI i D=true)(hs:cj P ops qs i (uc P ops qs K fuel (aI.setIfInBounds i true)) σ):uc P ops qs K (fuel+1) aI σ:=by
 unfold Fi at h;cases hi:ops[i]? with
 |none=>simp[hi]at h
 |some o =>
  simp only[hi,bg,List.all_eq_true,pY,l7,beq_iff_eq,Bool.not_eq_true']at h;obtain⟨⟨⟨⟨h1,h2⟩,h3⟩,h4⟩,h5⟩:=h;refine acw hi D h1 (λj hj=>?_) fuel aI σ h3 ?_ ?_ hs
  ·rcases h2 j hj with h|h
   ·exact .inl h
   ·right;split at h
    ·rename_i oj k0;rw[Array.any_eq_true']at h;obtain⟨e,he,hb⟩:=h;simp only[bg,pY]at hb;exact⟨oj,k0,e,he,hb.1,hb.2⟩
    ·simp at h
  ·rw[mem_ready];refine⟨h3 i h1,o,hi,λe he hb=>?_⟩;rw[Array.all_eq_true']at h4;have:=h4 e he;simpa [hb] using this
  ·intro j oj k0 hl sI;have hj:j<ops.size:=(Array.getElem?_eq_some_iff.1 k0).1;rcases h5 j (List.mem_range.2 hj) with(h|h)|h
   ·exact absurd h sI
   ·rw[hl]at h;simp at h
   ·simpa [k0] using h
inductive PT where
 |nil
 |take (i:Nat) (t:PT)
 |both (i:Nat) (t:PT) (j:Nat) (u:PT)
 |three (i:Nat) (t:PT) (j:Nat) (u:PT) (k:Nat) (v:PT)
def PT.ok(ops:Array Oper)(qs:List Nat):PT->Nat->Array Bool->Bool
 |.nil,n,aI=>n==0&&(Region.ready .any ops aI).isEmpty
 |.take _ _,0,_=>false
 |.take i t,n+1,aI=>Fi ops qs aI i (Je ops i)&&t.ok ops qs n (aI.setIfInBounds i true)
 |.both _ _ _ _,0,_=>false
 |.both i t j u,n+1,aI=>(Region.ready .any ops aI==[i,j])&&t.ok ops qs n (aI.setIfInBounds i true)&&u.ok ops qs n (aI.setIfInBounds j true)
 |.three _ _ _ _ _ _,0,_=>false
 |.three i t j u k v,n+1,aI=>(Region.ready .any ops aI==[i,j,k])&&t.ok ops qs n (aI.setIfInBounds i true)&&u.ok ops qs n (aI.setIfInBounds j true)&&v.ok ops qs n (aI.setIfInBounds k true)
def jA(P:Program)(ops:Array Oper)(qs:List Nat):PT->(St->Prop)->St->Prop
 |.nil,K,σ=>K σ
 |.take i t,K,σ=>cj P ops qs i (jA P ops qs t K) σ
 |.both i t j u,K,σ=>cj P ops qs i (jA P ops qs t K) σ/\cj P ops qs j (jA P ops qs u K) σ
 |.three i t j u k v,K,σ=>cj P ops qs i (jA P ops qs t K) σ/\cj P ops qs j (jA P ops qs u K) σ/\cj P ops qs k (jA P ops qs v K) σ
def zn{ops:Array Oper}{qs:List Nat}{K:St->Prop}:∀ (t:PT) (n:Nat) (aI:Array Bool) (σ:St),t.ok ops qs n aI=true->jA P ops qs t K σ->uc P ops qs K n aI σ
 |.nil,n,aI,σ,h,hp=>by
  simp only[PT.ok,bg,beq_iff_eq,List.isEmpty_iff]at h;obtain⟨rfl,h⟩:=h;exact⟨h,hp⟩
 |.take _ _,0,_,_,h,_=>by simp[PT.ok]at h
 |.take i t,n+1,aI,σ,h,hp=>by
  simp only[PT.ok,bg]at h;exact P9 h.1 (mL (λs hs=>zn t n _ s h.2 hs) hp)
 |.both _ _ _ _,0,_,_,h,_=>by simp[PT.ok]at h
 |.both i t j u,n+1,aI,σ,h,hp=>by
  simp only[PT.ok,bg,beq_iff_eq]at h;obtain⟨⟨h1,h2⟩,h3⟩:=h;refine⟨λe=>by rw[h1]at e;simp at e,λk hk=>?_⟩;rw[h1]at hk;simp only[bm,iT,or_false]at hk;rcases hk with rfl|rfl
  ·exact mL (λs hs=>zn t n _ s h2 hs) hp.1
  ·exact mL (λs hs=>zn u n _ s h3 hs) hp.2
 |.three _ _ _ _ _ _,0,_,_,h,_=>by simp[PT.ok]at h
 |.three i t j u k v,n+1,aI,σ,h,hp=>by
  simp only[PT.ok,bg,beq_iff_eq]at h;obtain⟨⟨⟨h1,h2⟩,h3⟩,h4⟩:=h;refine⟨λe=>by rw[h1]at e;simp at e,λx hk=>?_⟩;rw[h1]at hk;simp only[bm,iT,or_false]at hk;rcases hk with rfl|rfl|rfl
  ·exact mL (λs hs=>zn t n _ s h2 hs) hp.1
  ·exact mL (λs hs=>zn u n _ s h3 hs) hp.2.1
  ·exact mL (λs hs=>zn v n _ s h4 hs) hp.2.2
def lI{id:Nat}{ops:Array Oper}{Q:Exit->St->Prop}(qs:List Nat)(t:PT)(hm:P.follows .mixedOrders=true)(hd:fU N ops=true)(ht:t.ok ops qs ops.size (xK ops.size false)=true)(h:jA P ops qs t (Q .normal) σ):W P N n0 (.region id ops true) Q σ :=
 P8 qs hm hd (zn t _ _ σ ht h)
def Qa{id:Nat}{ops:Array Oper}{y:Code}{Q:Exit->St->Prop}(qs:List Nat)(t:PT)(hm:P.follows .mixedOrders=true)(hd:fU N ops=true)(ht:t.ok ops qs ops.size (xK ops.size false)=true)(h:∀ K:St->Prop,(∀ s,W P N n0 y Q s->K s)->jA P ops qs t K σ):W P N n0 (.seq (.region id ops true) y) Q σ :=
 Fj (lI qs t hm hd ht (h _ (λ_ h=>h)))
def lG{ops:Array Oper}{qs:List Nat}{K:St->Prop}:jA P ops qs .nil K σ=K σ:=rfl
def lF{ops:Array Oper}{qs:List Nat}{i:Nat}{t:PT}{K:St->Prop}:jA P ops qs (.take i t) K σ=cj P ops qs i (jA P ops qs t K) σ:=rfl
def ql{ops:Array Oper}{qs:List Nat}{i j k:Nat}{t u v:PT}{K:St->Prop}:jA P ops qs (.three i t j u k v) K σ=(cj P ops qs i (jA P ops qs t K) σ/\cj P ops qs j (jA P ops qs u K) σ/\cj P ops qs k (jA P ops qs v K) σ):=rfl
def mM{ops:Array Oper}{qs:List Nat}{i j:Nat}{t u:PT}{K:St->Prop}:jA P ops qs (.both i t j u) K σ=(cj P ops qs i (jA P ops qs t K) σ/\cj P ops qs j (jA P ops qs u K) σ):=rfl
def PI{q:Bool}{o:Oper}{K:St->Prop}:pg q P o K true true σ=lD q P o σ K:=by simp[pg]
def PN{q:Bool}{o:Oper}{K:St->Prop}:pg q P o K false false σ=lD q P o σ K:=by simp[pg]
def PJ{q:Bool}{o:Oper}{K:St->Prop}:pg q P o K true false σ=K (σ.put o.dst (.lit (.tuple #[]))):=by simp[pg]
def PL{q:Bool}{o:Oper}{K:St->Prop}:pg q P o K false true σ=K (σ.put o.dst (.lit (.tuple #[]))):=by simp[pg]
def acy{q:Bool}{o:Oper}{K:St->Prop}{b want:Bool}(h1:b=true->pg q P o K true want σ)(h2:b=false->pg q P o K false want σ):pg q P o K b want σ:=by
 cases b
 ·exact h2 rfl
 ·exact h1 rfl
def jB:List Nat->PT
 |[]=>.nil
 |i::r=>.take i (jB r)
end Go.Am
namespace Go.Am
variable {P:Program} {N n0:Nat} {σ:St} {Q:Exit->St->Prop}
def ao:List (Nat×AV)->Nat->AV
 |[]=>λ_=>.undef
 |p::l=>je (ao l) p.1 p.2
def E9(d:Nat)(v:AV)(l:List (Nat×AV)):ao ((d,v)::l)=je (ao l) d v:=rfl
def Fk(l:List (Nat×AV))(k:Nat):ao l k=.undef\/∃ p∈l,p.1=k/\ao l k=p.2:=by
 induction l with
 |nil=>exact .inl rfl
 |cons p l ih =>
  by_cases h:k=p.1
  ·right;exact⟨p,IM,h.symm,by simp[ao,je,h]⟩
  ·have e:ao (p::l) k=ao l k:=by simp[ao,je,h]
   rw[e];rcases ih with h|⟨q,hq,h1,h2⟩
   ·exact .inl h
   ·exact .inr ⟨q,by simp[hq],h1,h2⟩
def Has(e:Nat->AV):List (Nat×AV)->Prop
 |[]=>True
 |p::l=>e p.1=p.2/\Has e l
def Has.mem{e:Nat->AV}:∀ {l:List (Nat×AV)},Has e l->∀ p∈l,e p.1=p.2
 |q::l,h,p,hp=>by
  rcases bm.1 hp with rfl|hp
  ·exact h.1
  ·exact Has.mem h.2 p hp
def aF.ao(l:List (Nat×AV))(os:List Ob)(ho:σ.aa=os)(h:Has σ.env l):aF n0 σ ⟨ao l,os⟩:=by
 subst ho;refine aF.forget λk=>?_;rcases Fk l k with h'|⟨p,hp,rfl,h'⟩
 ·exact .inl h'
 ·right;rw[h',h.mem p hp]
def pd(ρ:Nat->Nat)(os:List Ob):List Nat->List Ob->Prop
 |[],[]=>True
 |i::aj,o::co=>(i<os.length/\(o=.gone\/os[i]?=some (bM ρ o)))/\pd ρ os aj co
 |_,_=>False
def pd.spec{ρ:Nat->Nat}{os:List Ob}:∀ {aj:List Nat} {co:List Ob},pd ρ os aj co->co.length=aj.length/\(∀ (j:Nat) o,co[j]?=some o->o=.gone\/os[aj.getD j 0]?=some (bM ρ o))/\∀ i∈aj,i<os.length
 |[],[],_=>⟨rfl,IM,IM⟩
 |i::aj,o::co,h=>by
  obtain⟨⟨h1,h2⟩,h3⟩:=h;obtain⟨a,b,c⟩:=pd.spec h3;refine⟨by simp[a],λj o' hj=>?_,λx hx=>?_⟩
  ·cases j with
   |zero=>simp at hj;subst hj;simpa using h2
   |succ j=>simpa using b j o' (by simpa using hj)
  ·rcases bm.1 hx with rfl|hx
   ·exact h1
   ·exact c x hx
def sJ(R:AV->AV->Prop)(e:Nat->AV):List (Nat×AV)->Prop
 |[]=>True
 |p::l=>R p.2 (e p.1)/\sJ R e l
def sJ.mem{R:AV->AV->Prop}{e:Nat->AV}:∀ {l:List (Nat×AV)},sJ R e l->∀ p∈l,R p.2 (e p.1)
 |q::l,h,p,hp=>by
  rcases bm.1 hp with rfl|hp
  ·exact h.1
  ·exact sJ.mem h.2 p hp
def kept(aj:List Nat)(co:List Ob)(id:Nat):Prop:=∃ j,j<aj.length/\aj.getD j 0=id/\co[j]?≠some .gone
def aF.aj(aj:List Nat)(snap:Bool)(l:List (Nat×AV))(co:List Ob)(bx:aj.Nodup)(ho:pd (bC σ.aa.length aj) σ.aa aj co)(hn:n0<=aj.length)(b9:∀ i,i<n0->aj.getD i 0=i)(h:sJ (bT σ (kept aj co) (bC σ.aa.length aj) snap) σ.env l):aF n0 σ ⟨Am.ao l,co⟩:=by
 obtain⟨h1,h2,h3⟩:=ho.spec;refine aF.select aj snap co _ bx h1 h2 h3 hn b9 λk=>?_;rcases Fk l k with h'|⟨p,hp,rfl,h'⟩
 ·exact .inl h'
 ·right;rw[h'];exact h.mem p hp
def bT.pure{kp:Nat->Prop}{ρ:Nat->Nat}{snap:Bool}{v:AV}(h:lH v=true):bT σ kp ρ snap v v:=by
 have:=bT.same (σ:=σ) (kp:=kp) (ρ:=ρ) (snap:=snap) v;rwa [Ba _ v h]at this
def bT.eq{kp:Nat->Prop}{ρ:Nat->Nat}{snap:Bool}{v u:AV}(h:u=bj ρ v):bT σ kp ρ snap v u:=by
 subst h;exact .same v
def dF.flat{kp:Nat->Prop}{id sz len:Nat}{rows:List (List AV)}(ho:σ.aa[id]?=some (.arr sz rows))(hw:∀ row∈rows,row.length=sz)(hl:len=rows.length)(sw:¬ kp id)(hf:∀ row∈rows,∀ v∈row,(∃ x,v=.lit x)\/∃ s r,v=.tree s r):
  dF σ kp (.tree sz rows) (.ref id sz 0 len):=by
 refine .ref id sz 0 len rows rows (λr c=>(cellAt rows r c).getD .undef) ho sw (by simp[hl]) hw (λr c v hv=>?_) (λr c v hv=>?_)
 ·simp[hl,hv]
 ·rw[hv,Option.getD_some];simp only[cellAt,Option.bind_eq_some_iff]at hv;obtain⟨row,h1,h2⟩:=hv;rcases hf row (gY h1) v (gY h2) with⟨x,rfl⟩|⟨s,r,rfl⟩
  ·exact .lit x
  ·exact .tree s r
def bT.nil{kp:Nat->Prop}{ρ:Nat->Nat}{sz:Nat}:bT σ kp ρ true (.tree sz []) (.lit (.slice none 0 0)):=.snap _ _ rfl (.nil sz)
def bT.cC{kp:Nat->Prop}{ρ:Nat->Nat}{id sz len:Nat}{rows:List (List AV)}(ho:σ.aa[id]?=some (.arr sz rows))(hw:∀ row∈rows,row.length=sz)(hl:len=rows.length)(sw:¬ kp id)(hf:∀ row∈rows,∀ v∈row,(∃ x,v=.lit x)\/∃ s r,v=.tree s r):
  bT σ kp ρ true (.tree sz rows) (.ref id sz 0 len):=.snap _ _ rfl (dF.flat ho hw hl sw hf)
def acz{α:Type}(n0:Nat)(S:α->St)(I:α->Prop)(M:α->Nat)(x:α)(Q:Exit->St->Prop):Exit->St->Prop
 |.normal,s=>∃ y,I y/\M y<M x/\aF n0 s (S y)
 |e,s=>Q e s
def acA{α:Type}{c:Code}(S:α->St)(I:α->Prop)(M:α->Nat)(x0:α)(hI:I x0)(h0:aF n0 σ (S x0))(round:∀ x,I x->∀ Q':Exit->St->Prop,(∀ s y,I y->M y<M x->aF n0 s (S y)->Q' .normal s)->(∀ e s,e≠.normal->Q e s->Q' e s)->W P N n0 c Q' (S x)):W P N n0 (.loop c) Q σ:=by
 refine cd h0 ?_;intro os γ0 a w hn aA b k cs;have key:∀ n x a w,M x=n->I x->h9 N os γ0 (S x) a w ->
   ∃ e a' w',(∃ σ',Q e σ'/\h9 N os γ0 σ' a' w')/\Arrives P (lone (b.at a (.code c::.inLoop c::k)) cs w) b k cs e a' w':=by
  intro n
  induction n using Nat.strongRecOn with
  |_ n ih =>
   intro x a w hm hI aA;have hr:W P N n0 c (acz n0 S I M x Q) (S x):=round x hI _ (λs y h1 h2 h3=>⟨y,h1,h2,h3⟩) (λe s he h=>by cases e<;>first|exact absurd rfl he|exact h);obtain⟨e,rn,sK,⟨σ',hq,dj⟩,nE⟩:=hr os γ0 a w hn aA b (.inLoop c::k) cs;cases e with
   |normal =>
    obtain⟨y,Jf,aS,ht⟩:=hq;obtain⟨h1,h2,γ,rfl,h3,h4,h5⟩:=dj;obtain⟨az,e1,e2,e3,e4⟩:=ht os γ0 γ hn h4 h5;obtain⟨Jg,Jh,Ji,Jj,Jk⟩:=ih (M y) AT y rn γ.w rfl Jf ⟨h1,h2,az,e1,e2.trans h3,e3,e4⟩;exact⟨Jg,Jh,Ji,Jj,.of_steps (Steps.trans nE (.one step_inLoop)) Jk⟩
   |exit id=>exact⟨_,rn,sK,⟨σ',hq,dj⟩,.pass (x:=.inLoop c) rfl (λ_ _=>.inl IM) nE⟩
   |goto l=>exact⟨_,rn,sK,⟨σ',hq,dj⟩,.pass (x:=.inLoop c) rfl (λ_ _=>.inl IM) nE⟩
   |ret=>exact⟨_,rn,sK,⟨σ',hq,dj⟩,.pass (x:=.inLoop c) rfl (λ_ _=>.inl IM) nE⟩
   |panic ch=>exact⟨_,rn,sK,⟨σ',hq,dj⟩,.pass (x:=.inLoop c) rfl (λ_ _=>.inl IM) nE⟩
   |outgrown=>exact⟨_,rn,sK,⟨σ',hq,dj⟩,.pass (x:=.inLoop c) rfl (λ_ _=>.inl IM) nE⟩
 obtain⟨e,a',w',hq,nE⟩:=key _ x0 a w rfl hI aA;exact⟨e,a',w',hq,.of_steps (.one step_loop) nE⟩
def acB{id:Nat}{c:Code}(h:∀ Q':Exit->St->Prop,(∀ s,Q .normal s->Q' .normal s)->(∀ s,Q .normal s->Q' (.exit id) s)->(∀ e s,e≠.normal->e≠.exit id->Q e s->Q' e s)->W P N n0 c Q' σ):W P N n0 (.block id c) Q σ :=
 acC (h _ (λs h=>h) (λs h=>by simp only[Fl,if_true];exact h) (λe s h1 h2 h=>by
  cases e<;>first
   |exact absurd rfl h1
   |exact h
   | (rename_i n9;simp only[Fl];rw[if_neg (λe=>h2 (by rw[e]))];exact h)))
def Fm{ρ:Nat->Nat}{sz:Nat}{rows:List (List AV)}(h:∀ row∈rows,mK row=true):bM ρ (.arr sz rows)=.arr sz rows:=by
 simp only[bM];congr 1;have:∀ row∈rows,row.map (bj ρ)=row:=λrow hr=>by
  have:=CW ρ row (h row hr);rwa [xW]at this
 rw[uX this];simp
def acD(n j:Nat):bC n (bk n) j=j:=by
 unfold bC;split
 ·rename_i h;have h':j<n:=by simpa using h
  simp[ax,pX h']
 ·rename_i h;simp at h ⊢;omega
mutual
def xR:∀ (v:AV),bj (λj=>j) v=v
 |.undef=>rfl
 |.lit _=>rfl
 |.tree ..=>rfl
 |.bY _=>rfl
 |.ref ..=>rfl
 |.ptr ..=>rfl
 |.agg cs=>by simp only[bj];rw[Fo cs]
 |.bu cs=>by simp only[bj];rw[Fo cs]
 |.fn f cs=>by simp only[bj];rw[Fo cs]
 |.hZ t v=>by simp only[bj];rw[xR v]
 |.c9 _=>rfl
def Fo:∀ (l:List AV),oa (λj=>j) l=l
 |[]=>rfl
 |v::vs=>by simp only[oa];rw[xR v,Fo vs]
end
def CP(o:Ob):bM (λj=>j) o=o:=by
 have h:bj (λj=>j)=id:=by funext v;exact xR v
 cases o with
 |gone=>rfl
 |var cs=>simp[bM,h]
 |arr sz rows=>simp[bM,h]
 |mp ag L=>simp[bM,h]
def xQ(n:Nat):bC n (bk n)=λj=>j:=by funext j;exact acD n j
def Qd(aa:List Ob):∀ (ba:List Ob),aa.length<=ba.length->gf aa (bk aa.length) ba=ba:=by
 intro ba h;have hlen:(bk aa.length).length<=ba.length:=by simpa using h
 apply List.ext_getElem?;intro i;rcases Nat.lt_or_ge i aa.length with hi|hi
 ·have:=Fp (bk aa.length) aa ba hlen (ES) IM i (by simpa using hi);simpa [ax,pX hi] using this
 ·have Fq:=Jl (bk aa.length) aa ba hlen;obtain⟨j,rfl⟩:∃j,i=aa.length+j:=⟨i-aa.length,AT⟩;have:=Qe (bk aa.length) aa ba hlen j;simpa using this
def fi{f:FuncId}{args:List AV}{dst:Option Tmp}{K:St->Prop}{res:AV}{ba:List Ob}(h:Holds P f args σ.aa res ba)(hl:σ.aa.length<=ba.length)(hK:K ((⟨σ.env,ba⟩:St).put dst res)):tX P f args dst K σ:=by
 refine⟨bk σ.aa.length,false,args,σ.aa,res,ba,h,⟨ES,IM,?_,rfl,?_,IM⟩,?_⟩
 ·intro j o hj;have aS:=(aR.1 hj).1;rw[xQ,CP];simpa [ax,pX aS] using hj
 ·intro j c d hc hd;rw[hc]at hd;simp only[cy.injEq]at hd;subst hd;exact .eq (by rw[xQ,xR])
 ·rw[xQ,xR];have:ba.map (bM (λj=>j))=ba:=by
   have h:bM (λj=>j)=id:=by funext o;exact CP o
   simp[h]
  rw[this,Qd _ _ hl];exact hK
end Go.Am
namespace Go.Am
variable {P:Program} {N n0:Nat} {σ:St} {Q:Exit->St->Prop}
def acE{id:Nat}{ops:Array Oper}(hd:fU N ops=true)(h:∀ K:St->Prop,(∀ s,Q .normal s->K s)->opsL P ops ops.toList K σ):W P N n0 (.region id ops false) Q σ :=
 Qf hd (h _ (λ_ h=>h))
def Jm{ops:Array Oper}{K:St->Prop}:∀ (l:List Oper) (i:Nat) (σ:St),ops.toList.drop i=l->opsL P ops l K σ->jA P ops [] (jB (nr i l.length)) K σ
 |[],i,σ,_,h=>h
 |o::r,i,σ,hl,h=>by
  have hi:ops[i]?=some o:=by
   have:(ops.toList.drop i)[0]?=some o:=by rw[hl];rfl
   simpa using this
  have hr:ops.toList.drop (i+1)=r:=by
   have:=congrArg List.tail hl;simpa [List.tail_drop] using this
  rw[List.length_cons,List.range'_succ];show cj P ops [] i (jA P ops [] (jB (nr (i+1) r.length)) K) σ;unfold cj;simp only[hi];have hm:∀ s,opsL P ops r K s->jA P ops [] (jB (nr (i+1) r.length)) K s:=λs hs=>Jm r (i+1) s hr hs;refine CT hm ?_;unfold opsL at h;unfold dY;cases hg:o.guard with
  |none=>simp only[hg]at h;exact h
  |some jw =>
   obtain⟨j,want⟩:=jw;simp only[hg]at h;exact h
def zo(ops:Array Oper):Bool:=(jB (bk ops.size)).ok ops [] ops.size (xK ops.size false)
def acF{id:Nat}{ops:Array Oper}{y:Code}(hm:P.follows .mixedOrders=true)(hd:fU N ops=true)(ht:zo ops=true)(h:∀ K:St->Prop,(∀ s,W P N n0 y Q s->K s)->opsL P ops ops.toList K σ):
  W P N n0 (.seq (.region id ops true) y) Q σ :=
 Qa [] _ hm hd ht λK hK=>by
  have:=Jm (P:=P) (ops:=ops) ops.toList 0 σ rfl (h K hK);rw[wj];simpa using this
def acG{id:Nat}{ops:Array Oper}(hm:P.follows .mixedOrders=true)(hd:fU N ops=true)(ht:zo ops=true)(h:∀ K:St->Prop,(∀ s,Q .normal s->K s)->opsL P ops ops.toList K σ):
  W P N n0 (.region id ops true) Q σ :=
 lI [] _ hm hd ht (by
  have:=Jm (P:=P) (ops:=ops) ops.toList 0 σ rfl (h _ (λ_ h=>h));rw[wj];simpa using this)
def aU{v res:AV}(hr:lH v=true)(h:v=res):nD 0 σ v res []:=by
 subst h;exact Jn hr
def E8(e:Nat->AV)(d:Nat)(v:AV)(k:Nat):je e d v k=if k=d then v else e k:=by simp only[je]
def Pv:IntKind.i64.min = -9223372036854775808:=rfl
def Px:IntKind.i64.max=9223372036854775807:=rfl
def ints(xs:List Int):List (List AV):=xs.map λx=>[Oi x]
def a8(xs:List Bool):List (List AV):=xs.map λx=>[.lit (.bool x)]
def eW(xs:List (List Int)):List (List AV):=xs.map λx=>[.tree 1 (ints x)]
def vc(xs:List Int):(ints xs).length=xs.length:=by simp[ints]
def zj(xs:List Bool):(a8 xs).length=xs.length:=by simp[a8]
def Fb(xs:List (List Int)):(eW xs).length=xs.length:=by simp[eW]
def PO(xs:List Int)(i:Nat)(h:i<xs.length):(ints xs).getD i []=[Oi (xs.getD i 0)]:=by simp[ints,h]
def PQ(xs:List Bool)(i:Nat)(h:i<xs.length):(a8 xs).getD i []=[.lit (.bool (xs.getD i false))]:=by simp[a8,h]
def PR(xs:List (List Int))(i:Nat)(h:i<xs.length):(eW xs).getD i []=[.tree 1 (ints (xs.getD i []))]:=by simp[eW,h]
def PS(xs:List Int)(i:Nat)(h:i<xs.length):(ints xs)[i]?=some [Oi (xs.getD i 0)]:=by simp[ints,h]
def PU(xs:List Bool)(i:Nat)(h:i<xs.length):(a8 xs)[i]?=some [.lit (.bool (xs.getD i false))]:=by simp[a8,h]
def I'(xs:List (List Int))(i:Nat)(h:i<xs.length):(eW xs)[i]?=some [.tree 1 (ints (xs.getD i []))]:=by simp[eW,h]
def ints_set(xs:List Int)(i:Nat)(v:Int):(ints xs).set i [Oi v]=ints (xs.set i v):=by simp[ints,p6]
def wy(xs:List Bool)(i:Nat)(v:Bool):(a8 xs).set i [.lit (.bool v)]=a8 (xs.set i v):=by simp[a8,p6]
def PV(xs ys:List Int):ints xs++ints ys=ints (xs++ys):=by simp[ints]
def xU(xs:List Int)(v:Int):ints xs++[[Oi v]]=ints (xs++[v]):=by simp[ints]
def PW(xs:List (List Int))(v:List Int):eW xs++[[.tree 1 (ints v)]]=eW (xs++[v]):=by simp[eW]
def CQ(xs:List Bool)(v:Bool):a8 xs++[[.lit (.bool v)]]=a8 (xs++[v]):=by simp[a8]
def Ja(n:Nat)(v:Int):aO n [AV.lit (.int .i64 v)]=ints (aO n v):=by simp[ints]
def A7(n:Nat)(v:Bool):aO n [AV.lit (.bool v)]=a8 (aO n v):=by simp[a8]
def Fc(xs:List Int):((ints xs).all λrow=>row.all cR)=true:=by simp[ints,cR,Value.oneCell']
def PX(xs:List Bool):((a8 xs).all λrow=>row.all cR)=true:=by simp[a8,cR,Value.oneCell']
def PY(xs:List (List Int)):((eW xs).all λrow=>row.all cR)=true:=by simp[eW,cR]
def Fa(ρ:Nat->Nat)(sz:Nat)(xs:List Int):bM ρ (.arr sz (ints xs))=.arr sz (ints xs):=Fm (by simp[ints,mK,lH])
def A6(ρ:Nat->Nat)(sz:Nat)(xs:List Bool):bM ρ (.arr sz (a8 xs))=.arr sz (a8 xs):=Fm (by
 intro row hr;simp only[a8,bS]at hr;obtain⟨x,_,rfl⟩:=hr;rfl)
def I9(ρ:Nat->Nat)(sz:Nat)(xs:List (List Int)):bM ρ (.arr sz (eW xs))=.arr sz (eW xs):=Fm (by simp[eW,mK,lH])
def xX(xs:List Int):∀ row∈ints xs,∀ v∈row,(∃ x,v=AV.lit x)\/∃ s r,v=AV.tree s r:=by
 intro row hr v hv;simp only[ints,bS]at hr;obtain⟨x,_,rfl⟩:=hr;simp at hv;exact .inl ⟨_,hv⟩
def Qg(xs:List Bool):∀ row∈a8 xs,∀ v∈row,(∃ x,v=AV.lit x)\/∃ s r,v=AV.tree s r:=by
 intro row hr v hv;simp only[a8,bS]at hr;obtain⟨x,_,rfl⟩:=hr;simp at hv;exact .inl ⟨_,hv⟩
def acH(xs:List (List Int)):∀ row∈eW xs,∀ v∈row,(∃ x,v=AV.lit x)\/∃ s r,v=AV.tree s r:=by
 intro row hr v hv;simp only[eW,bS]at hr;obtain⟨x,_,rfl⟩:=hr;simp at hv;exact .inr ⟨_,_,hv⟩
def vd(xs:List Int):∀ row∈ints xs,row.length=1:=by
 intro row hr;simp only[ints,bS]at hr;obtain⟨x,_,rfl⟩:=hr;rfl
def Jo(xs:List Bool):∀ row∈a8 xs,row.length=1:=by
 intro row hr;simp only[a8,bS]at hr;obtain⟨x,_,rfl⟩:=hr;rfl
def acI(xs:List (List Int)):∀ row∈eW xs,row.length=1:=by
 intro row hr;simp only[eW,bS]at hr;obtain⟨x,_,rfl⟩:=hr;rfl
def kh{α:Type}(xs:List α)(i:Nat)(d:α)(h:i<xs.length):xs.drop i=xs.getD i d::xs.drop (i+1):=by
 rw[List.drop_eq_getElem_cons h];simp[h]
end Go.Am

