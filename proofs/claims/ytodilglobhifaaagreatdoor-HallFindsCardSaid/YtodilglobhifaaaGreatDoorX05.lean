import Derived.Test.YtodilglobhifaaaGreatDoorX04
set_option linter.all false
set_option maxHeartbeats 0
set_option maxRecDepth 20000
open List renaming mem_of_getElem?→fB,mem_append→bj,map_congr_left→oO,getElem?_eq_some_iff→ba,range→bD,contains_iff_mem→ml,mem_cons→cD,not_mem_nil→qS,getD_eq_getElem?_getD→aw,getElem?_range→ub,nodup_range→Ar,range'→jJ,range_eq_range'→sB,map_set→Ap,replicate→ax,mem_map→cN
open Array renaming getD_eq_getD_getElem?→dC,toList_append→vQ,replicate→ua
open Bool renaming or_eq_true→jI,and_eq_true→bd
open Option renaming some→dv
namespace Go.Am
variable {P:Program}
def DW(P:Program)(g:FuncId)(args:List AV)(dst:Option Tmp)(K:St->Prop)(σ:St):Prop :=
 ∃ res,ao P g args [] res []/\jP args=true/\iu res=true/\K (σ.put dst res)
def o7(P:Program)(t:TypeId)(dst:Option Tmp)(K:St->Prop)(σ:St):AV->Prop
 |.cm cells=>(ty P t).kind≠99/\jM (ty P t) cells 0 λv=>K (σ.put dst v)
 |_=>False
def jq(q:Bool)(P:Program)(o:Oper)(σ:St)(K:St->Prop):Prop :=
 match q with
 |false=>aR P o σ K
 |true =>
  match o.op with
  |.call { callee:=.value f,args,.. } =>
   match ev σ f with
   |.fn g bB=>DW P g (args.toList.map (ev σ)++bB) o.dst K σ
   |_=>False
  |.load t a=>o7 P t o.dst K σ (ev σ a)
  |_=>False
def SO{o:Oper}{σ:St}{K:St->Prop}{t:TypeId}{a:Operand}(cG:o.op=.load t a)(h:o7 P t o.dst K σ (ev σ a)):aR P o σ K:=by
 unfold aR;simp only[cG];unfold bF;simp only[cG];unfold o7 at h;split at h
 ·rename_i cells he;simp only[he];exact h
 ·exact h.elim
def DJ{t:TypeId}{dst:Option Tmp}{K:St->Prop}{σ:St}{v:AV}(h:o7 P t dst K σ v):∃x,K (σ.put dst x)/\∀ (σ2:St) (K2:St->Prop),K2 (σ2.put dst x)->o7 P t dst K2 σ2 v:=by
 unfold o7 at h;split at h
 ·rename_i cells;obtain⟨h1,h2⟩:=h;unfold jM at h2;split at h2
  ·rename_i ha;refine⟨_,h2.2,λσ2 K2 hK=>?_⟩;unfold o7 jM;simp only;rw[if_pos ha];exact⟨h1,h2.1,hK⟩
  ·rename_i ha;split at h2
   ·rename_i x hx;refine⟨x,h2,λσ2 K2 hK=>?_⟩;unfold o7 jM;simp only;rw[if_neg ha,hx];exact⟨h1,hK⟩
   ·exact h2.elim
 ·exact h.elim
def lR(q:Bool)(P:Program)(o:Oper)(K:St->Prop)(b want:Bool)(σ:St):Prop:=(b=want->jq q P o σ K)/\(b≠want->K (σ.put o.dst (.lit (.tuple #[]))))
def cQ(P:Program)(ops:Array Oper)(q:Bool)(o:Oper)(K:St->Prop)(σ:St):Prop :=
 match o.guard with
 |none=>jq q P o σ K
 |some (j,want) =>
  match (ops[j]?).bind (·.dst) with
  |none=>False
  |some d =>
   match σ.env d with
   |.lit (.bool b)=>lR q P o K b want σ
   |.lit (.tuple vs)=>vs = #[]/\K (σ.put o.dst (.lit (.tuple #[])))
   |_=>False
def Kv{q:Bool}{o:Oper}{σ:St}{K:St->Prop}(h:jq q P o σ K):aR P o σ K:=by
 cases q with
 |false=>exact h
 |true =>
  unfold jq at h;simp only at h;unfold aR;split at h
  ·rename_i f args dV cG;simp only[cG];split at h
   ·rename_i g bB he;simp only[he];obtain⟨res,h1,h2,h3,h4⟩:=h;exact br h1 h2 h3 h4
   ·exact h.elim
  ·rename_i t a cG;have:=SO cG h;unfold aR at this;simpa only[cG] using this
  ·exact h.elim
def Ir{N:Nat}{os:List Ob}{γ0:Cx}{ops:Array Oper}(hd:∀ o∈ops.toList,∀ d,o.dst=some d->d<N){q:Bool}{i:Nat}{o:Oper}(hi:ops[i]?=some o){σ:St}{K:St->Prop}(h:cQ P ops q o K σ){a:Act}{w:World}(aV:dM N os γ0 σ a w){Q:Exit->Act->World->Prop}{next:Act->World->Prop}(hn:∀ σ' a' w',K σ'->dM N os γ0 σ' a' w'->next a' w'):wpOp P ops Q i next a w:=by
 have eh:o∈ops.toList:=fB (by simpa using hi);unfold wpOp;simp only[hi];unfold cQ at h;cases hg:o.guard with
 |none =>
  simp only[hg]at h;have hw:Region.wanted o (yielded ops a.tmps)=true:=by simp[Region.wanted,hg]
  rw[if_pos hw];left;exact uu (Kv h) aV (hd o eh) hn
 |some jw =>
  obtain⟨j,want⟩:=jw;simp only[hg]at h;cases cV:(ops[j]?).bind (·.dst) with
  |none=>simp[cV]at h
  |some d =>
   simp only[cV]at h;split at h
   ·rename_i b he;obtain⟨e8,aE,γ,rfl,ha,hs,hf⟩:=aV;have fU:=hs.au d;rw[he,ha]at fU;have hv:=fU.bQ;have hy:yielded ops a.tmps j=some b:=by
     unfold yielded;rw[cV];have:a.tmps[d]?=some (.bool b):=by
      rw[dC]at hv;cases hx:a.tmps[d]? with
      |none=>rw[hx]at hv;simp[Go.undef]at hv
      |some y=>rw[hx]at hv;simp at hv;rw[hv]
     simp[this]
    by_cases eK:b=want
    ·have hw:Region.wanted o (yielded ops a.tmps)=true:=by simp[Region.wanted,hg,hy,eK]
     rw[if_pos hw];left;exact uu (Kv (h.1 eK)) ⟨e8,aE,γ,rfl,ha,hs,hf⟩ (hd o eh) hn
    ·have hw:Region.wanted o (yielded ops a.tmps)=false:=by simp[Region.wanted,hg,hy,eK]
     rw[if_neg (by rw[hw];simp)];refine hn _ _ _ (h.2 eK) ⟨by rw[put_defers];exact e8,by rw[nf];exact aE,{ γ with tmps:=(a.put o.dst Go.undef).tmps },rfl,rfl,mA hs ha (λd h=>by rw[aE];exact hd o eh d h) (.lit _),?_⟩;rw[mB];exact hf.put _
   ·rename_i vs he;obtain⟨e8,aE,γ,rfl,ha,hs,hf⟩:=aV;have fU:=hs.au d;rw[he,ha]at fU;have hv:=fU.bQ;have hy:yielded ops a.tmps j=none:=by
     unfold yielded;rw[cV];rw[dC]at hv;cases hx:a.tmps[d]? with
     |none=>simp[hx]
     |some y=>rw[hx]at hv;simp at hv;subst hv;simp[hx]
    have hw:Region.wanted o (yielded ops a.tmps)=false:=by simp[Region.wanted,hg,hy]
    rw[if_neg (by rw[hw];simp)];refine hn _ _ _ h.2 ⟨by rw[put_defers];exact e8,by rw[nf];exact aE,{ γ with tmps:=(a.put o.dst Go.undef).tmps },rfl,rfl,mA hs ha (λd h=>by rw[aE];exact hd o eh d h) (.lit _),?_⟩;rw[mB];exact hf.put _
   ·exact h.elim
def Ba(c:Nat)(a:List Ob):iG c a a:=by
 unfold iG;split
 ·rfl
 ·split
  ·intro id _;rfl
  ·split
   ·exact⟨rfl,λid o o' h h'=>by rw[h]at h';simp at h';subst h';exact uv o⟩
   ·trivial
def cA.aa{σ σ2:St}(h:σ2.aa=σ.aa){kp:Nat->Prop}{c d:AV}(ha:cA σ kp c d):cA σ2 kp c d:=by
 induction ha with
 |lit x=>exact .lit x
 |tree s r=>exact .tree s r
 |nil sz=>exact .nil sz
 |ref id sz off len rows eV g bb n7 hl0 Bb dG cI ih=>exact .ref id sz off len rows eV g (by rw[h];exact bb) n7 hl0 Bb dG ih
def a9.aa{σ σ2:St}(h:σ2.aa=σ.aa){kp:Nat->Prop}{ρ:Nat->Nat}{snap:Bool}{c d:AV}(ha:a9 σ kp ρ snap c d):a9 σ2 kp ρ snap c d:=by
 induction ha with
 |same v=>exact .same v
 |snap c d hs hf=>exact .snap c d hs (hf.aa h)
 |agg cs ds hl _ ih=>exact .agg cs ds hl ih
 |bP cs ds hl _ ih=>exact .bP cs ds hl ih
def ew(q:Bool)(o:Oper):Nat:=if q then 0 else cls o.op
def q6{ops:Array Oper}{o:Oper}{σ:St}{e2:Nat->AV}{os:List Ob}(h:∀ t∈o.looksAt ops,e2 t=σ.env t):∀ x∈o.op.operands.toList,ev ⟨e2,os⟩ x=ev σ x:=by
 intro x hx;cases x with
 |tmp t =>
  show e2 t=σ.env t;refine h t ?_;unfold Oper.looksAt;rw[bj];left;rw[List.mem_filterMap];exact⟨_,hx,rfl⟩
 |const v=>rfl
 |func f=>rfl
 |global g=>rfl
def SP{σ:St}{v:AV}{K:FuncId->AV->Prop}{r:Option (FuncId×Option TypeId)}(h:lF P σ v K r):
  ∃ g x,K g x/\∀ (e2:Nat->AV) (K2:FuncId->AV->Prop),K2 g x->lF P ⟨e2,σ.aa⟩ v K2 r:=by
 match r,h with
 |none,h=>exact h.elim
 |some (g,none),h=>exact⟨g,v,h,λ_ _ h=>h⟩
 |some (g,some e),h =>
  unfold lF at h;obtain⟨hk,h⟩:=h;cases v with
  |ptr id rr c =>
   simp only at h;cases aP:rowOf σ id rr with
   |none=>simp[aP]at h
   |some row =>
    simp only[aP]at h;obtain⟨x,h1,h2⟩:=Kw h;refine⟨g,x,h1,λe2 K2 hK=>?_⟩;unfold lF;have:rowOf ⟨e2,σ.aa⟩ id rr=some row:=aP;simp only[this];exact⟨hk,h2 _ hK⟩
  |_=>exact h.elim
def SQ{o:Oper}{σ:St}{K:St->Prop}(hW:aR P o σ K):
  ∃ v os,iG (cls o.op) σ.aa os/\K ((⟨σ.env,os⟩:St).put o.dst v)/\∀ (e2:Nat->AV) (K2:St->Prop),(∀ x∈o.op.operands.toList,ev ⟨e2,σ.aa⟩ x=ev σ x)->K2 ((⟨e2,os⟩:St).put o.dst v)->aR P o ⟨e2,σ.aa⟩ K2:=by
 unfold aR at hW ⊢;split at hW
 ·rename_i f args dV cG;simp only[cG];split at hW
  ·rename_i g bB he;obtain⟨ab,snap,cu,bn,res,bY,h1,⟨h2,h3,h4,h5,h6,h7⟩,h8⟩:=hW;refine⟨_,_,(by simp[iG,cls]),h8,λe2 K2 hx hK=>?_⟩;have e1:ev ⟨e2,σ.aa⟩ f=.fn g bB:=by rw[<- he];exact hx f (by simp[Op.operands,Call.operands])
   have e3:args.toList.map (ev ⟨e2,σ.aa⟩)=args.toList.map (ev σ):=oO λy hy=>hx y (by simp only[Op.operands,Call.operands,vQ,bj];exact .inr hy);simp only[e1,e3];exact⟨ab,snap,cu,bn,res,bY,h1,⟨h2,h3,h4,h5,λj c d hc hd=>a9.aa (σ:=σ) (σ2:=⟨e2,σ.aa⟩) rfl (h6 j c d hc hd),h7⟩,hK⟩
  ·exact hW.elim
 ·rename_i r m args dV cG;simp only[cG];split at hW
  ·rename_i t v he;obtain⟨g,x,⟨ab,snap,cu,bn,res,bY,h1,⟨h2,h3,h4,h5,h6,h7⟩,h8⟩,SR⟩:=SP hW;refine⟨_,_,(by simp[iG,cls]),h8,λe2 K2 hx hK=>?_⟩;have e1:ev ⟨e2,σ.aa⟩ r=.fj t v:=by rw[<- he];exact hx r (by simp[Op.operands,Call.operands])
   have e3:args.toList.map (ev ⟨e2,σ.aa⟩)=args.toList.map (ev σ):=oO λy hy=>hx y (by simp only[Op.operands,Call.operands,vQ,bj];exact .inr hy);simp only[e1,e3];exact SR e2 _ ⟨ab,snap,cu,bn,res,bY,h1,⟨h2,h3,h4,h5,λj c d hc hd=>a9.aa (σ:=σ) (σ2:=⟨e2,σ.aa⟩) rfl (h6 j c d hc hd),h7⟩,hK⟩
  ·exact hW.elim
 ·rename_i bI;obtain⟨v,os,h1,h2,h3⟩:=SS hW;refine⟨v,os,h1,h2,λe2 K2 hx hK=>?_⟩;have:=h3 e2 K2 hx hK;exact this
def SU{o:Oper}{σ:St}{K:St->Prop}(hc:cls o.op<=2)(hW:aR P o σ K):
  ∃ v,K (σ.put o.dst v)/\∀ (σ2:St) (K2:St->Prop),(∀ x∈o.op.operands.toList,ev σ2 x=ev σ x)->(∀ (id:Nat),gB (cls o.op) σ.aa[id]? σ2.aa[id]?)->K2 (σ2.put o.dst v)->aR P o σ2 K2:=by
 unfold aR at hW ⊢;split at hW
 ·rename_i f args dV cG;rw[cG]at hc;simp[cls]at hc
 ·rename_i r m args dV cG;rw[cG]at hc;simp[cls]at hc
 ·rename_i bI;obtain⟨v,h2,h3⟩:=Is hc hW;refine⟨v,h2,λσ2 K2 hx ho hK=>?_⟩;exact h3 σ2 K2 hx (λx _ id _=>ho id) hK
def Kx{q:Bool}{o:Oper}{σ:St}{K:St->Prop}(hW:jq q P o σ K):
  ∃ v os,iG (ew q o) σ.aa os/\K ((⟨σ.env,os⟩:St).put o.dst v)/\∀ (e2:Nat->AV) (K2:St->Prop),(∀ x∈o.op.operands.toList,ev ⟨e2,σ.aa⟩ x=ev σ x)->K2 ((⟨e2,os⟩:St).put o.dst v)->jq q P o ⟨e2,σ.aa⟩ K2:=by
 cases q with
 |false=>exact SQ hW
 |true =>
  unfold jq at hW ⊢;simp only at hW ⊢;split at hW
  ·rename_i f args dV cG;simp only[cG];split at hW
   ·rename_i g bB he;obtain⟨res,h1,h2,h3,h4⟩:=hW;refine⟨res,σ.aa,Ba _ _,h4,λe2 K2 hx hK=>?_⟩;have e1:ev ⟨e2,σ.aa⟩ f=.fn g bB:=by rw[<- he];exact hx f (by simp[Op.operands,Call.operands])
    have e3:args.toList.map (ev ⟨e2,σ.aa⟩)=args.toList.map (ev σ):=oO λy hy=>hx y (by simp only[Op.operands,Call.operands,vQ,bj];exact .inr hy);simp only[e1,e3];exact⟨res,h1,h2,h3,hK⟩
   ·exact hW.elim
  ·rename_i t a cG;obtain⟨x,h1,h2⟩:=DJ hW;refine⟨x,σ.aa,Ba _ _,h1,λe2 K2 hx hK=>?_⟩;rw[hx a (by simp[cG,Op.operands])];exact h2 _ K2 hK
  ·exact hW.elim
def Ky{q:Bool}{o:Oper}{σ:St}{K:St->Prop}(hc:ew q o<=2)(hW:jq q P o σ K):
  ∃ v,K (σ.put o.dst v)/\∀ (σ2:St) (K2:St->Prop),(∀ x∈o.op.operands.toList,ev σ2 x=ev σ x)->(∀ (id:Nat),gB (ew q o) σ.aa[id]? σ2.aa[id]?)->K2 (σ2.put o.dst v)->jq q P o σ2 K2:=by
 cases q with
 |false=>exact SU hc hW
 |true =>
  unfold jq at hW ⊢;simp only at hW ⊢;split at hW
  ·rename_i f args dV cG;simp only[cG];split at hW
   ·rename_i g bB he;obtain⟨res,h1,h2,h3,h4⟩:=hW;refine⟨res,h4,λσ2 K2 hx _ hK=>?_⟩;have e1:ev σ2 f=.fn g bB:=by rw[<- he];exact hx f (by simp[Op.operands,Call.operands])
    have e3:args.toList.map (ev σ2)=args.toList.map (ev σ):=oO λy hy=>hx y (by simp only[Op.operands,Call.operands,vQ,bj];exact .inr hy);simp only[e1,e3];exact⟨res,h1,h2,h3,hK⟩
   ·exact hW.elim
  ·rename_i t a cG;obtain⟨x,h1,h2⟩:=DJ hW;refine⟨x,h1,λσ2 K2 hx _ hK=>?_⟩;rw[hx a (by simp[cG,Op.operands])];exact h2 _ K2 hK
  ·exact hW.elim
def q7{ops:Array Oper}{o:Oper}{j d:Nat}{want:Bool}(hg:o.guard=some (j,want))(hd:(ops[j]?).bind (·.dst)=some d):d∈o.looksAt ops:=by
 unfold Oper.looksAt;rw[bj];right;simp[hg,hd]
def yb{ops:Array Oper}{q:Bool}{o:Oper}{σ:St}{K:St->Prop}(hW:cQ P ops q o K σ):
  ∃ v os,iG (ew q o) σ.aa os/\K ((⟨σ.env,os⟩:St).put o.dst v)/\∀ (e2:Nat->AV) (K2:St->Prop),(∀ t∈o.looksAt ops,e2 t=σ.env t)->K2 ((⟨e2,os⟩:St).put o.dst v)->cQ P ops q o K2 ⟨e2,σ.aa⟩:=by
 unfold cQ at hW ⊢;cases hg:o.guard with
 |none =>
  simp only[hg]at hW;obtain⟨v,os,h1,h2,h3⟩:=Kx hW;exact⟨v,os,h1,h2,λe2 K2 hl hK=>h3 e2 K2 (q6 hl) hK⟩
 |some jw =>
  obtain⟨j,want⟩:=jw;simp only[hg]at hW;cases cV:(ops[j]?).bind (·.dst) with
  |none=>simp[cV]at hW
  |some d =>
   simp only[cV]at hW;split at hW
   ·rename_i b he;by_cases eK:b=want
    ·obtain⟨v,os,h1,h2,h3⟩:=Kx (hW.1 eK);refine⟨v,os,h1,h2,λe2 K2 hl hK=>?_⟩;have:e2 d=.lit (.bool b):=by rw[hl d (q7 hg cV)];exact he
     simp only[cV,this];exact⟨λ_=>h3 e2 K2 (q6 hl) hK,λhn=>absurd eK hn⟩
    ·refine⟨.lit (.tuple #[]),σ.aa,Ba _ _,hW.2 eK,λe2 K2 hl hK=>?_⟩;have:e2 d=.lit (.bool b):=by rw[hl d (q7 hg cV)];exact he
     simp only[cV,this];exact⟨λhn=>absurd hn eK,λ_=>hK⟩
   ·rename_i vs he;refine⟨.lit (.tuple #[]),σ.aa,Ba _ _,hW.2,λe2 K2 hl hK=>?_⟩;have:e2 d=.lit (.tuple vs):=by rw[hl d (q7 hg cV)];exact he
    simp only[cV,this];exact⟨hW.1,hK⟩
   ·exact hW.elim
def Kz{ops:Array Oper}{q:Bool}{o:Oper}{σ:St}{K:St->Prop}(hc:ew q o<=2)(hW:cQ P ops q o K σ):
  ∃ v,K (σ.put o.dst v)/\∀ (σ2:St) (K2:St->Prop),(∀ t∈o.looksAt ops,σ2.env t=σ.env t)->(∀ (id:Nat),gB (ew q o) σ.aa[id]? σ2.aa[id]?)->K2 (σ2.put o.dst v)->cQ P ops q o K2 σ2:=by
 unfold cQ at hW ⊢;cases hg:o.guard with
 |none =>
  simp only[hg]at hW;obtain⟨v,h2,h3⟩:=Ky hc hW;exact⟨v,h2,λσ2 K2 hl ho hK=>h3 σ2 K2 (q6 (e2:=σ2.env) (os:=σ2.aa) hl) ho hK⟩
 |some jw =>
  obtain⟨j,want⟩:=jw;simp only[hg]at hW;cases cV:(ops[j]?).bind (·.dst) with
  |none=>simp[cV]at hW
  |some d =>
   simp only[cV]at hW;split at hW
   ·rename_i b he;by_cases eK:b=want
    ·obtain⟨v,h2,h3⟩:=Ky hc (hW.1 eK);refine⟨v,h2,λσ2 K2 hl ho hK=>?_⟩;have:σ2.env d=.lit (.bool b):=by rw[hl d (q7 hg cV)];exact he
     simp only[cV,this];exact⟨λ_=>h3 σ2 K2 (q6 (e2:=σ2.env) (os:=σ2.aa) hl) ho hK,λhn=>absurd eK hn⟩
    ·refine⟨.lit (.tuple #[]),hW.2 eK,λσ2 K2 hl ho hK=>?_⟩;have:σ2.env d=.lit (.bool b):=by rw[hl d (q7 hg cV)];exact he
     simp only[cV,this];exact⟨λhn=>absurd hn eK,λ_=>hK⟩
   ·rename_i vs he;refine⟨.lit (.tuple #[]),hW.2,λσ2 K2 hl ho hK=>?_⟩;have:σ2.env d=.lit (.tuple vs):=by rw[hl d (q7 hg cV)];exact he
    simp only[cV,this];exact⟨hW.1,hK⟩
   ·exact hW.elim
def sP{σ:St}{dst:Option Tmp}{v:AV}{t:Nat}(h:∀ d,dst=some d->d≠t):(σ.put dst v).env t=σ.env t:=by
 cases dst with
 |none=>rfl
 |some d =>
  have:=h d rfl;simp[St.put,eY,Ne.symm this]
def AY{σ:St}{x y:Option Tmp}{v u:AV}(h:∀ d,x=some d->y≠some d):(σ.put x v).put y u=(σ.put y u).put x v:=by
 cases x with
 |none=>rfl
 |some d =>
  cases y with
  |none=>rfl
  |some d' =>
   have bI:d'≠d:=λe=>h d rfl (by rw[e]);simp only[St.put];congr 1;funext k;simp only[eY];split<;>split<;>simp_all
def AW{σ:St}{x:Option Tmp}{v:AV}:(σ.put x v).aa=σ.aa:=by cases x<;>rfl
def Ix{σ:St}{x:Option Tmp}{v:AV}:σ.put x v=⟨(σ.put x v).env,σ.aa⟩:=by cases x<;>rfl
def AX{σ:St}{os:List Ob}{x:Option Tmp}{v:AV}:(⟨(σ.put x v).env,os⟩:St)=(⟨σ.env,os⟩:St).put x v:=by cases x<;>rfl
def v9(ci ck:Nat):Bool:=ci==0||ck==0||(ci==1&&decide (ck<=4))||(ci==2&&decide (ck<=3))
def Iw{ci ck:Nat}(h:(ci==0||(ci==1&&decide (ck<=4))||(ci==2&&decide (ck<=3)))=true){a b:List Ob}(he:iG ck a b)(id:Nat):gB ci a[id]? b[id]?:=by
 simp only[jI,bd,beq_iff_eq,decide_eq_true_eq]at h;rcases h with(rfl|⟨rfl,hk⟩)|⟨rfl,hk⟩
 ·simp[gB]
 ·unfold iG at he;have:∀ o,a[id]?=some o->∃ o',b[id]?=some o'/\o8 o o':=by
   intro o ho;have bw:=(ba.1 ho).1;split at he
   ·subst he;exact⟨o,ho,uv o⟩
   ·split at he
    ·exact⟨o,by rw[he id bw];exact ho,uv o⟩
    ·split at he
     ·have hb:id<b.length:=Ay;exact⟨b[id],by simp[hb],he.2 id o _ ho (by simp[hb])⟩
     ·omega
  simpa [gB] using this
 ·unfold iG at he;have:∀ o,a[id]?=some o->b[id]?=some o:=by
   intro o ho;have bw:=(ba.1 ho).1;split at he
   ·subst he;exact ho
   ·split at he
    ·rw[he id bw];exact ho
    ·omega
  simpa [gB] using this
def SV{ops:Array Oper}{qi qk:Bool}{oi ok:Oper}(ha:oi.apart ops ok=true)(hi:ew qi oi<=2)(hc:(ew qi oi==0||(ew qi oi==1&&decide (ew qk ok<=4))||(ew qi oi==2&&decide (ew qk ok<=3)))=true){σ:St}{K:St->Prop}(h:cQ P ops qi oi (cQ P ops qk ok K) σ):cQ P ops qk ok (cQ P ops qi oi K) σ:=by
 obtain⟨a1,a2,a3⟩:=Oper.apart_spec ha;obtain⟨v,h1,run⟩:=Kz hi h;obtain⟨vk,os,ux,h2,yc⟩:=yb h1;rw[AW]at ux yc;refine yc σ.env _ (λt ht=>(sP λd hd e=>a1 d hd (e▸ht)).symm) ?_;refine run _ _ (λt ht=>?_) (λid=>?_) ?_
 ·rw[sP λd hd e=>a3 d hd (e▸ht)]
 ·rw[AW];exact Iw hc ux id
 ·rw[AX]at h2;rw[AY (λd hd e=>a2 d e hd)];exact h2
def SW{ops:Array Oper}{qi qk:Bool}{oi ok:Oper}(ha:oi.apart ops ok=true)(hk:ew qk ok=0){σ:St}{K:St->Prop}(h:cQ P ops qi oi (cQ P ops qk ok K) σ):cQ P ops qk ok (cQ P ops qi oi K) σ:=by
 obtain⟨a1,a2,a3⟩:=Oper.apart_spec ha;obtain⟨vi,os,ux,h1,run⟩:=yb h;obtain⟨vk,h2,DK⟩:=Kz Ay h1;refine DK σ _ (λt ht=>(sP (σ:=⟨σ.env,os⟩) λd hd e=>a1 d hd (e▸ht)).symm) (λid=>by rw[hk];simp[gB]) ?_;rw[Ix];refine run _ _ (λt ht=>sP λd hd e=>a3 d hd (e▸ht)) ?_;rw[AX,AY (λd hd e=>a2 d e hd)];exact h2
def SX{ops:Array Oper}{qi qk:Bool}{oi ok:Oper}(ha:oi.apart ops ok=true)(hc:v9 (ew qi oi) (ew qk ok)=true){σ:St}{K:St->Prop}(h:cQ P ops qi oi (cQ P ops qk ok K) σ):cQ P ops qk ok (cQ P ops qi oi K) σ:=by
 by_cases hk:ew qk ok=0
 ·exact SW ha hk h
 ·have jr:(ew qi oi==0||(ew qi oi==1&&decide (ew qk ok<=4))||(ew qi oi==2&&decide (ew qk ok<=3)))=true:=by
   simp only[v9,jI,bd,beq_iff_eq,decide_eq_true_eq]at hc ⊢;rcases hc with((h|h)|h)|h
   ·exact .inl (.inl h)
   ·exact absurd h hk
   ·exact .inl (.inr h)
   ·exact .inr h
  refine SV ha ?_ jr h;simp only[jI,bd,beq_iff_eq,decide_eq_true_eq]at jr;omega
end Go.Am
namespace Go.Am
variable {P:Program} {N n0:Nat} {σ:St}
def ej(P:Program)(ops:Array Oper)(qs:List Nat)(i:Nat)(K:St->Prop)(σ:St):Prop :=
 match ops[i]? with
 |none=>K σ
 |some o=>cQ P ops (qs.contains i) o K σ
def qg(P:Program)(ops:Array Oper)(qs:List Nat)(K:St->Prop):Nat->Array Bool->St->Prop
 |0,listed,σ=>Region.ready .any ops listed=[]/\K σ
 |n+1,listed,σ=>(Region.ready .any ops listed=[]->K σ)/\∀ i∈Region.ready .any ops listed,ej P ops qs i (qg P ops qs K n (listed.setIfInBounds i true)) σ
def x7{ops:Array Oper}{q:Bool}{o:Oper}{σ:St}{K K2:St->Prop}(hk:∀ s,K s->K2 s)(h:cQ P ops q o K σ):cQ P ops q o K2 σ:=by
 obtain⟨v,os,_,h2,run⟩:=yb h;exact run σ.env K2 (λ_ _=>rfl) (hk _ h2)
def SY{ops:Array Oper}{q:Bool}{o:Oper}{σ:St}{K:St->Prop}(h:cQ P ops q o K σ):∃s,K s:=by
 obtain⟨v,os,_,h2,run⟩:=yb h;exact⟨_,h2⟩
def sZ{ops:Array Oper}{qs:List Nat}{i:Nat}{σ:St}{K K2:St->Prop}(hk:∀ s,K s->K2 s)(h:ej P ops qs i K σ):ej P ops qs i K2 σ:=by
 unfold ej at h ⊢;split at h
 ·exact hk _ h
 ·exact x7 hk h
def SZ{ops:Array Oper}{qs:List Nat}{i:Nat}{σ:St}{K:St->Prop}(h:ej P ops qs i K σ):∃s,K s:=by
 unfold ej at h;split at h
 ·exact⟨_,h⟩
 ·exact SY h
def DZ{os:List Ob}{γ0:Cx}{ops:Array Oper}{qs:List Nat}(hd:∀ o∈ops.toList,∀ d,o.dst=some d->d<N){K:St->Prop}{Q:Exit->Act->World->Prop}(hQ:∀ σ' a' w',K σ'->dM N os γ0 σ' a' w'->Q .normal a' w'):∀ (n:Nat) (listed:Array Bool) (σ:St) (a:Act) (w:World),qg P ops qs K n listed σ->dM N os γ0 σ a w->wpAny P .any ops Q n listed a w
 |0,listed,σ,a,w,h,aV=>⟨h.1,hQ _ _ _ h.2 aV⟩
 |n+1,listed,σ,a,w,h,aV=>by
  refine⟨λhr=>hQ _ _ _ (h.1 hr) aV,λi hi=>?_⟩;have:=h.2 i hi;unfold ej at this;split at this
  ·rename_i hi';unfold wpOp;simp only[hi'];exact DZ hd hQ n _ _ _ _ this aV
  ·rename_i o hi';exact Ir hd hi' this aV λσ' a' w' hK cW=>DZ hd hQ n _ _ _ _ hK cW
def S1{id:Nat}{ops:Array Oper}{Q:Exit->St->Prop}(qs:List Nat)(hm:P.follows .mixedOrders=true)(hd:eJ N ops=true)(h:qg P ops qs (Q .normal) ops.size (ua ops.size false) σ):W P N n0 (.region id ops true) Q σ:=by
 intro os γ0 a w _ aV;refine wp_region_any hm ?_;exact DZ (kE hd) (K:=Q .normal) (λσ' a' w' hK cW=>⟨σ',hK,cW⟩) _ _ _ _ _ h aV.drawn
def S3{ops:Array Oper}{qs:List Nat}{K:St->Prop}{i:Nat}{o:Oper}(hi:ops[i]?=some o)(D:List Nat)(Sv:i∈D)(hD:∀ j∈D,j=i\/∃ oj,ops[j]?=some oj/\∃ e∈oj.after,Region.binds .any e=true/\e.on∈D):∀ (fuel:Nat) (listed:Array Bool) (σ:St),(∀ j∈D,listed.getD j true=false) ->
   i∈Region.ready .any ops listed ->
   (∀ j oj,ops[j]?=some oj->listed.getD j true=false->j ∉ D->o.apart ops oj=true/\v9 (ew (qs.contains i) o) (ew (qs.contains j) oj)=true) ->
   ej P ops qs i (qg P ops qs K fuel (listed.setIfInBounds i true)) σ->qg P ops qs K (fuel+1) listed σ:=by
 intro fuel
 induction fuel with
 |zero =>
  intro listed σ hu hr lH h;refine⟨λe=>by rw[e]at hr;simp at hr,λk hk=>?_⟩;by_cases eA:k=i
  ·subst eA;exact h
  ·obtain⟨s,hs⟩:=SZ h;have:=ready_mono hk eA;rw[hs.1]at this;simp at this
 |succ m ih =>
  intro listed σ hu hr lH h;refine⟨λe=>by rw[e]at hr;simp at hr,λk hk=>?_⟩;by_cases eA:k=i
  ·subst eA;exact h
  ·have gT:=mem_ready.1 hk;obtain⟨eT,ok,aV,cL⟩:=gT;have oW:k ∉ D:=by
    intro oW;rcases hD k oW with e|⟨oj,iT,e,he,hb,mq⟩
    ·exact eA e
    ·rw[aV]at iT;simp only[dv.injEq]at iT;subst iT;have h1:=cL e he hb;have h2:=hu e.on mq;rw[dC]at h1 h2;cases hx:listed[e.on]? with
     |none=>rw[hx]at h1;simp at h1
     |some b=>rw[hx]at h1 h2;simp at h1 h2;rw[h1]at h2;simp at h2
   obtain⟨ha,hc⟩:=lH k ok aV eT oW;have h1:ej P ops qs i (ej P ops qs k (qg P ops qs K m ((listed.setIfInBounds i true).setIfInBounds k true))) σ :=
    sZ (λs hs=>hs.2 k (ready_mono hk eA)) h
   have h2:ej P ops qs k (ej P ops qs i (qg P ops qs K m ((listed.setIfInBounds i true).setIfInBounds k true))) σ:=by
    unfold ej at h1 ⊢;simp only[hi,aV]at h1 ⊢;exact SX ha hc h1
   refine sZ (λs hs=>?_) h2;refine ih (listed.setIfInBounds k true) s (λj hj=>?_) (ready_mono hr (Ne.symm eA)) (λj oj iT hl uy=>?_) ?_
   ·have bI:k≠j:=λe=>oW (by rw[e];exact hj);rw[getD_set_ne _ bI];exact hu j hj
   ·refine lH j oj iT ?_ uy;by_cases mr:k=j
    ·subst mr;exact eT
    ·rwa [getD_set_ne _ mr]at hl
   ·rw[Array.setIfInBounds_comm _ _ (Ne.symm eA)]at hs;exact hs
def DN(ops:Array Oper)(i:Nat):List Nat :=
 (bD ops.size).foldl (λD j=>if j==i||(match ops[j]? with|some oj=>oj.after.any (λe=>Region.binds .any e&&D.contains e.on)|none=>false) then D++[j] else D) []
def Bd(ops:Array Oper)(qs:List Nat)(listed:Array Bool)(i:Nat)(D:List Nat):Bool :=
 match ops[i]? with
 |none=>false
 |some o =>
  D.contains i&&D.all (λj=>j==i||match ops[j]? with|some oj=>oj.after.any (λe=>Region.binds .any e&&D.contains e.on)|none=>false) &&
  D.all (λj=>!listed.getD j true)&&o.after.all (λe=>!Region.binds .any e||listed.getD e.on false) &&
  (bD ops.size).all λj=>D.contains j||listed.getD j true||match ops[j]? with|some oj=>o.apart ops oj&&v9 (ew (qs.contains i) o) (ew (qs.contains j) oj)|none=>true
def S5{ops:Array Oper}{qs:List Nat}{K:St->Prop}{i:Nat}{D:List Nat}{fuel:Nat}{listed:Array Bool}(h:Bd ops qs listed i D=true)(hs:ej P ops qs i (qg P ops qs K fuel (listed.setIfInBounds i true)) σ):qg P ops qs K (fuel+1) listed σ:=by
 unfold Bd at h;cases hi:ops[i]? with
 |none=>simp[hi]at h
 |some o =>
  simp only[hi,bd,List.all_eq_true,ml,jI,beq_iff_eq,Bool.not_eq_true']at h;obtain⟨⟨⟨⟨h1,h2⟩,h3⟩,h4⟩,h5⟩:=h;refine S3 hi D h1 (λj hj=>?_) fuel listed σ h3 ?_ ?_ hs
  ·rcases h2 j hj with h|h
   ·exact .inl h
   ·right;split at h
    ·rename_i oj iT;rw[Array.any_eq_true']at h;obtain⟨e,he,hb⟩:=h;simp only[bd,ml]at hb;exact⟨oj,iT,e,he,hb.1,hb.2⟩
    ·simp at h
  ·rw[mem_ready];refine⟨h3 i h1,o,hi,λe he hb=>?_⟩;rw[Array.all_eq_true']at h4;have:=h4 e he;simpa [hb] using this
  ·intro j oj iT hl uy;have hj:j<ops.size:=(Array.getElem?_eq_some_iff.1 iT).1;rcases h5 j (List.mem_range.2 hj) with(h|h)|h
   ·exact absurd h uy
   ·rw[hl]at h;simp at h
   ·simpa [iT] using h
inductive PT where
 |nil
 |take (i:Nat) (t:PT)
 |both (i:Nat) (t:PT) (j:Nat) (u:PT)
 |three (i:Nat) (t:PT) (j:Nat) (u:PT) (k:Nat) (v:PT)
def PT.ok(ops:Array Oper)(qs:List Nat):PT->Nat->Array Bool->Bool
 |.nil,n,listed=>n==0&&(Region.ready .any ops listed).isEmpty
 |.take _ _,0,_=>false
 |.take i t,n+1,listed=>Bd ops qs listed i (DN ops i)&&t.ok ops qs n (listed.setIfInBounds i true)
 |.both _ _ _ _,0,_=>false
 |.both i t j u,n+1,listed=>(Region.ready .any ops listed==[i,j])&&t.ok ops qs n (listed.setIfInBounds i true)&&u.ok ops qs n (listed.setIfInBounds j true)
 |.three _ _ _ _ _ _,0,_=>false
 |.three i t j u k v,n+1,listed=>(Region.ready .any ops listed==[i,j,k])&&t.ok ops qs n (listed.setIfInBounds i true)&&u.ok ops qs n (listed.setIfInBounds j true)&&v.ok ops qs n (listed.setIfInBounds k true)
def gC(P:Program)(ops:Array Oper)(qs:List Nat):PT->(St->Prop)->St->Prop
 |.nil,K,σ=>K σ
 |.take i t,K,σ=>ej P ops qs i (gC P ops qs t K) σ
 |.both i t j u,K,σ=>ej P ops qs i (gC P ops qs t K) σ/\ej P ops qs j (gC P ops qs u K) σ
 |.three i t j u k v,K,σ=>ej P ops qs i (gC P ops qs t K) σ/\ej P ops qs j (gC P ops qs u K) σ/\ej P ops qs k (gC P ops qs v K) σ
def uL{ops:Array Oper}{qs:List Nat}{K:St->Prop}:∀ (t:PT) (n:Nat) (listed:Array Bool) (σ:St),t.ok ops qs n listed=true->gC P ops qs t K σ->qg P ops qs K n listed σ
 |.nil,n,listed,σ,h,hp=>by
  simp only[PT.ok,bd,beq_iff_eq,List.isEmpty_iff]at h;obtain⟨rfl,h⟩:=h;exact⟨h,hp⟩
 |.take _ _,0,_,_,h,_=>by simp[PT.ok]at h
 |.take i t,n+1,listed,σ,h,hp=>by
  simp only[PT.ok,bd]at h;exact S5 h.1 (sZ (λs hs=>uL t n _ s h.2 hs) hp)
 |.both _ _ _ _,0,_,_,h,_=>by simp[PT.ok]at h
 |.both i t j u,n+1,listed,σ,h,hp=>by
  simp only[PT.ok,bd,beq_iff_eq]at h;obtain⟨⟨h1,h2⟩,h3⟩:=h;refine⟨λe=>by rw[h1]at e;simp at e,λk hk=>?_⟩;rw[h1]at hk;simp only[cD,qS,or_false]at hk;rcases hk with rfl|rfl
  ·exact sZ (λs hs=>uL t n _ s h2 hs) hp.1
  ·exact sZ (λs hs=>uL u n _ s h3 hs) hp.2
 |.three _ _ _ _ _ _,0,_,_,h,_=>by simp[PT.ok]at h
 |.three i t j u k v,n+1,listed,σ,h,hp=>by
  simp only[PT.ok,bd,beq_iff_eq]at h;obtain⟨⟨⟨h1,h2⟩,h3⟩,h4⟩:=h;refine⟨λe=>by rw[h1]at e;simp at e,λx hk=>?_⟩;rw[h1]at hk;simp only[cD,qS,or_false]at hk;rcases hk with rfl|rfl|rfl
  ·exact sZ (λs hs=>uL t n _ s h2 hs) hp.1
  ·exact sZ (λs hs=>uL u n _ s h3 hs) hp.2.1
  ·exact sZ (λs hs=>uL v n _ s h4 hs) hp.2.2
def lN{id:Nat}{ops:Array Oper}{Q:Exit->St->Prop}(qs:List Nat)(t:PT)(hm:P.follows .mixedOrders=true)(hd:eJ N ops=true)(ht:t.ok ops qs ops.size (ua ops.size false)=true)(h:gC P ops qs t (Q .normal) σ):W P N n0 (.region id ops true) Q σ :=
 S1 qs hm hd (uL t _ _ σ ht h)
def Jk{id:Nat}{ops:Array Oper}{y:Code}{Q:Exit->St->Prop}(qs:List Nat)(t:PT)(hm:P.follows .mixedOrders=true)(hd:eJ N ops=true)(ht:t.ok ops qs ops.size (ua ops.size false)=true)(h:∀ K:St->Prop,(∀ s,W P N n0 y Q s->K s)->gC P ops qs t K σ):W P N n0 (.seq (.region id ops true) y) Q σ :=
 A4 (lN qs t hm hd ht (h _ (λ_ h=>h)))
def sY{ops:Array Oper}{qs:List Nat}{K:St->Prop}:gC P ops qs .nil K σ=K σ:=rfl
def sX{ops:Array Oper}{qs:List Nat}{i:Nat}{t:PT}{K:St->Prop}:gC P ops qs (.take i t) K σ=ej P ops qs i (gC P ops qs t K) σ:=rfl
def KA{ops:Array Oper}{qs:List Nat}{i j k:Nat}{t u v:PT}{K:St->Prop}:gC P ops qs (.three i t j u k v) K σ=(ej P ops qs i (gC P ops qs t K) σ/\ej P ops qs j (gC P ops qs u K) σ/\ej P ops qs k (gC P ops qs v K) σ):=rfl
def wm{ops:Array Oper}{qs:List Nat}{i j:Nat}{t u:PT}{K:St->Prop}:gC P ops qs (.both i t j u) K σ=(ej P ops qs i (gC P ops qs t K) σ/\ej P ops qs j (gC P ops qs u K) σ):=rfl
def Kb{q:Bool}{o:Oper}{K:St->Prop}:lR q P o K true true σ=jq q P o σ K:=by simp[lR]
def Kf{q:Bool}{o:Oper}{K:St->Prop}:lR q P o K false false σ=jq q P o σ K:=by simp[lR]
def Kd{q:Bool}{o:Oper}{K:St->Prop}:lR q P o K true false σ=K (σ.put o.dst (.lit (.tuple #[]))):=by simp[lR]
def Ke{q:Bool}{o:Oper}{K:St->Prop}:lR q P o K false true σ=K (σ.put o.dst (.lit (.tuple #[]))):=by simp[lR]
def S6{q:Bool}{o:Oper}{K:St->Prop}{b want:Bool}(h1:b=true->lR q P o K true want σ)(h2:b=false->lR q P o K false want σ):lR q P o K b want σ:=by
 cases b
 ·exact h2 rfl
 ·exact h1 rfl
def lC:List Nat->PT
 |[]=>.nil
 |i::r=>.take i (lC r)
end Go.Am
namespace Go.Am
variable {P:Program} {N n0:Nat} {σ:St} {Q:Exit->St->Prop}
def au:List (Nat×AV)->Nat->AV
 |[]=>λ_=>.undef
 |p::l=>eY (au l) p.1 p.2
def A5(d:Nat)(v:AV)(l:List (Nat×AV)):au ((d,v)::l)=eY (au l) d v:=rfl
def Be(l:List (Nat×AV))(k:Nat):au l k=.undef\/∃ p∈l,p.1=k/\au l k=p.2:=by
 induction l with
 |nil=>exact .inl rfl
 |cons p l ih =>
  by_cases h:k=p.1
  ·right;exact⟨p,Dg,h.symm,by simp[au,eY,h]⟩
  ·have e:au (p::l) k=au l k:=by simp[au,eY,h]
   rw[e];rcases ih with h|⟨q,hq,h1,h2⟩
   ·exact .inl h
   ·exact .inr ⟨q,by simp[hq],h1,h2⟩
def Has(e:Nat->AV):List (Nat×AV)->Prop
 |[]=>True
 |p::l=>e p.1=p.2/\Has e l
def Has.mem{e:Nat->AV}:∀ {l:List (Nat×AV)},Has e l->∀ p∈l,e p.1=p.2
 |q::l,h,p,hp=>by
  rcases cD.1 hp with rfl|hp
  ·exact h.1
  ·exact Has.mem h.2 p hp
def aC.au(l:List (Nat×AV))(os:List Ob)(ho:σ.aa=os)(h:Has σ.env l):aC n0 σ ⟨au l,os⟩:=by
 subst ho;refine aC.forget λk=>?_;rcases Be l k with h'|⟨p,hp,rfl,h'⟩
 ·exact .inl h'
 ·right;rw[h',h.mem p hp]
def lQ(ρ:Nat->Nat)(os:List Ob):List Nat->List Ob->Prop
 |[],[]=>True
 |i::ab,o::co=>(i<os.length/\(o=.gone\/os[i]?=some (bu ρ o)))/\lQ ρ os ab co
 |_,_=>False
def lQ.spec{ρ:Nat->Nat}{os:List Ob}:∀ {ab:List Nat} {co:List Ob},lQ ρ os ab co->co.length=ab.length/\(∀ (j:Nat) o,co[j]?=some o->o=.gone\/os[ab.getD j 0]?=some (bu ρ o))/\∀ i∈ab,i<os.length
 |[],[],_=>⟨rfl,Dg,Dg⟩
 |i::ab,o::co,h=>by
  obtain⟨⟨h1,h2⟩,h3⟩:=h;obtain⟨a,b,c⟩:=lQ.spec h3;refine⟨by simp[a],λj o' hj=>?_,λx hx=>?_⟩
  ·cases j with
   |zero=>simp at hj;subst hj;simpa using h2
   |succ j=>simpa using b j o' (by simpa using hj)
  ·rcases cD.1 hx with rfl|hx
   ·exact h1
   ·exact c x hx
def n8(R:AV->AV->Prop)(e:Nat->AV):List (Nat×AV)->Prop
 |[]=>True
 |p::l=>R p.2 (e p.1)/\n8 R e l
def n8.mem{R:AV->AV->Prop}{e:Nat->AV}:∀ {l:List (Nat×AV)},n8 R e l->∀ p∈l,R p.2 (e p.1)
 |q::l,h,p,hp=>by
  rcases cD.1 hp with rfl|hp
  ·exact h.1
  ·exact n8.mem h.2 p hp
def kept(ab:List Nat)(co:List Ob)(id:Nat):Prop:=∃ j,j<ab.length/\ab.getD j 0=id/\co[j]?≠some .gone
def aC.ab(ab:List Nat)(snap:Bool)(l:List (Nat×AV))(co:List Ob)(cR:ab.Nodup)(ho:lQ (bq σ.aa.length ab) σ.aa ab co)(hn:n0<=ab.length)(cp:∀ i,i<n0->ab.getD i 0=i)(h:n8 (a9 σ (kept ab co) (bq σ.aa.length ab) snap) σ.env l):aC n0 σ ⟨Am.au l,co⟩:=by
 obtain⟨h1,h2,h3⟩:=ho.spec;refine aC.select ab snap co _ cR h1 h2 h3 hn cp λk=>?_;rcases Be l k with h'|⟨p,hp,rfl,h'⟩
 ·exact .inl h'
 ·right;rw[h'];exact h.mem p hp
def a9.pure{kp:Nat->Prop}{ρ:Nat->Nat}{snap:Bool}{v:AV}(h:iu v=true):a9 σ kp ρ snap v v:=by
 have:=a9.same (σ:=σ) (kp:=kp) (ρ:=ρ) (snap:=snap) v;rwa [ur _ v h]at this
def a9.eq{kp:Nat->Prop}{ρ:Nat->Nat}{snap:Bool}{v u:AV}(h:u=aU ρ v):a9 σ kp ρ snap v u:=by
 subst h;exact .same v
def cA.flat{kp:Nat->Prop}{id sz len:Nat}{rows:List (List AV)}(ho:σ.aa[id]?=some (.arr sz rows))(hw:∀ row∈rows,row.length=sz)(hl:len=rows.length)(n7:¬ kp id)(hf:∀ row∈rows,∀ v∈row,(∃ x,v=.lit x)\/∃ s r,v=.tree s r):
  cA σ kp (.tree sz rows) (.ref id sz 0 len):=by
 refine .ref id sz 0 len rows rows (λr c=>(cellAt rows r c).getD .undef) ho n7 (by simp[hl]) hw (λr c v hv=>?_) (λr c v hv=>?_)
 ·simp[hl,hv]
 ·rw[hv,Option.getD_some];simp only[cellAt,Option.bind_eq_some_iff]at hv;obtain⟨row,h1,h2⟩:=hv;rcases hf row (fB h1) v (fB h2) with⟨x,rfl⟩|⟨s,r,rfl⟩
  ·exact .lit x
  ·exact .tree s r
def a9.nil{kp:Nat->Prop}{ρ:Nat->Nat}{sz:Nat}:a9 σ kp ρ true (.tree sz []) (.lit (.slice none 0 0)):=.snap _ _ rfl (.nil sz)
def a9.bO{kp:Nat->Prop}{ρ:Nat->Nat}{id sz len:Nat}{rows:List (List AV)}(ho:σ.aa[id]?=some (.arr sz rows))(hw:∀ row∈rows,row.length=sz)(hl:len=rows.length)(n7:¬ kp id)(hf:∀ row∈rows,∀ v∈row,(∃ x,v=.lit x)\/∃ s r,v=.tree s r):
  a9 σ kp ρ true (.tree sz rows) (.ref id sz 0 len):=.snap _ _ rfl (cA.flat ho hw hl n7 hf)
def S7{α:Type}(n0:Nat)(S:α->St)(I:α->Prop)(M:α->Nat)(x:α)(Q:Exit->St->Prop):Exit->St->Prop
 |.normal,s=>∃ y,I y/\M y<M x/\aC n0 s (S y)
 |e,s=>Q e s
def SH{α:Type}{c:Code}(S:α->St)(I:α->Prop)(M:α->Nat)(x0:α)(hI:I x0)(h0:aC n0 σ (S x0))(round:∀ x,I x->∀ Q':Exit->St->Prop,(∀ s y,I y->M y<M x->aC n0 s (S y)->Q' .normal s)->(∀ e s,e≠.normal->Q e s->Q' e s)->W P N n0 c Q' (S x)):W P N n0 (.loop c) Q σ:=by
 refine cE h0 ?_;intro os γ0 a w hn aV b k cs;have key:∀ n x a w,M x=n->I x->dM N os γ0 (S x) a w ->
   ∃ e a' w',(∃ σ',Q e σ'/\dM N os γ0 σ' a' w')/\Arrives P (lone (b.at a (.code c::.inLoop c::k)) cs w) b k cs e a' w':=by
  intro n
  induction n using Nat.strongRecOn with
  |_ n ih =>
   intro x a w hm hI aV;have hr:W P N n0 c (S7 n0 S I M x Q) (S x):=round x hI _ (λs y h1 h2 h3=>⟨y,h1,h2,h3⟩) (λe s he h=>by cases e<;>first|exact absurd rfl he|exact h);obtain⟨e,wo,yn,⟨σ',hq,cW⟩,qh⟩:=hr os γ0 a w hn aV b (.inLoop c::k) cs;cases e with
   |normal =>
    obtain⟨y,S8,bw,ht⟩:=hq;obtain⟨h1,h2,γ,rfl,h3,h4,h5⟩:=cW;obtain⟨av,e1,e2,e3,e4⟩:=ht os γ0 γ hn h4 h5;obtain⟨S9,S',Ta,Tb,Td⟩:=ih (M y) Ay y wo γ.w rfl S8 ⟨h1,h2,av,e1,e2.trans h3,e3,e4⟩;exact⟨S9,S',Ta,Tb,.of_steps (Steps.trans qh (.one step_inLoop)) Td⟩
   |exit id=>exact⟨_,wo,yn,⟨σ',hq,cW⟩,.pass (x:=.inLoop c) rfl (λ_ _=>.inl Dg) qh⟩
   |goto l=>exact⟨_,wo,yn,⟨σ',hq,cW⟩,.pass (x:=.inLoop c) rfl (λ_ _=>.inl Dg) qh⟩
   |ret=>exact⟨_,wo,yn,⟨σ',hq,cW⟩,.pass (x:=.inLoop c) rfl (λ_ _=>.inl Dg) qh⟩
   |panic ch=>exact⟨_,wo,yn,⟨σ',hq,cW⟩,.pass (x:=.inLoop c) rfl (λ_ _=>.inl Dg) qh⟩
   |outgrown=>exact⟨_,wo,yn,⟨σ',hq,cW⟩,.pass (x:=.inLoop c) rfl (λ_ _=>.inl Dg) qh⟩
 obtain⟨e,a',w',hq,qh⟩:=key _ x0 a w rfl hI aV;exact⟨e,a',w',hq,.of_steps (.one step_loop) qh⟩
def SF{id:Nat}{c:Code}(h:∀ Q':Exit->St->Prop,(∀ s,Q .normal s->Q' .normal s)->(∀ s,Q .normal s->Q' (.exit id) s)->(∀ e s,e≠.normal->e≠.exit id->Q e s->Q' e s)->W P N n0 c Q' σ):W P N n0 (.block id c) Q σ :=
 Te (h _ (λs h=>h) (λs h=>by simp only[Bf,if_true];exact h) (λe s h1 h2 h=>by
  cases e<;>first
   |exact absurd rfl h1
   |exact h
   | (rename_i uM;simp only[Bf];rw[if_neg (λe=>h2 (by rw[e]))];exact h)))
def x8{ρ:Nat->Nat}{sz:Nat}{rows:List (List AV)}(h:∀ row∈rows,jP row=true):bu ρ (.arr sz rows)=.arr sz rows:=by
 simp only[bu];congr 1;have:∀ row∈rows,row.map (aU ρ)=row:=λrow hr=>by
  have:=v8 ρ row (h row hr);rwa [sN]at this
 rw[oO this];simp
def Tf(n j:Nat):bq n (bD n) j=j:=by
 unfold bq;split
 ·rename_i h;have h':j<n:=by simpa using h
  simp[aw,ub h']
 ·rename_i h;simp at h ⊢;omega
mutual
def sW:∀ (v:AV),aU (λj=>j) v=v
 |.undef=>rfl
 |.lit _=>rfl
 |.tree ..=>rfl
 |.cm _=>rfl
 |.ref ..=>rfl
 |.ptr ..=>rfl
 |.agg cs=>by simp only[aU];rw[Bg cs]
 |.bP cs=>by simp only[aU];rw[Bg cs]
 |.fn f cs=>by simp only[aU];rw[Bg cs]
 |.fj t v=>by simp only[aU];rw[sW v]
 |.dx _=>rfl
def Bg:∀ (l:List AV),lD (λj=>j) l=l
 |[]=>rfl
 |v::vs=>by simp only[lD];rw[sW v,Bg vs]
end
def yi(o:Ob):bu (λj=>j) o=o:=by
 have h:aU (λj=>j)=id:=by funext v;exact sW v
 cases o with
 |gone=>rfl
 |var cs=>simp[bu,h]
 |arr sz rows=>simp[bu,h]
 |mp ag L=>simp[bu,h]
def sV(n:Nat):bq n (bD n)=λj=>j:=by funext j;exact Tf n j
def KB(aa:List Ob):∀ (aY:List Ob),aa.length<=aY.length->dU aa (bD aa.length) aY=aY:=by
 intro aY h;have hlen:(bD aa.length).length<=aY.length:=by simpa using h
 apply List.ext_getElem?;intro i;rcases Nat.lt_or_ge i aa.length with hi|hi
 ·have:=Bh (bD aa.length) aa aY hlen (Ar) Dg i (by simpa using hi);simpa [aw,ub hi] using this
 ·have iJ:=D0 (bD aa.length) aa aY hlen;obtain⟨j,rfl⟩:∃j,i=aa.length+j:=⟨i-aa.length,Ay⟩;have:=KC (bD aa.length) aa aY hlen j;simpa using this
def jU{f:FuncId}{args:List AV}{dst:Option Tmp}{K:St->Prop}{res:AV}{aY:List Ob}(h:ao P f args σ.aa res aY)(hl:σ.aa.length<=aY.length)(hK:K ((⟨σ.env,aY⟩:St).put dst res)):nX P f args dst K σ:=by
 refine⟨bD σ.aa.length,false,args,σ.aa,res,aY,h,⟨Ar,Dg,?_,rfl,?_,Dg⟩,?_⟩
 ·intro j o hj;have bw:=(ba.1 hj).1;rw[sV,yi];simpa [aw,ub bw] using hj
 ·intro j c d hc hd;rw[hc]at hd;simp only[dv.injEq]at hd;subst hd;exact .eq (by rw[sV,sW])
 ·rw[sV,sW];have:aY.map (bu (λj=>j))=aY:=by
   have h:bu (λj=>j)=id:=by funext o;exact yi o
   simp[h]
  rw[this,KB _ _ hl];exact hK
end Go.Am
namespace Go.Am
variable {P:Program} {N n0:Nat} {σ:St} {Q:Exit->St->Prop}
def Sy{id:Nat}{ops:Array Oper}(hd:eJ N ops=true)(h:∀ K:St->Prop,(∀ s,Q .normal s->K s)->opsL P ops ops.toList K σ):W P N n0 (.region id ops false) Q σ :=
 KD hd (h _ (λ_ h=>h))
def D1{ops:Array Oper}{K:St->Prop}:∀ (l:List Oper) (i:Nat) (σ:St),ops.toList.drop i=l->opsL P ops l K σ->gC P ops [] (lC (jJ i l.length)) K σ
 |[],i,σ,_,h=>h
 |o::r,i,σ,hl,h=>by
  have hi:ops[i]?=some o:=by
   have:(ops.toList.drop i)[0]?=some o:=by rw[hl];rfl
   simpa using this
  have hr:ops.toList.drop (i+1)=r:=by
   have:=congrArg List.tail hl;simpa [List.tail_drop] using this
  rw[List.length_cons,List.range'_succ];show ej P ops [] i (gC P ops [] (lC (jJ (i+1) r.length)) K) σ;unfold ej;simp only[hi];have hm:∀ s,opsL P ops r K s->gC P ops [] (lC (jJ (i+1) r.length)) K s:=λs hs=>D1 r (i+1) s hr hs;refine x7 hm ?_;unfold opsL at h;unfold cQ;cases hg:o.guard with
  |none=>simp only[hg]at h;exact h
  |some jw =>
   obtain⟨j,want⟩:=jw;simp only[hg]at h;exact h
def uC(ops:Array Oper):Bool:=(lC (bD ops.size)).ok ops [] ops.size (ua ops.size false)
def Sz{id:Nat}{ops:Array Oper}{y:Code}(hm:P.follows .mixedOrders=true)(hd:eJ N ops=true)(ht:uC ops=true)(h:∀ K:St->Prop,(∀ s,W P N n0 y Q s->K s)->opsL P ops ops.toList K σ):
  W P N n0 (.seq (.region id ops true) y) Q σ :=
 Jk [] _ hm hd ht λK hK=>by
  have:=D1 (P:=P) (ops:=ops) ops.toList 0 σ rfl (h K hK);rw[sB];simpa using this
def SD{id:Nat}{ops:Array Oper}(hm:P.follows .mixedOrders=true)(hd:eJ N ops=true)(ht:uC ops=true)(h:∀ K:St->Prop,(∀ s,Q .normal s->K s)->opsL P ops ops.toList K σ):
  W P N n0 (.region id ops true) Q σ :=
 lN [] _ hm hd ht (by
  have:=D1 (P:=P) (ops:=ops) ops.toList 0 σ rfl (h _ (λ_ h=>h));rw[sB];simpa using this)
def aT{v res:AV}(hr:iu v=true)(h:v=res):my 0 σ v res []:=by
 subst h;exact oT hr
def yk(e:Nat->AV)(d:Nat)(v:AV)(k:Nat):eY e d v k=if k=d then v else e k:=by simp only[eY]
def J4:IntKind.i64.min = -9223372036854775808:=rfl
def J5:IntKind.i64.max=9223372036854775807:=rfl
def ints(xs:List Int):List (List AV):=xs.map λx=>[aah x]
def b8(xs:List Bool):List (List AV):=xs.map λx=>[.lit (.bool x)]
def bW(xs:List (List Int)):List (List AV):=xs.map λx=>[.tree 1 (ints x)]
def rj(xs:List Int):(ints xs).length=xs.length:=by simp[ints]
def ym(xs:List Bool):(b8 xs).length=xs.length:=by simp[b8]
def A8(xs:List (List Int)):(bW xs).length=xs.length:=by simp[bW]
def Kg(xs:List Int)(i:Nat)(h:i<xs.length):(ints xs).getD i []=[aah (xs.getD i 0)]:=by simp[ints,h]
def Kh(xs:List Bool)(i:Nat)(h:i<xs.length):(b8 xs).getD i []=[.lit (.bool (xs.getD i false))]:=by simp[b8,h]
def Ki(xs:List (List Int))(i:Nat)(h:i<xs.length):(bW xs).getD i []=[.tree 1 (ints (xs.getD i []))]:=by simp[bW,h]
def Kj(xs:List Int)(i:Nat)(h:i<xs.length):(ints xs)[i]?=some [aah (xs.getD i 0)]:=by simp[ints,h]
def Kk(xs:List Bool)(i:Nat)(h:i<xs.length):(b8 xs)[i]?=some [.lit (.bool (xs.getD i false))]:=by simp[b8,h]
def Kl(xs:List (List Int))(i:Nat)(h:i<xs.length):(bW xs)[i]?=some [.tree 1 (ints (xs.getD i []))]:=by simp[bW,h]
def ints_set(xs:List Int)(i:Nat)(v:Int):(ints xs).set i [aah v]=ints (xs.set i v):=by simp[ints,Ap]
def A9(xs:List Bool)(i:Nat)(v:Bool):(b8 xs).set i [.lit (.bool v)]=b8 (xs.set i v):=by simp[b8,Ap]
def Km(xs ys:List Int):ints xs++ints ys=ints (xs++ys):=by simp[ints]
def Kn(xs:List Int)(v:Int):ints xs++[[aah v]]=ints (xs++[v]):=by simp[ints]
def Ko(xs:List (List Int))(v:List Int):bW xs++[[.tree 1 (ints v)]]=bW (xs++[v]):=by simp[bW]
def Kp(xs:List Bool)(v:Bool):b8 xs++[[.lit (.bool v)]]=b8 (xs++[v]):=by simp[b8]
def Kq(n:Nat)(v:Int):ax n [AV.lit (.int .i64 v)]=ints (ax n v):=by simp[ints]
def Kr(n:Nat)(v:Bool):ax n [AV.lit (.bool v)]=b8 (ax n v):=by simp[b8]
def Ks(xs:List Int):((ints xs).all λrow=>row.all bU)=true:=by simp[ints,bU,Value.oneCell']
def Kt(xs:List Bool):((b8 xs).all λrow=>row.all bU)=true:=by simp[b8,bU,Value.oneCell']
def Ku(xs:List (List Int)):((bW xs).all λrow=>row.all bU)=true:=by simp[bW,bU]
def wi(ρ:Nat->Nat)(sz:Nat)(xs:List Int):bu ρ (.arr sz (ints xs))=.arr sz (ints xs):=x8 (by simp[ints,jP,iu])
def yl(ρ:Nat->Nat)(sz:Nat)(xs:List Bool):bu ρ (.arr sz (b8 xs))=.arr sz (b8 xs):=x8 (by
 intro row hr;simp only[b8,cN]at hr;obtain⟨x,_,rfl⟩:=hr;rfl)
def DY(ρ:Nat->Nat)(sz:Nat)(xs:List (List Int)):bu ρ (.arr sz (bW xs))=.arr sz (bW xs):=x8 (by simp[bW,jP,iu])
def n9(xs:List Int):∀ row∈ints xs,∀ v∈row,(∃ x,v=AV.lit x)\/∃ s r,v=AV.tree s r:=by
 intro row hr v hv;simp only[ints,cN]at hr;obtain⟨x,_,rfl⟩:=hr;simp at hv;exact .inl ⟨_,hv⟩
def KE(xs:List Bool):∀ row∈b8 xs,∀ v∈row,(∃ x,v=AV.lit x)\/∃ s r,v=AV.tree s r:=by
 intro row hr v hv;simp only[b8,cN]at hr;obtain⟨x,_,rfl⟩:=hr;simp at hv;exact .inl ⟨_,hv⟩
def Tg(xs:List (List Int)):∀ row∈bW xs,∀ v∈row,(∃ x,v=AV.lit x)\/∃ s r,v=AV.tree s r:=by
 intro row hr v hv;simp only[bW,cN]at hr;obtain⟨x,_,rfl⟩:=hr;simp at hv;exact .inr ⟨_,_,hv⟩
def kF(xs:List Int):∀ row∈ints xs,row.length=1:=by
 intro row hr;simp only[ints,cN]at hr;obtain⟨x,_,rfl⟩:=hr;rfl
def KF(xs:List Bool):∀ row∈b8 xs,row.length=1:=by
 intro row hr;simp only[b8,cN]at hr;obtain⟨x,_,rfl⟩:=hr;rfl
def D3(xs:List (List Int)):∀ row∈bW xs,row.length=1:=by
 intro row hr;simp only[bW,cN]at hr;obtain⟨x,_,rfl⟩:=hr;rfl
def cF{α:Type}(xs:List α)(i:Nat)(d:α)(h:i<xs.length):xs.drop i=xs.getD i d::xs.drop (i+1):=by
 rw[List.drop_eq_getElem_cons h];simp[h]
end Go.Am

