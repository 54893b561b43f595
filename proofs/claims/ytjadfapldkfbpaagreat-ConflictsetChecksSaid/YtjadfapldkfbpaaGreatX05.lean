import Derived.Test.YtjadfapldkfbpaaGreatX04
set_option linter.all false
set_option maxHeartbeats 0
set_option maxRecDepth 20000
open List renaming mem_of_getElem?→gY,mem_append→cz,map_congr_left→oM,getElem?_eq_some_iff→aY,range→aZ,contains_iff_mem→qh,mem_cons→cu,not_mem_nil→jQ,getD_eq_getElem?_getD→aG,getElem?_range→lT,nodup_range→GZ,range'→n5,range_eq_range'→xp,map_set→pC,replicate→bG,mem_map→cC
open Array renaming getD_eq_getD_getElem?→fU,toList_append→BR,replicate→vR
open Bool renaming or_eq_true→kB,and_eq_true→bk
open Option renaming some→dD
namespace Go.Am
variable {P:Program}
def KL(P:Program)(g:FuncId)(args:List AV)(dst:Option Tmp)(K:St->Prop)(σ:St):Prop :=
 ∃ res,an P g args [] res []/\jl args=true/\gQ res=true/\K (σ.put dst res)
def uS(P:Program)(t:TypeId)(dst:Option Tmp)(K:St->Prop)(σ:St):AV->Prop
 |.bm cells=>(ty P t).kind≠99/\nx (ty P t) cells 0 λv=>K (σ.put dst v)
 |_=>False
def mT(q:Bool)(P:Program)(o:Oper)(σ:St)(K:St->Prop):Prop :=
 match q with
 |false=>aW P o σ K
 |true =>
  match o.op with
  |.call { callee:=.value f,args,.. } =>
   match ev σ f with
   |.fn g a6=>KL P g (args.toList.map (ev σ)++a6) o.dst K σ
   |_=>False
  |.load t a=>uS P t o.dst K σ (ev σ a)
  |_=>False
def adG{o:Oper}{σ:St}{K:St->Prop}{t:TypeId}{a:Operand}(cU:o.op=.load t a)(h:uS P t o.dst K σ (ev σ a)):aW P o σ K:=by
 unfold aW;simp only[cU];unfold cE;simp only[cU];unfold uS at h;split at h
 ·rename_i cells he;simp only[he];exact h
 ·exact h.elim
def KP{t:TypeId}{dst:Option Tmp}{K:St->Prop}{σ:St}{v:AV}(h:uS P t dst K σ v):∃x,K (σ.put dst x)/\∀ (σ2:St) (K2:St->Prop),K2 (σ2.put dst x)->uS P t dst K2 σ2 v:=by
 unfold uS at h;split at h
 ·rename_i cells;obtain⟨h1,h2⟩:=h;unfold nx at h2;split at h2
  ·rename_i ha;refine⟨_,h2.2,λσ2 K2 hK=>?_⟩;unfold uS nx;simp only;rw[if_pos ha];exact⟨h1,h2.1,hK⟩
  ·rename_i ha;split at h2
   ·rename_i x hx;refine⟨x,h2,λσ2 K2 hK=>?_⟩;unfold uS nx;simp only;rw[if_neg ha,hx];exact⟨h1,hK⟩
   ·exact h2.elim
 ·exact h.elim
def qo(q:Bool)(P:Program)(o:Oper)(K:St->Prop)(b want:Bool)(σ:St):Prop:=(b=want->mT q P o σ K)/\(b≠want->K (σ.put o.dst (.lit (.tuple #[]))))
def e7(P:Program)(ops:Array Oper)(q:Bool)(o:Oper)(K:St->Prop)(σ:St):Prop :=
 match o.guard with
 |none=>mT q P o σ K
 |some (j,want) =>
  match (ops[j]?).bind (·.dst) with
  |none=>False
  |some d =>
   match σ.env d with
   |.lit (.bool b)=>qo q P o K b want σ
   |.lit (.tuple vs)=>vs = #[]/\K (σ.put o.dst (.lit (.tuple #[])))
   |_=>False
def Rt{q:Bool}{o:Oper}{σ:St}{K:St->Prop}(h:mT q P o σ K):aW P o σ K:=by
 cases q with
 |false=>exact h
 |true =>
  unfold mT at h;simp only at h;unfold aW;split at h
  ·rename_i f args cQ cU;simp only[cU];split at h
   ·rename_i g a6 he;simp only[he];obtain⟨res,h1,h2,h3,h4⟩:=h;exact cA h1 h2 h3 h4
   ·exact h.elim
  ·rename_i t a cU;have:=adG cU h;unfold aW at this;simpa only[cU] using this
  ·exact h.elim
def KQ{N:Nat}{os:List Ob}{γ0:Cx}{ops:Array Oper}(hd:∀ o∈ops.toList,∀ d,o.dst=some d->d<N){q:Bool}{i:Nat}{o:Oper}(hi:ops[i]?=some o){σ:St}{K:St->Prop}(h:e7 P ops q o K σ){a:Act}{w:World}(aw:gP N os γ0 σ a w){Q:Exit->Act->World->Prop}{next:Act->World->Prop}(hn:∀ σ' a' w',K σ'->gP N os γ0 σ' a' w'->next a' w'):wpOp P ops Q i next a w:=by
 have bJ:o∈ops.toList:=gY (by simpa using hi);unfold wpOp;simp only[hi];unfold e7 at h;cases hg:o.guard with
 |none =>
  simp only[hg]at h;have hw:Region.wanted o (yielded ops a.tmps)=true:=by simp[Region.wanted,hg]
  rw[if_pos hw];left;exact xD (Rt h) aw (hd o bJ) hn
 |some jw =>
  obtain⟨j,want⟩:=jw;simp only[hg]at h;cases eZ:(ops[j]?).bind (·.dst) with
  |none=>simp[eZ]at h
  |some d =>
   simp only[eZ]at h;split at h
   ·rename_i b he;obtain⟨iP,bg,γ,rfl,ha,hs,hf⟩:=aw;have kF:=hs.au d;rw[he,ha]at kF;have hv:=kF.dm;have hy:yielded ops a.tmps j=some b:=by
     unfold yielded;rw[eZ];have:a.tmps[d]?=some (.bool b):=by
      rw[fU]at hv;cases hx:a.tmps[d]? with
      |none=>rw[hx]at hv;simp[Go.undef]at hv
      |some y=>rw[hx]at hv;simp at hv;rw[hv]
     simp[this]
    by_cases ik:b=want
    ·have hw:Region.wanted o (yielded ops a.tmps)=true:=by simp[Region.wanted,hg,hy,ik]
     rw[if_pos hw];left;exact xD (Rt (h.1 ik)) ⟨iP,bg,γ,rfl,ha,hs,hf⟩ (hd o bJ) hn
    ·have hw:Region.wanted o (yielded ops a.tmps)=false:=by simp[Region.wanted,hg,hy,ik]
     rw[if_neg (by rw[hw];simp)];refine hn _ _ _ (h.2 ik) ⟨by rw[put_defers];exact iP,by rw[uO];exact bg,{ γ with tmps:=(a.put o.dst Go.undef).tmps },rfl,rfl,sJ hs ha (λd h=>by rw[bg];exact hd o bJ d h) (.lit _),?_⟩;rw[rB];exact hf.put _
   ·rename_i vs he;obtain⟨iP,bg,γ,rfl,ha,hs,hf⟩:=aw;have kF:=hs.au d;rw[he,ha]at kF;have hv:=kF.dm;have hy:yielded ops a.tmps j=none:=by
     unfold yielded;rw[eZ];rw[fU]at hv;cases hx:a.tmps[d]? with
     |none=>simp[hx]
     |some y=>rw[hx]at hv;simp at hv;subst hv;simp[hx]
    have hw:Region.wanted o (yielded ops a.tmps)=false:=by simp[Region.wanted,hg,hy]
    rw[if_neg (by rw[hw];simp)];refine hn _ _ _ h.2 ⟨by rw[put_defers];exact iP,by rw[uO];exact bg,{ γ with tmps:=(a.put o.dst Go.undef).tmps },rfl,rfl,sJ hs ha (λd h=>by rw[bg];exact hd o bJ d h) (.lit _),?_⟩;rw[rB];exact hf.put _
   ·exact h.elim
def Hs(c:Nat)(a:List Ob):lG c a a:=by
 unfold lG;split
 ·rfl
 ·split
  ·intro id _;rfl
  ·split
   ·exact⟨rfl,λid o o' h h'=>by rw[h]at h';simp at h';subst h';exact yW o⟩
   ·trivial
def cG.aa{σ σ2:St}(h:σ2.aa=σ.aa){kp:Nat->Prop}{c d:AV}(ha:cG σ kp c d):cG σ2 kp c d:=by
 induction ha with
 |lit x=>exact .lit x
 |tree s r=>exact .tree s r
 |nil sz=>exact .nil sz
 |ref id sz off len rows iF g a8 tB hl0 Ht qq tC ih=>exact .ref id sz off len rows iF g (by rw[h];exact a8) tB hl0 Ht qq ih
def aI.aa{σ σ2:St}(h:σ2.aa=σ.aa){kp:Nat->Prop}{ρ:Nat->Nat}{snap:Bool}{c d:AV}(ha:aI σ kp ρ snap c d):aI σ2 kp ρ snap c d:=by
 induction ha with
 |same v=>exact .same v
 |snap c d hs hf=>exact .snap c d hs (hf.aa h)
 |agg cs ds hl _ ih=>exact .agg cs ds hl ih
 |bH cs ds hl _ ih=>exact .bH cs ds hl ih
def fV(q:Bool)(o:Oper):Nat:=if q then 0 else cls o.op
def tD{ops:Array Oper}{o:Oper}{σ:St}{e2:Nat->AV}{os:List Ob}(h:∀ t∈o.looksAt ops,e2 t=σ.env t):∀ x∈o.op.operands.toList,ev ⟨e2,os⟩ x=ev σ x:=by
 intro x hx;cases x with
 |tmp t =>
  show e2 t=σ.env t;refine h t ?_;unfold Oper.looksAt;rw[cz];left;rw[List.mem_filterMap];exact⟨_,hx,rfl⟩
 |const v=>rfl
 |func f=>rfl
 |global g=>rfl
def adH{σ:St}{v:AV}{K:FuncId->AV->Prop}{r:Option (FuncId×Option TypeId)}(h:ql P σ v K r):
  ∃ g x,K g x/\∀ (e2:Nat->AV) (K2:FuncId->AV->Prop),K2 g x->ql P ⟨e2,σ.aa⟩ v K2 r:=by
 match r,h with
 |none,h=>exact h.elim
 |some (g,none),h=>exact⟨g,v,h,λ_ _ h=>h⟩
 |some (g,some e),h =>
  unfold ql at h;obtain⟨hk,h⟩:=h;cases v with
  |ptr id rr c =>
   simp only at h;cases bj:rowOf σ id rr with
   |none=>simp[bj]at h
   |some row =>
    simp only[bj]at h;obtain⟨x,h1,h2⟩:=Ru h;refine⟨g,x,h1,λe2 K2 hK=>?_⟩;unfold ql;have:rowOf ⟨e2,σ.aa⟩ id rr=some row:=bj;simp only[this];exact⟨hk,h2 _ hK⟩
  |_=>exact h.elim
def adI{o:Oper}{σ:St}{K:St->Prop}(hW:aW P o σ K):
  ∃ v os,lG (cls o.op) σ.aa os/\K ((⟨σ.env,os⟩:St).put o.dst v)/\∀ (e2:Nat->AV) (K2:St->Prop),(∀ x∈o.op.operands.toList,ev ⟨e2,σ.aa⟩ x=ev σ x)->K2 ((⟨e2,os⟩:St).put o.dst v)->aW P o ⟨e2,σ.aa⟩ K2:=by
 unfold aW at hW ⊢;split at hW
 ·rename_i f args cQ cU;simp only[cU];split at hW
  ·rename_i g a6 he;obtain⟨aq,snap,dU,cg,res,dt,h1,⟨h2,h3,h4,h5,h6,h7⟩,h8⟩:=hW;refine⟨_,_,(by simp[lG,cls]),h8,λe2 K2 hx hK=>?_⟩;have e1:ev ⟨e2,σ.aa⟩ f=.fn g a6:=by rw[<- he];exact hx f (by simp[Op.operands,Call.operands])
   have e3:args.toList.map (ev ⟨e2,σ.aa⟩)=args.toList.map (ev σ):=oM λy hy=>hx y (by simp only[Op.operands,Call.operands,BR,cz];exact .inr hy);simp only[e1,e3];exact⟨aq,snap,dU,cg,res,dt,h1,⟨h2,h3,h4,h5,λj c d hc hd=>aI.aa (σ:=σ) (σ2:=⟨e2,σ.aa⟩) rfl (h6 j c d hc hd),h7⟩,hK⟩
  ·exact hW.elim
 ·rename_i r m args cQ cU;simp only[cU];split at hW
  ·rename_i t v he;obtain⟨g,x,⟨aq,snap,dU,cg,res,dt,h1,⟨h2,h3,h4,h5,h6,h7⟩,h8⟩,adJ⟩:=adH hW;refine⟨_,_,(by simp[lG,cls]),h8,λe2 K2 hx hK=>?_⟩;have e1:ev ⟨e2,σ.aa⟩ r=.ja t v:=by rw[<- he];exact hx r (by simp[Op.operands,Call.operands])
   have e3:args.toList.map (ev ⟨e2,σ.aa⟩)=args.toList.map (ev σ):=oM λy hy=>hx y (by simp only[Op.operands,Call.operands,BR,cz];exact .inr hy);simp only[e1,e3];exact adJ e2 _ ⟨aq,snap,dU,cg,res,dt,h1,⟨h2,h3,h4,h5,λj c d hc hd=>aI.aa (σ:=σ) (σ2:=⟨e2,σ.aa⟩) rfl (h6 j c d hc hd),h7⟩,hK⟩
  ·exact hW.elim
 ·rename_i ew;obtain⟨v,os,h1,h2,h3⟩:=adK hW;refine⟨v,os,h1,h2,λe2 K2 hx hK=>?_⟩;have:=h3 e2 K2 hx hK;exact this
def adL{o:Oper}{σ:St}{K:St->Prop}(hc:cls o.op<=2)(hW:aW P o σ K):
  ∃ v,K (σ.put o.dst v)/\∀ (σ2:St) (K2:St->Prop),(∀ x∈o.op.operands.toList,ev σ2 x=ev σ x)->(∀ (id:Nat),iQ (cls o.op) σ.aa[id]? σ2.aa[id]?)->K2 (σ2.put o.dst v)->aW P o σ2 K2:=by
 unfold aW at hW ⊢;split at hW
 ·rename_i f args cQ cU;rw[cU]at hc;simp[cls]at hc
 ·rename_i r m args cQ cU;rw[cU]at hc;simp[cls]at hc
 ·rename_i ew;obtain⟨v,h2,h3⟩:=Rv hc hW;refine⟨v,h2,λσ2 K2 hx ho hK=>?_⟩;exact h3 σ2 K2 hx (λx _ id _=>ho id) hK
def Rx{q:Bool}{o:Oper}{σ:St}{K:St->Prop}(hW:mT q P o σ K):
  ∃ v os,lG (fV q o) σ.aa os/\K ((⟨σ.env,os⟩:St).put o.dst v)/\∀ (e2:Nat->AV) (K2:St->Prop),(∀ x∈o.op.operands.toList,ev ⟨e2,σ.aa⟩ x=ev σ x)->K2 ((⟨e2,os⟩:St).put o.dst v)->mT q P o ⟨e2,σ.aa⟩ K2:=by
 cases q with
 |false=>exact adI hW
 |true =>
  unfold mT at hW ⊢;simp only at hW ⊢;split at hW
  ·rename_i f args cQ cU;simp only[cU];split at hW
   ·rename_i g a6 he;obtain⟨res,h1,h2,h3,h4⟩:=hW;refine⟨res,σ.aa,Hs _ _,h4,λe2 K2 hx hK=>?_⟩;have e1:ev ⟨e2,σ.aa⟩ f=.fn g a6:=by rw[<- he];exact hx f (by simp[Op.operands,Call.operands])
    have e3:args.toList.map (ev ⟨e2,σ.aa⟩)=args.toList.map (ev σ):=oM λy hy=>hx y (by simp only[Op.operands,Call.operands,BR,cz];exact .inr hy);simp only[e1,e3];exact⟨res,h1,h2,h3,hK⟩
   ·exact hW.elim
  ·rename_i t a cU;obtain⟨x,h1,h2⟩:=KP hW;refine⟨x,σ.aa,Hs _ _,h1,λe2 K2 hx hK=>?_⟩;rw[hx a (by simp[cU,Op.operands])];exact h2 _ K2 hK
  ·exact hW.elim
def Ry{q:Bool}{o:Oper}{σ:St}{K:St->Prop}(hc:fV q o<=2)(hW:mT q P o σ K):
  ∃ v,K (σ.put o.dst v)/\∀ (σ2:St) (K2:St->Prop),(∀ x∈o.op.operands.toList,ev σ2 x=ev σ x)->(∀ (id:Nat),iQ (fV q o) σ.aa[id]? σ2.aa[id]?)->K2 (σ2.put o.dst v)->mT q P o σ2 K2:=by
 cases q with
 |false=>exact adL hc hW
 |true =>
  unfold mT at hW ⊢;simp only at hW ⊢;split at hW
  ·rename_i f args cQ cU;simp only[cU];split at hW
   ·rename_i g a6 he;obtain⟨res,h1,h2,h3,h4⟩:=hW;refine⟨res,h4,λσ2 K2 hx _ hK=>?_⟩;have e1:ev σ2 f=.fn g a6:=by rw[<- he];exact hx f (by simp[Op.operands,Call.operands])
    have e3:args.toList.map (ev σ2)=args.toList.map (ev σ):=oM λy hy=>hx y (by simp only[Op.operands,Call.operands,BR,cz];exact .inr hy);simp only[e1,e3];exact⟨res,h1,h2,h3,hK⟩
   ·exact hW.elim
  ·rename_i t a cU;obtain⟨x,h1,h2⟩:=KP hW;refine⟨x,h1,λσ2 K2 hx _ hK=>?_⟩;rw[hx a (by simp[cU,Op.operands])];exact h2 _ K2 hK
  ·exact hW.elim
def xE{ops:Array Oper}{o:Oper}{j d:Nat}{want:Bool}(hg:o.guard=some (j,want))(hd:(ops[j]?).bind (·.dst)=some d):d∈o.looksAt ops:=by
 unfold Oper.looksAt;rw[cz];right;simp[hg,hd]
def B6{ops:Array Oper}{q:Bool}{o:Oper}{σ:St}{K:St->Prop}(hW:e7 P ops q o K σ):
  ∃ v os,lG (fV q o) σ.aa os/\K ((⟨σ.env,os⟩:St).put o.dst v)/\∀ (e2:Nat->AV) (K2:St->Prop),(∀ t∈o.looksAt ops,e2 t=σ.env t)->K2 ((⟨e2,os⟩:St).put o.dst v)->e7 P ops q o K2 ⟨e2,σ.aa⟩:=by
 unfold e7 at hW ⊢;cases hg:o.guard with
 |none =>
  simp only[hg]at hW;obtain⟨v,os,h1,h2,h3⟩:=Rx hW;exact⟨v,os,h1,h2,λe2 K2 hl hK=>h3 e2 K2 (tD hl) hK⟩
 |some jw =>
  obtain⟨j,want⟩:=jw;simp only[hg]at hW;cases eZ:(ops[j]?).bind (·.dst) with
  |none=>simp[eZ]at hW
  |some d =>
   simp only[eZ]at hW;split at hW
   ·rename_i b he;by_cases ik:b=want
    ·obtain⟨v,os,h1,h2,h3⟩:=Rx (hW.1 ik);refine⟨v,os,h1,h2,λe2 K2 hl hK=>?_⟩;have:e2 d=.lit (.bool b):=by rw[hl d (xE hg eZ)];exact he
     simp only[eZ,this];exact⟨λ_=>h3 e2 K2 (tD hl) hK,λhn=>absurd ik hn⟩
    ·refine⟨.lit (.tuple #[]),σ.aa,Hs _ _,hW.2 ik,λe2 K2 hl hK=>?_⟩;have:e2 d=.lit (.bool b):=by rw[hl d (xE hg eZ)];exact he
     simp only[eZ,this];exact⟨λhn=>absurd hn ik,λ_=>hK⟩
   ·rename_i vs he;refine⟨.lit (.tuple #[]),σ.aa,Hs _ _,hW.2,λe2 K2 hl hK=>?_⟩;have:e2 d=.lit (.tuple vs):=by rw[hl d (xE hg eZ)];exact he
    simp only[eZ,this];exact⟨hW.1,hK⟩
   ·exact hW.elim
def Rz{ops:Array Oper}{q:Bool}{o:Oper}{σ:St}{K:St->Prop}(hc:fV q o<=2)(hW:e7 P ops q o K σ):
  ∃ v,K (σ.put o.dst v)/\∀ (σ2:St) (K2:St->Prop),(∀ t∈o.looksAt ops,σ2.env t=σ.env t)->(∀ (id:Nat),iQ (fV q o) σ.aa[id]? σ2.aa[id]?)->K2 (σ2.put o.dst v)->e7 P ops q o K2 σ2:=by
 unfold e7 at hW ⊢;cases hg:o.guard with
 |none =>
  simp only[hg]at hW;obtain⟨v,h2,h3⟩:=Ry hc hW;exact⟨v,h2,λσ2 K2 hl ho hK=>h3 σ2 K2 (tD (e2:=σ2.env) (os:=σ2.aa) hl) ho hK⟩
 |some jw =>
  obtain⟨j,want⟩:=jw;simp only[hg]at hW;cases eZ:(ops[j]?).bind (·.dst) with
  |none=>simp[eZ]at hW
  |some d =>
   simp only[eZ]at hW;split at hW
   ·rename_i b he;by_cases ik:b=want
    ·obtain⟨v,h2,h3⟩:=Ry hc (hW.1 ik);refine⟨v,h2,λσ2 K2 hl ho hK=>?_⟩;have:σ2.env d=.lit (.bool b):=by rw[hl d (xE hg eZ)];exact he
     simp only[eZ,this];exact⟨λ_=>h3 σ2 K2 (tD (e2:=σ2.env) (os:=σ2.aa) hl) ho hK,λhn=>absurd ik hn⟩
    ·refine⟨.lit (.tuple #[]),hW.2 ik,λσ2 K2 hl ho hK=>?_⟩;have:σ2.env d=.lit (.bool b):=by rw[hl d (xE hg eZ)];exact he
     simp only[eZ,this];exact⟨λhn=>absurd hn ik,λ_=>hK⟩
   ·rename_i vs he;refine⟨.lit (.tuple #[]),hW.2,λσ2 K2 hl ho hK=>?_⟩;have:σ2.env d=.lit (.tuple vs):=by rw[hl d (xE hg eZ)];exact he
    simp only[eZ,this];exact⟨hW.1,hK⟩
   ·exact hW.elim
def tE{σ:St}{dst:Option Tmp}{v:AV}{t:Nat}(h:∀ d,dst=some d->d≠t):(σ.put dst v).env t=σ.env t:=by
 cases dst with
 |none=>rfl
 |some d =>
  have:=h d rfl;simp[St.put,jT,Ne.symm this]
def B7{σ:St}{x y:Option Tmp}{v u:AV}(h:∀ d,x=some d->y≠some d):(σ.put x v).put y u=(σ.put y u).put x v:=by
 cases x with
 |none=>rfl
 |some d =>
  cases y with
  |none=>rfl
  |some d' =>
   have ew:d'≠d:=λe=>h d rfl (by rw[e]);simp only[St.put];congr 1;funext k;simp only[jT];split<;>split<;>simp_all
def B8{σ:St}{x:Option Tmp}{v:AV}:(σ.put x v).aa=σ.aa:=by cases x<;>rfl
def KR{σ:St}{x:Option Tmp}{v:AV}:σ.put x v=⟨(σ.put x v).env,σ.aa⟩:=by cases x<;>rfl
def B9{σ:St}{os:List Ob}{x:Option Tmp}{v:AV}:(⟨(σ.put x v).env,os⟩:St)=(⟨σ.env,os⟩:St).put x v:=by cases x<;>rfl
def Aj(ci ck:Nat):Bool:=ci==0||ck==0||(ci==1&&decide (ck<=4))||(ci==2&&decide (ck<=3))
def KS{ci ck:Nat}(h:(ci==0||(ci==1&&decide (ck<=4))||(ci==2&&decide (ck<=3)))=true){a b:List Ob}(he:lG ck a b)(id:Nat):iQ ci a[id]? b[id]?:=by
 simp only[kB,bk,beq_iff_eq,decide_eq_true_eq]at h;rcases h with(rfl|⟨rfl,hk⟩)|⟨rfl,hk⟩
 ·simp[iQ]
 ·unfold lG at he;have:∀ o,a[id]?=some o->∃ o',b[id]?=some o'/\uT o o':=by
   intro o ho;have bx:=(aY.1 ho).1;split at he
   ·subst he;exact⟨o,ho,yW o⟩
   ·split at he
    ·exact⟨o,by rw[he id bx];exact ho,yW o⟩
    ·split at he
     ·have hb:id<b.length:=G3;exact⟨b[id],by simp[hb],he.2 id o _ ho (by simp[hb])⟩
     ·omega
  simpa [iQ] using this
 ·unfold lG at he;have:∀ o,a[id]?=some o->b[id]?=some o:=by
   intro o ho;have bx:=(aY.1 ho).1;split at he
   ·subst he;exact ho
   ·split at he
    ·rw[he id bx];exact ho
    ·omega
  simpa [iQ] using this
def adM{ops:Array Oper}{qi qk:Bool}{oi ok:Oper}(ha:oi.apart ops ok=true)(hi:fV qi oi<=2)(hc:(fV qi oi==0||(fV qi oi==1&&decide (fV qk ok<=4))||(fV qi oi==2&&decide (fV qk ok<=3)))=true){σ:St}{K:St->Prop}(h:e7 P ops qi oi (e7 P ops qk ok K) σ):e7 P ops qk ok (e7 P ops qi oi K) σ:=by
 obtain⟨a1,a2,a3⟩:=Oper.apart_spec ha;obtain⟨v,h1,run⟩:=Rz hi h;obtain⟨vk,os,uU,h2,yX⟩:=B6 h1;rw[B8]at uU yX;refine yX σ.env _ (λt ht=>(tE λd hd e=>a1 d hd (e▸ht)).symm) ?_;refine run _ _ (λt ht=>?_) (λid=>?_) ?_
 ·rw[tE λd hd e=>a3 d hd (e▸ht)]
 ·rw[B8];exact KS hc uU id
 ·rw[B9]at h2;rw[B7 (λd hd e=>a2 d e hd)];exact h2
def adN{ops:Array Oper}{qi qk:Bool}{oi ok:Oper}(ha:oi.apart ops ok=true)(hk:fV qk ok=0){σ:St}{K:St->Prop}(h:e7 P ops qi oi (e7 P ops qk ok K) σ):e7 P ops qk ok (e7 P ops qi oi K) σ:=by
 obtain⟨a1,a2,a3⟩:=Oper.apart_spec ha;obtain⟨vi,os,uU,h1,run⟩:=B6 h;obtain⟨vk,h2,D5⟩:=Rz G3 h1;refine D5 σ _ (λt ht=>(tE (σ:=⟨σ.env,os⟩) λd hd e=>a1 d hd (e▸ht)).symm) (λid=>by rw[hk];simp[iQ]) ?_;rw[KR];refine run _ _ (λt ht=>tE λd hd e=>a3 d hd (e▸ht)) ?_;rw[B9,B7 (λd hd e=>a2 d e hd)];exact h2
def adO{ops:Array Oper}{qi qk:Bool}{oi ok:Oper}(ha:oi.apart ops ok=true)(hc:Aj (fV qi oi) (fV qk ok)=true){σ:St}{K:St->Prop}(h:e7 P ops qi oi (e7 P ops qk ok K) σ):e7 P ops qk ok (e7 P ops qi oi K) σ:=by
 by_cases hk:fV qk ok=0
 ·exact adN ha hk h
 ·have iR:(fV qi oi==0||(fV qi oi==1&&decide (fV qk ok<=4))||(fV qi oi==2&&decide (fV qk ok<=3)))=true:=by
   simp only[Aj,kB,bk,beq_iff_eq,decide_eq_true_eq]at hc ⊢;rcases hc with((h|h)|h)|h
   ·exact .inl (.inl h)
   ·exact absurd h hk
   ·exact .inl (.inr h)
   ·exact .inr h
  refine adM ha ?_ iR h;simp only[kB,bk,beq_iff_eq,decide_eq_true_eq]at iR;omega
end Go.Am
namespace Go.Am
variable {P:Program} {N n0:Nat} {σ:St}
def du(P:Program)(ops:Array Oper)(qs:List Nat)(i:Nat)(K:St->Prop)(σ:St):Prop :=
 match ops[i]? with
 |none=>K σ
 |some o=>e7 P ops (qs.contains i) o K σ
def uV(P:Program)(ops:Array Oper)(qs:List Nat)(K:St->Prop):Nat->Array Bool->St->Prop
 |0,aN,σ=>Region.ready .any ops aN=[]/\K σ
 |n+1,aN,σ=>(Region.ready .any ops aN=[]->K σ)/\∀ i∈Region.ready .any ops aN,du P ops qs i (uV P ops qs K n (aN.setIfInBounds i true)) σ
def D6{ops:Array Oper}{q:Bool}{o:Oper}{σ:St}{K K2:St->Prop}(hk:∀ s,K s->K2 s)(h:e7 P ops q o K σ):e7 P ops q o K2 σ:=by
 obtain⟨v,os,_,h2,run⟩:=B6 h;exact run σ.env K2 (λ_ _=>rfl) (hk _ h2)
def adP{ops:Array Oper}{q:Bool}{o:Oper}{σ:St}{K:St->Prop}(h:e7 P ops q o K σ):∃s,K s:=by
 obtain⟨v,os,_,h2,run⟩:=B6 h;exact⟨_,h2⟩
def n9{ops:Array Oper}{qs:List Nat}{i:Nat}{σ:St}{K K2:St->Prop}(hk:∀ s,K s->K2 s)(h:du P ops qs i K σ):du P ops qs i K2 σ:=by
 unfold du at h ⊢;split at h
 ·exact hk _ h
 ·exact D6 hk h
def adQ{ops:Array Oper}{qs:List Nat}{i:Nat}{σ:St}{K:St->Prop}(h:du P ops qs i K σ):∃s,K s:=by
 unfold du at h;split at h
 ·exact⟨_,h⟩
 ·exact adP h
def KT{os:List Ob}{γ0:Cx}{ops:Array Oper}{qs:List Nat}(hd:∀ o∈ops.toList,∀ d,o.dst=some d->d<N){K:St->Prop}{Q:Exit->Act->World->Prop}(hQ:∀ σ' a' w',K σ'->gP N os γ0 σ' a' w'->Q .normal a' w'):∀ (n:Nat) (aN:Array Bool) (σ:St) (a:Act) (w:World),uV P ops qs K n aN σ->gP N os γ0 σ a w->wpAny P .any ops Q n aN a w
 |0,aN,σ,a,w,h,aw=>⟨h.1,hQ _ _ _ h.2 aw⟩
 |n+1,aN,σ,a,w,h,aw=>by
  refine⟨λhr=>hQ _ _ _ (h.1 hr) aw,λi hi=>?_⟩;have:=h.2 i hi;unfold du at this;split at this
  ·rename_i hi';unfold wpOp;simp only[hi'];exact KT hd hQ n _ _ _ _ this aw
  ·rename_i o hi';exact KQ hd hi' this aw λσ' a' w' hK dG=>KT hd hQ n _ _ _ _ hK dG
def RA{id:Nat}{ops:Array Oper}{Q:Exit->St->Prop}(qs:List Nat)(hm:P.follows .mixedOrders=true)(hd:gH N ops=true)(h:uV P ops qs (Q .normal) ops.size (vR ops.size false) σ):W P N n0 (.region id ops true) Q σ:=by
 intro os γ0 a w _ aw;refine wp_region_any hm ?_;exact KT (rC hd) (K:=Q .normal) (λσ' a' w' hK dG=>⟨σ',hK,dG⟩) _ _ _ _ _ h aw.drawn
def adR{ops:Array Oper}{qs:List Nat}{K:St->Prop}{i:Nat}{o:Oper}(hi:ops[i]?=some o)(D:List Nat)(RB:i∈D)(hD:∀ j∈D,j=i\/∃ oj,ops[j]?=some oj/\∃ e∈oj.after,Region.binds .any e=true/\e.on∈D):∀ (fuel:Nat) (aN:Array Bool) (σ:St),(∀ j∈D,aN.getD j true=false) ->
   i∈Region.ready .any ops aN ->
   (∀ j oj,ops[j]?=some oj->aN.getD j true=false->j ∉ D->o.apart ops oj=true/\Aj (fV (qs.contains i) o) (fV (qs.contains j) oj)=true) ->
   du P ops qs i (uV P ops qs K fuel (aN.setIfInBounds i true)) σ->uV P ops qs K (fuel+1) aN σ:=by
 intro fuel
 induction fuel with
 |zero =>
  intro aN σ hu hr kH h;refine⟨λe=>by rw[e]at hr;simp at hr,λk hk=>?_⟩;by_cases gI:k=i
  ·subst gI;exact h
  ·obtain⟨s,hs⟩:=adQ h;have:=ready_mono hk gI;rw[hs.1]at this;simp at this
 |succ m ih =>
  intro aN σ hu hr kH h;refine⟨λe=>by rw[e]at hr;simp at hr,λk hk=>?_⟩;by_cases gI:k=i
  ·subst gI;exact h
  ·have Ak:=mem_ready.1 hk;obtain⟨cF,ok,aw,eP⟩:=Ak;have rF:k ∉ D:=by
    intro rF;rcases hD k rF with e|⟨oj,iS,e,he,hb,xF⟩
    ·exact gI e
    ·rw[aw]at iS;simp only[dD.injEq]at iS;subst iS;have h1:=eP e he hb;have h2:=hu e.on xF;rw[fU]at h1 h2;cases hx:aN[e.on]? with
     |none=>rw[hx]at h1;simp at h1
     |some b=>rw[hx]at h1 h2;simp at h1 h2;rw[h1]at h2;simp at h2
   obtain⟨ha,hc⟩:=kH k ok aw cF rF;have h1:du P ops qs i (du P ops qs k (uV P ops qs K m ((aN.setIfInBounds i true).setIfInBounds k true))) σ :=
    n9 (λs hs=>hs.2 k (ready_mono hk gI)) h
   have h2:du P ops qs k (du P ops qs i (uV P ops qs K m ((aN.setIfInBounds i true).setIfInBounds k true))) σ:=by
    unfold du at h1 ⊢;simp only[hi,aw]at h1 ⊢;exact adO ha hc h1
   refine n9 (λs hs=>?_) h2;refine ih (aN.setIfInBounds k true) s (λj hj=>?_) (ready_mono hr (Ne.symm gI)) (λj oj iS hl pK=>?_) ?_
   ·have ew:k≠j:=λe=>rF (by rw[e];exact hj);rw[getD_set_ne _ ew];exact hu j hj
   ·refine kH j oj iS ?_ pK;by_cases yY:k=j
    ·subst yY;exact cF
    ·rwa [getD_set_ne _ yY]at hl
   ·rw[Array.setIfInBounds_comm _ _ (Ne.symm gI)]at hs;exact hs
def KU(ops:Array Oper)(i:Nat):List Nat :=
 (aZ ops.size).foldl (λD j=>if j==i||(match ops[j]? with|some oj=>oj.after.any (λe=>Region.binds .any e&&D.contains e.on)|none=>false) then D++[j] else D) []
def Hu(ops:Array Oper)(qs:List Nat)(aN:Array Bool)(i:Nat)(D:List Nat):Bool :=
 match ops[i]? with
 |none=>false
 |some o =>
  D.contains i&&D.all (λj=>j==i||match ops[j]? with|some oj=>oj.after.any (λe=>Region.binds .any e&&D.contains e.on)|none=>false) &&
  D.all (λj=>!aN.getD j true)&&o.after.all (λe=>!Region.binds .any e||aN.getD e.on false) &&
  (aZ ops.size).all λj=>D.contains j||aN.getD j true||match ops[j]? with|some oj=>o.apart ops oj&&Aj (fV (qs.contains i) o) (fV (qs.contains j) oj)|none=>true
def RC{ops:Array Oper}{qs:List Nat}{K:St->Prop}{i:Nat}{D:List Nat}{fuel:Nat}{aN:Array Bool}(h:Hu ops qs aN i D=true)(hs:du P ops qs i (uV P ops qs K fuel (aN.setIfInBounds i true)) σ):uV P ops qs K (fuel+1) aN σ:=by
 unfold Hu at h;cases hi:ops[i]? with
 |none=>simp[hi]at h
 |some o =>
  simp only[hi,bk,List.all_eq_true,qh,kB,beq_iff_eq,Bool.not_eq_true']at h;obtain⟨⟨⟨⟨h1,h2⟩,h3⟩,h4⟩,h5⟩:=h;refine adR hi D h1 (λj hj=>?_) fuel aN σ h3 ?_ ?_ hs
  ·rcases h2 j hj with h|h
   ·exact .inl h
   ·right;split at h
    ·rename_i oj iS;rw[Array.any_eq_true']at h;obtain⟨e,he,hb⟩:=h;simp only[bk,qh]at hb;exact⟨oj,iS,e,he,hb.1,hb.2⟩
    ·simp at h
  ·rw[mem_ready];refine⟨h3 i h1,o,hi,λe he hb=>?_⟩;rw[Array.all_eq_true']at h4;have:=h4 e he;simpa [hb] using this
  ·intro j oj iS hl pK;have hj:j<ops.size:=(Array.getElem?_eq_some_iff.1 iS).1;rcases h5 j (List.mem_range.2 hj) with(h|h)|h
   ·exact absurd h pK
   ·rw[hl]at h;simp at h
   ·simpa [iS] using h
inductive PT where
 |nil
 |take (i:Nat) (t:PT)
 |both (i:Nat) (t:PT) (j:Nat) (u:PT)
 |three (i:Nat) (t:PT) (j:Nat) (u:PT) (k:Nat) (v:PT)
def PT.ok(ops:Array Oper)(qs:List Nat):PT->Nat->Array Bool->Bool
 |.nil,n,aN=>n==0&&(Region.ready .any ops aN).isEmpty
 |.take _ _,0,_=>false
 |.take i t,n+1,aN=>Hu ops qs aN i (KU ops i)&&t.ok ops qs n (aN.setIfInBounds i true)
 |.both _ _ _ _,0,_=>false
 |.both i t j u,n+1,aN=>(Region.ready .any ops aN==[i,j])&&t.ok ops qs n (aN.setIfInBounds i true)&&u.ok ops qs n (aN.setIfInBounds j true)
 |.three _ _ _ _ _ _,0,_=>false
 |.three i t j u k v,n+1,aN=>(Region.ready .any ops aN==[i,j,k])&&t.ok ops qs n (aN.setIfInBounds i true)&&u.ok ops qs n (aN.setIfInBounds j true)&&v.ok ops qs n (aN.setIfInBounds k true)
def ka(P:Program)(ops:Array Oper)(qs:List Nat):PT->(St->Prop)->St->Prop
 |.nil,K,σ=>K σ
 |.take i t,K,σ=>du P ops qs i (ka P ops qs t K) σ
 |.both i t j u,K,σ=>du P ops qs i (ka P ops qs t K) σ/\du P ops qs j (ka P ops qs u K) σ
 |.three i t j u k v,K,σ=>du P ops qs i (ka P ops qs t K) σ/\du P ops qs j (ka P ops qs u K) σ/\du P ops qs k (ka P ops qs v K) σ
def Al{ops:Array Oper}{qs:List Nat}{K:St->Prop}:∀ (t:PT) (n:Nat) (aN:Array Bool) (σ:St),t.ok ops qs n aN=true->ka P ops qs t K σ->uV P ops qs K n aN σ
 |.nil,n,aN,σ,h,hp=>by
  simp only[PT.ok,bk,beq_iff_eq,List.isEmpty_iff]at h;obtain⟨rfl,h⟩:=h;exact⟨h,hp⟩
 |.take _ _,0,_,_,h,_=>by simp[PT.ok]at h
 |.take i t,n+1,aN,σ,h,hp=>by
  simp only[PT.ok,bk]at h;exact RC h.1 (n9 (λs hs=>Al t n _ s h.2 hs) hp)
 |.both _ _ _ _,0,_,_,h,_=>by simp[PT.ok]at h
 |.both i t j u,n+1,aN,σ,h,hp=>by
  simp only[PT.ok,bk,beq_iff_eq]at h;obtain⟨⟨h1,h2⟩,h3⟩:=h;refine⟨λe=>by rw[h1]at e;simp at e,λk hk=>?_⟩;rw[h1]at hk;simp only[cu,jQ,or_false]at hk;rcases hk with rfl|rfl
  ·exact n9 (λs hs=>Al t n _ s h2 hs) hp.1
  ·exact n9 (λs hs=>Al u n _ s h3 hs) hp.2
 |.three _ _ _ _ _ _,0,_,_,h,_=>by simp[PT.ok]at h
 |.three i t j u k v,n+1,aN,σ,h,hp=>by
  simp only[PT.ok,bk,beq_iff_eq]at h;obtain⟨⟨⟨h1,h2⟩,h3⟩,h4⟩:=h;refine⟨λe=>by rw[h1]at e;simp at e,λx hk=>?_⟩;rw[h1]at hk;simp only[cu,jQ,or_false]at hk;rcases hk with rfl|rfl|rfl
  ·exact n9 (λs hs=>Al t n _ s h2 hs) hp.1
  ·exact n9 (λs hs=>Al u n _ s h3 hs) hp.2.1
  ·exact n9 (λs hs=>Al v n _ s h4 hs) hp.2.2
def jb{id:Nat}{ops:Array Oper}{Q:Exit->St->Prop}(qs:List Nat)(t:PT)(hm:P.follows .mixedOrders=true)(hd:gH N ops=true)(ht:t.ok ops qs ops.size (vR ops.size false)=true)(h:ka P ops qs t (Q .normal) σ):W P N n0 (.region id ops true) Q σ :=
 RA qs hm hd (Al t _ _ σ ht h)
def RD{id:Nat}{ops:Array Oper}{y:Code}{Q:Exit->St->Prop}(qs:List Nat)(t:PT)(hm:P.follows .mixedOrders=true)(hd:gH N ops=true)(ht:t.ok ops qs ops.size (vR ops.size false)=true)(h:∀ K:St->Prop,(∀ s,W P N n0 y Q s->K s)->ka P ops qs t K σ):W P N n0 (.seq (.region id ops true) y) Q σ :=
 KV (jb qs t hm hd ht (h _ (λ_ h=>h)))
def uQ{ops:Array Oper}{qs:List Nat}{K:St->Prop}:ka P ops qs .nil K σ=K σ:=rfl
def uP{ops:Array Oper}{qs:List Nat}{i:Nat}{t:PT}{K:St->Prop}:ka P ops qs (.take i t) K σ=du P ops qs i (ka P ops qs t K) σ:=rfl
def D7{ops:Array Oper}{qs:List Nat}{i j k:Nat}{t u v:PT}{K:St->Prop}:ka P ops qs (.three i t j u k v) K σ=(du P ops qs i (ka P ops qs t K) σ/\du P ops qs j (ka P ops qs u K) σ/\du P ops qs k (ka P ops qs v K) σ):=rfl
def xG{ops:Array Oper}{qs:List Nat}{i j:Nat}{t u:PT}{K:St->Prop}:ka P ops qs (.both i t j u) K σ=(du P ops qs i (ka P ops qs t K) σ/\du P ops qs j (ka P ops qs u K) σ):=rfl
def Rg{q:Bool}{o:Oper}{K:St->Prop}:qo q P o K true true σ=mT q P o σ K:=by simp[qo]
def Rj{q:Bool}{o:Oper}{K:St->Prop}:qo q P o K false false σ=mT q P o σ K:=by simp[qo]
def Rh{q:Bool}{o:Oper}{K:St->Prop}:qo q P o K true false σ=K (σ.put o.dst (.lit (.tuple #[]))):=by simp[qo]
def Ri{q:Bool}{o:Oper}{K:St->Prop}:qo q P o K false true σ=K (σ.put o.dst (.lit (.tuple #[]))):=by simp[qo]
def adS{q:Bool}{o:Oper}{K:St->Prop}{b want:Bool}(h1:b=true->qo q P o K true want σ)(h2:b=false->qo q P o K false want σ):qo q P o K b want σ:=by
 cases b
 ·exact h2 rfl
 ·exact h1 rfl
def kc:List Nat->PT
 |[]=>.nil
 |i::r=>.take i (kc r)
end Go.Am
namespace Go.Am
variable {P:Program} {N n0:Nat} {σ:St} {Q:Exit->St->Prop}
def au:List (Nat×AV)->Nat->AV
 |[]=>λ_=>.undef
 |p::l=>jT (au l) p.1 p.2
def Hm(d:Nat)(v:AV)(l:List (Nat×AV)):au ((d,v)::l)=jT (au l) d v:=rfl
def Hv(l:List (Nat×AV))(k:Nat):au l k=.undef\/∃ p∈l,p.1=k/\au l k=p.2:=by
 induction l with
 |nil=>exact .inl rfl
 |cons p l ih =>
  by_cases h:k=p.1
  ·right;exact⟨p,G9,h.symm,by simp[au,jT,h]⟩
  ·have e:au (p::l) k=au l k:=by simp[au,jT,h]
   rw[e];rcases ih with h|⟨q,hq,h1,h2⟩
   ·exact .inl h
   ·exact .inr ⟨q,by simp[hq],h1,h2⟩
def Has(e:Nat->AV):List (Nat×AV)->Prop
 |[]=>True
 |p::l=>e p.1=p.2/\Has e l
def Has.mem{e:Nat->AV}:∀ {l:List (Nat×AV)},Has e l->∀ p∈l,e p.1=p.2
 |q::l,h,p,hp=>by
  rcases cu.1 hp with rfl|hp
  ·exact h.1
  ·exact Has.mem h.2 p hp
def ay.au(l:List (Nat×AV))(os:List Ob)(ho:σ.aa=os)(h:Has σ.env l):ay n0 σ ⟨au l,os⟩:=by
 subst ho;refine ay.forget λk=>?_;rcases Hv l k with h'|⟨p,hp,rfl,h'⟩
 ·exact .inl h'
 ·right;rw[h',h.mem p hp]
def qn(ρ:Nat->Nat)(os:List Ob):List Nat->List Ob->Prop
 |[],[]=>True
 |i::aq,o::co=>(i<os.length/\(o=.gone\/os[i]?=some (bU ρ o)))/\qn ρ os aq co
 |_,_=>False
def qn.spec{ρ:Nat->Nat}{os:List Ob}:∀ {aq:List Nat} {co:List Ob},qn ρ os aq co->co.length=aq.length/\(∀ (j:Nat) o,co[j]?=some o->o=.gone\/os[aq.getD j 0]?=some (bU ρ o))/\∀ i∈aq,i<os.length
 |[],[],_=>⟨rfl,G9,G9⟩
 |i::aq,o::co,h=>by
  obtain⟨⟨h1,h2⟩,h3⟩:=h;obtain⟨a,b,c⟩:=qn.spec h3;refine⟨by simp[a],λj o' hj=>?_,λx hx=>?_⟩
  ·cases j with
   |zero=>simp at hj;subst hj;simpa using h2
   |succ j=>simpa using b j o' (by simpa using hj)
  ·rcases cu.1 hx with rfl|hx
   ·exact h1
   ·exact c x hx
def tF(R:AV->AV->Prop)(e:Nat->AV):List (Nat×AV)->Prop
 |[]=>True
 |p::l=>R p.2 (e p.1)/\tF R e l
def tF.mem{R:AV->AV->Prop}{e:Nat->AV}:∀ {l:List (Nat×AV)},tF R e l->∀ p∈l,R p.2 (e p.1)
 |q::l,h,p,hp=>by
  rcases cu.1 hp with rfl|hp
  ·exact h.1
  ·exact tF.mem h.2 p hp
def kept(aq:List Nat)(co:List Ob)(id:Nat):Prop:=∃ j,j<aq.length/\aq.getD j 0=id/\co[j]?≠some .gone
def ay.aq(aq:List Nat)(snap:Bool)(l:List (Nat×AV))(co:List Ob)(b7:aq.Nodup)(ho:qn (bA σ.aa.length aq) σ.aa aq co)(hn:n0<=aq.length)(cT:∀ i,i<n0->aq.getD i 0=i)(h:tF (aI σ (kept aq co) (bA σ.aa.length aq) snap) σ.env l):ay n0 σ ⟨Am.au l,co⟩:=by
 obtain⟨h1,h2,h3⟩:=ho.spec;refine ay.select aq snap co _ b7 h1 h2 h3 hn cT λk=>?_;rcases Hv l k with h'|⟨p,hp,rfl,h'⟩
 ·exact .inl h'
 ·right;rw[h'];exact h.mem p hp
def aI.pure{kp:Nat->Prop}{ρ:Nat->Nat}{snap:Bool}{v:AV}(h:gQ v=true):aI σ kp ρ snap v v:=by
 have:=aI.same (σ:=σ) (kp:=kp) (ρ:=ρ) (snap:=snap) v;rwa [An _ v h]at this
def aI.eq{kp:Nat->Prop}{ρ:Nat->Nat}{snap:Bool}{v u:AV}(h:u=br ρ v):aI σ kp ρ snap v u:=by
 subst h;exact .same v
def cG.flat{kp:Nat->Prop}{id sz len:Nat}{rows:List (List AV)}(ho:σ.aa[id]?=some (.arr sz rows))(hw:∀ row∈rows,row.length=sz)(hl:len=rows.length)(tB:¬ kp id)(hf:∀ row∈rows,∀ v∈row,(∃ x,v=.lit x)\/∃ s r,v=.tree s r):
  cG σ kp (.tree sz rows) (.ref id sz 0 len):=by
 refine .ref id sz 0 len rows rows (λr c=>(cellAt rows r c).getD .undef) ho tB (by simp[hl]) hw (λr c v hv=>?_) (λr c v hv=>?_)
 ·simp[hl,hv]
 ·rw[hv,Option.getD_some];simp only[cellAt,Option.bind_eq_some_iff]at hv;obtain⟨row,h1,h2⟩:=hv;rcases hf row (gY h1) v (gY h2) with⟨x,rfl⟩|⟨s,r,rfl⟩
  ·exact .lit x
  ·exact .tree s r
def aI.nil{kp:Nat->Prop}{ρ:Nat->Nat}{sz:Nat}:aI σ kp ρ true (.tree sz []) (.lit (.slice none 0 0)):=.snap _ _ rfl (.nil sz)
def aI.cp{kp:Nat->Prop}{ρ:Nat->Nat}{id sz len:Nat}{rows:List (List AV)}(ho:σ.aa[id]?=some (.arr sz rows))(hw:∀ row∈rows,row.length=sz)(hl:len=rows.length)(tB:¬ kp id)(hf:∀ row∈rows,∀ v∈row,(∃ x,v=.lit x)\/∃ s r,v=.tree s r):
  aI σ kp ρ true (.tree sz rows) (.ref id sz 0 len):=.snap _ _ rfl (cG.flat ho hw hl tB hf)
def adT{α:Type}(n0:Nat)(S:α->St)(I:α->Prop)(M:α->Nat)(x:α)(Q:Exit->St->Prop):Exit->St->Prop
 |.normal,s=>∃ y,I y/\M y<M x/\ay n0 s (S y)
 |e,s=>Q e s
def adU{α:Type}{c:Code}(S:α->St)(I:α->Prop)(M:α->Nat)(x0:α)(hI:I x0)(h0:ay n0 σ (S x0))(round:∀ x,I x->∀ Q':Exit->St->Prop,(∀ s y,I y->M y<M x->ay n0 s (S y)->Q' .normal s)->(∀ e s,e≠.normal->Q e s->Q' e s)->W P N n0 c Q' (S x)):W P N n0 (.loop c) Q σ:=by
 refine bD h0 ?_;intro os γ0 a w hn aw b k cs;have key:∀ n x a w,M x=n->I x->gP N os γ0 (S x) a w ->
   ∃ e a' w',(∃ σ',Q e σ'/\gP N os γ0 σ' a' w')/\Arrives P (lone (b.at a (.code c::.inLoop c::k)) cs w) b k cs e a' w':=by
  intro n
  induction n using Nat.strongRecOn with
  |_ n ih =>
   intro x a w hm hI aw;have hr:W P N n0 c (adT n0 S I M x Q) (S x):=round x hI _ (λs y h1 h2 h3=>⟨y,h1,h2,h3⟩) (λe s he h=>by cases e<;>first|exact absurd rfl he|exact h);obtain⟨e,sK,tG,⟨σ',hq,dG⟩,jc⟩:=hr os γ0 a w hn aw b (.inLoop c::k) cs;cases e with
   |normal =>
    obtain⟨y,KX,bx,ht⟩:=hq;obtain⟨h1,h2,γ,rfl,h3,h4,h5⟩:=dG;obtain⟨aP,e1,e2,e3,e4⟩:=ht os γ0 γ hn h4 h5;obtain⟨KY,KZ,K3,K4,K5⟩:=ih (M y) G3 y sK γ.w rfl KX ⟨h1,h2,aP,e1,e2.trans h3,e3,e4⟩;exact⟨KY,KZ,K3,K4,.of_steps (Steps.trans jc (.one step_inLoop)) K5⟩
   |exit id=>exact⟨_,sK,tG,⟨σ',hq,dG⟩,.pass (x:=.inLoop c) rfl (λ_ _=>.inl G9) jc⟩
   |goto l=>exact⟨_,sK,tG,⟨σ',hq,dG⟩,.pass (x:=.inLoop c) rfl (λ_ _=>.inl G9) jc⟩
   |ret=>exact⟨_,sK,tG,⟨σ',hq,dG⟩,.pass (x:=.inLoop c) rfl (λ_ _=>.inl G9) jc⟩
   |panic ch=>exact⟨_,sK,tG,⟨σ',hq,dG⟩,.pass (x:=.inLoop c) rfl (λ_ _=>.inl G9) jc⟩
   |outgrown=>exact⟨_,sK,tG,⟨σ',hq,dG⟩,.pass (x:=.inLoop c) rfl (λ_ _=>.inl G9) jc⟩
 obtain⟨e,a',w',hq,jc⟩:=key _ x0 a w rfl hI aw;exact⟨e,a',w',hq,.of_steps (.one step_loop) jc⟩
def adV{id:Nat}{c:Code}(h:∀ Q':Exit->St->Prop,(∀ s,Q .normal s->Q' .normal s)->(∀ s,Q .normal s->Q' (.exit id) s)->(∀ e s,e≠.normal->e≠.exit id->Q e s->Q' e s)->W P N n0 c Q' σ):W P N n0 (.block id c) Q σ :=
 adW (h _ (λs h=>h) (λs h=>by simp only[Hw,if_true];exact h) (λe s h1 h2 h=>by
  cases e<;>first
   |exact absurd rfl h1
   |exact h
   | (rename_i pL;simp only[Hw];rw[if_neg (λe=>h2 (by rw[e]))];exact h)))
def D8{ρ:Nat->Nat}{sz:Nat}{rows:List (List AV)}(h:∀ row∈rows,jl row=true):bU ρ (.arr sz rows)=.arr sz rows:=by
 simp only[bU];congr 1;have:∀ row∈rows,row.map (br ρ)=row:=λrow hr=>by
  have:=Ca ρ row (h row hr);rwa [xH]at this
 rw[oM this];simp
def adX(n j:Nat):bA n (aZ n) j=j:=by
 unfold bA;split
 ·rename_i h;have h':j<n:=by simpa using h
  simp[aG,lT h']
 ·rename_i h;simp at h ⊢;omega
mutual
def yT:∀ (v:AV),br (λj=>j) v=v
 |.undef=>rfl
 |.lit _=>rfl
 |.tree ..=>rfl
 |.bm _=>rfl
 |.ref ..=>rfl
 |.ptr ..=>rfl
 |.agg cs=>by simp only[br];rw[Hx cs]
 |.bH cs=>by simp only[br];rw[Hx cs]
 |.fn f cs=>by simp only[br];rw[Hx cs]
 |.ja t v=>by simp only[br];rw[yT v]
 |.g6 _=>rfl
def Hx:∀ (l:List AV),qt (λj=>j) l=l
 |[]=>rfl
 |v::vs=>by simp only[qt];rw[yT v,Hx vs]
end
def D3(o:Ob):bU (λj=>j) o=o:=by
 have h:br (λj=>j)=id:=by funext v;exact yT v
 cases o with
 |gone=>rfl
 |var cs=>simp[bU,h]
 |arr sz rows=>simp[bU,h]
 |mp ag L=>simp[bU,h]
def yS(n:Nat):bA n (aZ n)=λj=>j:=by funext j;exact adX n j
def RE(aa:List Ob):∀ (bI:List Ob),aa.length<=bI.length->fi aa (aZ aa.length) bI=bI:=by
 intro bI h;have hlen:(aZ aa.length).length<=bI.length:=by simpa using h
 apply List.ext_getElem?;intro i;rcases Nat.lt_or_ge i aa.length with hi|hi
 ·have:=Hy (aZ aa.length) aa bI hlen (GZ) G9 i (by simpa using hi);simpa [aG,lT hi] using this
 ·have Hz:=K6 (aZ aa.length) aa bI hlen;obtain⟨j,rfl⟩:∃j,i=aa.length+j:=⟨i-aa.length,G3⟩;have:=RF (aZ aa.length) aa bI hlen j;simpa using this
def il{f:FuncId}{args:List AV}{dst:Option Tmp}{K:St->Prop}{res:AV}{bI:List Ob}(h:an P f args σ.aa res bI)(hl:σ.aa.length<=bI.length)(hK:K ((⟨σ.env,bI⟩:St).put dst res)):sI P f args dst K σ:=by
 refine⟨aZ σ.aa.length,false,args,σ.aa,res,bI,h,⟨GZ,G9,?_,rfl,?_,G9⟩,?_⟩
 ·intro j o hj;have bx:=(aY.1 hj).1;rw[yS,D3];simpa [aG,lT bx] using hj
 ·intro j c d hc hd;rw[hc]at hd;simp only[dD.injEq]at hd;subst hd;exact .eq (by rw[yS,yT])
 ·rw[yS,yT];have:bI.map (bU (λj=>j))=bI:=by
   have h:bU (λj=>j)=id:=by funext o;exact D3 o
   simp[h]
  rw[this,RE _ _ hl];exact hK
end Go.Am
namespace Go.Am
variable {P:Program} {N n0:Nat} {σ:St} {Q:Exit->St->Prop}
def adY{id:Nat}{ops:Array Oper}(hd:gH N ops=true)(h:∀ K:St->Prop,(∀ s,Q .normal s->K s)->opsL P ops ops.toList K σ):W P N n0 (.region id ops false) Q σ :=
 RG hd (h _ (λ_ h=>h))
def K7{ops:Array Oper}{K:St->Prop}:∀ (l:List Oper) (i:Nat) (σ:St),ops.toList.drop i=l->opsL P ops l K σ->ka P ops [] (kc (n5 i l.length)) K σ
 |[],i,σ,_,h=>h
 |o::r,i,σ,hl,h=>by
  have hi:ops[i]?=some o:=by
   have:(ops.toList.drop i)[0]?=some o:=by rw[hl];rfl
   simpa using this
  have hr:ops.toList.drop (i+1)=r:=by
   have:=congrArg List.tail hl;simpa [List.tail_drop] using this
  rw[List.length_cons,List.range'_succ];show du P ops [] i (ka P ops [] (kc (n5 (i+1) r.length)) K) σ;unfold du;simp only[hi];have hm:∀ s,opsL P ops r K s->ka P ops [] (kc (n5 (i+1) r.length)) K s:=λs hs=>K7 r (i+1) s hr hs;refine D6 hm ?_;unfold opsL at h;unfold e7;cases hg:o.guard with
  |none=>simp only[hg]at h;exact h
  |some jw =>
   obtain⟨j,want⟩:=jw;simp only[hg]at h;exact h
def Ao(ops:Array Oper):Bool:=(kc (aZ ops.size)).ok ops [] ops.size (vR ops.size false)
def adZ{id:Nat}{ops:Array Oper}{y:Code}(hm:P.follows .mixedOrders=true)(hd:gH N ops=true)(ht:Ao ops=true)(h:∀ K:St->Prop,(∀ s,W P N n0 y Q s->K s)->opsL P ops ops.toList K σ):
  W P N n0 (.seq (.region id ops true) y) Q σ :=
 RD [] _ hm hd ht λK hK=>by
  have:=K7 (P:=P) (ops:=ops) ops.toList 0 σ rfl (h K hK);rw[xp];simpa using this
def ad0{id:Nat}{ops:Array Oper}(hm:P.follows .mixedOrders=true)(hd:gH N ops=true)(ht:Ao ops=true)(h:∀ K:St->Prop,(∀ s,Q .normal s->K s)->opsL P ops ops.toList K σ):
  W P N n0 (.region id ops true) Q σ :=
 jb [] _ hm hd ht (by
  have:=K7 (P:=P) (ops:=ops) ops.toList 0 σ rfl (h _ (λ_ h=>h));rw[xp];simpa using this)
def aE{v res:AV}(hr:gQ v=true)(h:v=res):pH 0 σ v res []:=by
 subst h;exact HA hr
def Hl(e:Nat->AV)(d:Nat)(v:AV)(k:Nat):jT e d v k=if k=d then v else e k:=by simp only[jT]
def Q5:IntKind.i64.min = -9223372036854775808:=rfl
def Q6:IntKind.i64.max=9223372036854775807:=rfl
def ints(xs:List Int):List (List AV):=xs.map λx=>[aaa x]
def aX(xs:List Bool):List (List AV):=xs.map λx=>[.lit (.bool x)]
def dQ(xs:List (List Int)):List (List AV):=xs.map λx=>[.tree 1 (ints x)]
def lh(xs:List Int):(ints xs).length=xs.length:=by simp[ints]
def yU(xs:List Bool):(aX xs).length=xs.length:=by simp[aX]
def lj(xs:List (List Int)):(dQ xs).length=xs.length:=by simp[dQ]
def Rk(xs:List Int)(i:Nat)(h:i<xs.length):(ints xs).getD i []=[aaa (xs.getD i 0)]:=by simp[ints,h]
def Rl(xs:List Bool)(i:Nat)(h:i<xs.length):(aX xs).getD i []=[.lit (.bool (xs.getD i false))]:=by simp[aX,h]
def Rm(xs:List (List Int))(i:Nat)(h:i<xs.length):(dQ xs).getD i []=[.tree 1 (ints (xs.getD i []))]:=by simp[dQ,h]
def Rn(xs:List Int)(i:Nat)(h:i<xs.length):(ints xs)[i]?=some [aaa (xs.getD i 0)]:=by simp[ints,h]
def Ro(xs:List Bool)(i:Nat)(h:i<xs.length):(aX xs)[i]?=some [.lit (.bool (xs.getD i false))]:=by simp[aX,h]
def Rp(xs:List (List Int))(i:Nat)(h:i<xs.length):(dQ xs)[i]?=some [.tree 1 (ints (xs.getD i []))]:=by simp[dQ,h]
def ints_set(xs:List Int)(i:Nat)(v:Int):(ints xs).set i [aaa v]=ints (xs.set i v):=by simp[ints,pC]
def wc(xs:List Bool)(i:Nat)(v:Bool):(aX xs).set i [.lit (.bool v)]=aX (xs.set i v):=by simp[aX,pC]
def Rq(xs ys:List Int):ints xs++ints ys=ints (xs++ys):=by simp[ints]
def yV(xs:List Int)(v:Int):ints xs++[[aaa v]]=ints (xs++[v]):=by simp[ints]
def Hp(xs:List (List Int))(v:List Int):dQ xs++[[.tree 1 (ints v)]]=dQ (xs++[v]):=by simp[dQ]
def KN(xs:List Bool)(v:Bool):aX xs++[[.lit (.bool v)]]=aX (xs++[v]):=by simp[aX]
def Hq(n:Nat)(v:Int):bG n [AV.lit (.int .i64 v)]=ints (bG n v):=by simp[ints]
def KO(n:Nat)(v:Bool):bG n [AV.lit (.bool v)]=aX (bG n v):=by simp[aX]
def D4(xs:List Int):((ints xs).all λrow=>row.all cJ)=true:=by simp[ints,cJ,Value.oneCell']
def Rr(xs:List Bool):((aX xs).all λrow=>row.all cJ)=true:=by simp[aX,cJ,Value.oneCell']
def Rs(xs:List (List Int)):((dQ xs).all λrow=>row.all cJ)=true:=by simp[dQ,cJ]
def uR(ρ:Nat->Nat)(sz:Nat)(xs:List Int):bU ρ (.arr sz (ints xs))=.arr sz (ints xs):=D8 (by simp[ints,jl,gQ])
def Ai(ρ:Nat->Nat)(sz:Nat)(xs:List Bool):bU ρ (.arr sz (aX xs))=.arr sz (aX xs):=D8 (by
 intro row hr;simp only[aX,cC]at hr;obtain⟨x,_,rfl⟩:=hr;rfl)
def Ho(ρ:Nat->Nat)(sz:Nat)(xs:List (List Int)):bU ρ (.arr sz (dQ xs))=.arr sz (dQ xs):=D8 (by simp[dQ,jl,gQ])
def oa(xs:List Int):∀ row∈ints xs,∀ v∈row,(∃ x,v=AV.lit x)\/∃ s r,v=AV.tree s r:=by
 intro row hr v hv;simp only[ints,cC]at hr;obtain⟨x,_,rfl⟩:=hr;simp at hv;exact .inl ⟨_,hv⟩
def HB(xs:List Bool):∀ row∈aX xs,∀ v∈row,(∃ x,v=AV.lit x)\/∃ s r,v=AV.tree s r:=by
 intro row hr v hv;simp only[aX,cC]at hr;obtain⟨x,_,rfl⟩:=hr;simp at hv;exact .inl ⟨_,hv⟩
def xI(xs:List (List Int)):∀ row∈dQ xs,∀ v∈row,(∃ x,v=AV.lit x)\/∃ s r,v=AV.tree s r:=by
 intro row hr v hv;simp only[dQ,cC]at hr;obtain⟨x,_,rfl⟩:=hr;simp at hv;exact .inr ⟨_,_,hv⟩
def ny(xs:List Int):∀ row∈ints xs,row.length=1:=by
 intro row hr;simp only[ints,cC]at hr;obtain⟨x,_,rfl⟩:=hr;rfl
def D9(xs:List Bool):∀ row∈aX xs,row.length=1:=by
 intro row hr;simp only[aX,cC]at hr;obtain⟨x,_,rfl⟩:=hr;rfl
def xJ(xs:List (List Int)):∀ row∈dQ xs,row.length=1:=by
 intro row hr;simp only[dQ,cC]at hr;obtain⟨x,_,rfl⟩:=hr;rfl
def cN{α:Type}(xs:List α)(i:Nat)(d:α)(h:i<xs.length):xs.drop i=xs.getD i d::xs.drop (i+1):=by
 rw[List.drop_eq_getElem_cons h];simp[h]
end Go.Am

