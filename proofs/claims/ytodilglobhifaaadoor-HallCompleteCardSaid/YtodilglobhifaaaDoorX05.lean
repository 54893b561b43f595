import Derived.Test.YtodilglobhifaaaDoorX04
set_option linter.all false
set_option maxHeartbeats 0
set_option maxRecDepth 20000
open List renaming mem_of_getElem?→eh,mem_append→bn,map_congr_left→oo,getElem?_eq_some_iff→aF,range→bj,contains_iff_mem→oh,mem_cons→cI,not_mem_nil→qO,getD_eq_getElem?_getD→an,getElem?_range→qM,nodup_range→w5,range'→g8,range_eq_range'→pD,map_set→z4,replicate→aw,mem_map→bS
open Array renaming getD_eq_getD_getElem?→cT,toList_append→w9,replicate→ux
open Bool renaming or_eq_true→jn,and_eq_true→bb
open Option renaming some→cB
namespace Go.Am
variable {P:Program}
def AI(P:Program)(g:FuncId)(args:List AV)(dst:Option Tmp)(K:St->Prop)(σ:St):Prop :=
 ∃ res,ao P g args [] res []/\iT args=true/\gK res=true/\K (σ.put dst res)
def pU(P:Program)(t:TypeId)(dst:Option Tmp)(K:St->Prop)(σ:St):AV->Prop
 |.bO cells=>(ty P t).kind≠99/\h9 (ty P t) cells 0 λv=>K (σ.put dst v)
 |_=>False
def jy(q:Bool)(P:Program)(o:Oper)(σ:St)(K:St->Prop):Prop :=
 match q with
 |false=>aI P o σ K
 |true =>
  match o.op with
  |.call { callee:=.value f,args,.. } =>
   match ev σ f with
   |.fn g bC=>AI P g (args.toList.map (ev σ)++bC) o.dst K σ
   |_=>False
  |.load t a=>pU P t o.dst K σ (ev σ a)
  |_=>False
def Nn{o:Oper}{σ:St}{K:St->Prop}{t:TypeId}{a:Operand}(dI:o.op=.load t a)(h:pU P t o.dst K σ (ev σ a)):aI P o σ K:=by
 unfold aI;simp only[dI];unfold bh;simp only[dI];unfold pU at h;split at h
 ·rename_i cells he;simp only[he];exact h
 ·exact h.elim
def Gy{t:TypeId}{dst:Option Tmp}{K:St->Prop}{σ:St}{v:AV}(h:pU P t dst K σ v):∃x,K (σ.put dst x)/\∀ (σ2:St) (K2:St->Prop),K2 (σ2.put dst x)->pU P t dst K2 σ2 v:=by
 unfold pU at h;split at h
 ·rename_i cells;obtain⟨h1,h2⟩:=h;unfold h9 at h2;split at h2
  ·rename_i ha;refine⟨_,h2.2,λσ2 K2 hK=>?_⟩;unfold pU h9;simp only;rw[if_pos ha];exact⟨h1,h2.1,hK⟩
  ·rename_i ha;split at h2
   ·rename_i x hx;refine⟨x,h2,λσ2 K2 hK=>?_⟩;unfold pU h9;simp only;rw[if_neg ha,hx];exact⟨h1,hK⟩
   ·exact h2.elim
 ·exact h.elim
def jT(q:Bool)(P:Program)(o:Oper)(K:St->Prop)(b want:Bool)(σ:St):Prop:=(b=want->jy q P o σ K)/\(b≠want->K (σ.put o.dst (.lit (.tuple #[]))))
def dm(P:Program)(ops:Array Oper)(q:Bool)(o:Oper)(K:St->Prop)(σ:St):Prop :=
 match o.guard with
 |none=>jy q P o σ K
 |some (j,want) =>
  match (ops[j]?).bind (·.dst) with
  |none=>False
  |some d =>
   match σ.env d with
   |.lit (.bool b)=>jT q P o K b want σ
   |.lit (.tuple vs)=>vs = #[]/\K (σ.put o.dst (.lit (.tuple #[])))
   |_=>False
def Gz{q:Bool}{o:Oper}{σ:St}{K:St->Prop}(h:jy q P o σ K):aI P o σ K:=by
 cases q with
 |false=>exact h
 |true =>
  unfold jy at h;simp only at h;unfold aI;split at h
  ·rename_i f args gM dI;simp only[dI];split at h
   ·rename_i g bC he;simp only[he];obtain⟨res,h1,h2,h3,h4⟩:=h;exact ba h1 h2 h3 h4
   ·exact h.elim
  ·rename_i t a dI;have:=Nn dI h;unfold aI at this;simpa only[dI] using this
  ·exact h.elim
def Np{N:Nat}{os:List Ob}{γ0:Cx}{ops:Array Oper}(hd:∀ o∈ops.toList,∀ d,o.dst=some d->d<N){q:Bool}{i:Nat}{o:Oper}(hi:ops[i]?=some o){σ:St}{K:St->Prop}(h:dm P ops q o K σ){a:Act}{w:World}(aT:dx N os γ0 σ a w){Q:Exit->Act->World->Prop}{next:Act->World->Prop}(hn:∀ σ' a' w',K σ'->dx N os γ0 σ' a' w'->next a' w'):wpOp P ops Q i next a w:=by
 have cO:o∈ops.toList:=eh (by simpa using hi);unfold wpOp;simp only[hi];unfold dm at h;cases hg:o.guard with
 |none =>
  simp only[hg]at h;have hw:Region.wanted o (yielded ops a.tmps)=true:=by simp[Region.wanted,hg]
  rw[if_pos hw];left;exact s6 (Gz h) aT (hd o cO) hn
 |some jw =>
  obtain⟨j,want⟩:=jw;simp only[hg]at h;cases dy:(ops[j]?).bind (·.dst) with
  |none=>simp[dy]at h
  |some d =>
   simp only[dy]at h;split at h
   ·rename_i b he;obtain⟨dR,ay,γ,rfl,ha,hs,hf⟩:=aT;have eH:=hs.ax d;rw[he,ha]at eH;have hv:=eH.bw;have hy:yielded ops a.tmps j=some b:=by
     unfold yielded;rw[dy];have:a.tmps[d]?=some (.bool b):=by
      rw[cT]at hv;cases hx:a.tmps[d]? with
      |none=>rw[hx]at hv;simp[Go.undef]at hv
      |some y=>rw[hx]at hv;simp at hv;rw[hv]
     simp[this]
    by_cases ew:b=want
    ·have hw:Region.wanted o (yielded ops a.tmps)=true:=by simp[Region.wanted,hg,hy,ew]
     rw[if_pos hw];left;exact s6 (Gz (h.1 ew)) ⟨dR,ay,γ,rfl,ha,hs,hf⟩ (hd o cO) hn
    ·have hw:Region.wanted o (yielded ops a.tmps)=false:=by simp[Region.wanted,hg,hy,ew]
     rw[if_neg (by rw[hw];simp)];refine hn _ _ _ (h.2 ew) ⟨by rw[put_defers];exact dR,by rw[k6];exact ay,{ γ with tmps:=(a.put o.dst Go.undef).tmps },rfl,rfl,ky hs ha (λd h=>by rw[ay];exact hd o cO d h) (.lit _),?_⟩;rw[kz];exact hf.put _
   ·rename_i vs he;obtain⟨dR,ay,γ,rfl,ha,hs,hf⟩:=aT;have eH:=hs.ax d;rw[he,ha]at eH;have hv:=eH.bw;have hy:yielded ops a.tmps j=none:=by
     unfold yielded;rw[dy];rw[cT]at hv;cases hx:a.tmps[d]? with
     |none=>simp[hx]
     |some y=>rw[hx]at hv;simp at hv;subst hv;simp[hx]
    have hw:Region.wanted o (yielded ops a.tmps)=false:=by simp[Region.wanted,hg,hy]
    rw[if_neg (by rw[hw];simp)];refine hn _ _ _ h.2 ⟨by rw[put_defers];exact dR,by rw[k6];exact ay,{ γ with tmps:=(a.put o.dst Go.undef).tmps },rfl,rfl,ky hs ha (λd h=>by rw[ay];exact hd o cO d h) (.lit _),?_⟩;rw[kz];exact hf.put _
   ·exact h.elim
def xW(c:Nat)(a:List Ob):gA c a a:=by
 unfold gA;split
 ·rfl
 ·split
  ·intro id _;rfl
  ·split
   ·exact⟨rfl,λid o o' h h'=>by rw[h]at h';simp at h';subst h';exact tc o⟩
   ·trivial
def cW.aa{σ σ2:St}(h:σ2.aa=σ.aa){kp:Nat->Prop}{c d:AV}(ha:cW σ kp c d):cW σ2 kp c d:=by
 induction ha with
 |lit x=>exact .lit x
 |tree s r=>exact .tree s r
 |nil sz=>exact .nil sz
 |ref id sz off len rows dJ g aS lO hl0 AQ cP b9 ih=>exact .ref id sz off len rows dJ g (by rw[h];exact aS) lO hl0 AQ cP ih
def bd.aa{σ σ2:St}(h:σ2.aa=σ.aa){kp:Nat->Prop}{ρ:Nat->Nat}{snap:Bool}{c d:AV}(ha:bd σ kp ρ snap c d):bd σ2 kp ρ snap c d:=by
 induction ha with
 |same v=>exact .same v
 |snap c d hs hf=>exact .snap c d hs (hf.aa h)
 |agg cs ds hl _ ih=>exact .agg cs ds hl ih
 |bA cs ds hl _ ih=>exact .bA cs ds hl ih
def fw(q:Bool)(o:Oper):Nat:=if q then 0 else cls o.op
def xX{ops:Array Oper}{o:Oper}{σ:St}{e2:Nat->AV}{os:List Ob}(h:∀ t∈o.looksAt ops,e2 t=σ.env t):∀ x∈o.op.operands.toList,ev ⟨e2,os⟩ x=ev σ x:=by
 intro x hx;cases x with
 |tmp t =>
  show e2 t=σ.env t;refine h t ?_;unfold Oper.looksAt;rw[bn];left;rw[List.mem_filterMap];exact⟨_,hx,rfl⟩
 |const v=>rfl
 |func f=>rfl
 |global g=>rfl
def Nq{σ:St}{v:AV}{K:FuncId->AV->Prop}{r:Option (FuncId×Option TypeId)}(h:jS P σ v K r):
  ∃ g x,K g x/\∀ (e2:Nat->AV) (K2:FuncId->AV->Prop),K2 g x->jS P ⟨e2,σ.aa⟩ v K2 r:=by
 match r,h with
 |none,h=>exact h.elim
 |some (g,none),h=>exact⟨g,v,h,λ_ _ h=>h⟩
 |some (g,some e),h =>
  unfold jS at h;obtain⟨hk,h⟩:=h;cases v with
  |ptr id rr c =>
   simp only at h;cases aM:rowOf σ id rr with
   |none=>simp[aM]at h
   |some row =>
    simp only[aM]at h;obtain⟨x,h1,h2⟩:=GA h;refine⟨g,x,h1,λe2 K2 hK=>?_⟩;unfold jS;have:rowOf ⟨e2,σ.aa⟩ id rr=some row:=aM;simp only[this];exact⟨hk,h2 _ hK⟩
  |_=>exact h.elim
def Nr{o:Oper}{σ:St}{K:St->Prop}(hW:aI P o σ K):
  ∃ v os,gA (cls o.op) σ.aa os/\K ((⟨σ.env,os⟩:St).put o.dst v)/\∀ (e2:Nat->AV) (K2:St->Prop),(∀ x∈o.op.operands.toList,ev ⟨e2,σ.aa⟩ x=ev σ x)->K2 ((⟨e2,os⟩:St).put o.dst v)->aI P o ⟨e2,σ.aa⟩ K2:=by
 unfold aI at hW ⊢;split at hW
 ·rename_i f args gM dI;simp only[dI];split at hW
  ·rename_i g bC he;obtain⟨ab,snap,cE,aV,res,bD,h1,⟨h2,h3,h4,h5,h6,h7⟩,h8⟩:=hW;refine⟨_,_,(by simp[gA,cls]),h8,λe2 K2 hx hK=>?_⟩;have e1:ev ⟨e2,σ.aa⟩ f=.fn g bC:=by rw[<- he];exact hx f (by simp[Op.operands,Call.operands])
   have e3:args.toList.map (ev ⟨e2,σ.aa⟩)=args.toList.map (ev σ):=oo λy hy=>hx y (by simp only[Op.operands,Call.operands,w9,bn];exact .inr hy);simp only[e1,e3];exact⟨ab,snap,cE,aV,res,bD,h1,⟨h2,h3,h4,h5,λj c d hc hd=>bd.aa (σ:=σ) (σ2:=⟨e2,σ.aa⟩) rfl (h6 j c d hc hd),h7⟩,hK⟩
  ·exact hW.elim
 ·rename_i r m args gM dI;simp only[dI];split at hW
  ·rename_i t v he;obtain⟨g,x,⟨ab,snap,cE,aV,res,bD,h1,⟨h2,h3,h4,h5,h6,h7⟩,h8⟩,Ns⟩:=Nq hW;refine⟨_,_,(by simp[gA,cls]),h8,λe2 K2 hx hK=>?_⟩;have e1:ev ⟨e2,σ.aa⟩ r=.dW t v:=by rw[<- he];exact hx r (by simp[Op.operands,Call.operands])
   have e3:args.toList.map (ev ⟨e2,σ.aa⟩)=args.toList.map (ev σ):=oo λy hy=>hx y (by simp only[Op.operands,Call.operands,w9,bn];exact .inr hy);simp only[e1,e3];exact Ns e2 _ ⟨ab,snap,cE,aV,res,bD,h1,⟨h2,h3,h4,h5,λj c d hc hd=>bd.aa (σ:=σ) (σ2:=⟨e2,σ.aa⟩) rfl (h6 j c d hc hd),h7⟩,hK⟩
  ·exact hW.elim
 ·rename_i bx;obtain⟨v,os,h1,h2,h3⟩:=Nt hW;refine⟨v,os,h1,h2,λe2 K2 hx hK=>?_⟩;have:=h3 e2 K2 hx hK;exact this
def Nu{o:Oper}{σ:St}{K:St->Prop}(hc:cls o.op<=2)(hW:aI P o σ K):
  ∃ v,K (σ.put o.dst v)/\∀ (σ2:St) (K2:St->Prop),(∀ x∈o.op.operands.toList,ev σ2 x=ev σ x)->(∀ (id:Nat),iV (cls o.op) σ.aa[id]? σ2.aa[id]?)->K2 (σ2.put o.dst v)->aI P o σ2 K2:=by
 unfold aI at hW ⊢;split at hW
 ·rename_i f args gM dI;rw[dI]at hc;simp[cls]at hc
 ·rename_i r m args gM dI;rw[dI]at hc;simp[cls]at hc
 ·rename_i bx;obtain⟨v,h2,h3⟩:=Nv hc hW;refine⟨v,h2,λσ2 K2 hx ho hK=>?_⟩;exact h3 σ2 K2 hx (λx _ id _=>ho id) hK
def GB{q:Bool}{o:Oper}{σ:St}{K:St->Prop}(hW:jy q P o σ K):
  ∃ v os,gA (fw q o) σ.aa os/\K ((⟨σ.env,os⟩:St).put o.dst v)/\∀ (e2:Nat->AV) (K2:St->Prop),(∀ x∈o.op.operands.toList,ev ⟨e2,σ.aa⟩ x=ev σ x)->K2 ((⟨e2,os⟩:St).put o.dst v)->jy q P o ⟨e2,σ.aa⟩ K2:=by
 cases q with
 |false=>exact Nr hW
 |true =>
  unfold jy at hW ⊢;simp only at hW ⊢;split at hW
  ·rename_i f args gM dI;simp only[dI];split at hW
   ·rename_i g bC he;obtain⟨res,h1,h2,h3,h4⟩:=hW;refine⟨res,σ.aa,xW _ _,h4,λe2 K2 hx hK=>?_⟩;have e1:ev ⟨e2,σ.aa⟩ f=.fn g bC:=by rw[<- he];exact hx f (by simp[Op.operands,Call.operands])
    have e3:args.toList.map (ev ⟨e2,σ.aa⟩)=args.toList.map (ev σ):=oo λy hy=>hx y (by simp only[Op.operands,Call.operands,w9,bn];exact .inr hy);simp only[e1,e3];exact⟨res,h1,h2,h3,hK⟩
   ·exact hW.elim
  ·rename_i t a dI;obtain⟨x,h1,h2⟩:=Gy hW;refine⟨x,σ.aa,xW _ _,h1,λe2 K2 hx hK=>?_⟩;rw[hx a (by simp[dI,Op.operands])];exact h2 _ K2 hK
  ·exact hW.elim
def GC{q:Bool}{o:Oper}{σ:St}{K:St->Prop}(hc:fw q o<=2)(hW:jy q P o σ K):
  ∃ v,K (σ.put o.dst v)/\∀ (σ2:St) (K2:St->Prop),(∀ x∈o.op.operands.toList,ev σ2 x=ev σ x)->(∀ (id:Nat),iV (fw q o) σ.aa[id]? σ2.aa[id]?)->K2 (σ2.put o.dst v)->jy q P o σ2 K2:=by
 cases q with
 |false=>exact Nu hc hW
 |true =>
  unfold jy at hW ⊢;simp only at hW ⊢;split at hW
  ·rename_i f args gM dI;simp only[dI];split at hW
   ·rename_i g bC he;obtain⟨res,h1,h2,h3,h4⟩:=hW;refine⟨res,h4,λσ2 K2 hx _ hK=>?_⟩;have e1:ev σ2 f=.fn g bC:=by rw[<- he];exact hx f (by simp[Op.operands,Call.operands])
    have e3:args.toList.map (ev σ2)=args.toList.map (ev σ):=oo λy hy=>hx y (by simp only[Op.operands,Call.operands,w9,bn];exact .inr hy);simp only[e1,e3];exact⟨res,h1,h2,h3,hK⟩
   ·exact hW.elim
  ·rename_i t a dI;obtain⟨x,h1,h2⟩:=Gy hW;refine⟨x,h1,λσ2 K2 hx _ hK=>?_⟩;rw[hx a (by simp[dI,Op.operands])];exact h2 _ K2 hK
  ·exact hW.elim
def td{ops:Array Oper}{o:Oper}{j d:Nat}{want:Bool}(hg:o.guard=some (j,want))(hd:(ops[j]?).bind (·.dst)=some d):d∈o.looksAt ops:=by
 unfold Oper.looksAt;rw[bn];right;simp[hg,hd]
def xY{ops:Array Oper}{q:Bool}{o:Oper}{σ:St}{K:St->Prop}(hW:dm P ops q o K σ):
  ∃ v os,gA (fw q o) σ.aa os/\K ((⟨σ.env,os⟩:St).put o.dst v)/\∀ (e2:Nat->AV) (K2:St->Prop),(∀ t∈o.looksAt ops,e2 t=σ.env t)->K2 ((⟨e2,os⟩:St).put o.dst v)->dm P ops q o K2 ⟨e2,σ.aa⟩:=by
 unfold dm at hW ⊢;cases hg:o.guard with
 |none =>
  simp only[hg]at hW;obtain⟨v,os,h1,h2,h3⟩:=GB hW;exact⟨v,os,h1,h2,λe2 K2 hl hK=>h3 e2 K2 (xX hl) hK⟩
 |some jw =>
  obtain⟨j,want⟩:=jw;simp only[hg]at hW;cases dy:(ops[j]?).bind (·.dst) with
  |none=>simp[dy]at hW
  |some d =>
   simp only[dy]at hW;split at hW
   ·rename_i b he;by_cases ew:b=want
    ·obtain⟨v,os,h1,h2,h3⟩:=GB (hW.1 ew);refine⟨v,os,h1,h2,λe2 K2 hl hK=>?_⟩;have:e2 d=.lit (.bool b):=by rw[hl d (td hg dy)];exact he
     simp only[dy,this];exact⟨λ_=>h3 e2 K2 (xX hl) hK,λhn=>absurd ew hn⟩
    ·refine⟨.lit (.tuple #[]),σ.aa,xW _ _,hW.2 ew,λe2 K2 hl hK=>?_⟩;have:e2 d=.lit (.bool b):=by rw[hl d (td hg dy)];exact he
     simp only[dy,this];exact⟨λhn=>absurd hn ew,λ_=>hK⟩
   ·rename_i vs he;refine⟨.lit (.tuple #[]),σ.aa,xW _ _,hW.2,λe2 K2 hl hK=>?_⟩;have:e2 d=.lit (.tuple vs):=by rw[hl d (td hg dy)];exact he
    simp only[dy,this];exact⟨hW.1,hK⟩
   ·exact hW.elim
def GD{ops:Array Oper}{q:Bool}{o:Oper}{σ:St}{K:St->Prop}(hc:fw q o<=2)(hW:dm P ops q o K σ):
  ∃ v,K (σ.put o.dst v)/\∀ (σ2:St) (K2:St->Prop),(∀ t∈o.looksAt ops,σ2.env t=σ.env t)->(∀ (id:Nat),iV (fw q o) σ.aa[id]? σ2.aa[id]?)->K2 (σ2.put o.dst v)->dm P ops q o K2 σ2:=by
 unfold dm at hW ⊢;cases hg:o.guard with
 |none =>
  simp only[hg]at hW;obtain⟨v,h2,h3⟩:=GC hc hW;exact⟨v,h2,λσ2 K2 hl ho hK=>h3 σ2 K2 (xX (e2:=σ2.env) (os:=σ2.aa) hl) ho hK⟩
 |some jw =>
  obtain⟨j,want⟩:=jw;simp only[hg]at hW;cases dy:(ops[j]?).bind (·.dst) with
  |none=>simp[dy]at hW
  |some d =>
   simp only[dy]at hW;split at hW
   ·rename_i b he;by_cases ew:b=want
    ·obtain⟨v,h2,h3⟩:=GC hc (hW.1 ew);refine⟨v,h2,λσ2 K2 hl ho hK=>?_⟩;have:σ2.env d=.lit (.bool b):=by rw[hl d (td hg dy)];exact he
     simp only[dy,this];exact⟨λ_=>h3 σ2 K2 (xX (e2:=σ2.env) (os:=σ2.aa) hl) ho hK,λhn=>absurd ew hn⟩
    ·refine⟨.lit (.tuple #[]),hW.2 ew,λσ2 K2 hl ho hK=>?_⟩;have:σ2.env d=.lit (.bool b):=by rw[hl d (td hg dy)];exact he
     simp only[dy,this];exact⟨λhn=>absurd hn ew,λ_=>hK⟩
   ·rename_i vs he;refine⟨.lit (.tuple #[]),hW.2,λσ2 K2 hl ho hK=>?_⟩;have:σ2.env d=.lit (.tuple vs):=by rw[hl d (td hg dy)];exact he
    simp only[dy,this];exact⟨hW.1,hK⟩
   ·exact hW.elim
def xZ{σ:St}{dst:Option Tmp}{v:AV}{t:Nat}(h:∀ d,dst=some d->d≠t):(σ.put dst v).env t=σ.env t:=by
 cases dst with
 |none=>rfl
 |some d =>
  have:=h d rfl;simp[St.put,fc,Ne.symm this]
def GF{σ:St}{x y:Option Tmp}{v u:AV}(h:∀ d,x=some d->y≠some d):(σ.put x v).put y u=(σ.put y u).put x v:=by
 cases x with
 |none=>rfl
 |some d =>
  cases y with
  |none=>rfl
  |some d' =>
   have bx:d'≠d:=λe=>h d rfl (by rw[e]);simp only[St.put];congr 1;funext k;simp only[fc];split<;>split<;>simp_all
def GG{σ:St}{x:Option Tmp}{v:AV}:(σ.put x v).aa=σ.aa:=by cases x<;>rfl
def Nw{σ:St}{x:Option Tmp}{v:AV}:σ.put x v=⟨(σ.put x v).env,σ.aa⟩:=by cases x<;>rfl
def GH{σ:St}{os:List Ob}{x:Option Tmp}{v:AV}:(⟨(σ.put x v).env,os⟩:St)=(⟨σ.env,os⟩:St).put x v:=by cases x<;>rfl
def x1(ci ck:Nat):Bool:=ci==0||ck==0||(ci==1&&decide (ck<=4))||(ci==2&&decide (ck<=3))
def Nx{ci ck:Nat}(h:(ci==0||(ci==1&&decide (ck<=4))||(ci==2&&decide (ck<=3)))=true){a b:List Ob}(he:gA ck a b)(id:Nat):iV ci a[id]? b[id]?:=by
 simp only[jn,bb,beq_iff_eq,decide_eq_true_eq]at h;rcases h with(rfl|⟨rfl,hk⟩)|⟨rfl,hk⟩
 ·simp[iV]
 ·unfold gA at he;have:∀ o,a[id]?=some o->∃ o',b[id]?=some o'/\mE o o':=by
   intro o ho;have aZ:=(aF.1 ho).1;split at he
   ·subst he;exact⟨o,ho,tc o⟩
   ·split at he
    ·exact⟨o,by rw[he id aZ];exact ho,tc o⟩
    ·split at he
     ·have hb:id<b.length:=z8;exact⟨b[id],by simp[hb],he.2 id o _ ho (by simp[hb])⟩
     ·omega
  simpa [iV] using this
 ·unfold gA at he;have:∀ o,a[id]?=some o->b[id]?=some o:=by
   intro o ho;have aZ:=(aF.1 ho).1;split at he
   ·subst he;exact ho
   ·split at he
    ·rw[he id aZ];exact ho
    ·omega
  simpa [iV] using this
def Ny{ops:Array Oper}{qi qk:Bool}{oi ok:Oper}(ha:oi.apart ops ok=true)(hi:fw qi oi<=2)(hc:(fw qi oi==0||(fw qi oi==1&&decide (fw qk ok<=4))||(fw qi oi==2&&decide (fw qk ok<=3)))=true){σ:St}{K:St->Prop}(h:dm P ops qi oi (dm P ops qk ok K) σ):dm P ops qk ok (dm P ops qi oi K) σ:=by
 obtain⟨a1,a2,a3⟩:=Oper.apart_spec ha;obtain⟨v,h1,run⟩:=GD hi h;obtain⟨vk,os,AR,h2,GJ⟩:=xY h1;rw[GG]at AR GJ;refine GJ σ.env _ (λt ht=>(xZ λd hd e=>a1 d hd (e▸ht)).symm) ?_;refine run _ _ (λt ht=>?_) (λid=>?_) ?_
 ·rw[xZ λd hd e=>a3 d hd (e▸ht)]
 ·rw[GG];exact Nx hc AR id
 ·rw[GH]at h2;rw[GF (λd hd e=>a2 d e hd)];exact h2
def Nz{ops:Array Oper}{qi qk:Bool}{oi ok:Oper}(ha:oi.apart ops ok=true)(hk:fw qk ok=0){σ:St}{K:St->Prop}(h:dm P ops qi oi (dm P ops qk ok K) σ):dm P ops qk ok (dm P ops qi oi K) σ:=by
 obtain⟨a1,a2,a3⟩:=Oper.apart_spec ha;obtain⟨vi,os,AR,h1,run⟩:=xY h;obtain⟨vk,h2,NA⟩:=GD z8 h1;refine NA σ _ (λt ht=>(xZ (σ:=⟨σ.env,os⟩) λd hd e=>a1 d hd (e▸ht)).symm) (λid=>by rw[hk];simp[iV]) ?_;rw[Nw];refine run _ _ (λt ht=>xZ λd hd e=>a3 d hd (e▸ht)) ?_;rw[GH,GF (λd hd e=>a2 d e hd)];exact h2
def NC{ops:Array Oper}{qi qk:Bool}{oi ok:Oper}(ha:oi.apart ops ok=true)(hc:x1 (fw qi oi) (fw qk ok)=true){σ:St}{K:St->Prop}(h:dm P ops qi oi (dm P ops qk ok K) σ):dm P ops qk ok (dm P ops qi oi K) σ:=by
 by_cases hk:fw qk ok=0
 ·exact Nz ha hk h
 ·have rl:(fw qi oi==0||(fw qi oi==1&&decide (fw qk ok<=4))||(fw qi oi==2&&decide (fw qk ok<=3)))=true:=by
   simp only[x1,jn,bb,beq_iff_eq,decide_eq_true_eq]at hc ⊢;rcases hc with((h|h)|h)|h
   ·exact .inl (.inl h)
   ·exact absurd h hk
   ·exact .inl (.inr h)
   ·exact .inr h
  refine Ny ha ?_ rl h;simp only[jn,bb,beq_iff_eq,decide_eq_true_eq]at rl;omega
end Go.Am
namespace Go.Am
variable {P:Program} {N n0:Nat} {σ:St}
def dS(P:Program)(ops:Array Oper)(qs:List Nat)(i:Nat)(K:St->Prop)(σ:St):Prop :=
 match ops[i]? with
 |none=>K σ
 |some o=>dm P ops (qs.contains i) o K σ
def ny(P:Program)(ops:Array Oper)(qs:List Nat)(K:St->Prop):Nat->Array Bool->St->Prop
 |0,listed,σ=>Region.ready .any ops listed=[]/\K σ
 |n+1,listed,σ=>(Region.ready .any ops listed=[]->K σ)/\∀ i∈Region.ready .any ops listed,dS P ops qs i (ny P ops qs K n (listed.setIfInBounds i true)) σ
def uQ{ops:Array Oper}{q:Bool}{o:Oper}{σ:St}{K K2:St->Prop}(hk:∀ s,K s->K2 s)(h:dm P ops q o K σ):dm P ops q o K2 σ:=by
 obtain⟨v,os,_,h2,run⟩:=xY h;exact run σ.env K2 (λ_ _=>rfl) (hk _ h2)
def ND{ops:Array Oper}{q:Bool}{o:Oper}{σ:St}{K:St->Prop}(h:dm P ops q o K σ):∃s,K s:=by
 obtain⟨v,os,_,h2,run⟩:=xY h;exact⟨_,h2⟩
def pV{ops:Array Oper}{qs:List Nat}{i:Nat}{σ:St}{K K2:St->Prop}(hk:∀ s,K s->K2 s)(h:dS P ops qs i K σ):dS P ops qs i K2 σ:=by
 unfold dS at h ⊢;split at h
 ·exact hk _ h
 ·exact uQ hk h
def NF{ops:Array Oper}{qs:List Nat}{i:Nat}{σ:St}{K:St->Prop}(h:dS P ops qs i K σ):∃s,K s:=by
 unfold dS at h;split at h
 ·exact⟨_,h⟩
 ·exact ND h
def AS{os:List Ob}{γ0:Cx}{ops:Array Oper}{qs:List Nat}(hd:∀ o∈ops.toList,∀ d,o.dst=some d->d<N){K:St->Prop}{Q:Exit->Act->World->Prop}(hQ:∀ σ' a' w',K σ'->dx N os γ0 σ' a' w'->Q .normal a' w'):∀ (n:Nat) (listed:Array Bool) (σ:St) (a:Act) (w:World),ny P ops qs K n listed σ->dx N os γ0 σ a w->wpAny P .any ops Q n listed a w
 |0,listed,σ,a,w,h,aT=>⟨h.1,hQ _ _ _ h.2 aT⟩
 |n+1,listed,σ,a,w,h,aT=>by
  refine⟨λhr=>hQ _ _ _ (h.1 hr) aT,λi hi=>?_⟩;have:=h.2 i hi;unfold dS at this;split at this
  ·rename_i hi';unfold wpOp;simp only[hi'];exact AS hd hQ n _ _ _ _ this aT
  ·rename_i o hi';exact Np hd hi' this aT λσ' a' w' hK cK=>AS hd hQ n _ _ _ _ hK cK
def NG{id:Nat}{ops:Array Oper}{Q:Exit->St->Prop}(qs:List Nat)(hm:P.follows .mixedOrders=true)(hd:dQ N ops=true)(h:ny P ops qs (Q .normal) ops.size (ux ops.size false) σ):W P N n0 (.region id ops true) Q σ:=by
 intro os γ0 a w _ aT;refine wp_region_any hm ?_;exact AS (jt hd) (K:=Q .normal) (λσ' a' w' hK cK=>⟨σ',hK,cK⟩) _ _ _ _ _ h aT.drawn
def NH{ops:Array Oper}{qs:List Nat}{K:St->Prop}{i:Nat}{o:Oper}(hi:ops[i]?=some o)(D:List Nat)(TY:i∈D)(hD:∀ j∈D,j=i\/∃ oj,ops[j]?=some oj/\∃ e∈oj.after,Region.binds .any e=true/\e.on∈D):∀ (fuel:Nat) (listed:Array Bool) (σ:St),(∀ j∈D,listed.getD j true=false) ->
   i∈Region.ready .any ops listed ->
   (∀ j oj,ops[j]?=some oj->listed.getD j true=false->j ∉ D->o.apart ops oj=true/\x1 (fw (qs.contains i) o) (fw (qs.contains j) oj)=true) ->
   dS P ops qs i (ny P ops qs K fuel (listed.setIfInBounds i true)) σ->ny P ops qs K (fuel+1) listed σ:=by
 intro fuel
 induction fuel with
 |zero =>
  intro listed σ hu hr rm h;refine⟨λe=>by rw[e]at hr;simp at hr,λk hk=>?_⟩;by_cases fe:k=i
  ·subst fe;exact h
  ·obtain⟨s,hs⟩:=NF h;have:=ready_mono hk fe;rw[hs.1]at this;simp at this
 |succ m ih =>
  intro listed σ hu hr rm h;refine⟨λe=>by rw[e]at hr;simp at hr,λk hk=>?_⟩;by_cases fe:k=i
  ·subst fe;exact h
  ·have ik:=mem_ready.1 hk;obtain⟨im,ok,aT,bU⟩:=ik;have x2:k ∉ D:=by
    intro x2;rcases hD k x2 with e|⟨oj,nA,e,he,hb,pW⟩
    ·exact fe e
    ·rw[aT]at nA;simp only[cB.injEq]at nA;subst nA;have h1:=bU e he hb;have h2:=hu e.on pW;rw[cT]at h1 h2;cases hx:listed[e.on]? with
     |none=>rw[hx]at h1;simp at h1
     |some b=>rw[hx]at h1 h2;simp at h1 h2;rw[h1]at h2;simp at h2
   obtain⟨ha,hc⟩:=rm k ok aT im x2;have h1:dS P ops qs i (dS P ops qs k (ny P ops qs K m ((listed.setIfInBounds i true).setIfInBounds k true))) σ :=
    pV (λs hs=>hs.2 k (ready_mono hk fe)) h
   have h2:dS P ops qs k (dS P ops qs i (ny P ops qs K m ((listed.setIfInBounds i true).setIfInBounds k true))) σ:=by
    unfold dS at h1 ⊢;simp only[hi,aT]at h1 ⊢;exact NC ha hc h1
   refine pV (λs hs=>?_) h2;refine ih (listed.setIfInBounds k true) s (λj hj=>?_) (ready_mono hr (Ne.symm fe)) (λj oj nA hl AT=>?_) ?_
   ·have bx:k≠j:=λe=>x2 (by rw[e];exact hj);rw[getD_set_ne _ bx];exact hu j hj
   ·refine rm j oj nA ?_ AT;by_cases uU:k=j
    ·subst uU;exact im
    ·rwa [getD_set_ne _ uU]at hl
   ·rw[Array.setIfInBounds_comm _ _ (Ne.symm fe)]at hs;exact hs
def E8(ops:Array Oper)(i:Nat):List Nat :=
 (bj ops.size).foldl (λD j=>if j==i||(match ops[j]? with|some oj=>oj.after.any (λe=>Region.binds .any e&&D.contains e.on)|none=>false) then D++[j] else D) []
def xD(ops:Array Oper)(qs:List Nat)(listed:Array Bool)(i:Nat)(D:List Nat):Bool :=
 match ops[i]? with
 |none=>false
 |some o =>
  D.contains i&&D.all (λj=>j==i||match ops[j]? with|some oj=>oj.after.any (λe=>Region.binds .any e&&D.contains e.on)|none=>false) &&
  D.all (λj=>!listed.getD j true)&&o.after.all (λe=>!Region.binds .any e||listed.getD e.on false) &&
  (bj ops.size).all λj=>D.contains j||listed.getD j true||match ops[j]? with|some oj=>o.apart ops oj&&x1 (fw (qs.contains i) o) (fw (qs.contains j) oj)|none=>true
def NI{ops:Array Oper}{qs:List Nat}{K:St->Prop}{i:Nat}{D:List Nat}{fuel:Nat}{listed:Array Bool}(h:xD ops qs listed i D=true)(hs:dS P ops qs i (ny P ops qs K fuel (listed.setIfInBounds i true)) σ):ny P ops qs K (fuel+1) listed σ:=by
 unfold xD at h;cases hi:ops[i]? with
 |none=>simp[hi]at h
 |some o =>
  simp only[hi,bb,List.all_eq_true,oh,jn,beq_iff_eq,Bool.not_eq_true']at h;obtain⟨⟨⟨⟨h1,h2⟩,h3⟩,h4⟩,h5⟩:=h;refine NH hi D h1 (λj hj=>?_) fuel listed σ h3 ?_ ?_ hs
  ·rcases h2 j hj with h|h
   ·exact .inl h
   ·right;split at h
    ·rename_i oj nA;rw[Array.any_eq_true']at h;obtain⟨e,he,hb⟩:=h;simp only[bb,oh]at hb;exact⟨oj,nA,e,he,hb.1,hb.2⟩
    ·simp at h
  ·rw[mem_ready];refine⟨h3 i h1,o,hi,λe he hb=>?_⟩;rw[Array.all_eq_true']at h4;have:=h4 e he;simpa [hb] using this
  ·intro j oj nA hl AT;have hj:j<ops.size:=(Array.getElem?_eq_some_iff.1 nA).1;rcases h5 j (List.mem_range.2 hj) with(h|h)|h
   ·exact absurd h AT
   ·rw[hl]at h;simp at h
   ·simpa [nA] using h
inductive PT where
 |nil
 |take (i:Nat) (t:PT)
 |both (i:Nat) (t:PT) (j:Nat) (u:PT)
 |three (i:Nat) (t:PT) (j:Nat) (u:PT) (k:Nat) (v:PT)
def PT.ok(ops:Array Oper)(qs:List Nat):PT->Nat->Array Bool->Bool
 |.nil,n,listed=>n==0&&(Region.ready .any ops listed).isEmpty
 |.take _ _,0,_=>false
 |.take i t,n+1,listed=>xD ops qs listed i (E8 ops i)&&t.ok ops qs n (listed.setIfInBounds i true)
 |.both _ _ _ _,0,_=>false
 |.both i t j u,n+1,listed=>(Region.ready .any ops listed==[i,j])&&t.ok ops qs n (listed.setIfInBounds i true)&&u.ok ops qs n (listed.setIfInBounds j true)
 |.three _ _ _ _ _ _,0,_=>false
 |.three i t j u k v,n+1,listed=>(Region.ready .any ops listed==[i,j,k])&&t.ok ops qs n (listed.setIfInBounds i true)&&u.ok ops qs n (listed.setIfInBounds j true)&&v.ok ops qs n (listed.setIfInBounds k true)
def e9(P:Program)(ops:Array Oper)(qs:List Nat):PT->(St->Prop)->St->Prop
 |.nil,K,σ=>K σ
 |.take i t,K,σ=>dS P ops qs i (e9 P ops qs t K) σ
 |.both i t j u,K,σ=>dS P ops qs i (e9 P ops qs t K) σ/\dS P ops qs j (e9 P ops qs u K) σ
 |.three i t j u k v,K,σ=>dS P ops qs i (e9 P ops qs t K) σ/\dS P ops qs j (e9 P ops qs u K) σ/\dS P ops qs k (e9 P ops qs v K) σ
def rn{ops:Array Oper}{qs:List Nat}{K:St->Prop}:∀ (t:PT) (n:Nat) (listed:Array Bool) (σ:St),t.ok ops qs n listed=true->e9 P ops qs t K σ->ny P ops qs K n listed σ
 |.nil,n,listed,σ,h,hp=>by
  simp only[PT.ok,bb,beq_iff_eq,List.isEmpty_iff]at h;obtain⟨rfl,h⟩:=h;exact⟨h,hp⟩
 |.take _ _,0,_,_,h,_=>by simp[PT.ok]at h
 |.take i t,n+1,listed,σ,h,hp=>by
  simp only[PT.ok,bb]at h;exact NI h.1 (pV (λs hs=>rn t n _ s h.2 hs) hp)
 |.both _ _ _ _,0,_,_,h,_=>by simp[PT.ok]at h
 |.both i t j u,n+1,listed,σ,h,hp=>by
  simp only[PT.ok,bb,beq_iff_eq]at h;obtain⟨⟨h1,h2⟩,h3⟩:=h;refine⟨λe=>by rw[h1]at e;simp at e,λk hk=>?_⟩;rw[h1]at hk;simp only[cI,qO,or_false]at hk;rcases hk with rfl|rfl
  ·exact pV (λs hs=>rn t n _ s h2 hs) hp.1
  ·exact pV (λs hs=>rn u n _ s h3 hs) hp.2
 |.three _ _ _ _ _ _,0,_,_,h,_=>by simp[PT.ok]at h
 |.three i t j u k v,n+1,listed,σ,h,hp=>by
  simp only[PT.ok,bb,beq_iff_eq]at h;obtain⟨⟨⟨h1,h2⟩,h3⟩,h4⟩:=h;refine⟨λe=>by rw[h1]at e;simp at e,λx hk=>?_⟩;rw[h1]at hk;simp only[cI,qO,or_false]at hk;rcases hk with rfl|rfl|rfl
  ·exact pV (λs hs=>rn t n _ s h2 hs) hp.1
  ·exact pV (λs hs=>rn u n _ s h3 hs) hp.2.1
  ·exact pV (λs hs=>rn v n _ s h4 hs) hp.2.2
def nq{id:Nat}{ops:Array Oper}{Q:Exit->St->Prop}(qs:List Nat)(t:PT)(hm:P.follows .mixedOrders=true)(hd:dQ N ops=true)(ht:t.ok ops qs ops.size (ux ops.size false)=true)(h:e9 P ops qs t (Q .normal) σ):W P N n0 (.region id ops true) Q σ :=
 NG qs hm hd (rn t _ _ σ ht h)
def Fc{id:Nat}{ops:Array Oper}{y:Code}{Q:Exit->St->Prop}(qs:List Nat)(t:PT)(hm:P.follows .mixedOrders=true)(hd:dQ N ops=true)(ht:t.ok ops qs ops.size (ux ops.size false)=true)(h:∀ K:St->Prop,(∀ s,W P N n0 y Q s->K s)->e9 P ops qs t K σ):W P N n0 (.seq (.region id ops true) y) Q σ :=
 xM (nq qs t hm hd ht (h _ (λ_ h=>h)))
def xS{ops:Array Oper}{qs:List Nat}{K:St->Prop}:e9 P ops qs .nil K σ=K σ:=rfl
def xR{ops:Array Oper}{qs:List Nat}{i:Nat}{t:PT}{K:St->Prop}:e9 P ops qs (.take i t) K σ=dS P ops qs i (e9 P ops qs t K) σ:=rfl
def GK{ops:Array Oper}{qs:List Nat}{i j k:Nat}{t u v:PT}{K:St->Prop}:e9 P ops qs (.three i t j u k v) K σ=(dS P ops qs i (e9 P ops qs t K) σ/\dS P ops qs j (e9 P ops qs u K) σ/\dS P ops qs k (e9 P ops qs v K) σ):=rfl
def GL{ops:Array Oper}{qs:List Nat}{i j:Nat}{t u:PT}{K:St->Prop}:e9 P ops qs (.both i t j u) K σ=(dS P ops qs i (e9 P ops qs t K) σ/\dS P ops qs j (e9 P ops qs u K) σ):=rfl
def Ge{q:Bool}{o:Oper}{K:St->Prop}:jT q P o K true true σ=jy q P o σ K:=by simp[jT]
def Gi{q:Bool}{o:Oper}{K:St->Prop}:jT q P o K false false σ=jy q P o σ K:=by simp[jT]
def Gf{q:Bool}{o:Oper}{K:St->Prop}:jT q P o K true false σ=K (σ.put o.dst (.lit (.tuple #[]))):=by simp[jT]
def Gg{q:Bool}{o:Oper}{K:St->Prop}:jT q P o K false true σ=K (σ.put o.dst (.lit (.tuple #[]))):=by simp[jT]
def M4{q:Bool}{o:Oper}{K:St->Prop}{b want:Bool}(h1:b=true->jT q P o K true want σ)(h2:b=false->jT q P o K false want σ):jT q P o K b want σ:=by
 cases b
 ·exact h2 rfl
 ·exact h1 rfl
def jP:List Nat->PT
 |[]=>.nil
 |i::r=>.take i (jP r)
end Go.Am
namespace Go.Am
variable {P:Program} {N n0:Nat} {σ:St} {Q:Exit->St->Prop}
def ax:List (Nat×AV)->Nat->AV
 |[]=>λ_=>.undef
 |p::l=>fc (ax l) p.1 p.2
def xO(d:Nat)(v:AV)(l:List (Nat×AV)):ax ((d,v)::l)=fc (ax l) d v:=rfl
def x3(l:List (Nat×AV))(k:Nat):ax l k=.undef\/∃ p∈l,p.1=k/\ax l k=p.2:=by
 induction l with
 |nil=>exact .inl rfl
 |cons p l ih =>
  by_cases h:k=p.1
  ·right;exact⟨p,Eb,h.symm,by simp[ax,fc,h]⟩
  ·have e:ax (p::l) k=ax l k:=by simp[ax,fc,h]
   rw[e];rcases ih with h|⟨q,hq,h1,h2⟩
   ·exact .inl h
   ·exact .inr ⟨q,by simp[hq],h1,h2⟩
def Has(e:Nat->AV):List (Nat×AV)->Prop
 |[]=>True
 |p::l=>e p.1=p.2/\Has e l
def Has.mem{e:Nat->AV}:∀ {l:List (Nat×AV)},Has e l->∀ p∈l,e p.1=p.2
 |q::l,h,p,hp=>by
  rcases cI.1 hp with rfl|hp
  ·exact h.1
  ·exact Has.mem h.2 p hp
def aR.ax(l:List (Nat×AV))(os:List Ob)(ho:σ.aa=os)(h:Has σ.env l):aR n0 σ ⟨ax l,os⟩:=by
 subst ho;refine aR.forget λk=>?_;rcases x3 l k with h'|⟨p,hp,rfl,h'⟩
 ·exact .inl h'
 ·right;rw[h',h.mem p hp]
def jU(ρ:Nat->Nat)(os:List Ob):List Nat->List Ob->Prop
 |[],[]=>True
 |i::ab,o::co=>(i<os.length/\(o=.gone\/os[i]?=some (bf ρ o)))/\jU ρ os ab co
 |_,_=>False
def jU.spec{ρ:Nat->Nat}{os:List Ob}:∀ {ab:List Nat} {co:List Ob},jU ρ os ab co->co.length=ab.length/\(∀ (j:Nat) o,co[j]?=some o->o=.gone\/os[ab.getD j 0]?=some (bf ρ o))/\∀ i∈ab,i<os.length
 |[],[],_=>⟨rfl,Eb,Eb⟩
 |i::ab,o::co,h=>by
  obtain⟨⟨h1,h2⟩,h3⟩:=h;obtain⟨a,b,c⟩:=jU.spec h3;refine⟨by simp[a],λj o' hj=>?_,λx hx=>?_⟩
  ·cases j with
   |zero=>simp at hj;subst hj;simpa using h2
   |succ j=>simpa using b j o' (by simpa using hj)
  ·rcases cI.1 hx with rfl|hx
   ·exact h1
   ·exact c x hx
def lP(R:AV->AV->Prop)(e:Nat->AV):List (Nat×AV)->Prop
 |[]=>True
 |p::l=>R p.2 (e p.1)/\lP R e l
def lP.mem{R:AV->AV->Prop}{e:Nat->AV}:∀ {l:List (Nat×AV)},lP R e l->∀ p∈l,R p.2 (e p.1)
 |q::l,h,p,hp=>by
  rcases cI.1 hp with rfl|hp
  ·exact h.1
  ·exact lP.mem h.2 p hp
def kept(ab:List Nat)(co:List Ob)(id:Nat):Prop:=∃ j,j<ab.length/\ab.getD j 0=id/\co[j]?≠some .gone
def aR.ab(ab:List Nat)(snap:Bool)(l:List (Nat×AV))(co:List Ob)(cm:ab.Nodup)(ho:jU (a9 σ.aa.length ab) σ.aa ab co)(hn:n0<=ab.length)(bZ:∀ i,i<n0->ab.getD i 0=i)(h:lP (bd σ (kept ab co) (a9 σ.aa.length ab) snap) σ.env l):aR n0 σ ⟨Am.ax l,co⟩:=by
 obtain⟨h1,h2,h3⟩:=ho.spec;refine aR.select ab snap co _ cm h1 h2 h3 hn bZ λk=>?_;rcases x3 l k with h'|⟨p,hp,rfl,h'⟩
 ·exact .inl h'
 ·right;rw[h'];exact h.mem p hp
def bd.pure{kp:Nat->Prop}{ρ:Nat->Nat}{snap:Bool}{v:AV}(h:gK v=true):bd σ kp ρ snap v v:=by
 have:=bd.same (σ:=σ) (kp:=kp) (ρ:=ρ) (snap:=snap) v;rwa [te _ v h]at this
def bd.eq{kp:Nat->Prop}{ρ:Nat->Nat}{snap:Bool}{v u:AV}(h:u=aG ρ v):bd σ kp ρ snap v u:=by
 subst h;exact .same v
def cW.flat{kp:Nat->Prop}{id sz len:Nat}{rows:List (List AV)}(ho:σ.aa[id]?=some (.arr sz rows))(hw:∀ row∈rows,row.length=sz)(hl:len=rows.length)(lO:¬ kp id)(hf:∀ row∈rows,∀ v∈row,(∃ x,v=.lit x)\/∃ s r,v=.tree s r):
  cW σ kp (.tree sz rows) (.ref id sz 0 len):=by
 refine .ref id sz 0 len rows rows (λr c=>(cellAt rows r c).getD .undef) ho lO (by simp[hl]) hw (λr c v hv=>?_) (λr c v hv=>?_)
 ·simp[hl,hv]
 ·rw[hv,Option.getD_some];simp only[cellAt,Option.bind_eq_some_iff]at hv;obtain⟨row,h1,h2⟩:=hv;rcases hf row (eh h1) v (eh h2) with⟨x,rfl⟩|⟨s,r,rfl⟩
  ·exact .lit x
  ·exact .tree s r
def bd.nil{kp:Nat->Prop}{ρ:Nat->Nat}{sz:Nat}:bd σ kp ρ true (.tree sz []) (.lit (.slice none 0 0)):=.snap _ _ rfl (.nil sz)
def bd.bp{kp:Nat->Prop}{ρ:Nat->Nat}{id sz len:Nat}{rows:List (List AV)}(ho:σ.aa[id]?=some (.arr sz rows))(hw:∀ row∈rows,row.length=sz)(hl:len=rows.length)(lO:¬ kp id)(hf:∀ row∈rows,∀ v∈row,(∃ x,v=.lit x)\/∃ s r,v=.tree s r):
  bd σ kp ρ true (.tree sz rows) (.ref id sz 0 len):=.snap _ _ rfl (cW.flat ho hw hl lO hf)
def NJ{α:Type}(n0:Nat)(S:α->St)(I:α->Prop)(M:α->Nat)(x:α)(Q:Exit->St->Prop):Exit->St->Prop
 |.normal,s=>∃ y,I y/\M y<M x/\aR n0 s (S y)
 |e,s=>Q e s
def M1{α:Type}{c:Code}(S:α->St)(I:α->Prop)(M:α->Nat)(x0:α)(hI:I x0)(h0:aR n0 σ (S x0))(round:∀ x,I x->∀ Q':Exit->St->Prop,(∀ s y,I y->M y<M x->aR n0 s (S y)->Q' .normal s)->(∀ e s,e≠.normal->Q e s->Q' e s)->W P N n0 c Q' (S x)):W P N n0 (.loop c) Q σ:=by
 refine kB h0 ?_;intro os γ0 a w hn aT b k cs;have key:∀ n x a w,M x=n->I x->dx N os γ0 (S x) a w ->
   ∃ e a' w',(∃ σ',Q e σ'/\dx N os γ0 σ' a' w')/\Arrives P (lone (b.at a (.code c::.inLoop c::k)) cs w) b k cs e a' w':=by
  intro n
  induction n using Nat.strongRecOn with
  |_ n ih =>
   intro x a w hm hI aT;have hr:W P N n0 c (NJ n0 S I M x Q) (S x):=round x hI _ (λs y h1 h2 h3=>⟨y,h1,h2,h3⟩) (λe s he h=>by cases e<;>first|exact absurd rfl he|exact h);obtain⟨e,tg,uV,⟨σ',hq,cK⟩,nB⟩:=hr os γ0 a w hn aT b (.inLoop c::k) cs;cases e with
   |normal =>
    obtain⟨y,NK,aZ,ht⟩:=hq;obtain⟨h1,h2,γ,rfl,h3,h4,h5⟩:=cK;obtain⟨ak,e1,e2,e3,e4⟩:=ht os γ0 γ hn h4 h5;obtain⟨NL,NM,NN,NO,NP⟩:=ih (M y) z8 y tg γ.w rfl NK ⟨h1,h2,ak,e1,e2.trans h3,e3,e4⟩;exact⟨NL,NM,NN,NO,.of_steps (Steps.trans nB (.one step_inLoop)) NP⟩
   |exit id=>exact⟨_,tg,uV,⟨σ',hq,cK⟩,.pass (x:=.inLoop c) rfl (λ_ _=>.inl Eb) nB⟩
   |goto l=>exact⟨_,tg,uV,⟨σ',hq,cK⟩,.pass (x:=.inLoop c) rfl (λ_ _=>.inl Eb) nB⟩
   |ret=>exact⟨_,tg,uV,⟨σ',hq,cK⟩,.pass (x:=.inLoop c) rfl (λ_ _=>.inl Eb) nB⟩
   |panic ch=>exact⟨_,tg,uV,⟨σ',hq,cK⟩,.pass (x:=.inLoop c) rfl (λ_ _=>.inl Eb) nB⟩
   |outgrown=>exact⟨_,tg,uV,⟨σ',hq,cK⟩,.pass (x:=.inLoop c) rfl (λ_ _=>.inl Eb) nB⟩
 obtain⟨e,a',w',hq,nB⟩:=key _ x0 a w rfl hI aT;exact⟨e,a',w',hq,.of_steps (.one step_loop) nB⟩
def MZ{id:Nat}{c:Code}(h:∀ Q':Exit->St->Prop,(∀ s,Q .normal s->Q' .normal s)->(∀ s,Q .normal s->Q' (.exit id) s)->(∀ e s,e≠.normal->e≠.exit id->Q e s->Q' e s)->W P N n0 c Q' σ):W P N n0 (.block id c) Q σ :=
 NQ (h _ (λs h=>h) (λs h=>by simp only[x4,if_true];exact h) (λe s h1 h2 h=>by
  cases e<;>first
   |exact absurd rfl h1
   |exact h
   | (rename_i rp;simp only[x4];rw[if_neg (λe=>h2 (by rw[e]))];exact h)))
def xF{ρ:Nat->Nat}{sz:Nat}{rows:List (List AV)}(h:∀ row∈rows,iT row=true):bf ρ (.arr sz rows)=.arr sz rows:=by
 simp only[bf];congr 1;have:∀ row∈rows,row.map (aG ρ)=row:=λrow hr=>by
  have:=uW ρ row (h row hr);rwa [rq]at this
 rw[oo this];simp
def NR(n j:Nat):a9 n (bj n) j=j:=by
 unfold a9;split
 ·rename_i h;have h':j<n:=by simpa using h
  simp[an,qM h']
 ·rename_i h;simp at h ⊢;omega
mutual
def pT:∀ (v:AV),aG (λj=>j) v=v
 |.undef=>rfl
 |.lit _=>rfl
 |.tree ..=>rfl
 |.bO _=>rfl
 |.ref ..=>rfl
 |.ptr ..=>rfl
 |.agg cs=>by simp only[aG];rw[x5 cs]
 |.bA cs=>by simp only[aG];rw[x5 cs]
 |.fn f cs=>by simp only[aG];rw[x5 cs]
 |.dW t v=>by simp only[aG];rw[pT v]
 |.cJ _=>rfl
def x5:∀ (l:List AV),jQ (λj=>j) l=l
 |[]=>rfl
 |v::vs=>by simp only[jQ];rw[pT v,x5 vs]
end
def uS(o:Ob):bf (λj=>j) o=o:=by
 have h:aG (λj=>j)=id:=by funext v;exact pT v
 cases o with
 |gone=>rfl
 |var cs=>simp[bf,h]
 |arr sz rows=>simp[bf,h]
 |mp ag L=>simp[bf,h]
def pS(n:Nat):a9 n (bj n)=λj=>j:=by funext j;exact NR n j
def GM(aa:List Ob):∀ (aL:List Ob),aa.length<=aL.length->dv aa (bj aa.length) aL=aL:=by
 intro aL h;have hlen:(bj aa.length).length<=aL.length:=by simpa using h
 apply List.ext_getElem?;intro i;rcases Nat.lt_or_ge i aa.length with hi|hi
 ·have:=x6 (bj aa.length) aa aL hlen (w5) Eb i (by simpa using hi);simpa [an,qM hi] using this
 ·have gk:=AU (bj aa.length) aa aL hlen;obtain⟨j,rfl⟩:∃j,i=aa.length+j:=⟨i-aa.length,z8⟩;have:=GN (bj aa.length) aa aL hlen j;simpa using this
def kC{f:FuncId}{args:List AV}{dst:Option Tmp}{K:St->Prop}{res:AV}{aL:List Ob}(h:ao P f args σ.aa res aL)(hl:σ.aa.length<=aL.length)(hK:K ((⟨σ.env,aL⟩:St).put dst res)):mC P f args dst K σ:=by
 refine⟨bj σ.aa.length,false,args,σ.aa,res,aL,h,⟨w5,Eb,?_,rfl,?_,Eb⟩,?_⟩
 ·intro j o hj;have aZ:=(aF.1 hj).1;rw[pS,uS];simpa [an,qM aZ] using hj
 ·intro j c d hc hd;rw[hc]at hd;simp only[cB.injEq]at hd;subst hd;exact .eq (by rw[pS,pT])
 ·rw[pS,pT];have:aL.map (bf (λj=>j))=aL:=by
   have h:bf (λj=>j)=id:=by funext o;exact uS o
   simp[h]
  rw[this,GM _ _ hl];exact hK
end Go.Am
namespace Go.Am
variable {P:Program} {N n0:Nat} {σ:St} {Q:Exit->St->Prop}
def MQ{id:Nat}{ops:Array Oper}(hd:dQ N ops=true)(h:∀ K:St->Prop,(∀ s,Q .normal s->K s)->opsL P ops ops.toList K σ):W P N n0 (.region id ops false) Q σ :=
 GO hd (h _ (λ_ h=>h))
def AW{ops:Array Oper}{K:St->Prop}:∀ (l:List Oper) (i:Nat) (σ:St),ops.toList.drop i=l->opsL P ops l K σ->e9 P ops [] (jP (g8 i l.length)) K σ
 |[],i,σ,_,h=>h
 |o::r,i,σ,hl,h=>by
  have hi:ops[i]?=some o:=by
   have:(ops.toList.drop i)[0]?=some o:=by rw[hl];rfl
   simpa using this
  have hr:ops.toList.drop (i+1)=r:=by
   have:=congrArg List.tail hl;simpa [List.tail_drop] using this
  rw[List.length_cons,List.range'_succ];show dS P ops [] i (e9 P ops [] (jP (g8 (i+1) r.length)) K) σ;unfold dS;simp only[hi];have hm:∀ s,opsL P ops r K s->e9 P ops [] (jP (g8 (i+1) r.length)) K s:=λs hs=>AW r (i+1) s hr hs;refine uQ hm ?_;unfold opsL at h;unfold dm;cases hg:o.guard with
  |none=>simp only[hg]at h;exact h
  |some jw =>
   obtain⟨j,want⟩:=jw;simp only[hg]at h;exact h
def q8(ops:Array Oper):Bool:=(jP (bj ops.size)).ok ops [] ops.size (ux ops.size false)
def MR{id:Nat}{ops:Array Oper}{y:Code}(hm:P.follows .mixedOrders=true)(hd:dQ N ops=true)(ht:q8 ops=true)(h:∀ K:St->Prop,(∀ s,W P N n0 y Q s->K s)->opsL P ops ops.toList K σ):
  W P N n0 (.seq (.region id ops true) y) Q σ :=
 Fc [] _ hm hd ht λK hK=>by
  have:=AW (P:=P) (ops:=ops) ops.toList 0 σ rfl (h K hK);rw[pD];simpa using this
def MT{id:Nat}{ops:Array Oper}(hm:P.follows .mixedOrders=true)(hd:dQ N ops=true)(ht:q8 ops=true)(h:∀ K:St->Prop,(∀ s,Q .normal s->K s)->opsL P ops ops.toList K σ):
  W P N n0 (.region id ops true) Q σ :=
 nq [] _ hm hd ht (by
  have:=AW (P:=P) (ops:=ops) ops.toList 0 σ rfl (h _ (λ_ h=>h));rw[pD];simpa using this)
def aY{v res:AV}(hr:gK v=true)(h:v=res):jV 0 σ v res []:=by
 subst h;exact mq hr
def xN(e:Nat->AV)(d:Nat)(v:AV)(k:Nat):fc e d v k=if k=d then v else e k:=by simp only[fc]
def F7:IntKind.i64.min = -9223372036854775808:=rfl
def F8:IntKind.i64.max=9223372036854775807:=rfl
def ints(xs:List Int):List (List AV):=xs.map λx=>[UX x]
def bP(xs:List Bool):List (List AV):=xs.map λx=>[.lit (.bool x)]
def aU(xs:List (List Int)):List (List AV):=xs.map λx=>[.tree 1 (ints x)]
def k7(xs:List Int):(ints xs).length=xs.length:=by simp[ints]
def xT(xs:List Bool):(bP xs).length=xs.length:=by simp[bP]
def xU(xs:List (List Int)):(aU xs).length=xs.length:=by simp[aU]
def Gj(xs:List Int)(i:Nat)(h:i<xs.length):(ints xs).getD i []=[UX (xs.getD i 0)]:=by simp[ints,h]
def Gk(xs:List Bool)(i:Nat)(h:i<xs.length):(bP xs).getD i []=[.lit (.bool (xs.getD i false))]:=by simp[bP,h]
def Gl(xs:List (List Int))(i:Nat)(h:i<xs.length):(aU xs).getD i []=[.tree 1 (ints (xs.getD i []))]:=by simp[aU,h]
def Gm(xs:List Int)(i:Nat)(h:i<xs.length):(ints xs)[i]?=some [UX (xs.getD i 0)]:=by simp[ints,h]
def Gn(xs:List Bool)(i:Nat)(h:i<xs.length):(bP xs)[i]?=some [.lit (.bool (xs.getD i false))]:=by simp[bP,h]
def s9(xs:List (List Int))(i:Nat)(h:i<xs.length):(aU xs)[i]?=some [.tree 1 (ints (xs.getD i []))]:=by simp[aU,h]
def ints_set(xs:List Int)(i:Nat)(v:Int):(ints xs).set i [UX v]=ints (xs.set i v):=by simp[ints,z4]
def xV(xs:List Bool)(i:Nat)(v:Bool):(bP xs).set i [.lit (.bool v)]=bP (xs.set i v):=by simp[bP,z4]
def Gp(xs ys:List Int):ints xs++ints ys=ints (xs++ys):=by simp[ints]
def Gq(xs:List Int)(v:Int):ints xs++[[UX v]]=ints (xs++[v]):=by simp[ints]
def Gr(xs:List (List Int))(v:List Int):aU xs++[[.tree 1 (ints v)]]=aU (xs++[v]):=by simp[aU]
def Gs(xs:List Bool)(v:Bool):bP xs++[[.lit (.bool v)]]=bP (xs++[v]):=by simp[bP]
def Gt(n:Nat)(v:Int):aw n [AV.lit (.int .i64 v)]=ints (aw n v):=by simp[ints]
def Gu(n:Nat)(v:Bool):aw n [AV.lit (.bool v)]=bP (aw n v):=by simp[bP]
def Gv(xs:List Int):((ints xs).all λrow=>row.all bt)=true:=by simp[ints,bt,Value.oneCell']
def Gw(xs:List Bool):((bP xs).all λrow=>row.all bt)=true:=by simp[bP,bt,Value.oneCell']
def Gx(xs:List (List Int)):((aU xs).all λrow=>row.all bt)=true:=by simp[aU,bt]
def s7(ρ:Nat->Nat)(sz:Nat)(xs:List Int):bf ρ (.arr sz (ints xs))=.arr sz (ints xs):=xF (by simp[ints,iT,gK])
def s8(ρ:Nat->Nat)(sz:Nat)(xs:List Bool):bf ρ (.arr sz (bP xs))=.arr sz (bP xs):=xF (by
 intro row hr;simp only[bP,bS]at hr;obtain⟨x,_,rfl⟩:=hr;rfl)
def AP(ρ:Nat->Nat)(sz:Nat)(xs:List (List Int)):bf ρ (.arr sz (aU xs))=.arr sz (aU xs):=xF (by simp[aU,iT,gK])
def mu(xs:List Int):∀ row∈ints xs,∀ v∈row,(∃ x,v=AV.lit x)\/∃ s r,v=AV.tree s r:=by
 intro row hr v hv;simp only[ints,bS]at hr;obtain⟨x,_,rfl⟩:=hr;simp at hv;exact .inl ⟨_,hv⟩
def M'(xs:List Bool):∀ row∈bP xs,∀ v∈row,(∃ x,v=AV.lit x)\/∃ s r,v=AV.tree s r:=by
 intro row hr v hv;simp only[bP,bS]at hr;obtain⟨x,_,rfl⟩:=hr;simp at hv;exact .inl ⟨_,hv⟩
def Na(xs:List (List Int)):∀ row∈aU xs,∀ v∈row,(∃ x,v=AV.lit x)\/∃ s r,v=AV.tree s r:=by
 intro row hr v hv;simp only[aU,bS]at hr;obtain⟨x,_,rfl⟩:=hr;simp at hv;exact .inr ⟨_,_,hv⟩
def jv(xs:List Int):∀ row∈ints xs,row.length=1:=by
 intro row hr;simp only[ints,bS]at hr;obtain⟨x,_,rfl⟩:=hr;rfl
def M9(xs:List Bool):∀ row∈bP xs,row.length=1:=by
 intro row hr;simp only[bP,bS]at hr;obtain⟨x,_,rfl⟩:=hr;rfl
def Ax(xs:List (List Int)):∀ row∈aU xs,row.length=1:=by
 intro row hr;simp only[aU,bS]at hr;obtain⟨x,_,rfl⟩:=hr;rfl
def di{α:Type}(xs:List α)(i:Nat)(d:α)(h:i<xs.length):xs.drop i=xs.getD i d::xs.drop (i+1):=by
 rw[List.drop_eq_getElem_cons h];simp[h]
end Go.Am

