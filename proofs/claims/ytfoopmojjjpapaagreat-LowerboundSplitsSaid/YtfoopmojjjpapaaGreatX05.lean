import Derived.Test.YtfoopmojjjpapaaGreatX04
set_option linter.all false
set_option maxHeartbeats 0
set_option maxRecDepth 20000
open List renaming mem_of_getElem?→hZ,mem_append→cG,map_congr_left→tZ,getElem?_eq_some_iff→aY,range→bn,contains_iff_mem→ny,mem_cons→bu,not_mem_nil→iI,getD_eq_getElem?_getD→ay,getElem?_range→lk,nodup_range→Et,range'→mU,range_eq_range'→wW,map_set→qF,replicate→aK,mem_map→bY
open Array renaming getD_eq_getD_getElem?→eU,toList_append→CM,replicate→w0
open Bool renaming or_eq_true→lQ,and_eq_true→bc
open Option renaming some→cH
namespace Go.Am
variable {P:Program}
def Lb(P:Program)(g:FuncId)(args:List AV)(dst:Option Tmp)(K:St->Prop)(σ:St):Prop :=
 ∃ res,Holds P g args [] res []/\mZ args=true/\lr res=true/\K (σ.put dst res)
def vL(P:Program)(t:TypeId)(dst:Option Tmp)(K:St->Prop)(σ:St):AV->Prop
 |.b6 cells=>(ty P t).kind≠99/\nI (ty P t) cells 0 λv=>K (σ.put dst v)
 |_=>False
def mV(q:Bool)(P:Program)(o:Oper)(σ:St)(K:St->Prop):Prop :=
 match q with
 |false=>aL P o σ K
 |true =>
  match o.op with
  |.call { callee:=.value f,args,.. } =>
   match ev σ f with
   |.fn g bF=>Lb P g (args.toList.map (ev σ)++bF) o.dst K σ
   |_=>False
  |.load t a=>vL P t o.dst K σ (ev σ a)
  |_=>False
def afs{o:Oper}{σ:St}{K:St->Prop}{t:TypeId}{a:Operand}(cT:o.op=.load t a)(h:vL P t o.dst K σ (ev σ a)):aL P o σ K:=by
 unfold aL;simp only[cT];unfold cm;simp only[cT];unfold vL at h;split at h
 ·rename_i cells he;simp only[he];exact h
 ·exact h.elim
def Lj{t:TypeId}{dst:Option Tmp}{K:St->Prop}{σ:St}{v:AV}(h:vL P t dst K σ v):∃x,K (σ.put dst x)/\∀ (σ2:St) (K2:St->Prop),K2 (σ2.put dst x)->vL P t dst K2 σ2 v:=by
 unfold vL at h;split at h
 ·rename_i cells;obtain⟨h1,h2⟩:=h;unfold nI at h2;split at h2
  ·rename_i ha;refine⟨_,h2.2,λσ2 K2 hK=>?_⟩;unfold vL nI;simp only;rw[if_pos ha];exact⟨h1,h2.1,hK⟩
  ·rename_i ha;split at h2
   ·rename_i x hx;refine⟨x,h2,λσ2 K2 hK=>?_⟩;unfold vL nI;simp only;rw[if_neg ha,hx];exact⟨h1,hK⟩
   ·exact h2.elim
 ·exact h.elim
def qM(q:Bool)(P:Program)(o:Oper)(K:St->Prop)(b want:Bool)(σ:St):Prop:=(b=want->mV q P o σ K)/\(b≠want->K (σ.put o.dst (.lit (.tuple #[]))))
def eC(P:Program)(ops:Array Oper)(q:Bool)(o:Oper)(K:St->Prop)(σ:St):Prop :=
 match o.guard with
 |none=>mV q P o σ K
 |some (j,want) =>
  match (ops[j]?).bind (·.dst) with
  |none=>False
  |some d =>
   match σ.env d with
   |.lit (.bool b)=>qM q P o K b want σ
   |.lit (.tuple vs)=>vs = #[]/\K (σ.put o.dst (.lit (.tuple #[])))
   |_=>False
def Sx{q:Bool}{o:Oper}{σ:St}{K:St->Prop}(h:mV q P o σ K):aL P o σ K:=by
 cases q with
 |false=>exact h
 |true =>
  unfold mV at h;simp only at h;unfold aL;split at h
  ·rename_i f args cI cT;simp only[cT];split at h
   ·rename_i g bF he;simp only[he];obtain⟨res,h1,h2,h3,h4⟩:=h;exact cg h1 h2 h3 h4
   ·exact h.elim
  ·rename_i t a cT;have:=afs cT h;unfold aL at this;simpa only[cT] using this
  ·exact h.elim
def Lk{N:Nat}{os:List Ob}{γ0:Cx}{ops:Array Oper}(hd:∀ o∈ops.toList,∀ d,o.dst=some d->d<N){q:Bool}{i:Nat}{o:Oper}(hi:ops[i]?=some o){σ:St}{K:St->Prop}(h:eC P ops q o K σ){a:Act}{w:World}(az:gp N os γ0 σ a w){Q:Exit->Act->World->Prop}{next:Act->World->Prop}(hn:∀ σ' a' w',K σ'->gp N os γ0 σ' a' w'->next a' w'):wpOp P ops Q i next a w:=by
 have bR:o∈ops.toList:=hZ (by simpa using hi);unfold wpOp;simp only[hi];unfold eC at h;cases hg:o.guard with
 |none =>
  simp only[hg]at h;have hw:Region.wanted o (yielded ops a.tmps)=true:=by simp[Region.wanted,hg]
  rw[if_pos hw];left;exact yy (Sx h) az (hd o bR) hn
 |some jw =>
  obtain⟨j,want⟩:=jw;simp only[hg]at h;cases eB:(ops[j]?).bind (·.dst) with
  |none=>simp[eB]at h
  |some d =>
   simp only[eB]at h;split at h
   ·rename_i b he;obtain⟨iK,aO,γ,rfl,ha,hs,hf⟩:=az;have jO:=hs.ar d;rw[he,ha]at jO;have hv:=jO.cO;have hy:yielded ops a.tmps j=some b:=by
     unfold yielded;rw[eB];have:a.tmps[d]?=some (.bool b):=by
      rw[eU]at hv;cases hx:a.tmps[d]? with
      |none=>rw[hx]at hv;simp[Go.undef]at hv
      |some y=>rw[hx]at hv;simp at hv;rw[hv]
     simp[this]
    by_cases ig:b=want
    ·have hw:Region.wanted o (yielded ops a.tmps)=true:=by simp[Region.wanted,hg,hy,ig]
     rw[if_pos hw];left;exact yy (Sx (h.1 ig)) ⟨iK,aO,γ,rfl,ha,hs,hf⟩ (hd o bR) hn
    ·have hw:Region.wanted o (yielded ops a.tmps)=false:=by simp[Region.wanted,hg,hy,ig]
     rw[if_neg (by rw[hw];simp)];refine hn _ _ _ (h.2 ig) ⟨by rw[put_defers];exact iK,by rw[vK];exact aO,{ γ with tmps:=(a.put o.dst Go.undef).tmps },rfl,rfl,s9 hs ha (λd h=>by rw[aO];exact hd o bR d h) (.lit _),?_⟩;rw[rM];exact hf.put _
   ·rename_i vs he;obtain⟨iK,aO,γ,rfl,ha,hs,hf⟩:=az;have jO:=hs.ar d;rw[he,ha]at jO;have hv:=jO.cO;have hy:yielded ops a.tmps j=none:=by
     unfold yielded;rw[eB];rw[eU]at hv;cases hx:a.tmps[d]? with
     |none=>simp[hx]
     |some y=>rw[hx]at hv;simp at hv;subst hv;simp[hx]
    have hw:Region.wanted o (yielded ops a.tmps)=false:=by simp[Region.wanted,hg,hy]
    rw[if_neg (by rw[hw];simp)];refine hn _ _ _ h.2 ⟨by rw[put_defers];exact iK,by rw[vK];exact aO,{ γ with tmps:=(a.put o.dst Go.undef).tmps },rfl,rfl,s9 hs ha (λd h=>by rw[aO];exact hd o bR d h) (.lit _),?_⟩;rw[rM];exact hf.put _
   ·exact h.elim
def Hx(c:Nat)(a:List Ob):ly c a a:=by
 unfold ly;split
 ·rfl
 ·split
  ·intro id _;rfl
  ·split
   ·exact⟨rfl,λid o o' h h'=>by rw[h]at h';simp at h';subst h';exact zH o⟩
   ·trivial
def cX.aa{σ σ2:St}(h:σ2.aa=σ.aa){kp:Nat->Prop}{c d:AV}(ha:cX σ kp c d):cX σ2 kp c d:=by
 induction ha with
 |lit x=>exact .lit x
 |tree s r=>exact .tree s r
 |nil sz=>exact .nil sz
 |ref id sz off len rows iv g bS uh hl0 Hy um pI ih=>exact .ref id sz off len rows iv g (by rw[h];exact bS) uh hl0 Hy um ih
def a7.aa{σ σ2:St}(h:σ2.aa=σ.aa){kp:Nat->Prop}{ρ:Nat->Nat}{snap:Bool}{c d:AV}(ha:a7 σ kp ρ snap c d):a7 σ2 kp ρ snap c d:=by
 induction ha with
 |same v=>exact .same v
 |snap c d hs hf=>exact .snap c d hs (hf.aa h)
 |agg cs ds hl _ ih=>exact .agg cs ds hl ih
 |bC cs ds hl _ ih=>exact .bC cs ds hl ih
def fH(q:Bool)(o:Oper):Nat:=if q then 0 else cls o.op
def uo{ops:Array Oper}{o:Oper}{σ:St}{e2:Nat->AV}{os:List Ob}(h:∀ t∈o.looksAt ops,e2 t=σ.env t):∀ x∈o.op.operands.toList,ev ⟨e2,os⟩ x=ev σ x:=by
 intro x hx;cases x with
 |tmp t =>
  show e2 t=σ.env t;refine h t ?_;unfold Oper.looksAt;rw[cG];left;rw[List.mem_filterMap];exact⟨_,hx,rfl⟩
 |const v=>rfl
 |func f=>rfl
 |global g=>rfl
def aft{σ:St}{v:AV}{K:FuncId->AV->Prop}{r:Option (FuncId×Option TypeId)}(h:qJ P σ v K r):
  ∃ g x,K g x/\∀ (e2:Nat->AV) (K2:FuncId->AV->Prop),K2 g x->qJ P ⟨e2,σ.aa⟩ v K2 r:=by
 match r,h with
 |none,h=>exact h.elim
 |some (g,none),h=>exact⟨g,v,h,λ_ _ h=>h⟩
 |some (g,some e),h =>
  unfold qJ at h;obtain⟨hk,h⟩:=h;cases v with
  |ptr id rr c =>
   simp only at h;cases bK:rowOf σ id rr with
   |none=>simp[bK]at h
   |some row =>
    simp only[bK]at h;obtain⟨x,h1,h2⟩:=Sy h;refine⟨g,x,h1,λe2 K2 hK=>?_⟩;unfold qJ;have:rowOf ⟨e2,σ.aa⟩ id rr=some row:=bK;simp only[this];exact⟨hk,h2 _ hK⟩
  |_=>exact h.elim
def afu{o:Oper}{σ:St}{K:St->Prop}(hW:aL P o σ K):
  ∃ v os,ly (cls o.op) σ.aa os/\K ((⟨σ.env,os⟩:St).put o.dst v)/\∀ (e2:Nat->AV) (K2:St->Prop),(∀ x∈o.op.operands.toList,ev ⟨e2,σ.aa⟩ x=ev σ x)->K2 ((⟨e2,os⟩:St).put o.dst v)->aL P o ⟨e2,σ.aa⟩ K2:=by
 unfold aL at hW ⊢;split at hW
 ·rename_i f args cI cT;simp only[cT];split at hW
  ·rename_i g bF he;obtain⟨aj,snap,dO,b7,res,dm,h1,⟨h2,h3,h4,h5,h6,h7⟩,h8⟩:=hW;refine⟨_,_,(by simp[ly,cls]),h8,λe2 K2 hx hK=>?_⟩;have e1:ev ⟨e2,σ.aa⟩ f=.fn g bF:=by rw[<- he];exact hx f (by simp[Op.operands,Call.operands])
   have e3:args.toList.map (ev ⟨e2,σ.aa⟩)=args.toList.map (ev σ):=tZ λy hy=>hx y (by simp only[Op.operands,Call.operands,CM,cG];exact .inr hy);simp only[e1,e3];exact⟨aj,snap,dO,b7,res,dm,h1,⟨h2,h3,h4,h5,λj c d hc hd=>a7.aa (σ:=σ) (σ2:=⟨e2,σ.aa⟩) rfl (h6 j c d hc hd),h7⟩,hK⟩
  ·exact hW.elim
 ·rename_i r m args cI cT;simp only[cT];split at hW
  ·rename_i t v he;obtain⟨g,x,⟨aj,snap,dO,b7,res,dm,h1,⟨h2,h3,h4,h5,h6,h7⟩,h8⟩,afv⟩:=aft hW;refine⟨_,_,(by simp[ly,cls]),h8,λe2 K2 hx hK=>?_⟩;have e1:ev ⟨e2,σ.aa⟩ r=.iU t v:=by rw[<- he];exact hx r (by simp[Op.operands,Call.operands])
   have e3:args.toList.map (ev ⟨e2,σ.aa⟩)=args.toList.map (ev σ):=tZ λy hy=>hx y (by simp only[Op.operands,Call.operands,CM,cG];exact .inr hy);simp only[e1,e3];exact afv e2 _ ⟨aj,snap,dO,b7,res,dm,h1,⟨h2,h3,h4,h5,λj c d hc hd=>a7.aa (σ:=σ) (σ2:=⟨e2,σ.aa⟩) rfl (h6 j c d hc hd),h7⟩,hK⟩
  ·exact hW.elim
 ·rename_i cE;obtain⟨v,os,h1,h2,h3⟩:=afw hW;refine⟨v,os,h1,h2,λe2 K2 hx hK=>?_⟩;have:=h3 e2 K2 hx hK;exact this
def afx{o:Oper}{σ:St}{K:St->Prop}(hc:cls o.op<=2)(hW:aL P o σ K):
  ∃ v,K (σ.put o.dst v)/\∀ (σ2:St) (K2:St->Prop),(∀ x∈o.op.operands.toList,ev σ2 x=ev σ x)->(∀ (id:Nat),iM (cls o.op) σ.aa[id]? σ2.aa[id]?)->K2 (σ2.put o.dst v)->aL P o σ2 K2:=by
 unfold aL at hW ⊢;split at hW
 ·rename_i f args cI cT;rw[cT]at hc;simp[cls]at hc
 ·rename_i r m args cI cT;rw[cT]at hc;simp[cls]at hc
 ·rename_i cE;obtain⟨v,h2,h3⟩:=Sz hc hW;refine⟨v,h2,λσ2 K2 hx ho hK=>?_⟩;exact h3 σ2 K2 hx (λx _ id _=>ho id) hK
def SA{q:Bool}{o:Oper}{σ:St}{K:St->Prop}(hW:mV q P o σ K):
  ∃ v os,ly (fH q o) σ.aa os/\K ((⟨σ.env,os⟩:St).put o.dst v)/\∀ (e2:Nat->AV) (K2:St->Prop),(∀ x∈o.op.operands.toList,ev ⟨e2,σ.aa⟩ x=ev σ x)->K2 ((⟨e2,os⟩:St).put o.dst v)->mV q P o ⟨e2,σ.aa⟩ K2:=by
 cases q with
 |false=>exact afu hW
 |true =>
  unfold mV at hW ⊢;simp only at hW ⊢;split at hW
  ·rename_i f args cI cT;simp only[cT];split at hW
   ·rename_i g bF he;obtain⟨res,h1,h2,h3,h4⟩:=hW;refine⟨res,σ.aa,Hx _ _,h4,λe2 K2 hx hK=>?_⟩;have e1:ev ⟨e2,σ.aa⟩ f=.fn g bF:=by rw[<- he];exact hx f (by simp[Op.operands,Call.operands])
    have e3:args.toList.map (ev ⟨e2,σ.aa⟩)=args.toList.map (ev σ):=tZ λy hy=>hx y (by simp only[Op.operands,Call.operands,CM,cG];exact .inr hy);simp only[e1,e3];exact⟨res,h1,h2,h3,hK⟩
   ·exact hW.elim
  ·rename_i t a cT;obtain⟨x,h1,h2⟩:=Lj hW;refine⟨x,σ.aa,Hx _ _,h1,λe2 K2 hx hK=>?_⟩;rw[hx a (by simp[cT,Op.operands])];exact h2 _ K2 hK
  ·exact hW.elim
def SD{q:Bool}{o:Oper}{σ:St}{K:St->Prop}(hc:fH q o<=2)(hW:mV q P o σ K):
  ∃ v,K (σ.put o.dst v)/\∀ (σ2:St) (K2:St->Prop),(∀ x∈o.op.operands.toList,ev σ2 x=ev σ x)->(∀ (id:Nat),iM (fH q o) σ.aa[id]? σ2.aa[id]?)->K2 (σ2.put o.dst v)->mV q P o σ2 K2:=by
 cases q with
 |false=>exact afx hc hW
 |true =>
  unfold mV at hW ⊢;simp only at hW ⊢;split at hW
  ·rename_i f args cI cT;simp only[cT];split at hW
   ·rename_i g bF he;obtain⟨res,h1,h2,h3,h4⟩:=hW;refine⟨res,h4,λσ2 K2 hx _ hK=>?_⟩;have e1:ev σ2 f=.fn g bF:=by rw[<- he];exact hx f (by simp[Op.operands,Call.operands])
    have e3:args.toList.map (ev σ2)=args.toList.map (ev σ):=tZ λy hy=>hx y (by simp only[Op.operands,Call.operands,CM,cG];exact .inr hy);simp only[e1,e3];exact⟨res,h1,h2,h3,hK⟩
   ·exact hW.elim
  ·rename_i t a cT;obtain⟨x,h1,h2⟩:=Lj hW;refine⟨x,h1,λσ2 K2 hx _ hK=>?_⟩;rw[hx a (by simp[cT,Op.operands])];exact h2 _ K2 hK
  ·exact hW.elim
def yz{ops:Array Oper}{o:Oper}{j d:Nat}{want:Bool}(hg:o.guard=some (j,want))(hd:(ops[j]?).bind (·.dst)=some d):d∈o.looksAt ops:=by
 unfold Oper.looksAt;rw[cG];right;simp[hg,hd]
def C0{ops:Array Oper}{q:Bool}{o:Oper}{σ:St}{K:St->Prop}(hW:eC P ops q o K σ):
  ∃ v os,ly (fH q o) σ.aa os/\K ((⟨σ.env,os⟩:St).put o.dst v)/\∀ (e2:Nat->AV) (K2:St->Prop),(∀ t∈o.looksAt ops,e2 t=σ.env t)->K2 ((⟨e2,os⟩:St).put o.dst v)->eC P ops q o K2 ⟨e2,σ.aa⟩:=by
 unfold eC at hW ⊢;cases hg:o.guard with
 |none =>
  simp only[hg]at hW;obtain⟨v,os,h1,h2,h3⟩:=SA hW;exact⟨v,os,h1,h2,λe2 K2 hl hK=>h3 e2 K2 (uo hl) hK⟩
 |some jw =>
  obtain⟨j,want⟩:=jw;simp only[hg]at hW;cases eB:(ops[j]?).bind (·.dst) with
  |none=>simp[eB]at hW
  |some d =>
   simp only[eB]at hW;split at hW
   ·rename_i b he;by_cases ig:b=want
    ·obtain⟨v,os,h1,h2,h3⟩:=SA (hW.1 ig);refine⟨v,os,h1,h2,λe2 K2 hl hK=>?_⟩;have:e2 d=.lit (.bool b):=by rw[hl d (yz hg eB)];exact he
     simp only[eB,this];exact⟨λ_=>h3 e2 K2 (uo hl) hK,λhn=>absurd ig hn⟩
    ·refine⟨.lit (.tuple #[]),σ.aa,Hx _ _,hW.2 ig,λe2 K2 hl hK=>?_⟩;have:e2 d=.lit (.bool b):=by rw[hl d (yz hg eB)];exact he
     simp only[eB,this];exact⟨λhn=>absurd hn ig,λ_=>hK⟩
   ·rename_i vs he;refine⟨.lit (.tuple #[]),σ.aa,Hx _ _,hW.2,λe2 K2 hl hK=>?_⟩;have:e2 d=.lit (.tuple vs):=by rw[hl d (yz hg eB)];exact he
    simp only[eB,this];exact⟨hW.1,hK⟩
   ·exact hW.elim
def SE{ops:Array Oper}{q:Bool}{o:Oper}{σ:St}{K:St->Prop}(hc:fH q o<=2)(hW:eC P ops q o K σ):
  ∃ v,K (σ.put o.dst v)/\∀ (σ2:St) (K2:St->Prop),(∀ t∈o.looksAt ops,σ2.env t=σ.env t)->(∀ (id:Nat),iM (fH q o) σ.aa[id]? σ2.aa[id]?)->K2 (σ2.put o.dst v)->eC P ops q o K2 σ2:=by
 unfold eC at hW ⊢;cases hg:o.guard with
 |none =>
  simp only[hg]at hW;obtain⟨v,h2,h3⟩:=SD hc hW;exact⟨v,h2,λσ2 K2 hl ho hK=>h3 σ2 K2 (uo (e2:=σ2.env) (os:=σ2.aa) hl) ho hK⟩
 |some jw =>
  obtain⟨j,want⟩:=jw;simp only[hg]at hW;cases eB:(ops[j]?).bind (·.dst) with
  |none=>simp[eB]at hW
  |some d =>
   simp only[eB]at hW;split at hW
   ·rename_i b he;by_cases ig:b=want
    ·obtain⟨v,h2,h3⟩:=SD hc (hW.1 ig);refine⟨v,h2,λσ2 K2 hl ho hK=>?_⟩;have:σ2.env d=.lit (.bool b):=by rw[hl d (yz hg eB)];exact he
     simp only[eB,this];exact⟨λ_=>h3 σ2 K2 (uo (e2:=σ2.env) (os:=σ2.aa) hl) ho hK,λhn=>absurd ig hn⟩
    ·refine⟨.lit (.tuple #[]),hW.2 ig,λσ2 K2 hl ho hK=>?_⟩;have:σ2.env d=.lit (.bool b):=by rw[hl d (yz hg eB)];exact he
     simp only[eB,this];exact⟨λhn=>absurd hn ig,λ_=>hK⟩
   ·rename_i vs he;refine⟨.lit (.tuple #[]),hW.2,λσ2 K2 hl ho hK=>?_⟩;have:σ2.env d=.lit (.tuple vs):=by rw[hl d (yz hg eB)];exact he
    simp only[eB,this];exact⟨hW.1,hK⟩
   ·exact hW.elim
def uq{σ:St}{dst:Option Tmp}{v:AV}{t:Nat}(h:∀ d,dst=some d->d≠t):(σ.put dst v).env t=σ.env t:=by
 cases dst with
 |none=>rfl
 |some d =>
  have:=h d rfl;simp[St.put,jP,Ne.symm this]
def C1{σ:St}{x y:Option Tmp}{v u:AV}(h:∀ d,x=some d->y≠some d):(σ.put x v).put y u=(σ.put y u).put x v:=by
 cases x with
 |none=>rfl
 |some d =>
  cases y with
  |none=>rfl
  |some d' =>
   have cE:d'≠d:=λe=>h d rfl (by rw[e]);simp only[St.put];congr 1;funext k;simp only[jP];split<;>split<;>simp_all
def C2{σ:St}{x:Option Tmp}{v:AV}:(σ.put x v).aa=σ.aa:=by cases x<;>rfl
def Ll{σ:St}{x:Option Tmp}{v:AV}:σ.put x v=⟨(σ.put x v).env,σ.aa⟩:=by cases x<;>rfl
def C3{σ:St}{os:List Ob}{x:Option Tmp}{v:AV}:(⟨(σ.put x v).env,os⟩:St)=(⟨σ.env,os⟩:St).put x v:=by cases x<;>rfl
def A5(ci ck:Nat):Bool:=ci==0||ck==0||(ci==1&&decide (ck<=4))||(ci==2&&decide (ck<=3))
def Lm{ci ck:Nat}(h:(ci==0||(ci==1&&decide (ck<=4))||(ci==2&&decide (ck<=3)))=true){a b:List Ob}(he:ly ck a b)(id:Nat):iM ci a[id]? b[id]?:=by
 simp only[lQ,bc,beq_iff_eq,decide_eq_true_eq]at h;rcases h with(rfl|⟨rfl,hk⟩)|⟨rfl,hk⟩
 ·simp[iM]
 ·unfold ly at he;have:∀ o,a[id]?=some o->∃ o',b[id]?=some o'/\vM o o':=by
   intro o ho;have aX:=(aY.1 ho).1;split at he
   ·subst he;exact⟨o,ho,zH o⟩
   ·split at he
    ·exact⟨o,by rw[he id aX];exact ho,zH o⟩
    ·split at he
     ·have hb:id<b.length:=Ey;exact⟨b[id],by simp[hb],he.2 id o _ ho (by simp[hb])⟩
     ·omega
  simpa [iM] using this
 ·unfold ly at he;have:∀ o,a[id]?=some o->b[id]?=some o:=by
   intro o ho;have aX:=(aY.1 ho).1;split at he
   ·subst he;exact ho
   ·split at he
    ·rw[he id aX];exact ho
    ·omega
  simpa [iM] using this
def afy{ops:Array Oper}{qi qk:Bool}{oi ok:Oper}(ha:oi.apart ops ok=true)(hi:fH qi oi<=2)(hc:(fH qi oi==0||(fH qi oi==1&&decide (fH qk ok<=4))||(fH qi oi==2&&decide (fH qk ok<=3)))=true){σ:St}{K:St->Prop}(h:eC P ops qi oi (eC P ops qk ok K) σ):eC P ops qk ok (eC P ops qi oi K) σ:=by
 obtain⟨a1,a2,a3⟩:=Oper.apart_spec ha;obtain⟨v,h1,run⟩:=SE hi h;obtain⟨vk,os,vN,h2,zI⟩:=C0 h1;rw[C2]at vN zI;refine zI σ.env _ (λt ht=>(uq λd hd e=>a1 d hd (e▸ht)).symm) ?_;refine run _ _ (λt ht=>?_) (λid=>?_) ?_
 ·rw[uq λd hd e=>a3 d hd (e▸ht)]
 ·rw[C2];exact Lm hc vN id
 ·rw[C3]at h2;rw[C1 (λd hd e=>a2 d e hd)];exact h2
def afz{ops:Array Oper}{qi qk:Bool}{oi ok:Oper}(ha:oi.apart ops ok=true)(hk:fH qk ok=0){σ:St}{K:St->Prop}(h:eC P ops qi oi (eC P ops qk ok K) σ):eC P ops qk ok (eC P ops qi oi K) σ:=by
 obtain⟨a1,a2,a3⟩:=Oper.apart_spec ha;obtain⟨vi,os,vN,h1,run⟩:=C0 h;obtain⟨vk,h2,EK⟩:=SE Ey h1;refine EK σ _ (λt ht=>(uq (σ:=⟨σ.env,os⟩) λd hd e=>a1 d hd (e▸ht)).symm) (λid=>by rw[hk];simp[iM]) ?_;rw[Ll];refine run _ _ (λt ht=>uq λd hd e=>a3 d hd (e▸ht)) ?_;rw[C3,C1 (λd hd e=>a2 d e hd)];exact h2
def afA{ops:Array Oper}{qi qk:Bool}{oi ok:Oper}(ha:oi.apart ops ok=true)(hc:A5 (fH qi oi) (fH qk ok)=true){σ:St}{K:St->Prop}(h:eC P ops qi oi (eC P ops qk ok K) σ):eC P ops qk ok (eC P ops qi oi K) σ:=by
 by_cases hk:fH qk ok=0
 ·exact afz ha hk h
 ·have gq:(fH qi oi==0||(fH qi oi==1&&decide (fH qk ok<=4))||(fH qi oi==2&&decide (fH qk ok<=3)))=true:=by
   simp only[A5,lQ,bc,beq_iff_eq,decide_eq_true_eq]at hc ⊢;rcases hc with((h|h)|h)|h
   ·exact .inl (.inl h)
   ·exact absurd h hk
   ·exact .inl (.inr h)
   ·exact .inr h
  refine afy ha ?_ gq h;simp only[lQ,bc,beq_iff_eq,decide_eq_true_eq]at gq;omega
end Go.Am
namespace Go.Am
variable {P:Program} {N n0:Nat} {σ:St}
def cy(P:Program)(ops:Array Oper)(qs:List Nat)(i:Nat)(K:St->Prop)(σ:St):Prop :=
 match ops[i]? with
 |none=>K σ
 |some o=>eC P ops (qs.contains i) o K σ
def vO(P:Program)(ops:Array Oper)(qs:List Nat)(K:St->Prop):Nat->Array Bool->St->Prop
 |0,aH,σ=>Region.ready .any ops aH=[]/\K σ
 |n+1,aH,σ=>(Region.ready .any ops aH=[]->K σ)/\∀ i∈Region.ready .any ops aH,cy P ops qs i (vO P ops qs K n (aH.setIfInBounds i true)) σ
def EL{ops:Array Oper}{q:Bool}{o:Oper}{σ:St}{K K2:St->Prop}(hk:∀ s,K s->K2 s)(h:eC P ops q o K σ):eC P ops q o K2 σ:=by
 obtain⟨v,os,_,h2,run⟩:=C0 h;exact run σ.env K2 (λ_ _=>rfl) (hk _ h2)
def afB{ops:Array Oper}{q:Bool}{o:Oper}{σ:St}{K:St->Prop}(h:eC P ops q o K σ):∃s,K s:=by
 obtain⟨v,os,_,h2,run⟩:=C0 h;exact⟨_,h2⟩
def oc{ops:Array Oper}{qs:List Nat}{i:Nat}{σ:St}{K K2:St->Prop}(hk:∀ s,K s->K2 s)(h:cy P ops qs i K σ):cy P ops qs i K2 σ:=by
 unfold cy at h ⊢;split at h
 ·exact hk _ h
 ·exact EL hk h
def afC{ops:Array Oper}{qs:List Nat}{i:Nat}{σ:St}{K:St->Prop}(h:cy P ops qs i K σ):∃s,K s:=by
 unfold cy at h;split at h
 ·exact⟨_,h⟩
 ·exact afB h
def Ln{os:List Ob}{γ0:Cx}{ops:Array Oper}{qs:List Nat}(hd:∀ o∈ops.toList,∀ d,o.dst=some d->d<N){K:St->Prop}{Q:Exit->Act->World->Prop}(hQ:∀ σ' a' w',K σ'->gp N os γ0 σ' a' w'->Q .normal a' w'):∀ (n:Nat) (aH:Array Bool) (σ:St) (a:Act) (w:World),vO P ops qs K n aH σ->gp N os γ0 σ a w->wpAny P .any ops Q n aH a w
 |0,aH,σ,a,w,h,az=>⟨h.1,hQ _ _ _ h.2 az⟩
 |n+1,aH,σ,a,w,h,az=>by
  refine⟨λhr=>hQ _ _ _ (h.1 hr) az,λi hi=>?_⟩;have:=h.2 i hi;unfold cy at this;split at this
  ·rename_i au;unfold wpOp;simp only[au];exact Ln hd hQ n _ _ _ _ this az
  ·rename_i o au;exact Lk hd au this az λσ' a' w' hK c8=>Ln hd hQ n _ _ _ _ hK c8
def SF{id:Nat}{ops:Array Oper}{Q:Exit->St->Prop}(qs:List Nat)(hm:P.follows .mixedOrders=true)(hd:fP N ops=true)(h:vO P ops qs (Q .normal) ops.size (w0 ops.size false) σ):W P N n0 (.region id ops true) Q σ:=by
 intro os γ0 a w _ az;refine wp_region_any hm ?_;exact Ln (oV hd) (K:=Q .normal) (λσ' a' w' hK c8=>⟨σ',hK,c8⟩) _ _ _ _ _ h az.drawn
def afD{ops:Array Oper}{qs:List Nat}{K:St->Prop}{i:Nat}{o:Oper}(hi:ops[i]?=some o)(D:List Nat)(SG:i∈D)(hD:∀ j∈D,j=i\/∃ oj,ops[j]?=some oj/\∃ e∈oj.after,Region.binds .any e=true/\e.on∈D):∀ (fuel:Nat) (aH:Array Bool) (σ:St),(∀ j∈D,aH.getD j true=false) ->
   i∈Region.ready .any ops aH ->
   (∀ j oj,ops[j]?=some oj->aH.getD j true=false->j ∉ D->o.apart ops oj=true/\A5 (fH (qs.contains i) o) (fH (qs.contains j) oj)=true) ->
   cy P ops qs i (vO P ops qs K fuel (aH.setIfInBounds i true)) σ->vO P ops qs K (fuel+1) aH σ:=by
 intro fuel
 induction fuel with
 |zero =>
  intro aH σ hu hr lz h;refine⟨λe=>by rw[e]at hr;simp at hr,λk hk=>?_⟩;by_cases fR:k=i
  ·subst fR;exact h
  ·obtain⟨s,hs⟩:=afC h;have:=ready_mono hk fR;rw[hs.1]at this;simp at this
 |succ m ih =>
  intro aH σ hu hr lz h;refine⟨λe=>by rw[e]at hr;simp at hr,λk hk=>?_⟩;by_cases fR:k=i
  ·subst fR;exact h
  ·have A6:=mem_ready.1 hk;obtain⟨eF,ok,az,ei⟩:=A6;have rN:k ∉ D:=by
    intro rN;rcases hD k rN with e|⟨oj,iN,e,he,hb,ur⟩
    ·exact fR e
    ·rw[az]at iN;simp only[cH.injEq]at iN;subst iN;have h1:=ei e he hb;have h2:=hu e.on ur;rw[eU]at h1 h2;cases hx:aH[e.on]? with
     |none=>rw[hx]at h1;simp at h1
     |some b=>rw[hx]at h1 h2;simp at h1 h2;rw[h1]at h2;simp at h2
   obtain⟨ha,hc⟩:=lz k ok az eF rN;have h1:cy P ops qs i (cy P ops qs k (vO P ops qs K m ((aH.setIfInBounds i true).setIfInBounds k true))) σ :=
    oc (λs hs=>hs.2 k (ready_mono hk fR)) h
   have h2:cy P ops qs k (cy P ops qs i (vO P ops qs K m ((aH.setIfInBounds i true).setIfInBounds k true))) σ:=by
    unfold cy at h1 ⊢;simp only[hi,az]at h1 ⊢;exact afA ha hc h1
   refine oc (λs hs=>?_) h2;refine ih (aH.setIfInBounds k true) s (λj hj=>?_) (ready_mono hr (Ne.symm fR)) (λj oj iN hl pJ=>?_) ?_
   ·have cE:k≠j:=λe=>rN (by rw[e];exact hj);rw[getD_set_ne _ cE];exact hu j hj
   ·refine lz j oj iN ?_ pJ;by_cases zJ:k=j
    ·subst zJ;exact eF
    ·rwa [getD_set_ne _ zJ]at hl
   ·rw[Array.setIfInBounds_comm _ _ (Ne.symm fR)]at hs;exact hs
def Lo(ops:Array Oper)(i:Nat):List Nat :=
 (bn ops.size).foldl (λD j=>if j==i||(match ops[j]? with|some oj=>oj.after.any (λe=>Region.binds .any e&&D.contains e.on)|none=>false) then D++[j] else D) []
def Hz(ops:Array Oper)(qs:List Nat)(aH:Array Bool)(i:Nat)(D:List Nat):Bool :=
 match ops[i]? with
 |none=>false
 |some o =>
  D.contains i&&D.all (λj=>j==i||match ops[j]? with|some oj=>oj.after.any (λe=>Region.binds .any e&&D.contains e.on)|none=>false) &&
  D.all (λj=>!aH.getD j true)&&o.after.all (λe=>!Region.binds .any e||aH.getD e.on false) &&
  (bn ops.size).all λj=>D.contains j||aH.getD j true||match ops[j]? with|some oj=>o.apart ops oj&&A5 (fH (qs.contains i) o) (fH (qs.contains j) oj)|none=>true
def SH{ops:Array Oper}{qs:List Nat}{K:St->Prop}{i:Nat}{D:List Nat}{fuel:Nat}{aH:Array Bool}(h:Hz ops qs aH i D=true)(hs:cy P ops qs i (vO P ops qs K fuel (aH.setIfInBounds i true)) σ):vO P ops qs K (fuel+1) aH σ:=by
 unfold Hz at h;cases hi:ops[i]? with
 |none=>simp[hi]at h
 |some o =>
  simp only[hi,bc,List.all_eq_true,ny,lQ,beq_iff_eq,Bool.not_eq_true']at h;obtain⟨⟨⟨⟨h1,h2⟩,h3⟩,h4⟩,h5⟩:=h;refine afD hi D h1 (λj hj=>?_) fuel aH σ h3 ?_ ?_ hs
  ·rcases h2 j hj with h|h
   ·exact .inl h
   ·right;split at h
    ·rename_i oj iN;rw[Array.any_eq_true']at h;obtain⟨e,he,hb⟩:=h;simp only[bc,ny]at hb;exact⟨oj,iN,e,he,hb.1,hb.2⟩
    ·simp at h
  ·rw[mem_ready];refine⟨h3 i h1,o,hi,λe he hb=>?_⟩;rw[Array.all_eq_true']at h4;have:=h4 e he;simpa [hb] using this
  ·intro j oj iN hl pJ;have hj:j<ops.size:=(Array.getElem?_eq_some_iff.1 iN).1;rcases h5 j (List.mem_range.2 hj) with(h|h)|h
   ·exact absurd h pJ
   ·rw[hl]at h;simp at h
   ·simpa [iN] using h
inductive PT where
 |nil
 |take (i:Nat) (t:PT)
 |both (i:Nat) (t:PT) (j:Nat) (u:PT)
 |three (i:Nat) (t:PT) (j:Nat) (u:PT) (k:Nat) (v:PT)
def PT.ok(ops:Array Oper)(qs:List Nat):PT->Nat->Array Bool->Bool
 |.nil,n,aH=>n==0&&(Region.ready .any ops aH).isEmpty
 |.take _ _,0,_=>false
 |.take i t,n+1,aH=>Hz ops qs aH i (Lo ops i)&&t.ok ops qs n (aH.setIfInBounds i true)
 |.both _ _ _ _,0,_=>false
 |.both i t j u,n+1,aH=>(Region.ready .any ops aH==[i,j])&&t.ok ops qs n (aH.setIfInBounds i true)&&u.ok ops qs n (aH.setIfInBounds j true)
 |.three _ _ _ _ _ _,0,_=>false
 |.three i t j u k v,n+1,aH=>(Region.ready .any ops aH==[i,j,k])&&t.ok ops qs n (aH.setIfInBounds i true)&&u.ok ops qs n (aH.setIfInBounds j true)&&v.ok ops qs n (aH.setIfInBounds k true)
def j8(P:Program)(ops:Array Oper)(qs:List Nat):PT->(St->Prop)->St->Prop
 |.nil,K,σ=>K σ
 |.take i t,K,σ=>cy P ops qs i (j8 P ops qs t K) σ
 |.both i t j u,K,σ=>cy P ops qs i (j8 P ops qs t K) σ/\cy P ops qs j (j8 P ops qs u K) σ
 |.three i t j u k v,K,σ=>cy P ops qs i (j8 P ops qs t K) σ/\cy P ops qs j (j8 P ops qs u K) σ/\cy P ops qs k (j8 P ops qs v K) σ
def A7{ops:Array Oper}{qs:List Nat}{K:St->Prop}:∀ (t:PT) (n:Nat) (aH:Array Bool) (σ:St),t.ok ops qs n aH=true->j8 P ops qs t K σ->vO P ops qs K n aH σ
 |.nil,n,aH,σ,h,hp=>by
  simp only[PT.ok,bc,beq_iff_eq,List.isEmpty_iff]at h;obtain⟨rfl,h⟩:=h;exact⟨h,hp⟩
 |.take _ _,0,_,_,h,_=>by simp[PT.ok]at h
 |.take i t,n+1,aH,σ,h,hp=>by
  simp only[PT.ok,bc]at h;exact SH h.1 (oc (λs hs=>A7 t n _ s h.2 hs) hp)
 |.both _ _ _ _,0,_,_,h,_=>by simp[PT.ok]at h
 |.both i t j u,n+1,aH,σ,h,hp=>by
  simp only[PT.ok,bc,beq_iff_eq]at h;obtain⟨⟨h1,h2⟩,h3⟩:=h;refine⟨λe=>by rw[h1]at e;simp at e,λk hk=>?_⟩;rw[h1]at hk;simp only[bu,iI,or_false]at hk;rcases hk with rfl|rfl
  ·exact oc (λs hs=>A7 t n _ s h2 hs) hp.1
  ·exact oc (λs hs=>A7 u n _ s h3 hs) hp.2
 |.three _ _ _ _ _ _,0,_,_,h,_=>by simp[PT.ok]at h
 |.three i t j u k v,n+1,aH,σ,h,hp=>by
  simp only[PT.ok,bc,beq_iff_eq]at h;obtain⟨⟨⟨h1,h2⟩,h3⟩,h4⟩:=h;refine⟨λe=>by rw[h1]at e;simp at e,λx hk=>?_⟩;rw[h1]at hk;simp only[bu,iI,or_false]at hk;rcases hk with rfl|rfl|rfl
  ·exact oc (λs hs=>A7 t n _ s h2 hs) hp.1
  ·exact oc (λs hs=>A7 u n _ s h3 hs) hp.2.1
  ·exact oc (λs hs=>A7 v n _ s h4 hs) hp.2.2
def nf{id:Nat}{ops:Array Oper}{Q:Exit->St->Prop}(qs:List Nat)(t:PT)(hm:P.follows .mixedOrders=true)(hd:fP N ops=true)(ht:t.ok ops qs ops.size (w0 ops.size false)=true)(h:j8 P ops qs t (Q .normal) σ):W P N n0 (.region id ops true) Q σ :=
 SF qs hm hd (A7 t _ _ σ ht h)
def SI{id:Nat}{ops:Array Oper}{y:Code}{Q:Exit->St->Prop}(qs:List Nat)(t:PT)(hm:P.follows .mixedOrders=true)(hd:fP N ops=true)(ht:t.ok ops qs ops.size (w0 ops.size false)=true)(h:∀ K:St->Prop,(∀ s,W P N n0 y Q s->K s)->j8 P ops qs t K σ):W P N n0 (.seq (.region id ops true) y) Q σ :=
 HA (nf qs t hm hd ht (h _ (λ_ h=>h)))
def mY{ops:Array Oper}{qs:List Nat}{K:St->Prop}:j8 P ops qs .nil K σ=K σ:=rfl
def mX{ops:Array Oper}{qs:List Nat}{i:Nat}{t:PT}{K:St->Prop}:j8 P ops qs (.take i t) K σ=cy P ops qs i (j8 P ops qs t K) σ:=rfl
def rO{ops:Array Oper}{qs:List Nat}{i j k:Nat}{t u v:PT}{K:St->Prop}:j8 P ops qs (.three i t j u k v) K σ=(cy P ops qs i (j8 P ops qs t K) σ/\cy P ops qs j (j8 P ops qs u K) σ/\cy P ops qs k (j8 P ops qs v K) σ):=rfl
def od{ops:Array Oper}{qs:List Nat}{i j:Nat}{t u:PT}{K:St->Prop}:j8 P ops qs (.both i t j u) K σ=(cy P ops qs i (j8 P ops qs t K) σ/\cy P ops qs j (j8 P ops qs u K) σ):=rfl
def Sh{q:Bool}{o:Oper}{K:St->Prop}:qM q P o K true true σ=mV q P o σ K:=by simp[qM]
def Sk{q:Bool}{o:Oper}{K:St->Prop}:qM q P o K false false σ=mV q P o σ K:=by simp[qM]
def Si{q:Bool}{o:Oper}{K:St->Prop}:qM q P o K true false σ=K (σ.put o.dst (.lit (.tuple #[]))):=by simp[qM]
def Sj{q:Bool}{o:Oper}{K:St->Prop}:qM q P o K false true σ=K (σ.put o.dst (.lit (.tuple #[]))):=by simp[qM]
def afE{q:Bool}{o:Oper}{K:St->Prop}{b want:Bool}(h1:b=true->qM q P o K true want σ)(h2:b=false->qM q P o K false want σ):qM q P o K b want σ:=by
 cases b
 ·exact h2 rfl
 ·exact h1 rfl
def j9:List Nat->PT
 |[]=>.nil
 |i::r=>.take i (j9 r)
end Go.Am
namespace Go.Am
variable {P:Program} {N n0:Nat} {σ:St} {Q:Exit->St->Prop}
def ar:List (Nat×AV)->Nat->AV
 |[]=>λ_=>.undef
 |p::l=>jP (ar l) p.1 p.2
def Hs(d:Nat)(v:AV)(l:List (Nat×AV)):ar ((d,v)::l)=jP (ar l) d v:=rfl
def HB(l:List (Nat×AV))(k:Nat):ar l k=.undef\/∃ p∈l,p.1=k/\ar l k=p.2:=by
 induction l with
 |nil=>exact .inl rfl
 |cons p l ih =>
  by_cases h:k=p.1
  ·right;exact⟨p,G9,h.symm,by simp[ar,jP,h]⟩
  ·have e:ar (p::l) k=ar l k:=by simp[ar,jP,h]
   rw[e];rcases ih with h|⟨q,hq,h1,h2⟩
   ·exact .inl h
   ·exact .inr ⟨q,by simp[hq],h1,h2⟩
def Has(e:Nat->AV):List (Nat×AV)->Prop
 |[]=>True
 |p::l=>e p.1=p.2/\Has e l
def Has.mem{e:Nat->AV}:∀ {l:List (Nat×AV)},Has e l->∀ p∈l,e p.1=p.2
 |q::l,h,p,hp=>by
  rcases bu.1 hp with rfl|hp
  ·exact h.1
  ·exact Has.mem h.2 p hp
def aD.ar(l:List (Nat×AV))(os:List Ob)(ho:σ.aa=os)(h:Has σ.env l):aD n0 σ ⟨ar l,os⟩:=by
 subst ho;refine aD.forget λk=>?_;rcases HB l k with h'|⟨p,hp,rfl,h'⟩
 ·exact .inl h'
 ·right;rw[h',h.mem p hp]
def qL(ρ:Nat->Nat)(os:List Ob):List Nat->List Ob->Prop
 |[],[]=>True
 |i::aj,o::co=>(i<os.length/\(o=.gone\/os[i]?=some (bO ρ o)))/\qL ρ os aj co
 |_,_=>False
def qL.spec{ρ:Nat->Nat}{os:List Ob}:∀ {aj:List Nat} {co:List Ob},qL ρ os aj co->co.length=aj.length/\(∀ (j:Nat) o,co[j]?=some o->o=.gone\/os[aj.getD j 0]?=some (bO ρ o))/\∀ i∈aj,i<os.length
 |[],[],_=>⟨rfl,G9,G9⟩
 |i::aj,o::co,h=>by
  obtain⟨⟨h1,h2⟩,h3⟩:=h;obtain⟨a,b,c⟩:=qL.spec h3;refine⟨by simp[a],λj o' hj=>?_,λx hx=>?_⟩
  ·cases j with
   |zero=>simp at hj;subst hj;simpa using h2
   |succ j=>simpa using b j o' (by simpa using hj)
  ·rcases bu.1 hx with rfl|hx
   ·exact h1
   ·exact c x hx
def uu(R:AV->AV->Prop)(e:Nat->AV):List (Nat×AV)->Prop
 |[]=>True
 |p::l=>R p.2 (e p.1)/\uu R e l
def uu.mem{R:AV->AV->Prop}{e:Nat->AV}:∀ {l:List (Nat×AV)},uu R e l->∀ p∈l,R p.2 (e p.1)
 |q::l,h,p,hp=>by
  rcases bu.1 hp with rfl|hp
  ·exact h.1
  ·exact uu.mem h.2 p hp
def kept(aj:List Nat)(co:List Ob)(id:Nat):Prop:=∃ j,j<aj.length/\aj.getD j 0=id/\co[j]?≠some .gone
def aD.aj(aj:List Nat)(snap:Bool)(l:List (Nat×AV))(co:List Ob)(bG:aj.Nodup)(ho:qL (bE σ.aa.length aj) σ.aa aj co)(hn:n0<=aj.length)(bZ:∀ i,i<n0->aj.getD i 0=i)(h:uu (a7 σ (kept aj co) (bE σ.aa.length aj) snap) σ.env l):aD n0 σ ⟨Am.ar l,co⟩:=by
 obtain⟨h1,h2,h3⟩:=ho.spec;refine aD.select aj snap co _ bG h1 h2 h3 hn bZ λk=>?_;rcases HB l k with h'|⟨p,hp,rfl,h'⟩
 ·exact .inl h'
 ·right;rw[h'];exact h.mem p hp
def a7.pure{kp:Nat->Prop}{ρ:Nat->Nat}{snap:Bool}{v:AV}(h:lr v=true):a7 σ kp ρ snap v v:=by
 have:=a7.same (σ:=σ) (kp:=kp) (ρ:=ρ) (snap:=snap) v;rwa [A8 _ v h]at this
def a7.eq{kp:Nat->Prop}{ρ:Nat->Nat}{snap:Bool}{v u:AV}(h:u=br ρ v):a7 σ kp ρ snap v u:=by
 subst h;exact .same v
def cX.flat{kp:Nat->Prop}{id sz len:Nat}{rows:List (List AV)}(ho:σ.aa[id]?=some (.arr sz rows))(hw:∀ row∈rows,row.length=sz)(hl:len=rows.length)(uh:¬ kp id)(hf:∀ row∈rows,∀ v∈row,(∃ x,v=.lit x)\/∃ s r,v=.tree s r):
  cX σ kp (.tree sz rows) (.ref id sz 0 len):=by
 refine .ref id sz 0 len rows rows (λr c=>(cellAt rows r c).getD .undef) ho uh (by simp[hl]) hw (λr c v hv=>?_) (λr c v hv=>?_)
 ·simp[hl,hv]
 ·rw[hv,Option.getD_some];simp only[cellAt,Option.bind_eq_some_iff]at hv;obtain⟨row,h1,h2⟩:=hv;rcases hf row (hZ h1) v (hZ h2) with⟨x,rfl⟩|⟨s,r,rfl⟩
  ·exact .lit x
  ·exact .tree s r
def a7.nil{kp:Nat->Prop}{ρ:Nat->Nat}{sz:Nat}:a7 σ kp ρ true (.tree sz []) (.lit (.slice none 0 0)):=.snap _ _ rfl (.nil sz)
def a7.cN{kp:Nat->Prop}{ρ:Nat->Nat}{id sz len:Nat}{rows:List (List AV)}(ho:σ.aa[id]?=some (.arr sz rows))(hw:∀ row∈rows,row.length=sz)(hl:len=rows.length)(uh:¬ kp id)(hf:∀ row∈rows,∀ v∈row,(∃ x,v=.lit x)\/∃ s r,v=.tree s r):
  a7 σ kp ρ true (.tree sz rows) (.ref id sz 0 len):=.snap _ _ rfl (cX.flat ho hw hl uh hf)
def afF{α:Type}(n0:Nat)(S:α->St)(I:α->Prop)(M:α->Nat)(x:α)(Q:Exit->St->Prop):Exit->St->Prop
 |.normal,s=>∃ y,I y/\M y<M x/\aD n0 s (S y)
 |e,s=>Q e s
def afG{α:Type}{c:Code}(S:α->St)(I:α->Prop)(M:α->Nat)(x0:α)(hI:I x0)(h0:aD n0 σ (S x0))(round:∀ x,I x->∀ Q':Exit->St->Prop,(∀ s y,I y->M y<M x->aD n0 s (S y)->Q' .normal s)->(∀ e s,e≠.normal->Q e s->Q' e s)->W P N n0 c Q' (S x)):W P N n0 (.loop c) Q σ:=by
 refine bP h0 ?_;intro os γ0 a w hn az b k cs;have key:∀ n x a w,M x=n->I x->gp N os γ0 (S x) a w ->
   ∃ e a' w',(∃ σ',Q e σ'/\gp N os γ0 σ' a' w')/\Arrives P (lone (b.at a (.code c::.inLoop c::k)) cs w) b k cs e a' w':=by
  intro n
  induction n using Nat.strongRecOn with
  |_ n ih =>
   intro x a w hm hI az;have hr:W P N n0 c (afF n0 S I M x Q) (S x):=round x hI _ (λs y h1 h2 h3=>⟨y,h1,h2,h3⟩) (λe s he h=>by cases e<;>first|exact absurd rfl he|exact h);obtain⟨e,ta,uv,⟨σ',hq,c8⟩,oW⟩:=hr os γ0 a w hn az b (.inLoop c::k) cs;cases e with
   |normal =>
    obtain⟨y,Lp,aX,ht⟩:=hq;obtain⟨h1,h2,γ,rfl,h3,h4,h5⟩:=c8;obtain⟨aC,e1,e2,e3,e4⟩:=ht os γ0 γ hn h4 h5;obtain⟨Lr,Ls,Lt,Lu,Lv⟩:=ih (M y) Ey y ta γ.w rfl Lp ⟨h1,h2,aC,e1,e2.trans h3,e3,e4⟩;exact⟨Lr,Ls,Lt,Lu,.of_steps (Steps.trans oW (.one step_inLoop)) Lv⟩
   |exit id=>exact⟨_,ta,uv,⟨σ',hq,c8⟩,.pass (x:=.inLoop c) rfl (λ_ _=>.inl G9) oW⟩
   |goto l=>exact⟨_,ta,uv,⟨σ',hq,c8⟩,.pass (x:=.inLoop c) rfl (λ_ _=>.inl G9) oW⟩
   |ret=>exact⟨_,ta,uv,⟨σ',hq,c8⟩,.pass (x:=.inLoop c) rfl (λ_ _=>.inl G9) oW⟩
   |panic ch=>exact⟨_,ta,uv,⟨σ',hq,c8⟩,.pass (x:=.inLoop c) rfl (λ_ _=>.inl G9) oW⟩
   |outgrown=>exact⟨_,ta,uv,⟨σ',hq,c8⟩,.pass (x:=.inLoop c) rfl (λ_ _=>.inl G9) oW⟩
 obtain⟨e,a',w',hq,oW⟩:=key _ x0 a w rfl hI az;exact⟨e,a',w',hq,.of_steps (.one step_loop) oW⟩
def afH{id:Nat}{c:Code}(h:∀ Q':Exit->St->Prop,(∀ s,Q .normal s->Q' .normal s)->(∀ s,Q .normal s->Q' (.exit id) s)->(∀ e s,e≠.normal->e≠.exit id->Q e s->Q' e s)->W P N n0 c Q' σ):W P N n0 (.block id c) Q σ :=
 afI (h _ (λs h=>h) (λs h=>by simp only[HC,if_true];exact h) (λe s h1 h2 h=>by
  cases e<;>first
   |exact absurd rfl h1
   |exact h
   | (rename_i pK;simp only[HC];rw[if_neg (λe=>h2 (by rw[e]))];exact h)))
def EM{ρ:Nat->Nat}{sz:Nat}{rows:List (List AV)}(h:∀ row∈rows,mZ row=true):bO ρ (.arr sz rows)=.arr sz rows:=by
 simp only[bO];congr 1;have:∀ row∈rows,row.map (br ρ)=row:=λrow hr=>by
  have:=C4 ρ row (h row hr);rwa [yA]at this
 rw[tZ this];simp
def afJ(n j:Nat):bE n (bn n) j=j:=by
 unfold bE;split
 ·rename_i h;have h':j<n:=by simpa using h
  simp[ay,lk h']
 ·rename_i h;simp at h ⊢;omega
mutual
def zD:∀ (v:AV),br (λj=>j) v=v
 |.undef=>rfl
 |.lit _=>rfl
 |.tree ..=>rfl
 |.b6 _=>rfl
 |.ref ..=>rfl
 |.ptr ..=>rfl
 |.agg cs=>by simp only[br];rw[HD cs]
 |.bC cs=>by simp only[br];rw[HD cs]
 |.fn f cs=>by simp only[br];rw[HD cs]
 |.iU t v=>by simp only[br];rw[zD v]
 |.dD _=>rfl
def HD:∀ (l:List AV),pL (λj=>j) l=l
 |[]=>rfl
 |v::vs=>by simp only[pL];rw[zD v,HD vs]
end
def EH(o:Ob):bO (λj=>j) o=o:=by
 have h:br (λj=>j)=id:=by funext v;exact zD v
 cases o with
 |gone=>rfl
 |var cs=>simp[bO,h]
 |arr sz rows=>simp[bO,h]
 |mp ag L=>simp[bO,h]
def zC(n:Nat):bE n (bn n)=λj=>j:=by funext j;exact afJ n j
def SJ(aa:List Ob):∀ (bh:List Ob),aa.length<=bh.length->fF aa (bn aa.length) bh=bh:=by
 intro bh h;have hlen:(bn aa.length).length<=bh.length:=by simpa using h
 apply List.ext_getElem?;intro i;rcases Nat.lt_or_ge i aa.length with hi|hi
 ·have:=HE (bn aa.length) aa bh hlen (Et) G9 i (by simpa using hi);simpa [ay,lk hi] using this
 ·have C5:=Lw (bn aa.length) aa bh hlen;obtain⟨j,rfl⟩:∃j,i=aa.length+j:=⟨i-aa.length,Ey⟩;have:=SK (bn aa.length) aa bh hlen j;simpa using this
def gr{f:FuncId}{args:List AV}{dst:Option Tmp}{K:St->Prop}{res:AV}{bh:List Ob}(h:Holds P f args σ.aa res bh)(hl:σ.aa.length<=bh.length)(hK:K ((⟨σ.env,bh⟩:St).put dst res)):uf P f args dst K σ:=by
 refine⟨bn σ.aa.length,false,args,σ.aa,res,bh,h,⟨Et,G9,?_,rfl,?_,G9⟩,?_⟩
 ·intro j o hj;have aX:=(aY.1 hj).1;rw[zC,EH];simpa [ay,lk aX] using hj
 ·intro j c d hc hd;rw[hc]at hd;simp only[cH.injEq]at hd;subst hd;exact .eq (by rw[zC,zD])
 ·rw[zC,zD];have:bh.map (bO (λj=>j))=bh:=by
   have h:bO (λj=>j)=id:=by funext o;exact EH o
   simp[h]
  rw[this,SJ _ _ hl];exact hK
end Go.Am
namespace Go.Am
variable {P:Program} {N n0:Nat} {σ:St} {Q:Exit->St->Prop}
def afK{id:Nat}{ops:Array Oper}(hd:fP N ops=true)(h:∀ K:St->Prop,(∀ s,Q .normal s->K s)->opsL P ops ops.toList K σ):W P N n0 (.region id ops false) Q σ :=
 SL hd (h _ (λ_ h=>h))
def Lx{ops:Array Oper}{K:St->Prop}:∀ (l:List Oper) (i:Nat) (σ:St),ops.toList.drop i=l->opsL P ops l K σ->j8 P ops [] (j9 (mU i l.length)) K σ
 |[],i,σ,_,h=>h
 |o::r,i,σ,hl,h=>by
  have hi:ops[i]?=some o:=by
   have:(ops.toList.drop i)[0]?=some o:=by rw[hl];rfl
   simpa using this
  have hr:ops.toList.drop (i+1)=r:=by
   have:=congrArg List.tail hl;simpa [List.tail_drop] using this
  rw[List.length_cons,List.range'_succ];show cy P ops [] i (j8 P ops [] (j9 (mU (i+1) r.length)) K) σ;unfold cy;simp only[hi];have hm:∀ s,opsL P ops r K s->j8 P ops [] (j9 (mU (i+1) r.length)) K s:=λs hs=>Lx r (i+1) s hr hs;refine EL hm ?_;unfold opsL at h;unfold eC;cases hg:o.guard with
  |none=>simp only[hg]at h;exact h
  |some jw =>
   obtain⟨j,want⟩:=jw;simp only[hg]at h;exact h
def A9(ops:Array Oper):Bool:=(j9 (bn ops.size)).ok ops [] ops.size (w0 ops.size false)
def afL{id:Nat}{ops:Array Oper}{y:Code}(hm:P.follows .mixedOrders=true)(hd:fP N ops=true)(ht:A9 ops=true)(h:∀ K:St->Prop,(∀ s,W P N n0 y Q s->K s)->opsL P ops ops.toList K σ):
  W P N n0 (.seq (.region id ops true) y) Q σ :=
 SI [] _ hm hd ht λK hK=>by
  have:=Lx (P:=P) (ops:=ops) ops.toList 0 σ rfl (h K hK);rw[wW];simpa using this
def afM{id:Nat}{ops:Array Oper}(hm:P.follows .mixedOrders=true)(hd:fP N ops=true)(ht:A9 ops=true)(h:∀ K:St->Prop,(∀ s,Q .normal s->K s)->opsL P ops ops.toList K σ):
  W P N n0 (.region id ops true) Q σ :=
 nf [] _ hm hd ht (by
  have:=Lx (P:=P) (ops:=ops) ops.toList 0 σ rfl (h _ (λ_ h=>h));rw[wW];simpa using this)
def aN{v res:AV}(hr:lr v=true)(h:v=res):oU 0 σ v res []:=by
 subst h;exact Ly hr
def Hq(e:Nat->AV)(d:Nat)(v:AV)(k:Nat):jP e d v k=if k=d then v else e k:=by simp only[jP]
def R6:IntKind.i64.min = -9223372036854775808:=rfl
def R7:IntKind.i64.max=9223372036854775807:=rfl
def ints(xs:List Int):List (List AV):=xs.map λx=>[QM x]
def aV(xs:List Bool):List (List AV):=xs.map λx=>[.lit (.bool x)]
def eO(xs:List (List Int)):List (List AV):=xs.map λx=>[.tree 1 (ints x)]
def xl(xs:List Int):(ints xs).length=xs.length:=by simp[ints]
def A4(xs:List Bool):(aV xs).length=xs.length:=by simp[aV]
def EI(xs:List (List Int)):(eO xs).length=xs.length:=by simp[eO]
def Sl(xs:List Int)(i:Nat)(h:i<xs.length):(ints xs).getD i []=[QM (xs.getD i 0)]:=by simp[ints,h]
def Sm(xs:List Bool)(i:Nat)(h:i<xs.length):(aV xs).getD i []=[.lit (.bool (xs.getD i false))]:=by simp[aV,h]
def Sn(xs:List (List Int))(i:Nat)(h:i<xs.length):(eO xs).getD i []=[.tree 1 (ints (xs.getD i []))]:=by simp[eO,h]
def Sp(xs:List Int)(i:Nat)(h:i<xs.length):(ints xs)[i]?=some [QM (xs.getD i 0)]:=by simp[ints,h]
def Sr(xs:List Bool)(i:Nat)(h:i<xs.length):(aV xs)[i]?=some [.lit (.bool (xs.getD i false))]:=by simp[aV,h]
def Hv(xs:List (List Int))(i:Nat)(h:i<xs.length):(eO xs)[i]?=some [.tree 1 (ints (xs.getD i []))]:=by simp[eO,h]
def ints_set(xs:List Int)(i:Nat)(v:Int):(ints xs).set i [QM v]=ints (xs.set i v):=by simp[ints,qF]
def uj(xs:List Bool)(i:Nat)(v:Bool):(aV xs).set i [.lit (.bool v)]=aV (xs.set i v):=by simp[aV,qF]
def Ss(xs ys:List Int):ints xs++ints ys=ints (xs++ys):=by simp[ints]
def CY(xs:List Int)(v:Int):ints xs++[[QM v]]=ints (xs++[v]):=by simp[ints]
def Su(xs:List (List Int))(v:List Int):eO xs++[[.tree 1 (ints v)]]=eO (xs++[v]):=by simp[eO]
def EJ(xs:List Bool)(v:Bool):aV xs++[[.lit (.bool v)]]=aV (xs++[v]):=by simp[aV]
def Li(n:Nat)(v:Int):aK n [AV.lit (.int .i64 v)]=ints (aK n v):=by simp[ints]
def CZ(n:Nat)(v:Bool):aK n [AV.lit (.bool v)]=aV (aK n v):=by simp[aV]
def Hw(xs:List Int):((ints xs).all λrow=>row.all dh)=true:=by simp[ints,dh,Value.oneCell']
def Sv(xs:List Bool):((aV xs).all λrow=>row.all dh)=true:=by simp[aV,dh,Value.oneCell']
def Sw(xs:List (List Int)):((eO xs).all λrow=>row.all dh)=true:=by simp[eO,dh]
def Hu(ρ:Nat->Nat)(sz:Nat)(xs:List Int):bO ρ (.arr sz (ints xs))=.arr sz (ints xs):=EM (by simp[ints,mZ,lr])
def CX(ρ:Nat->Nat)(sz:Nat)(xs:List Bool):bO ρ (.arr sz (aV xs))=.arr sz (aV xs):=EM (by
 intro row hr;simp only[aV,bY]at hr;obtain⟨x,_,rfl⟩:=hr;rfl)
def Lh(ρ:Nat->Nat)(sz:Nat)(xs:List (List Int)):bO ρ (.arr sz (eO xs))=.arr sz (eO xs):=EM (by simp[eO,mZ,lr])
def xn(xs:List Int):∀ row∈ints xs,∀ v∈row,(∃ x,v=AV.lit x)\/∃ s r,v=AV.tree s r:=by
 intro row hr v hv;simp only[ints,bY]at hr;obtain⟨x,_,rfl⟩:=hr;simp at hv;exact .inl ⟨_,hv⟩
def SM(xs:List Bool):∀ row∈aV xs,∀ v∈row,(∃ x,v=AV.lit x)\/∃ s r,v=AV.tree s r:=by
 intro row hr v hv;simp only[aV,bY]at hr;obtain⟨x,_,rfl⟩:=hr;simp at hv;exact .inl ⟨_,hv⟩
def SN(xs:List (List Int)):∀ row∈eO xs,∀ v∈row,(∃ x,v=AV.lit x)\/∃ s r,v=AV.tree s r:=by
 intro row hr v hv;simp only[eO,bY]at hr;obtain⟨x,_,rfl⟩:=hr;simp at hv;exact .inr ⟨_,_,hv⟩
def uw(xs:List Int):∀ row∈ints xs,row.length=1:=by
 intro row hr;simp only[ints,bY]at hr;obtain⟨x,_,rfl⟩:=hr;rfl
def Lz(xs:List Bool):∀ row∈aV xs,row.length=1:=by
 intro row hr;simp only[aV,bY]at hr;obtain⟨x,_,rfl⟩:=hr;rfl
def SO(xs:List (List Int)):∀ row∈eO xs,row.length=1:=by
 intro row hr;simp only[eO,bY]at hr;obtain⟨x,_,rfl⟩:=hr;rfl
def kR{α:Type}(xs:List α)(i:Nat)(d:α)(h:i<xs.length):xs.drop i=xs.getD i d::xs.drop (i+1):=by
 rw[List.drop_eq_getElem_cons h];simp[h]
end Go.Am

