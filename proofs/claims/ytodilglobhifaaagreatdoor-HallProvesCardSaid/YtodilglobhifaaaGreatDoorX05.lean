import Derived.Test.YtodilglobhifaaaGreatDoorX04
set_option linter.all false
set_option maxHeartbeats 0
set_option maxRecDepth 20000
open List renaming mem_of_getElem?→fq,mem_append→bE,map_congr_left→qX,getElem?_eq_some_iff→aN,range→bp,contains_iff_mem→pP,mem_cons→cI,not_mem_nil→lf,getD_eq_getElem?_getD→ax,getElem?_range→pQ,nodup_range→yY,range'→jN,range_eq_range'→sx,map_set→yV,replicate→aD,mem_map→cF
open Array renaming getD_eq_getD_getElem?→dJ,toList_append→BB,replicate→w0
open Bool renaming or_eq_true→lR,and_eq_true→bb
open Option renaming some→cL
namespace Go.Am
variable {P:Program}
def FQ(P:Program)(g:FuncId)(args:List AV)(dst:Option Tmp)(K:St->Prop)(σ:St):Prop :=
 ∃ res,ak P g args [] res []/\kN args=true/\jR res=true/\K (σ.put dst res)
def ql(P:Program)(t:TypeId)(dst:Option Tmp)(K:St->Prop)(σ:St):AV->Prop
 |.bU cells=>(ty P t).kind≠99/\kf (ty P t) cells 0 λv=>K (σ.put dst v)
 |_=>False
def lq(q:Bool)(P:Program)(o:Oper)(σ:St)(K:St->Prop):Prop :=
 match q with
 |false=>aG P o σ K
 |true =>
  match o.op with
  |.call { callee:=.value f,args,.. } =>
   match ev σ f with
   |.fn g bg=>FQ P g (args.toList.map (ev σ)++bg) o.dst K σ
   |_=>False
  |.load t a=>ql P t o.dst K σ (ev σ a)
  |_=>False
def WO{o:Oper}{σ:St}{K:St->Prop}{t:TypeId}{a:Operand}(dH:o.op=.load t a)(h:ql P t o.dst K σ (ev σ a)):aG P o σ K:=by
 unfold aG;simp only[dH];unfold bM;simp only[dH];unfold ql at h;split at h
 ·rename_i cells he;simp only[he];exact h
 ·exact h.elim
def O0{t:TypeId}{dst:Option Tmp}{K:St->Prop}{σ:St}{v:AV}(h:ql P t dst K σ v):∃x,K (σ.put dst x)/\∀ (σ2:St) (K2:St->Prop),K2 (σ2.put dst x)->ql P t dst K2 σ2 v:=by
 unfold ql at h;split at h
 ·rename_i cells;obtain⟨h1,h2⟩:=h;unfold kf at h2;split at h2
  ·rename_i ha;refine⟨_,h2.2,λσ2 K2 hK=>?_⟩;unfold ql kf;simp only;rw[if_pos ha];exact⟨h1,h2.1,hK⟩
  ·rename_i ha;split at h2
   ·rename_i x hx;refine⟨x,h2,λσ2 K2 hK=>?_⟩;unfold ql kf;simp only;rw[if_neg ha,hx];exact⟨h1,hK⟩
   ·exact h2.elim
 ·exact h.elim
def mS(q:Bool)(P:Program)(o:Oper)(K:St->Prop)(b want:Bool)(σ:St):Prop:=(b=want->lq q P o σ K)/\(b≠want->K (σ.put o.dst (.lit (.tuple #[]))))
def dO(P:Program)(ops:Array Oper)(q:Bool)(o:Oper)(K:St->Prop)(σ:St):Prop :=
 match o.guard with
 |none=>lq q P o σ K
 |some (j,want) =>
  match (ops[j]?).bind (·.dst) with
  |none=>False
  |some d =>
   match σ.env d with
   |.lit (.bool b)=>mS q P o K b want σ
   |.lit (.tuple vs)=>vs = #[]/\K (σ.put o.dst (.lit (.tuple #[])))
   |_=>False
def O1{q:Bool}{o:Oper}{σ:St}{K:St->Prop}(h:lq q P o σ K):aG P o σ K:=by
 cases q with
 |false=>exact h
 |true =>
  unfold lq at h;simp only at h;unfold aG;split at h
  ·rename_i f args dv dH;simp only[dH];split at h
   ·rename_i g bg he;simp only[he];obtain⟨res,h1,h2,h3,h4⟩:=h;exact bx h1 h2 h3 h4
   ·exact h.elim
  ·rename_i t a dH;have:=WO dH h;unfold aG at this;simpa only[dH] using this
  ·exact h.elim
def WQ{N:Nat}{os:List Ob}{γ0:Cx}{ops:Array Oper}(hd:∀ o∈ops.toList,∀ d,o.dst=some d->d<N){q:Bool}{i:Nat}{o:Oper}(hi:ops[i]?=some o){σ:St}{K:St->Prop}(h:dO P ops q o K σ){a:Act}{w:World}(az:eH N os γ0 σ a w){Q:Exit->Act->World->Prop}{next:Act->World->Prop}(hn:∀ σ' a' w',K σ'->eH N os γ0 σ' a' w'->next a' w'):wpOp P ops Q i next a w:=by
 have bP:o∈ops.toList:=fq (by simpa using hi);unfold wpOp;simp only[hi];unfold dO at h;cases hg:o.guard with
 |none =>
  simp only[hg]at h;have hw:Region.wanted o (yielded ops a.tmps)=true:=by simp[Region.wanted,hg]
  rw[if_pos hw];left;exact vJ (O1 h) az (hd o bP) hn
 |some jw =>
  obtain⟨j,want⟩:=jw;simp only[hg]at h;cases dR:(ops[j]?).bind (·.dst) with
  |none=>simp[dR]at h
  |some d =>
   simp only[dR]at h;split at h
   ·rename_i b he;obtain⟨eI,aH,γ,rfl,ha,hs,hf⟩:=az;have ic:=hs.ao d;rw[he,ha]at ic;have hv:=ic.bX;have hy:yielded ops a.tmps j=some b:=by
     unfold yielded;rw[dR];have:a.tmps[d]?=some (.bool b):=by
      rw[dJ]at hv;cases hx:a.tmps[d]? with
      |none=>rw[hx]at hv;simp[Go.undef]at hv
      |some y=>rw[hx]at hv;simp at hv;rw[hv]
     simp[this]
    by_cases eV:b=want
    ·have hw:Region.wanted o (yielded ops a.tmps)=true:=by simp[Region.wanted,hg,hy,eV]
     rw[if_pos hw];left;exact vJ (O1 (h.1 eV)) ⟨eI,aH,γ,rfl,ha,hs,hf⟩ (hd o bP) hn
    ·have hw:Region.wanted o (yielded ops a.tmps)=false:=by simp[Region.wanted,hg,hy,eV]
     rw[if_neg (by rw[hw];simp)];refine hn _ _ _ (h.2 eV) ⟨by rw[put_defers];exact eI,by rw[nG];exact aH,{ γ with tmps:=(a.put o.dst Go.undef).tmps },rfl,rfl,mW hs ha (λd h=>by rw[aH];exact hd o bP d h) (.lit _),?_⟩;rw[l7];exact hf.put _
   ·rename_i vs he;obtain⟨eI,aH,γ,rfl,ha,hs,hf⟩:=az;have ic:=hs.ao d;rw[he,ha]at ic;have hv:=ic.bX;have hy:yielded ops a.tmps j=none:=by
     unfold yielded;rw[dR];rw[dJ]at hv;cases hx:a.tmps[d]? with
     |none=>simp[hx]
     |some y=>rw[hx]at hv;simp at hv;subst hv;simp[hx]
    have hw:Region.wanted o (yielded ops a.tmps)=false:=by simp[Region.wanted,hg,hy]
    rw[if_neg (by rw[hw];simp)];refine hn _ _ _ h.2 ⟨by rw[put_defers];exact eI,by rw[nG];exact aH,{ γ with tmps:=(a.put o.dst Go.undef).tmps },rfl,rfl,mW hs ha (λd h=>by rw[aH];exact hd o bP d h) (.lit _),?_⟩;rw[l7];exact hf.put _
   ·exact h.elim
def Cq(c:Nat)(a:List Ob):jB c a a:=by
 unfold jB;split
 ·rfl
 ·split
  ·intro id _;rfl
  ·split
   ·exact⟨rfl,λid o o' h h'=>by rw[h]at h';simp at h';subst h';exact xy o⟩
   ·trivial
def df.aa{σ σ2:St}(h:σ2.aa=σ.aa){kp:Nat->Prop}{c d:AV}(ha:df σ kp c d):df σ2 kp c d:=by
 induction ha with
 |lit x=>exact .lit x
 |tree s r=>exact .tree s r
 |nil sz=>exact .nil sz
 |ref id sz off len rows fh g a9 ph hl0 Cr dg dc ih=>exact .ref id sz off len rows fh g (by rw[h];exact a9) ph hl0 Cr dg ih
def bt.aa{σ σ2:St}(h:σ2.aa=σ.aa){kp:Nat->Prop}{ρ:Nat->Nat}{snap:Bool}{c d:AV}(ha:bt σ kp ρ snap c d):bt σ2 kp ρ snap c d:=by
 induction ha with
 |same v=>exact .same v
 |snap c d hs hf=>exact .snap c d hs (hf.aa h)
 |agg cs ds hl _ ih=>exact .agg cs ds hl ih
 |bH cs ds hl _ ih=>exact .bH cs ds hl ih
def iD(q:Bool)(o:Oper):Nat:=if q then 0 else cls o.op
def Cs{ops:Array Oper}{o:Oper}{σ:St}{e2:Nat->AV}{os:List Ob}(h:∀ t∈o.looksAt ops,e2 t=σ.env t):∀ x∈o.op.operands.toList,ev ⟨e2,os⟩ x=ev σ x:=by
 intro x hx;cases x with
 |tmp t =>
  show e2 t=σ.env t;refine h t ?_;unfold Oper.looksAt;rw[bE];left;rw[List.mem_filterMap];exact⟨_,hx,rfl⟩
 |const v=>rfl
 |func f=>rfl
 |global g=>rfl
def WR{σ:St}{v:AV}{K:FuncId->AV->Prop}{r:Option (FuncId×Option TypeId)}(h:mR P σ v K r):
  ∃ g x,K g x/\∀ (e2:Nat->AV) (K2:FuncId->AV->Prop),K2 g x->mR P ⟨e2,σ.aa⟩ v K2 r:=by
 match r,h with
 |none,h=>exact h.elim
 |some (g,none),h=>exact⟨g,v,h,λ_ _ h=>h⟩
 |some (g,some e),h =>
  unfold mR at h;obtain⟨hk,h⟩:=h;cases v with
  |ptr id rr c =>
   simp only at h;cases bf:rowOf σ id rr with
   |none=>simp[bf]at h
   |some row =>
    simp only[bf]at h;obtain⟨x,h1,h2⟩:=O2 h;refine⟨g,x,h1,λe2 K2 hK=>?_⟩;unfold mR;have:rowOf ⟨e2,σ.aa⟩ id rr=some row:=bf;simp only[this];exact⟨hk,h2 _ hK⟩
  |_=>exact h.elim
def WS{o:Oper}{σ:St}{K:St->Prop}(hW:aG P o σ K):
  ∃ v os,jB (cls o.op) σ.aa os/\K ((⟨σ.env,os⟩:St).put o.dst v)/\∀ (e2:Nat->AV) (K2:St->Prop),(∀ x∈o.op.operands.toList,ev ⟨e2,σ.aa⟩ x=ev σ x)->K2 ((⟨e2,os⟩:St).put o.dst v)->aG P o ⟨e2,σ.aa⟩ K2:=by
 unfold aG at hW ⊢;split at hW
 ·rename_i f args dv dH;simp only[dH];split at hW
  ·rename_i g bg he;obtain⟨ae,snap,dF,bA,res,cA,h1,⟨h2,h3,h4,h5,h6,h7⟩,h8⟩:=hW;refine⟨_,_,(by simp[jB,cls]),h8,λe2 K2 hx hK=>?_⟩;have e1:ev ⟨e2,σ.aa⟩ f=.fn g bg:=by rw[<- he];exact hx f (by simp[Op.operands,Call.operands])
   have e3:args.toList.map (ev ⟨e2,σ.aa⟩)=args.toList.map (ev σ):=qX λy hy=>hx y (by simp only[Op.operands,Call.operands,BB,bE];exact .inr hy);simp only[e1,e3];exact⟨ae,snap,dF,bA,res,cA,h1,⟨h2,h3,h4,h5,λj c d hc hd=>bt.aa (σ:=σ) (σ2:=⟨e2,σ.aa⟩) rfl (h6 j c d hc hd),h7⟩,hK⟩
  ·exact hW.elim
 ·rename_i r m args dv dH;simp only[dH];split at hW
  ·rename_i t v he;obtain⟨g,x,⟨ae,snap,dF,bA,res,cA,h1,⟨h2,h3,h4,h5,h6,h7⟩,h8⟩,WT⟩:=WR hW;refine⟨_,_,(by simp[jB,cls]),h8,λe2 K2 hx hK=>?_⟩;have e1:ev ⟨e2,σ.aa⟩ r=.fI t v:=by rw[<- he];exact hx r (by simp[Op.operands,Call.operands])
   have e3:args.toList.map (ev ⟨e2,σ.aa⟩)=args.toList.map (ev σ):=qX λy hy=>hx y (by simp only[Op.operands,Call.operands,BB,bE];exact .inr hy);simp only[e1,e3];exact WT e2 _ ⟨ae,snap,dF,bA,res,cA,h1,⟨h2,h3,h4,h5,λj c d hc hd=>bt.aa (σ:=σ) (σ2:=⟨e2,σ.aa⟩) rfl (h6 j c d hc hd),h7⟩,hK⟩
  ·exact hW.elim
 ·rename_i cC;obtain⟨v,os,h1,h2,h3⟩:=WU hW;refine⟨v,os,h1,h2,λe2 K2 hx hK=>?_⟩;have:=h3 e2 K2 hx hK;exact this
def WV{o:Oper}{σ:St}{K:St->Prop}(hc:cls o.op<=2)(hW:aG P o σ K):
  ∃ v,K (σ.put o.dst v)/\∀ (σ2:St) (K2:St->Prop),(∀ x∈o.op.operands.toList,ev σ2 x=ev σ x)->(∀ (id:Nat),lr (cls o.op) σ.aa[id]? σ2.aa[id]?)->K2 (σ2.put o.dst v)->aG P o σ2 K2:=by
 unfold aG at hW ⊢;split at hW
 ·rename_i f args dv dH;rw[dH]at hc;simp[cls]at hc
 ·rename_i r m args dv dH;rw[dH]at hc;simp[cls]at hc
 ·rename_i cC;obtain⟨v,h2,h3⟩:=WW hc hW;refine⟨v,h2,λσ2 K2 hx ho hK=>?_⟩;exact h3 σ2 K2 hx (λx _ id _=>ho id) hK
def O3{q:Bool}{o:Oper}{σ:St}{K:St->Prop}(hW:lq q P o σ K):
  ∃ v os,jB (iD q o) σ.aa os/\K ((⟨σ.env,os⟩:St).put o.dst v)/\∀ (e2:Nat->AV) (K2:St->Prop),(∀ x∈o.op.operands.toList,ev ⟨e2,σ.aa⟩ x=ev σ x)->K2 ((⟨e2,os⟩:St).put o.dst v)->lq q P o ⟨e2,σ.aa⟩ K2:=by
 cases q with
 |false=>exact WS hW
 |true =>
  unfold lq at hW ⊢;simp only at hW ⊢;split at hW
  ·rename_i f args dv dH;simp only[dH];split at hW
   ·rename_i g bg he;obtain⟨res,h1,h2,h3,h4⟩:=hW;refine⟨res,σ.aa,Cq _ _,h4,λe2 K2 hx hK=>?_⟩;have e1:ev ⟨e2,σ.aa⟩ f=.fn g bg:=by rw[<- he];exact hx f (by simp[Op.operands,Call.operands])
    have e3:args.toList.map (ev ⟨e2,σ.aa⟩)=args.toList.map (ev σ):=qX λy hy=>hx y (by simp only[Op.operands,Call.operands,BB,bE];exact .inr hy);simp only[e1,e3];exact⟨res,h1,h2,h3,hK⟩
   ·exact hW.elim
  ·rename_i t a dH;obtain⟨x,h1,h2⟩:=O0 hW;refine⟨x,σ.aa,Cq _ _,h1,λe2 K2 hx hK=>?_⟩;rw[hx a (by simp[dH,Op.operands])];exact h2 _ K2 hK
  ·exact hW.elim
def O4{q:Bool}{o:Oper}{σ:St}{K:St->Prop}(hc:iD q o<=2)(hW:lq q P o σ K):
  ∃ v,K (σ.put o.dst v)/\∀ (σ2:St) (K2:St->Prop),(∀ x∈o.op.operands.toList,ev σ2 x=ev σ x)->(∀ (id:Nat),lr (iD q o) σ.aa[id]? σ2.aa[id]?)->K2 (σ2.put o.dst v)->lq q P o σ2 K2:=by
 cases q with
 |false=>exact WV hc hW
 |true =>
  unfold lq at hW ⊢;simp only at hW ⊢;split at hW
  ·rename_i f args dv dH;simp only[dH];split at hW
   ·rename_i g bg he;obtain⟨res,h1,h2,h3,h4⟩:=hW;refine⟨res,h4,λσ2 K2 hx _ hK=>?_⟩;have e1:ev σ2 f=.fn g bg:=by rw[<- he];exact hx f (by simp[Op.operands,Call.operands])
    have e3:args.toList.map (ev σ2)=args.toList.map (ev σ):=qX λy hy=>hx y (by simp only[Op.operands,Call.operands,BB,bE];exact .inr hy);simp only[e1,e3];exact⟨res,h1,h2,h3,hK⟩
   ·exact hW.elim
  ·rename_i t a dH;obtain⟨x,h1,h2⟩:=O0 hW;refine⟨x,h1,λσ2 K2 hx _ hK=>?_⟩;rw[hx a (by simp[dH,Op.operands])];exact h2 _ K2 hK
  ·exact hW.elim
def xz{ops:Array Oper}{o:Oper}{j d:Nat}{want:Bool}(hg:o.guard=some (j,want))(hd:(ops[j]?).bind (·.dst)=some d):d∈o.looksAt ops:=by
 unfold Oper.looksAt;rw[bE];right;simp[hg,hd]
def Cu{ops:Array Oper}{q:Bool}{o:Oper}{σ:St}{K:St->Prop}(hW:dO P ops q o K σ):
  ∃ v os,jB (iD q o) σ.aa os/\K ((⟨σ.env,os⟩:St).put o.dst v)/\∀ (e2:Nat->AV) (K2:St->Prop),(∀ t∈o.looksAt ops,e2 t=σ.env t)->K2 ((⟨e2,os⟩:St).put o.dst v)->dO P ops q o K2 ⟨e2,σ.aa⟩:=by
 unfold dO at hW ⊢;cases hg:o.guard with
 |none =>
  simp only[hg]at hW;obtain⟨v,os,h1,h2,h3⟩:=O3 hW;exact⟨v,os,h1,h2,λe2 K2 hl hK=>h3 e2 K2 (Cs hl) hK⟩
 |some jw =>
  obtain⟨j,want⟩:=jw;simp only[hg]at hW;cases dR:(ops[j]?).bind (·.dst) with
  |none=>simp[dR]at hW
  |some d =>
   simp only[dR]at hW;split at hW
   ·rename_i b he;by_cases eV:b=want
    ·obtain⟨v,os,h1,h2,h3⟩:=O3 (hW.1 eV);refine⟨v,os,h1,h2,λe2 K2 hl hK=>?_⟩;have:e2 d=.lit (.bool b):=by rw[hl d (xz hg dR)];exact he
     simp only[dR,this];exact⟨λ_=>h3 e2 K2 (Cs hl) hK,λhn=>absurd eV hn⟩
    ·refine⟨.lit (.tuple #[]),σ.aa,Cq _ _,hW.2 eV,λe2 K2 hl hK=>?_⟩;have:e2 d=.lit (.bool b):=by rw[hl d (xz hg dR)];exact he
     simp only[dR,this];exact⟨λhn=>absurd hn eV,λ_=>hK⟩
   ·rename_i vs he;refine⟨.lit (.tuple #[]),σ.aa,Cq _ _,hW.2,λe2 K2 hl hK=>?_⟩;have:e2 d=.lit (.tuple vs):=by rw[hl d (xz hg dR)];exact he
    simp only[dR,this];exact⟨hW.1,hK⟩
   ·exact hW.elim
def O5{ops:Array Oper}{q:Bool}{o:Oper}{σ:St}{K:St->Prop}(hc:iD q o<=2)(hW:dO P ops q o K σ):
  ∃ v,K (σ.put o.dst v)/\∀ (σ2:St) (K2:St->Prop),(∀ t∈o.looksAt ops,σ2.env t=σ.env t)->(∀ (id:Nat),lr (iD q o) σ.aa[id]? σ2.aa[id]?)->K2 (σ2.put o.dst v)->dO P ops q o K2 σ2:=by
 unfold dO at hW ⊢;cases hg:o.guard with
 |none =>
  simp only[hg]at hW;obtain⟨v,h2,h3⟩:=O4 hc hW;exact⟨v,h2,λσ2 K2 hl ho hK=>h3 σ2 K2 (Cs (e2:=σ2.env) (os:=σ2.aa) hl) ho hK⟩
 |some jw =>
  obtain⟨j,want⟩:=jw;simp only[hg]at hW;cases dR:(ops[j]?).bind (·.dst) with
  |none=>simp[dR]at hW
  |some d =>
   simp only[dR]at hW;split at hW
   ·rename_i b he;by_cases eV:b=want
    ·obtain⟨v,h2,h3⟩:=O4 hc (hW.1 eV);refine⟨v,h2,λσ2 K2 hl ho hK=>?_⟩;have:σ2.env d=.lit (.bool b):=by rw[hl d (xz hg dR)];exact he
     simp only[dR,this];exact⟨λ_=>h3 σ2 K2 (Cs (e2:=σ2.env) (os:=σ2.aa) hl) ho hK,λhn=>absurd eV hn⟩
    ·refine⟨.lit (.tuple #[]),hW.2 eV,λσ2 K2 hl ho hK=>?_⟩;have:σ2.env d=.lit (.bool b):=by rw[hl d (xz hg dR)];exact he
     simp only[dR,this];exact⟨λhn=>absurd hn eV,λ_=>hK⟩
   ·rename_i vs he;refine⟨.lit (.tuple #[]),hW.2,λσ2 K2 hl ho hK=>?_⟩;have:σ2.env d=.lit (.tuple vs):=by rw[hl d (xz hg dR)];exact he
    simp only[dR,this];exact⟨hW.1,hK⟩
   ·exact hW.elim
def Cv{σ:St}{dst:Option Tmp}{v:AV}{t:Nat}(h:∀ d,dst=some d->d≠t):(σ.put dst v).env t=σ.env t:=by
 cases dst with
 |none=>rfl
 |some d =>
  have:=h d rfl;simp[St.put,iL,Ne.symm this]
def O6{σ:St}{x y:Option Tmp}{v u:AV}(h:∀ d,x=some d->y≠some d):(σ.put x v).put y u=(σ.put y u).put x v:=by
 cases x with
 |none=>rfl
 |some d =>
  cases y with
  |none=>rfl
  |some d' =>
   have cC:d'≠d:=λe=>h d rfl (by rw[e]);simp only[St.put];congr 1;funext k;simp only[iL];split<;>split<;>simp_all
def O7{σ:St}{x:Option Tmp}{v:AV}:(σ.put x v).aa=σ.aa:=by cases x<;>rfl
def WX{σ:St}{x:Option Tmp}{v:AV}:σ.put x v=⟨(σ.put x v).env,σ.aa⟩:=by cases x<;>rfl
def O8{σ:St}{os:List Ob}{x:Option Tmp}{v:AV}:(⟨(σ.put x v).env,os⟩:St)=(⟨σ.env,os⟩:St).put x v:=by cases x<;>rfl
def Cw(ci ck:Nat):Bool:=ci==0||ck==0||(ci==1&&decide (ck<=4))||(ci==2&&decide (ck<=3))
def WY{ci ck:Nat}(h:(ci==0||(ci==1&&decide (ck<=4))||(ci==2&&decide (ck<=3)))=true){a b:List Ob}(he:jB ck a b)(id:Nat):lr ci a[id]? b[id]?:=by
 simp only[lR,bb,beq_iff_eq,decide_eq_true_eq]at h;rcases h with(rfl|⟨rfl,hk⟩)|⟨rfl,hk⟩
 ·simp[lr]
 ·unfold jB at he;have:∀ o,a[id]?=some o->∃ o',b[id]?=some o'/\qm o o':=by
   intro o ho;have bq:=(aN.1 ho).1;split at he
   ·subst he;exact⟨o,ho,xy o⟩
   ·split at he
    ·exact⟨o,by rw[he id bq];exact ho,xy o⟩
    ·split at he
     ·have hb:id<b.length:=Bv;exact⟨b[id],by simp[hb],he.2 id o _ ho (by simp[hb])⟩
     ·omega
  simpa [lr] using this
 ·unfold jB at he;have:∀ o,a[id]?=some o->b[id]?=some o:=by
   intro o ho;have bq:=(aN.1 ho).1;split at he
   ·subst he;exact ho
   ·split at he
    ·rw[he id bq];exact ho
    ·omega
  simpa [lr] using this
def WZ{ops:Array Oper}{qi qk:Bool}{oi ok:Oper}(ha:oi.apart ops ok=true)(hi:iD qi oi<=2)(hc:(iD qi oi==0||(iD qi oi==1&&decide (iD qk ok<=4))||(iD qi oi==2&&decide (iD qk ok<=3)))=true){σ:St}{K:St->Prop}(h:dO P ops qi oi (dO P ops qk ok K) σ):dO P ops qk ok (dO P ops qi oi K) σ:=by
 obtain⟨a1,a2,a3⟩:=Oper.apart_spec ha;obtain⟨v,h1,run⟩:=O5 hi h;obtain⟨vk,os,FX,h2,O9⟩:=Cu h1;rw[O7]at FX O9;refine O9 σ.env _ (λt ht=>(Cv λd hd e=>a1 d hd (e▸ht)).symm) ?_;refine run _ _ (λt ht=>?_) (λid=>?_) ?_
 ·rw[Cv λd hd e=>a3 d hd (e▸ht)]
 ·rw[O7];exact WY hc FX id
 ·rw[O8]at h2;rw[O6 (λd hd e=>a2 d e hd)];exact h2
def W0{ops:Array Oper}{qi qk:Bool}{oi ok:Oper}(ha:oi.apart ops ok=true)(hk:iD qk ok=0){σ:St}{K:St->Prop}(h:dO P ops qi oi (dO P ops qk ok K) σ):dO P ops qk ok (dO P ops qi oi K) σ:=by
 obtain⟨a1,a2,a3⟩:=Oper.apart_spec ha;obtain⟨vi,os,FX,h1,run⟩:=Cu h;obtain⟨vk,h2,W1⟩:=O5 Bv h1;refine W1 σ _ (λt ht=>(Cv (σ:=⟨σ.env,os⟩) λd hd e=>a1 d hd (e▸ht)).symm) (λid=>by rw[hk];simp[lr]) ?_;rw[WX];refine run _ _ (λt ht=>Cv λd hd e=>a3 d hd (e▸ht)) ?_;rw[O8,O6 (λd hd e=>a2 d e hd)];exact h2
def W2{ops:Array Oper}{qi qk:Bool}{oi ok:Oper}(ha:oi.apart ops ok=true)(hc:Cw (iD qi oi) (iD qk ok)=true){σ:St}{K:St->Prop}(h:dO P ops qi oi (dO P ops qk ok K) σ):dO P ops qk ok (dO P ops qi oi K) σ:=by
 by_cases hk:iD qk ok=0
 ·exact W0 ha hk h
 ·have sY:(iD qi oi==0||(iD qi oi==1&&decide (iD qk ok<=4))||(iD qi oi==2&&decide (iD qk ok<=3)))=true:=by
   simp only[Cw,lR,bb,beq_iff_eq,decide_eq_true_eq]at hc ⊢;rcases hc with((h|h)|h)|h
   ·exact .inl (.inl h)
   ·exact absurd h hk
   ·exact .inl (.inr h)
   ·exact .inr h
  refine WZ ha ?_ sY h;simp only[lR,bb,beq_iff_eq,decide_eq_true_eq]at sY;omega
end Go.Am
namespace Go.Am
variable {P:Program} {N n0:Nat} {σ:St}
def b9(P:Program)(ops:Array Oper)(qs:List Nat)(i:Nat)(K:St->Prop)(σ:St):Prop :=
 match ops[i]? with
 |none=>K σ
 |some o=>dO P ops (qs.contains i) o K σ
def qc(P:Program)(ops:Array Oper)(qs:List Nat)(K:St->Prop):Nat->Array Bool->St->Prop
 |0,listed,σ=>Region.ready .any ops listed=[]/\K σ
 |n+1,listed,σ=>(Region.ready .any ops listed=[]->K σ)/\∀ i∈Region.ready .any ops listed,b9 P ops qs i (qc P ops qs K n (listed.setIfInBounds i true)) σ
def zr{ops:Array Oper}{q:Bool}{o:Oper}{σ:St}{K K2:St->Prop}(hk:∀ s,K s->K2 s)(h:dO P ops q o K σ):dO P ops q o K2 σ:=by
 obtain⟨v,os,_,h2,run⟩:=Cu h;exact run σ.env K2 (λ_ _=>rfl) (hk _ h2)
def W3{ops:Array Oper}{q:Bool}{o:Oper}{σ:St}{K:St->Prop}(h:dO P ops q o K σ):∃s,K s:=by
 obtain⟨v,os,_,h2,run⟩:=Cu h;exact⟨_,h2⟩
def kM{ops:Array Oper}{qs:List Nat}{i:Nat}{σ:St}{K K2:St->Prop}(hk:∀ s,K s->K2 s)(h:b9 P ops qs i K σ):b9 P ops qs i K2 σ:=by
 unfold b9 at h ⊢;split at h
 ·exact hk _ h
 ·exact zr hk h
def W4{ops:Array Oper}{qs:List Nat}{i:Nat}{σ:St}{K:St->Prop}(h:b9 P ops qs i K σ):∃s,K s:=by
 unfold b9 at h;split at h
 ·exact⟨_,h⟩
 ·exact W3 h
def FY{os:List Ob}{γ0:Cx}{ops:Array Oper}{qs:List Nat}(hd:∀ o∈ops.toList,∀ d,o.dst=some d->d<N){K:St->Prop}{Q:Exit->Act->World->Prop}(hQ:∀ σ' a' w',K σ'->eH N os γ0 σ' a' w'->Q .normal a' w'):∀ (n:Nat) (listed:Array Bool) (σ:St) (a:Act) (w:World),qc P ops qs K n listed σ->eH N os γ0 σ a w->wpAny P .any ops Q n listed a w
 |0,listed,σ,a,w,h,az=>⟨h.1,hQ _ _ _ h.2 az⟩
 |n+1,listed,σ,a,w,h,az=>by
  refine⟨λhr=>hQ _ _ _ (h.1 hr) az,λi hi=>?_⟩;have:=h.2 i hi;unfold b9 at this;split at this
  ·rename_i hi';unfold wpOp;simp only[hi'];exact FY hd hQ n _ _ _ _ this az
  ·rename_i o hi';exact WQ hd hi' this az λσ' a' w' hK cr=>FY hd hQ n _ _ _ _ hK cr
def Nx{id:Nat}{ops:Array Oper}{Q:Exit->St->Prop}(qs:List Nat)(hm:P.follows .mixedOrders=true)(hd:dY N ops=true)(h:qc P ops qs (Q .normal) ops.size (w0 ops.size false) σ):W P N n0 (.region id ops true) Q σ:=by
 intro os γ0 a w _ az;refine wp_region_any hm ?_;exact FY (kL hd) (K:=Q .normal) (λσ' a' w' hK cr=>⟨σ',hK,cr⟩) _ _ _ _ _ h az.drawn
def W5{ops:Array Oper}{qs:List Nat}{K:St->Prop}{i:Nat}{o:Oper}(hi:ops[i]?=some o)(D:List Nat)(hiD:i∈D)(hD:∀ j∈D,j=i\/∃ oj,ops[j]?=some oj/\∃ e∈oj.after,Region.binds .any e=true/\e.on∈D):∀ (fuel:Nat) (listed:Array Bool) (σ:St),(∀ j∈D,listed.getD j true=false) ->
   i∈Region.ready .any ops listed ->
   (∀ j oj,ops[j]?=some oj->listed.getD j true=false->j ∉ D->o.apart ops oj=true/\Cw (iD (qs.contains i) o) (iD (qs.contains j) oj)=true) ->
   b9 P ops qs i (qc P ops qs K fuel (listed.setIfInBounds i true)) σ->qc P ops qs K (fuel+1) listed σ:=by
 intro fuel
 induction fuel with
 |zero =>
  intro listed σ hu hr oe h;refine⟨λe=>by rw[e]at hr;simp at hr,λk hk=>?_⟩;by_cases ig:k=i
  ·subst ig;exact h
  ·obtain⟨s,hs⟩:=W4 h;have:=ready_mono hk ig;rw[hs.1]at this;simp at this
 |succ m ih =>
  intro listed σ hu hr oe h;refine⟨λe=>by rw[e]at hr;simp at hr,λk hk=>?_⟩;by_cases ig:k=i
  ·subst ig;exact h
  ·have l9:=mem_ready.1 hk;obtain⟨dS,ok,az,dk⟩:=l9;have Cy:k ∉ D:=by
    intro Cy;rcases hD k Cy with e|⟨oj,rC,e,he,hb,pj⟩
    ·exact ig e
    ·rw[az]at rC;simp only[cL.injEq]at rC;subst rC;have h1:=dk e he hb;have h2:=hu e.on pj;rw[dJ]at h1 h2;cases hx:listed[e.on]? with
     |none=>rw[hx]at h1;simp at h1
     |some b=>rw[hx]at h1 h2;simp at h1 h2;rw[h1]at h2;simp at h2
   obtain⟨ha,hc⟩:=oe k ok az dS Cy;have h1:b9 P ops qs i (b9 P ops qs k (qc P ops qs K m ((listed.setIfInBounds i true).setIfInBounds k true))) σ :=
    kM (λs hs=>hs.2 k (ready_mono hk ig)) h
   have h2:b9 P ops qs k (b9 P ops qs i (qc P ops qs K m ((listed.setIfInBounds i true).setIfInBounds k true))) σ:=by
    unfold b9 at h1 ⊢;simp only[hi,az]at h1 ⊢;exact W2 ha hc h1
   refine kM (λs hs=>?_) h2;refine ih (listed.setIfInBounds k true) s (λj hj=>?_) (ready_mono hr (Ne.symm ig)) (λj oj rC hl FZ=>?_) ?_
   ·have cC:k≠j:=λe=>Cy (by rw[e];exact hj);rw[getD_set_ne _ cC];exact hu j hj
   ·refine oe j oj rC ?_ FZ;by_cases zy:k=j
    ·subst zy;exact dS
    ·rwa [getD_set_ne _ zy]at hl
   ·rw[Array.setIfInBounds_comm _ _ (Ne.symm ig)]at hs;exact hs
def Nv(ops:Array Oper)(i:Nat):List Nat :=
 (bp ops.size).foldl (λD j=>if j==i||(match ops[j]? with|some oj=>oj.after.any (λe=>Region.binds .any e&&D.contains e.on)|none=>false) then D++[j] else D) []
def Cc(ops:Array Oper)(qs:List Nat)(listed:Array Bool)(i:Nat)(D:List Nat):Bool :=
 match ops[i]? with
 |none=>false
 |some o =>
  D.contains i&&D.all (λj=>j==i||match ops[j]? with|some oj=>oj.after.any (λe=>Region.binds .any e&&D.contains e.on)|none=>false) &&
  D.all (λj=>!listed.getD j true)&&o.after.all (λe=>!Region.binds .any e||listed.getD e.on false) &&
  (bp ops.size).all λj=>D.contains j||listed.getD j true||match ops[j]? with|some oj=>o.apart ops oj&&Cw (iD (qs.contains i) o) (iD (qs.contains j) oj)|none=>true
def Nw{ops:Array Oper}{qs:List Nat}{K:St->Prop}{i:Nat}{D:List Nat}{fuel:Nat}{listed:Array Bool}(h:Cc ops qs listed i D=true)(hs:b9 P ops qs i (qc P ops qs K fuel (listed.setIfInBounds i true)) σ):qc P ops qs K (fuel+1) listed σ:=by
 unfold Cc at h;cases hi:ops[i]? with
 |none=>simp[hi]at h
 |some o =>
  simp only[hi,bb,List.all_eq_true,pP,lR,beq_iff_eq,Bool.not_eq_true']at h;obtain⟨⟨⟨⟨h1,h2⟩,h3⟩,h4⟩,h5⟩:=h;refine W5 hi D h1 (λj hj=>?_) fuel listed σ h3 ?_ ?_ hs
  ·rcases h2 j hj with h|h
   ·exact .inl h
   ·right;split at h
    ·rename_i oj rC;rw[Array.any_eq_true']at h;obtain⟨e,he,hb⟩:=h;simp only[bb,pP]at hb;exact⟨oj,rC,e,he,hb.1,hb.2⟩
    ·simp at h
  ·rw[mem_ready];refine⟨h3 i h1,o,hi,λe he hb=>?_⟩;rw[Array.all_eq_true']at h4;have:=h4 e he;simpa [hb] using this
  ·intro j oj rC hl FZ;have hj:j<ops.size:=(Array.getElem?_eq_some_iff.1 rC).1;rcases h5 j (List.mem_range.2 hj) with(h|h)|h
   ·exact absurd h FZ
   ·rw[hl]at h;simp at h
   ·simpa [rC] using h
inductive PT where
 |nil
 |take (i:Nat) (t:PT)
 |both (i:Nat) (t:PT) (j:Nat) (u:PT)
 |three (i:Nat) (t:PT) (j:Nat) (u:PT) (k:Nat) (v:PT)
def PT.ok(ops:Array Oper)(qs:List Nat):PT->Nat->Array Bool->Bool
 |.nil,n,listed=>n==0&&(Region.ready .any ops listed).isEmpty
 |.take _ _,0,_=>false
 |.take i t,n+1,listed=>Cc ops qs listed i (Nv ops i)&&t.ok ops qs n (listed.setIfInBounds i true)
 |.both _ _ _ _,0,_=>false
 |.both i t j u,n+1,listed=>(Region.ready .any ops listed==[i,j])&&t.ok ops qs n (listed.setIfInBounds i true)&&u.ok ops qs n (listed.setIfInBounds j true)
 |.three _ _ _ _ _ _,0,_=>false
 |.three i t j u k v,n+1,listed=>(Region.ready .any ops listed==[i,j,k])&&t.ok ops qs n (listed.setIfInBounds i true)&&u.ok ops qs n (listed.setIfInBounds j true)&&v.ok ops qs n (listed.setIfInBounds k true)
def hJ(P:Program)(ops:Array Oper)(qs:List Nat):PT->(St->Prop)->St->Prop
 |.nil,K,σ=>K σ
 |.take i t,K,σ=>b9 P ops qs i (hJ P ops qs t K) σ
 |.both i t j u,K,σ=>b9 P ops qs i (hJ P ops qs t K) σ/\b9 P ops qs j (hJ P ops qs u K) σ
 |.three i t j u k v,K,σ=>b9 P ops qs i (hJ P ops qs t K) σ/\b9 P ops qs j (hJ P ops qs u K) σ/\b9 P ops qs k (hJ P ops qs v K) σ
def vK{ops:Array Oper}{qs:List Nat}{K:St->Prop}:∀ (t:PT) (n:Nat) (listed:Array Bool) (σ:St),t.ok ops qs n listed=true->hJ P ops qs t K σ->qc P ops qs K n listed σ
 |.nil,n,listed,σ,h,hp=>by
  simp only[PT.ok,bb,beq_iff_eq,List.isEmpty_iff]at h;obtain⟨rfl,h⟩:=h;exact⟨h,hp⟩
 |.take _ _,0,_,_,h,_=>by simp[PT.ok]at h
 |.take i t,n+1,listed,σ,h,hp=>by
  simp only[PT.ok,bb]at h;exact Nw h.1 (kM (λs hs=>vK t n _ s h.2 hs) hp)
 |.both _ _ _ _,0,_,_,h,_=>by simp[PT.ok]at h
 |.both i t j u,n+1,listed,σ,h,hp=>by
  simp only[PT.ok,bb,beq_iff_eq]at h;obtain⟨⟨h1,h2⟩,h3⟩:=h;refine⟨λe=>by rw[h1]at e;simp at e,λk hk=>?_⟩;rw[h1]at hk;simp only[cI,lf,or_false]at hk;rcases hk with rfl|rfl
  ·exact kM (λs hs=>vK t n _ s h2 hs) hp.1
  ·exact kM (λs hs=>vK u n _ s h3 hs) hp.2
 |.three _ _ _ _ _ _,0,_,_,h,_=>by simp[PT.ok]at h
 |.three i t j u k v,n+1,listed,σ,h,hp=>by
  simp only[PT.ok,bb,beq_iff_eq]at h;obtain⟨⟨⟨h1,h2⟩,h3⟩,h4⟩:=h;refine⟨λe=>by rw[h1]at e;simp at e,λx hk=>?_⟩;rw[h1]at hk;simp only[cI,lf,or_false]at hk;rcases hk with rfl|rfl|rfl
  ·exact kM (λs hs=>vK t n _ s h2 hs) hp.1
  ·exact kM (λs hs=>vK u n _ s h3 hs) hp.2.1
  ·exact kM (λs hs=>vK v n _ s h4 hs) hp.2.2
def ln{id:Nat}{ops:Array Oper}{Q:Exit->St->Prop}(qs:List Nat)(t:PT)(hm:P.follows .mixedOrders=true)(hd:dY N ops=true)(ht:t.ok ops qs ops.size (w0 ops.size false)=true)(h:hJ P ops qs t (Q .normal) σ):W P N n0 (.region id ops true) Q σ :=
 Nx qs hm hd (vK t _ _ σ ht h)
def OO{id:Nat}{ops:Array Oper}{y:Code}{Q:Exit->St->Prop}(qs:List Nat)(t:PT)(hm:P.follows .mixedOrders=true)(hd:dY N ops=true)(ht:t.ok ops qs ops.size (w0 ops.size false)=true)(h:∀ K:St->Prop,(∀ s,W P N n0 y Q s->K s)->hJ P ops qs t K σ):W P N n0 (.seq (.region id ops true) y) Q σ :=
 Cp (ln qs t hm hd ht (h _ (λ_ h=>h)))
def p9{ops:Array Oper}{qs:List Nat}{K:St->Prop}:hJ P ops qs .nil K σ=K σ:=rfl
def p8{ops:Array Oper}{qs:List Nat}{i:Nat}{t:PT}{K:St->Prop}:hJ P ops qs (.take i t) K σ=b9 P ops qs i (hJ P ops qs t K) σ:=rfl
def zn{ops:Array Oper}{qs:List Nat}{i j k:Nat}{t u v:PT}{K:St->Prop}:hJ P ops qs (.three i t j u k v) K σ=(b9 P ops qs i (hJ P ops qs t K) σ/\b9 P ops qs j (hJ P ops qs u K) σ/\b9 P ops qs k (hJ P ops qs v K) σ):=rfl
def sR{ops:Array Oper}{qs:List Nat}{i j:Nat}{t u:PT}{K:St->Prop}:hJ P ops qs (.both i t j u) K σ=(b9 P ops qs i (hJ P ops qs t K) σ/\b9 P ops qs j (hJ P ops qs u K) σ):=rfl
def Oj{q:Bool}{o:Oper}{K:St->Prop}:mS q P o K true true σ=lq q P o σ K:=by simp[mS]
def Om{q:Bool}{o:Oper}{K:St->Prop}:mS q P o K false false σ=lq q P o σ K:=by simp[mS]
def Ok{q:Bool}{o:Oper}{K:St->Prop}:mS q P o K true false σ=K (σ.put o.dst (.lit (.tuple #[]))):=by simp[mS]
def Ol{q:Bool}{o:Oper}{K:St->Prop}:mS q P o K false true σ=K (σ.put o.dst (.lit (.tuple #[]))):=by simp[mS]
def Ww{q:Bool}{o:Oper}{K:St->Prop}{b want:Bool}(h1:b=true->mS q P o K true want σ)(h2:b=false->mS q P o K false want σ):mS q P o K b want σ:=by
 cases b
 ·exact h2 rfl
 ·exact h1 rfl
def mO:List Nat->PT
 |[]=>.nil
 |i::r=>.take i (mO r)
end Go.Am
namespace Go.Am
variable {P:Program} {N n0:Nat} {σ:St} {Q:Exit->St->Prop}
def ao:List (Nat×AV)->Nat->AV
 |[]=>λ_=>.undef
 |p::l=>iL (ao l) p.1 p.2
def Ce(d:Nat)(v:AV)(l:List (Nat×AV)):ao ((d,v)::l)=iL (ao l) d v:=rfl
def CA(l:List (Nat×AV))(k:Nat):ao l k=.undef\/∃ p∈l,p.1=k/\ao l k=p.2:=by
 induction l with
 |nil=>exact .inl rfl
 |cons p l ih =>
  by_cases h:k=p.1
  ·right;exact⟨p,Jy,h.symm,by simp[ao,iL,h]⟩
  ·have e:ao (p::l) k=ao l k:=by simp[ao,iL,h]
   rw[e];rcases ih with h|⟨q,hq,h1,h2⟩
   ·exact .inl h
   ·exact .inr ⟨q,by simp[hq],h1,h2⟩
def Has(e:Nat->AV):List (Nat×AV)->Prop
 |[]=>True
 |p::l=>e p.1=p.2/\Has e l
def Has.mem{e:Nat->AV}:∀ {l:List (Nat×AV)},Has e l->∀ p∈l,e p.1=p.2
 |q::l,h,p,hp=>by
  rcases cI.1 hp with rfl|hp
  ·exact h.1
  ·exact Has.mem h.2 p hp
def aC.ao(l:List (Nat×AV))(os:List Ob)(ho:σ.aa=os)(h:Has σ.env l):aC n0 σ ⟨ao l,os⟩:=by
 subst ho;refine aC.forget λk=>?_;rcases CA l k with h'|⟨p,hp,rfl,h'⟩
 ·exact .inl h'
 ·right;rw[h',h.mem p hp]
def mJ(ρ:Nat->Nat)(os:List Ob):List Nat->List Ob->Prop
 |[],[]=>True
 |i::ae,o::co=>(i<os.length/\(o=.gone\/os[i]?=some (bD ρ o)))/\mJ ρ os ae co
 |_,_=>False
def mJ.spec{ρ:Nat->Nat}{os:List Ob}:∀ {ae:List Nat} {co:List Ob},mJ ρ os ae co->co.length=ae.length/\(∀ (j:Nat) o,co[j]?=some o->o=.gone\/os[ae.getD j 0]?=some (bD ρ o))/\∀ i∈ae,i<os.length
 |[],[],_=>⟨rfl,Jy,Jy⟩
 |i::ae,o::co,h=>by
  obtain⟨⟨h1,h2⟩,h3⟩:=h;obtain⟨a,b,c⟩:=mJ.spec h3;refine⟨by simp[a],λj o' hj=>?_,λx hx=>?_⟩
  ·cases j with
   |zero=>simp at hj;subst hj;simpa using h2
   |succ j=>simpa using b j o' (by simpa using hj)
  ·rcases cI.1 hx with rfl|hx
   ·exact h1
   ·exact c x hx
def pd(R:AV->AV->Prop)(e:Nat->AV):List (Nat×AV)->Prop
 |[]=>True
 |p::l=>R p.2 (e p.1)/\pd R e l
def pd.mem{R:AV->AV->Prop}{e:Nat->AV}:∀ {l:List (Nat×AV)},pd R e l->∀ p∈l,R p.2 (e p.1)
 |q::l,h,p,hp=>by
  rcases cI.1 hp with rfl|hp
  ·exact h.1
  ·exact pd.mem h.2 p hp
def kept(ae:List Nat)(co:List Ob)(id:Nat):Prop:=∃ j,j<ae.length/\ae.getD j 0=id/\co[j]?≠some .gone
def aC.ae(ae:List Nat)(snap:Bool)(l:List (Nat×AV))(co:List Ob)(cp:ae.Nodup)(ho:mJ (bu σ.aa.length ae) σ.aa ae co)(hn:n0<=ae.length)(cO:∀ i,i<n0->ae.getD i 0=i)(h:pd (bt σ (kept ae co) (bu σ.aa.length ae) snap) σ.env l):aC n0 σ ⟨Am.ao l,co⟩:=by
 obtain⟨h1,h2,h3⟩:=ho.spec;refine aC.select ae snap co _ cp h1 h2 h3 hn cO λk=>?_;rcases CA l k with h'|⟨p,hp,rfl,h'⟩
 ·exact .inl h'
 ·right;rw[h'];exact h.mem p hp
def bt.pure{kp:Nat->Prop}{ρ:Nat->Nat}{snap:Bool}{v:AV}(h:jR v=true):bt σ kp ρ snap v v:=by
 have:=bt.same (σ:=σ) (kp:=kp) (ρ:=ρ) (snap:=snap) v;rwa [xA _ v h]at this
def bt.eq{kp:Nat->Prop}{ρ:Nat->Nat}{snap:Bool}{v u:AV}(h:u=aU ρ v):bt σ kp ρ snap v u:=by
 subst h;exact .same v
def df.flat{kp:Nat->Prop}{id sz len:Nat}{rows:List (List AV)}(ho:σ.aa[id]?=some (.arr sz rows))(hw:∀ row∈rows,row.length=sz)(hl:len=rows.length)(ph:¬ kp id)(hf:∀ row∈rows,∀ v∈row,(∃ x,v=.lit x)\/∃ s r,v=.tree s r):
  df σ kp (.tree sz rows) (.ref id sz 0 len):=by
 refine .ref id sz 0 len rows rows (λr c=>(cellAt rows r c).getD .undef) ho ph (by simp[hl]) hw (λr c v hv=>?_) (λr c v hv=>?_)
 ·simp[hl,hv]
 ·rw[hv,Option.getD_some];simp only[cellAt,Option.bind_eq_some_iff]at hv;obtain⟨row,h1,h2⟩:=hv;rcases hf row (fq h1) v (fq h2) with⟨x,rfl⟩|⟨s,r,rfl⟩
  ·exact .lit x
  ·exact .tree s r
def bt.nil{kp:Nat->Prop}{ρ:Nat->Nat}{sz:Nat}:bt σ kp ρ true (.tree sz []) (.lit (.slice none 0 0)):=.snap _ _ rfl (.nil sz)
def bt.bV{kp:Nat->Prop}{ρ:Nat->Nat}{id sz len:Nat}{rows:List (List AV)}(ho:σ.aa[id]?=some (.arr sz rows))(hw:∀ row∈rows,row.length=sz)(hl:len=rows.length)(ph:¬ kp id)(hf:∀ row∈rows,∀ v∈row,(∃ x,v=.lit x)\/∃ s r,v=.tree s r):
  bt σ kp ρ true (.tree sz rows) (.ref id sz 0 len):=.snap _ _ rfl (df.flat ho hw hl ph hf)
def W6{α:Type}(n0:Nat)(S:α->St)(I:α->Prop)(M:α->Nat)(x:α)(Q:Exit->St->Prop):Exit->St->Prop
 |.normal,s=>∃ y,I y/\M y<M x/\aC n0 s (S y)
 |e,s=>Q e s
def Wu{α:Type}{c:Code}(S:α->St)(I:α->Prop)(M:α->Nat)(x0:α)(hI:I x0)(h0:aC n0 σ (S x0))(round:∀ x,I x->∀ Q':Exit->St->Prop,(∀ s y,I y->M y<M x->aC n0 s (S y)->Q' .normal s)->(∀ e s,e≠.normal->Q e s->Q' e s)->W P N n0 c Q' (S x)):W P N n0 (.loop c) Q σ:=by
 refine cU h0 ?_;intro os γ0 a w hn az b k cs;have key:∀ n x a w,M x=n->I x->eH N os γ0 (S x) a w ->
   ∃ e a' w',(∃ σ',Q e σ'/\eH N os γ0 σ' a' w')/\Arrives P (lone (b.at a (.code c::.inLoop c::k)) cs w) b k cs e a' w':=by
  intro n
  induction n using Nat.strongRecOn with
  |_ n ih =>
   intro x a w hm hI az;have hr:W P N n0 c (W6 n0 S I M x Q) (S x):=round x hI _ (λs y h1 h2 h3=>⟨y,h1,h2,h3⟩) (λe s he h=>by cases e<;>first|exact absurd rfl he|exact h);obtain⟨e,og,pk,⟨σ',hq,cr⟩,km⟩:=hr os γ0 a w hn az b (.inLoop c::k) cs;cases e with
   |normal =>
    obtain⟨y,F0,bq,ht⟩:=hq;obtain⟨h1,h2,γ,rfl,h3,h4,h5⟩:=cr;obtain⟨ay,e1,e2,e3,e4⟩:=ht os γ0 γ hn h4 h5;obtain⟨F1,F2,F3,F4,F5⟩:=ih (M y) Bv y og γ.w rfl F0 ⟨h1,h2,ay,e1,e2.trans h3,e3,e4⟩;exact⟨F1,F2,F3,F4,.of_steps (Steps.trans km (.one step_inLoop)) F5⟩
   |exit id=>exact⟨_,og,pk,⟨σ',hq,cr⟩,.pass (x:=.inLoop c) rfl (λ_ _=>.inl Jy) km⟩
   |goto l=>exact⟨_,og,pk,⟨σ',hq,cr⟩,.pass (x:=.inLoop c) rfl (λ_ _=>.inl Jy) km⟩
   |ret=>exact⟨_,og,pk,⟨σ',hq,cr⟩,.pass (x:=.inLoop c) rfl (λ_ _=>.inl Jy) km⟩
   |panic ch=>exact⟨_,og,pk,⟨σ',hq,cr⟩,.pass (x:=.inLoop c) rfl (λ_ _=>.inl Jy) km⟩
   |outgrown=>exact⟨_,og,pk,⟨σ',hq,cr⟩,.pass (x:=.inLoop c) rfl (λ_ _=>.inl Jy) km⟩
 obtain⟨e,a',w',hq,km⟩:=key _ x0 a w rfl hI az;exact⟨e,a',w',hq,.of_steps (.one step_loop) km⟩
def Ws{id:Nat}{c:Code}(h:∀ Q':Exit->St->Prop,(∀ s,Q .normal s->Q' .normal s)->(∀ s,Q .normal s->Q' (.exit id) s)->(∀ e s,e≠.normal->e≠.exit id->Q e s->Q' e s)->W P N n0 c Q' σ):W P N n0 (.block id c) Q σ :=
 W7 (h _ (λs h=>h) (λs h=>by simp only[CC,if_true];exact h) (λe s h1 h2 h=>by
  cases e<;>first
   |exact absurd rfl h1
   |exact h
   | (rename_i uC;simp only[CC];rw[if_neg (λe=>h2 (by rw[e]))];exact h)))
def Ck{ρ:Nat->Nat}{sz:Nat}{rows:List (List AV)}(h:∀ row∈rows,kN row=true):bD ρ (.arr sz rows)=.arr sz rows:=by
 simp only[bD];congr 1;have:∀ row∈rows,row.map (aU ρ)=row:=λrow hr=>by
  have:=zA ρ row (h row hr);rwa [uD]at this
 rw[qX this];simp
def W8(n j:Nat):bu n (bp n) j=j:=by
 unfold bu;split
 ·rename_i h;have h':j<n:=by simpa using h
  simp[ax,pQ h']
 ·rename_i h;simp at h ⊢;omega
mutual
def uA:∀ (v:AV),aU (λj=>j) v=v
 |.undef=>rfl
 |.lit _=>rfl
 |.tree ..=>rfl
 |.bU _=>rfl
 |.ref ..=>rfl
 |.ptr ..=>rfl
 |.agg cs=>by simp only[aU];rw[CD cs]
 |.bH cs=>by simp only[aU];rw[CD cs]
 |.fn f cs=>by simp only[aU];rw[CD cs]
 |.fI t v=>by simp only[aU];rw[uA v]
 |.dP _=>rfl
def CD:∀ (l:List AV),mP (λj=>j) l=l
 |[]=>rfl
 |v::vs=>by simp only[mP];rw[uA v,CD vs]
end
def zu(o:Ob):bD (λj=>j) o=o:=by
 have h:aU (λj=>j)=id:=by funext v;exact uA v
 cases o with
 |gone=>rfl
 |var cs=>simp[bD,h]
 |arr sz rows=>simp[bD,h]
 |mp ag L=>simp[bD,h]
def uz(n:Nat):bu n (bp n)=λj=>j:=by funext j;exact W8 n j
def O'(aa:List Ob):∀ (aZ:List Ob),aa.length<=aZ.length->eU aa (bp aa.length) aZ=aZ:=by
 intro aZ h;have hlen:(bp aa.length).length<=aZ.length:=by simpa using h
 apply List.ext_getElem?;intro i;rcases Nat.lt_or_ge i aa.length with hi|hi
 ·have:=CE (bp aa.length) aa aZ hlen (yY) Jy i (by simpa using hi);simpa [ax,pQ hi] using this
 ·have jq:=F6 (bp aa.length) aa aZ hlen;obtain⟨j,rfl⟩:∃j,i=aa.length+j:=⟨i-aa.length,Bv⟩;have:=Pa (bp aa.length) aa aZ hlen j;simpa using this
def eT{f:FuncId}{args:List AV}{dst:Option Tmp}{K:St->Prop}{res:AV}{aZ:List Ob}(h:ak P f args σ.aa res aZ)(hl:σ.aa.length<=aZ.length)(hK:K ((⟨σ.env,aZ⟩:St).put dst res)):p7 P f args dst K σ:=by
 refine⟨bp σ.aa.length,false,args,σ.aa,res,aZ,h,⟨yY,Jy,?_,rfl,?_,Jy⟩,?_⟩
 ·intro j o hj;have bq:=(aN.1 hj).1;rw[uz,zu];simpa [ax,pQ bq] using hj
 ·intro j c d hc hd;rw[hc]at hd;simp only[cL.injEq]at hd;subst hd;exact .eq (by rw[uz,uA])
 ·rw[uz,uA];have:aZ.map (bD (λj=>j))=aZ:=by
   have h:bD (λj=>j)=id:=by funext o;exact zu o
   simp[h]
  rw[this,O' _ _ hl];exact hK
end Go.Am
namespace Go.Am
variable {P:Program} {N n0:Nat} {σ:St} {Q:Exit->St->Prop}
def Wi{id:Nat}{ops:Array Oper}(hd:dY N ops=true)(h:∀ K:St->Prop,(∀ s,Q .normal s->K s)->opsL P ops ops.toList K σ):W P N n0 (.region id ops false) Q σ :=
 Pb hd (h _ (λ_ h=>h))
def F7{ops:Array Oper}{K:St->Prop}:∀ (l:List Oper) (i:Nat) (σ:St),ops.toList.drop i=l->opsL P ops l K σ->hJ P ops [] (mO (jN i l.length)) K σ
 |[],i,σ,_,h=>h
 |o::r,i,σ,hl,h=>by
  have hi:ops[i]?=some o:=by
   have:(ops.toList.drop i)[0]?=some o:=by rw[hl];rfl
   simpa using this
  have hr:ops.toList.drop (i+1)=r:=by
   have:=congrArg List.tail hl;simpa [List.tail_drop] using this
  rw[List.length_cons,List.range'_succ];show b9 P ops [] i (hJ P ops [] (mO (jN (i+1) r.length)) K) σ;unfold b9;simp only[hi];have hm:∀ s,opsL P ops r K s->hJ P ops [] (mO (jN (i+1) r.length)) K s:=λs hs=>F7 r (i+1) s hr hs;refine zr hm ?_;unfold opsL at h;unfold dO;cases hg:o.guard with
  |none=>simp only[hg]at h;exact h
  |some jw =>
   obtain⟨j,want⟩:=jw;simp only[hg]at h;exact h
def vB(ops:Array Oper):Bool:=(mO (bp ops.size)).ok ops [] ops.size (w0 ops.size false)
def Wj{id:Nat}{ops:Array Oper}{y:Code}(hm:P.follows .mixedOrders=true)(hd:dY N ops=true)(ht:vB ops=true)(h:∀ K:St->Prop,(∀ s,W P N n0 y Q s->K s)->opsL P ops ops.toList K σ):
  W P N n0 (.seq (.region id ops true) y) Q σ :=
 OO [] _ hm hd ht λK hK=>by
  have:=F7 (P:=P) (ops:=ops) ops.toList 0 σ rfl (h K hK);rw[sx];simpa using this
def Wm{id:Nat}{ops:Array Oper}(hm:P.follows .mixedOrders=true)(hd:dY N ops=true)(ht:vB ops=true)(h:∀ K:St->Prop,(∀ s,Q .normal s->K s)->opsL P ops ops.toList K σ):
  W P N n0 (.region id ops true) Q σ :=
 ln [] _ hm hd ht (by
  have:=F7 (P:=P) (ops:=ops) ops.toList 0 σ rfl (h _ (λ_ h=>h));rw[sx];simpa using this)
def aQ{v res:AV}(hr:jR v=true)(h:v=res):mK 0 σ v res []:=by
 subst h;exact pW hr
def Cd(e:Nat->AV)(d:Nat)(v:AV)(k:Nat):iL e d v k=if k=d then v else e k:=by simp only[iL]
def ND:IntKind.i64.min = -9223372036854775808:=rfl
def NF:IntKind.i64.max=9223372036854775807:=rfl
def ints(xs:List Int):List (List AV):=xs.map λx=>[aam x]
def b8(xs:List Bool):List (List AV):=xs.map λx=>[.lit (.bool x)]
def cV(xs:List (List Int)):List (List AV):=xs.map λx=>[.tree 1 (ints x)]
def sW(xs:List Int):(ints xs).length=xs.length:=by simp[ints]
def Ch(xs:List Bool):(b8 xs).length=xs.length:=by simp[b8]
def Ci(xs:List (List Int)):(cV xs).length=xs.length:=by simp[cV]
def Oy(xs:List Int)(i:Nat)(h:i<xs.length):(ints xs).getD i []=[aam (xs.getD i 0)]:=by simp[ints,h]
def Oz(xs:List Bool)(i:Nat)(h:i<xs.length):(b8 xs).getD i []=[.lit (.bool (xs.getD i false))]:=by simp[b8,h]
def OA(xs:List (List Int))(i:Nat)(h:i<xs.length):(cV xs).getD i []=[.tree 1 (ints (xs.getD i []))]:=by simp[cV,h]
def OB(xs:List Int)(i:Nat)(h:i<xs.length):(ints xs)[i]?=some [aam (xs.getD i 0)]:=by simp[ints,h]
def OC(xs:List Bool)(i:Nat)(h:i<xs.length):(b8 xs)[i]?=some [.lit (.bool (xs.getD i false))]:=by simp[b8,h]
def OD(xs:List (List Int))(i:Nat)(h:i<xs.length):(cV xs)[i]?=some [.tree 1 (ints (xs.getD i []))]:=by simp[cV,h]
def ints_set(xs:List Int)(i:Nat)(v:Int):(ints xs).set i [aam v]=ints (xs.set i v):=by simp[ints,yV]
def zp(xs:List Bool)(i:Nat)(v:Bool):(b8 xs).set i [.lit (.bool v)]=b8 (xs.set i v):=by simp[b8,yV]
def OE(xs ys:List Int):ints xs++ints ys=ints (xs++ys):=by simp[ints]
def FD(xs:List Int)(v:Int):ints xs++[[aam v]]=ints (xs++[v]):=by simp[ints]
def OF(xs:List (List Int))(v:List Int):cV xs++[[.tree 1 (ints v)]]=cV (xs++[v]):=by simp[cV]
def OG(xs:List Bool)(v:Bool):b8 xs++[[.lit (.bool v)]]=b8 (xs++[v]):=by simp[b8]
def FE(n:Nat)(v:Int):aD n [AV.lit (.int .i64 v)]=ints (aD n v):=by simp[ints]
def FF(n:Nat)(v:Bool):aD n [AV.lit (.bool v)]=b8 (aD n v):=by simp[b8]
def FG(xs:List Int):((ints xs).all λrow=>row.all ca)=true:=by simp[ints,ca,Value.oneCell']
def OH(xs:List Bool):((b8 xs).all λrow=>row.all ca)=true:=by simp[b8,ca,Value.oneCell']
def OI(xs:List (List Int)):((cV xs).all λrow=>row.all ca)=true:=by simp[cV,ca]
def zl(ρ:Nat->Nat)(sz:Nat)(xs:List Int):bD ρ (.arr sz (ints xs))=.arr sz (ints xs):=Ck (by simp[ints,kN,jR])
def zm(ρ:Nat->Nat)(sz:Nat)(xs:List Bool):bD ρ (.arr sz (b8 xs))=.arr sz (b8 xs):=Ck (by
 intro row hr;simp only[b8,cF]at hr;obtain⟨x,_,rfl⟩:=hr;rfl)
def Fq(ρ:Nat->Nat)(sz:Nat)(xs:List (List Int)):bD ρ (.arr sz (cV xs))=.arr sz (cV xs):=Ck (by simp[cV,kN,jR])
def o9(xs:List Int):∀ row∈ints xs,∀ v∈row,(∃ x,v=AV.lit x)\/∃ s r,v=AV.tree s r:=by
 intro row hr v hv;simp only[ints,cF]at hr;obtain⟨x,_,rfl⟩:=hr;simp at hv;exact .inl ⟨_,hv⟩
def WC(xs:List Bool):∀ row∈b8 xs,∀ v∈row,(∃ x,v=AV.lit x)\/∃ s r,v=AV.tree s r:=by
 intro row hr v hv;simp only[b8,cF]at hr;obtain⟨x,_,rfl⟩:=hr;simp at hv;exact .inl ⟨_,hv⟩
def WE(xs:List (List Int)):∀ row∈cV xs,∀ v∈row,(∃ x,v=AV.lit x)\/∃ s r,v=AV.tree s r:=by
 intro row hr v hv;simp only[cV,cF]at hr;obtain⟨x,_,rfl⟩:=hr;simp at hv;exact .inr ⟨_,_,hv⟩
def lh(xs:List Int):∀ row∈ints xs,row.length=1:=by
 intro row hr;simp only[ints,cF]at hr;obtain⟨x,_,rfl⟩:=hr;rfl
def Nu(xs:List Bool):∀ row∈b8 xs,row.length=1:=by
 intro row hr;simp only[b8,cF]at hr;obtain⟨x,_,rfl⟩:=hr;rfl
def FB(xs:List (List Int)):∀ row∈cV xs,row.length=1:=by
 intro row hr;simp only[cV,cF]at hr;obtain⟨x,_,rfl⟩:=hr;rfl
def dL{α:Type}(xs:List α)(i:Nat)(d:α)(h:i<xs.length):xs.drop i=xs.getD i d::xs.drop (i+1):=by
 rw[List.drop_eq_getElem_cons h];simp[h]
end Go.Am

