import Derived.Test.YtfoopmojjjpapaaGreatX04
set_option linter.all false
set_option maxHeartbeats 0
set_option maxRecDepth 20000
open List renaming mem_of_getElem?→gI,mem_append→cG,map_congr_left→tI,getElem?_eq_some_iff→aV,range→bu,contains_iff_mem→sq,mem_cons→bw,not_mem_nil→iM,getD_eq_getElem?_getD→az,getElem?_range→kX,nodup_range→DQ,range'→mB,range_eq_range'→wv,map_set→sr,replicate→aK,mem_map→bW
open Array renaming getD_eq_getD_getElem?→eL,toList_append→B9,replicate→wz
open Bool renaming or_eq_true→lD,and_eq_true→bb
open Option renaming some→cA
namespace Go.Am
variable {P:Program}
def KA(P:Program)(g:FuncId)(args:List AV)(dst:Option Tmp)(K:St->Prop)(σ:St):Prop :=
 ∃ res,Holds P g args [] res []/\mH args=true/\kZ res=true/\K (σ.put dst res)
def vd(P:Program)(t:TypeId)(dst:Option Tmp)(K:St->Prop)(σ:St):AV->Prop
 |.cB cells=>(ty P t).kind≠99/\nh (ty P t) cells 0 λv=>K (σ.put dst v)
 |_=>False
def mF(q:Bool)(P:Program)(o:Oper)(σ:St)(K:St->Prop):Prop :=
 match q with
 |false=>aL P o σ K
 |true =>
  match o.op with
  |.call { callee:=.value f,args,.. } =>
   match ev σ f with
   |.fn g bC=>KA P g (args.toList.map (ev σ)++bC) o.dst K σ
   |_=>False
  |.load t a=>vd P t o.dst K σ (ev σ a)
  |_=>False
def aey{o:Oper}{σ:St}{K:St->Prop}{t:TypeId}{a:Operand}(cM:o.op=.load t a)(h:vd P t o.dst K σ (ev σ a)):aL P o σ K:=by
 unfold aL;simp only[cM];unfold cd;simp only[cM];unfold vd at h;split at h
 ·rename_i cells he;simp only[he];exact h
 ·exact h.elim
def KC{t:TypeId}{dst:Option Tmp}{K:St->Prop}{σ:St}{v:AV}(h:vd P t dst K σ v):∃x,K (σ.put dst x)/\∀ (σ2:St) (K2:St->Prop),K2 (σ2.put dst x)->vd P t dst K2 σ2 v:=by
 unfold vd at h;split at h
 ·rename_i cells;obtain⟨h1,h2⟩:=h;unfold nh at h2;split at h2
  ·rename_i ha;refine⟨_,h2.2,λσ2 K2 hK=>?_⟩;unfold vd nh;simp only;rw[if_pos ha];exact⟨h1,h2.1,hK⟩
  ·rename_i ha;split at h2
   ·rename_i x hx;refine⟨x,h2,λσ2 K2 hK=>?_⟩;unfold vd nh;simp only;rw[if_neg ha,hx];exact⟨h1,hK⟩
   ·exact h2.elim
 ·exact h.elim
def qj(q:Bool)(P:Program)(o:Oper)(K:St->Prop)(b want:Bool)(σ:St):Prop:=(b=want->mF q P o σ K)/\(b≠want->K (σ.put o.dst (.lit (.tuple #[]))))
def er(P:Program)(ops:Array Oper)(q:Bool)(o:Oper)(K:St->Prop)(σ:St):Prop :=
 match o.guard with
 |none=>mF q P o σ K
 |some (j,want) =>
  match (ops[j]?).bind (·.dst) with
  |none=>False
  |some d =>
   match σ.env d with
   |.lit (.bool b)=>qj q P o K b want σ
   |.lit (.tuple vs)=>vs = #[]/\K (σ.put o.dst (.lit (.tuple #[])))
   |_=>False
def Rm{q:Bool}{o:Oper}{σ:St}{K:St->Prop}(h:mF q P o σ K):aL P o σ K:=by
 cases q with
 |false=>exact h
 |true =>
  unfold mF at h;simp only at h;unfold aL;split at h
  ·rename_i f args cC cM;simp only[cM];split at h
   ·rename_i g bC he;simp only[he];obtain⟨res,h1,h2,h3,h4⟩:=h;exact b7 h1 h2 h3 h4
   ·exact h.elim
  ·rename_i t a cM;have:=aey cM h;unfold aL at this;simpa only[cM] using this
  ·exact h.elim
def KD{N:Nat}{os:List Ob}{γ0:Cx}{ops:Array Oper}(hd:∀ o∈ops.toList,∀ d,o.dst=some d->d<N){q:Bool}{i:Nat}{o:Oper}(hi:ops[i]?=some o){σ:St}{K:St->Prop}(h:er P ops q o K σ){a:Act}{w:World}(ax:fX N os γ0 σ a w){Q:Exit->Act->World->Prop}{next:Act->World->Prop}(hn:∀ σ' a' w',K σ'->fX N os γ0 σ' a' w'->next a' w'):wpOp P ops Q i next a w:=by
 have bR:o∈ops.toList:=gI (by simpa using hi);unfold wpOp;simp only[hi];unfold er at h;cases hg:o.guard with
 |none =>
  simp only[hg]at h;have hw:Region.wanted o (yielded ops a.tmps)=true:=by simp[Region.wanted,hg]
  rw[if_pos hw];left;exact xX (Rm h) ax (hd o bR) hn
 |some jw =>
  obtain⟨j,want⟩:=jw;simp only[hg]at h;cases ep:(ops[j]?).bind (·.dst) with
  |none=>simp[ep]at h
  |some d =>
   simp only[ep]at h;split at h
   ·rename_i b he;obtain⟨il,aP,γ,rfl,ha,hs,hf⟩:=ax;have jG:=hs.ao d;rw[he,ha]at jG;have hv:=jG.cF;have hy:yielded ops a.tmps j=some b:=by
     unfold yielded;rw[ep];have:a.tmps[d]?=some (.bool b):=by
      rw[eL]at hv;cases hx:a.tmps[d]? with
      |none=>rw[hx]at hv;simp[Go.undef]at hv
      |some y=>rw[hx]at hv;simp at hv;rw[hv]
     simp[this]
    by_cases gM:b=want
    ·have hw:Region.wanted o (yielded ops a.tmps)=true:=by simp[Region.wanted,hg,hy,gM]
     rw[if_pos hw];left;exact xX (Rm (h.1 gM)) ⟨il,aP,γ,rfl,ha,hs,hf⟩ (hd o bR) hn
    ·have hw:Region.wanted o (yielded ops a.tmps)=false:=by simp[Region.wanted,hg,hy,gM]
     rw[if_neg (by rw[hw];simp)];refine hn _ _ _ (h.2 gM) ⟨by rw[put_defers];exact il,by rw[vc];exact aP,{ γ with tmps:=(a.put o.dst Go.undef).tmps },rfl,rfl,sI hs ha (λd h=>by rw[aP];exact hd o bR d h) (.lit _),?_⟩;rw[qY];exact hf.put _
   ·rename_i vs he;obtain⟨il,aP,γ,rfl,ha,hs,hf⟩:=ax;have jG:=hs.ao d;rw[he,ha]at jG;have hv:=jG.cF;have hy:yielded ops a.tmps j=none:=by
     unfold yielded;rw[ep];rw[eL]at hv;cases hx:a.tmps[d]? with
     |none=>simp[hx]
     |some y=>rw[hx]at hv;simp at hv;subst hv;simp[hx]
    have hw:Region.wanted o (yielded ops a.tmps)=false:=by simp[Region.wanted,hg,hy]
    rw[if_neg (by rw[hw];simp)];refine hn _ _ _ h.2 ⟨by rw[put_defers];exact il,by rw[vc];exact aP,{ γ with tmps:=(a.put o.dst Go.undef).tmps },rfl,rfl,sI hs ha (λd h=>by rw[aP];exact hd o bR d h) (.lit _),?_⟩;rw[qY];exact hf.put _
   ·exact h.elim
def GZ(c:Nat)(a:List Ob):k0 c a a:=by
 unfold k0;split
 ·rfl
 ·split
  ·intro id _;rfl
  ·split
   ·exact⟨rfl,λid o o' h h'=>by rw[h]at h';simp at h';subst h';exact zi o⟩
   ·trivial
def cQ.aa{σ σ2:St}(h:σ2.aa=σ.aa){kp:Nat->Prop}{c d:AV}(ha:cQ σ kp c d):cQ σ2 kp c d:=by
 induction ha with
 |lit x=>exact .lit x
 |tree s r=>exact .tree s r
 |nil sz=>exact .nil sz
 |ref id sz off len rows gV g bP tQ hl0 G0 qZ nR ih=>exact .ref id sz off len rows gV g (by rw[h];exact bP) tQ hl0 G0 qZ ih
def aZ.aa{σ σ2:St}(h:σ2.aa=σ.aa){kp:Nat->Prop}{ρ:Nat->Nat}{snap:Bool}{c d:AV}(ha:aZ σ kp ρ snap c d):aZ σ2 kp ρ snap c d:=by
 induction ha with
 |same v=>exact .same v
 |snap c d hs hf=>exact .snap c d hs (hf.aa h)
 |agg cs ds hl _ ih=>exact .agg cs ds hl ih
 |bD cs ds hl _ ih=>exact .bD cs ds hl ih
def e9(q:Bool)(o:Oper):Nat:=if q then 0 else cls o.op
def tR{ops:Array Oper}{o:Oper}{σ:St}{e2:Nat->AV}{os:List Ob}(h:∀ t∈o.looksAt ops,e2 t=σ.env t):∀ x∈o.op.operands.toList,ev ⟨e2,os⟩ x=ev σ x:=by
 intro x hx;cases x with
 |tmp t =>
  show e2 t=σ.env t;refine h t ?_;unfold Oper.looksAt;rw[cG];left;rw[List.mem_filterMap];exact⟨_,hx,rfl⟩
 |const v=>rfl
 |func f=>rfl
 |global g=>rfl
def aez{σ:St}{v:AV}{K:FuncId->AV->Prop}{r:Option (FuncId×Option TypeId)}(h:qf P σ v K r):
  ∃ g x,K g x/\∀ (e2:Nat->AV) (K2:FuncId->AV->Prop),K2 g x->qf P ⟨e2,σ.aa⟩ v K2 r:=by
 match r,h with
 |none,h=>exact h.elim
 |some (g,none),h=>exact⟨g,v,h,λ_ _ h=>h⟩
 |some (g,some e),h =>
  unfold qf at h;obtain⟨hk,h⟩:=h;cases v with
  |ptr id rr c =>
   simp only at h;cases bL:rowOf σ id rr with
   |none=>simp[bL]at h
   |some row =>
    simp only[bL]at h;obtain⟨x,h1,h2⟩:=Rn h;refine⟨g,x,h1,λe2 K2 hK=>?_⟩;unfold qf;have:rowOf ⟨e2,σ.aa⟩ id rr=some row:=bL;simp only[this];exact⟨hk,h2 _ hK⟩
  |_=>exact h.elim
def aeA{o:Oper}{σ:St}{K:St->Prop}(hW:aL P o σ K):
  ∃ v os,k0 (cls o.op) σ.aa os/\K ((⟨σ.env,os⟩:St).put o.dst v)/\∀ (e2:Nat->AV) (K2:St->Prop),(∀ x∈o.op.operands.toList,ev ⟨e2,σ.aa⟩ x=ev σ x)->K2 ((⟨e2,os⟩:St).put o.dst v)->aL P o ⟨e2,σ.aa⟩ K2:=by
 unfold aL at hW ⊢;split at hW
 ·rename_i f args cC cM;simp only[cM];split at hW
  ·rename_i g bC he;obtain⟨aj,snap,dL,bY,res,db,h1,⟨h2,h3,h4,h5,h6,h7⟩,h8⟩:=hW;refine⟨_,_,(by simp[k0,cls]),h8,λe2 K2 hx hK=>?_⟩;have e1:ev ⟨e2,σ.aa⟩ f=.fn g bC:=by rw[<- he];exact hx f (by simp[Op.operands,Call.operands])
   have e3:args.toList.map (ev ⟨e2,σ.aa⟩)=args.toList.map (ev σ):=tI λy hy=>hx y (by simp only[Op.operands,Call.operands,B9,cG];exact .inr hy);simp only[e1,e3];exact⟨aj,snap,dL,bY,res,db,h1,⟨h2,h3,h4,h5,λj c d hc hd=>aZ.aa (σ:=σ) (σ2:=⟨e2,σ.aa⟩) rfl (h6 j c d hc hd),h7⟩,hK⟩
  ·exact hW.elim
 ·rename_i r m args cC cM;simp only[cM];split at hW
  ·rename_i t v he;obtain⟨g,x,⟨aj,snap,dL,bY,res,db,h1,⟨h2,h3,h4,h5,h6,h7⟩,h8⟩,aeB⟩:=aez hW;refine⟨_,_,(by simp[k0,cls]),h8,λe2 K2 hx hK=>?_⟩;have e1:ev ⟨e2,σ.aa⟩ r=.iC t v:=by rw[<- he];exact hx r (by simp[Op.operands,Call.operands])
   have e3:args.toList.map (ev ⟨e2,σ.aa⟩)=args.toList.map (ev σ):=tI λy hy=>hx y (by simp only[Op.operands,Call.operands,B9,cG];exact .inr hy);simp only[e1,e3];exact aeB e2 _ ⟨aj,snap,dL,bY,res,db,h1,⟨h2,h3,h4,h5,λj c d hc hd=>aZ.aa (σ:=σ) (σ2:=⟨e2,σ.aa⟩) rfl (h6 j c d hc hd),h7⟩,hK⟩
  ·exact hW.elim
 ·rename_i cy;obtain⟨v,os,h1,h2,h3⟩:=aeC hW;refine⟨v,os,h1,h2,λe2 K2 hx hK=>?_⟩;have:=h3 e2 K2 hx hK;exact this
def aeD{o:Oper}{σ:St}{K:St->Prop}(hc:cls o.op<=2)(hW:aL P o σ K):
  ∃ v,K (σ.put o.dst v)/\∀ (σ2:St) (K2:St->Prop),(∀ x∈o.op.operands.toList,ev σ2 x=ev σ x)->(∀ (id:Nat),im (cls o.op) σ.aa[id]? σ2.aa[id]?)->K2 (σ2.put o.dst v)->aL P o σ2 K2:=by
 unfold aL at hW ⊢;split at hW
 ·rename_i f args cC cM;rw[cM]at hc;simp[cls]at hc
 ·rename_i r m args cC cM;rw[cM]at hc;simp[cls]at hc
 ·rename_i cy;obtain⟨v,h2,h3⟩:=Ro hc hW;refine⟨v,h2,λσ2 K2 hx ho hK=>?_⟩;exact h3 σ2 K2 hx (λx _ id _=>ho id) hK
def Rp{q:Bool}{o:Oper}{σ:St}{K:St->Prop}(hW:mF q P o σ K):
  ∃ v os,k0 (e9 q o) σ.aa os/\K ((⟨σ.env,os⟩:St).put o.dst v)/\∀ (e2:Nat->AV) (K2:St->Prop),(∀ x∈o.op.operands.toList,ev ⟨e2,σ.aa⟩ x=ev σ x)->K2 ((⟨e2,os⟩:St).put o.dst v)->mF q P o ⟨e2,σ.aa⟩ K2:=by
 cases q with
 |false=>exact aeA hW
 |true =>
  unfold mF at hW ⊢;simp only at hW ⊢;split at hW
  ·rename_i f args cC cM;simp only[cM];split at hW
   ·rename_i g bC he;obtain⟨res,h1,h2,h3,h4⟩:=hW;refine⟨res,σ.aa,GZ _ _,h4,λe2 K2 hx hK=>?_⟩;have e1:ev ⟨e2,σ.aa⟩ f=.fn g bC:=by rw[<- he];exact hx f (by simp[Op.operands,Call.operands])
    have e3:args.toList.map (ev ⟨e2,σ.aa⟩)=args.toList.map (ev σ):=tI λy hy=>hx y (by simp only[Op.operands,Call.operands,B9,cG];exact .inr hy);simp only[e1,e3];exact⟨res,h1,h2,h3,hK⟩
   ·exact hW.elim
  ·rename_i t a cM;obtain⟨x,h1,h2⟩:=KC hW;refine⟨x,σ.aa,GZ _ _,h1,λe2 K2 hx hK=>?_⟩;rw[hx a (by simp[cM,Op.operands])];exact h2 _ K2 hK
  ·exact hW.elim
def Rq{q:Bool}{o:Oper}{σ:St}{K:St->Prop}(hc:e9 q o<=2)(hW:mF q P o σ K):
  ∃ v,K (σ.put o.dst v)/\∀ (σ2:St) (K2:St->Prop),(∀ x∈o.op.operands.toList,ev σ2 x=ev σ x)->(∀ (id:Nat),im (e9 q o) σ.aa[id]? σ2.aa[id]?)->K2 (σ2.put o.dst v)->mF q P o σ2 K2:=by
 cases q with
 |false=>exact aeD hc hW
 |true =>
  unfold mF at hW ⊢;simp only at hW ⊢;split at hW
  ·rename_i f args cC cM;simp only[cM];split at hW
   ·rename_i g bC he;obtain⟨res,h1,h2,h3,h4⟩:=hW;refine⟨res,h4,λσ2 K2 hx _ hK=>?_⟩;have e1:ev σ2 f=.fn g bC:=by rw[<- he];exact hx f (by simp[Op.operands,Call.operands])
    have e3:args.toList.map (ev σ2)=args.toList.map (ev σ):=tI λy hy=>hx y (by simp only[Op.operands,Call.operands,B9,cG];exact .inr hy);simp only[e1,e3];exact⟨res,h1,h2,h3,hK⟩
   ·exact hW.elim
  ·rename_i t a cM;obtain⟨x,h1,h2⟩:=KC hW;refine⟨x,h1,λσ2 K2 hx _ hK=>?_⟩;rw[hx a (by simp[cM,Op.operands])];exact h2 _ K2 hK
  ·exact hW.elim
def xY{ops:Array Oper}{o:Oper}{j d:Nat}{want:Bool}(hg:o.guard=some (j,want))(hd:(ops[j]?).bind (·.dst)=some d):d∈o.looksAt ops:=by
 unfold Oper.looksAt;rw[cG];right;simp[hg,hd]
def Cn{ops:Array Oper}{q:Bool}{o:Oper}{σ:St}{K:St->Prop}(hW:er P ops q o K σ):
  ∃ v os,k0 (e9 q o) σ.aa os/\K ((⟨σ.env,os⟩:St).put o.dst v)/\∀ (e2:Nat->AV) (K2:St->Prop),(∀ t∈o.looksAt ops,e2 t=σ.env t)->K2 ((⟨e2,os⟩:St).put o.dst v)->er P ops q o K2 ⟨e2,σ.aa⟩:=by
 unfold er at hW ⊢;cases hg:o.guard with
 |none =>
  simp only[hg]at hW;obtain⟨v,os,h1,h2,h3⟩:=Rp hW;exact⟨v,os,h1,h2,λe2 K2 hl hK=>h3 e2 K2 (tR hl) hK⟩
 |some jw =>
  obtain⟨j,want⟩:=jw;simp only[hg]at hW;cases ep:(ops[j]?).bind (·.dst) with
  |none=>simp[ep]at hW
  |some d =>
   simp only[ep]at hW;split at hW
   ·rename_i b he;by_cases gM:b=want
    ·obtain⟨v,os,h1,h2,h3⟩:=Rp (hW.1 gM);refine⟨v,os,h1,h2,λe2 K2 hl hK=>?_⟩;have:e2 d=.lit (.bool b):=by rw[hl d (xY hg ep)];exact he
     simp only[ep,this];exact⟨λ_=>h3 e2 K2 (tR hl) hK,λhn=>absurd gM hn⟩
    ·refine⟨.lit (.tuple #[]),σ.aa,GZ _ _,hW.2 gM,λe2 K2 hl hK=>?_⟩;have:e2 d=.lit (.bool b):=by rw[hl d (xY hg ep)];exact he
     simp only[ep,this];exact⟨λhn=>absurd hn gM,λ_=>hK⟩
   ·rename_i vs he;refine⟨.lit (.tuple #[]),σ.aa,GZ _ _,hW.2,λe2 K2 hl hK=>?_⟩;have:e2 d=.lit (.tuple vs):=by rw[hl d (xY hg ep)];exact he
    simp only[ep,this];exact⟨hW.1,hK⟩
   ·exact hW.elim
def Rr{ops:Array Oper}{q:Bool}{o:Oper}{σ:St}{K:St->Prop}(hc:e9 q o<=2)(hW:er P ops q o K σ):
  ∃ v,K (σ.put o.dst v)/\∀ (σ2:St) (K2:St->Prop),(∀ t∈o.looksAt ops,σ2.env t=σ.env t)->(∀ (id:Nat),im (e9 q o) σ.aa[id]? σ2.aa[id]?)->K2 (σ2.put o.dst v)->er P ops q o K2 σ2:=by
 unfold er at hW ⊢;cases hg:o.guard with
 |none =>
  simp only[hg]at hW;obtain⟨v,h2,h3⟩:=Rq hc hW;exact⟨v,h2,λσ2 K2 hl ho hK=>h3 σ2 K2 (tR (e2:=σ2.env) (os:=σ2.aa) hl) ho hK⟩
 |some jw =>
  obtain⟨j,want⟩:=jw;simp only[hg]at hW;cases ep:(ops[j]?).bind (·.dst) with
  |none=>simp[ep]at hW
  |some d =>
   simp only[ep]at hW;split at hW
   ·rename_i b he;by_cases gM:b=want
    ·obtain⟨v,h2,h3⟩:=Rq hc (hW.1 gM);refine⟨v,h2,λσ2 K2 hl ho hK=>?_⟩;have:σ2.env d=.lit (.bool b):=by rw[hl d (xY hg ep)];exact he
     simp only[ep,this];exact⟨λ_=>h3 σ2 K2 (tR (e2:=σ2.env) (os:=σ2.aa) hl) ho hK,λhn=>absurd gM hn⟩
    ·refine⟨.lit (.tuple #[]),hW.2 gM,λσ2 K2 hl ho hK=>?_⟩;have:σ2.env d=.lit (.bool b):=by rw[hl d (xY hg ep)];exact he
     simp only[ep,this];exact⟨λhn=>absurd hn gM,λ_=>hK⟩
   ·rename_i vs he;refine⟨.lit (.tuple #[]),hW.2,λσ2 K2 hl ho hK=>?_⟩;have:σ2.env d=.lit (.tuple vs):=by rw[hl d (xY hg ep)];exact he
    simp only[ep,this];exact⟨hW.1,hK⟩
   ·exact hW.elim
def tS{σ:St}{dst:Option Tmp}{v:AV}{t:Nat}(h:∀ d,dst=some d->d≠t):(σ.put dst v).env t=σ.env t:=by
 cases dst with
 |none=>rfl
 |some d =>
  have:=h d rfl;simp[St.put,jH,Ne.symm this]
def Co{σ:St}{x y:Option Tmp}{v u:AV}(h:∀ d,x=some d->y≠some d):(σ.put x v).put y u=(σ.put y u).put x v:=by
 cases x with
 |none=>rfl
 |some d =>
  cases y with
  |none=>rfl
  |some d' =>
   have cy:d'≠d:=λe=>h d rfl (by rw[e]);simp only[St.put];congr 1;funext k;simp only[jH];split<;>split<;>simp_all
def Cp{σ:St}{x:Option Tmp}{v:AV}:(σ.put x v).aa=σ.aa:=by cases x<;>rfl
def KE{σ:St}{x:Option Tmp}{v:AV}:σ.put x v=⟨(σ.put x v).env,σ.aa⟩:=by cases x<;>rfl
def Cq{σ:St}{os:List Ob}{x:Option Tmp}{v:AV}:(⟨(σ.put x v).env,os⟩:St)=(⟨σ.env,os⟩:St).put x v:=by cases x<;>rfl
def AF(ci ck:Nat):Bool:=ci==0||ck==0||(ci==1&&decide (ck<=4))||(ci==2&&decide (ck<=3))
def KF{ci ck:Nat}(h:(ci==0||(ci==1&&decide (ck<=4))||(ci==2&&decide (ck<=3)))=true){a b:List Ob}(he:k0 ck a b)(id:Nat):im ci a[id]? b[id]?:=by
 simp only[lD,bb,beq_iff_eq,decide_eq_true_eq]at h;rcases h with(rfl|⟨rfl,hk⟩)|⟨rfl,hk⟩
 ·simp[im]
 ·unfold k0 at he;have:∀ o,a[id]?=some o->∃ o',b[id]?=some o'/\ve o o':=by
   intro o ho;have aX:=(aV.1 ho).1;split at he
   ·subst he;exact⟨o,ho,zi o⟩
   ·split at he
    ·exact⟨o,by rw[he id aX];exact ho,zi o⟩
    ·split at he
     ·have hb:id<b.length:=GK;exact⟨b[id],by simp[hb],he.2 id o _ ho (by simp[hb])⟩
     ·omega
  simpa [im] using this
 ·unfold k0 at he;have:∀ o,a[id]?=some o->b[id]?=some o:=by
   intro o ho;have aX:=(aV.1 ho).1;split at he
   ·subst he;exact ho
   ·split at he
    ·rw[he id aX];exact ho
    ·omega
  simpa [im] using this
def aeE{ops:Array Oper}{qi qk:Bool}{oi ok:Oper}(ha:oi.apart ops ok=true)(hi:e9 qi oi<=2)(hc:(e9 qi oi==0||(e9 qi oi==1&&decide (e9 qk ok<=4))||(e9 qi oi==2&&decide (e9 qk ok<=3)))=true){σ:St}{K:St->Prop}(h:er P ops qi oi (er P ops qk ok K) σ):er P ops qk ok (er P ops qi oi K) σ:=by
 obtain⟨a1,a2,a3⟩:=Oper.apart_spec ha;obtain⟨v,h1,run⟩:=Rr hi h;obtain⟨vk,os,vf,h2,zj⟩:=Cn h1;rw[Cp]at vf zj;refine zj σ.env _ (λt ht=>(tS λd hd e=>a1 d hd (e▸ht)).symm) ?_;refine run _ _ (λt ht=>?_) (λid=>?_) ?_
 ·rw[tS λd hd e=>a3 d hd (e▸ht)]
 ·rw[Cp];exact KF hc vf id
 ·rw[Cq]at h2;rw[Co (λd hd e=>a2 d e hd)];exact h2
def aeF{ops:Array Oper}{qi qk:Bool}{oi ok:Oper}(ha:oi.apart ops ok=true)(hk:e9 qk ok=0){σ:St}{K:St->Prop}(h:er P ops qi oi (er P ops qk ok K) σ):er P ops qk ok (er P ops qi oi K) σ:=by
 obtain⟨a1,a2,a3⟩:=Oper.apart_spec ha;obtain⟨vi,os,vf,h1,run⟩:=Cn h;obtain⟨vk,h2,D7⟩:=Rr GK h1;refine D7 σ _ (λt ht=>(tS (σ:=⟨σ.env,os⟩) λd hd e=>a1 d hd (e▸ht)).symm) (λid=>by rw[hk];simp[im]) ?_;rw[KE];refine run _ _ (λt ht=>tS λd hd e=>a3 d hd (e▸ht)) ?_;rw[Cq,Co (λd hd e=>a2 d e hd)];exact h2
def aeG{ops:Array Oper}{qi qk:Bool}{oi ok:Oper}(ha:oi.apart ops ok=true)(hc:AF (e9 qi oi) (e9 qk ok)=true){σ:St}{K:St->Prop}(h:er P ops qi oi (er P ops qk ok K) σ):er P ops qk ok (er P ops qi oi K) σ:=by
 by_cases hk:e9 qk ok=0
 ·exact aeF ha hk h
 ·have fY:(e9 qi oi==0||(e9 qi oi==1&&decide (e9 qk ok<=4))||(e9 qi oi==2&&decide (e9 qk ok<=3)))=true:=by
   simp only[AF,lD,bb,beq_iff_eq,decide_eq_true_eq]at hc ⊢;rcases hc with((h|h)|h)|h
   ·exact .inl (.inl h)
   ·exact absurd h hk
   ·exact .inl (.inr h)
   ·exact .inr h
  refine aeE ha ?_ fY h;simp only[lD,bb,beq_iff_eq,decide_eq_true_eq]at fY;omega
end Go.Am
namespace Go.Am
variable {P:Program} {N n0:Nat} {σ:St}
def cj(P:Program)(ops:Array Oper)(qs:List Nat)(i:Nat)(K:St->Prop)(σ:St):Prop :=
 match ops[i]? with
 |none=>K σ
 |some o=>er P ops (qs.contains i) o K σ
def vg(P:Program)(ops:Array Oper)(qs:List Nat)(K:St->Prop):Nat->Array Bool->St->Prop
 |0,aG,σ=>Region.ready .any ops aG=[]/\K σ
 |n+1,aG,σ=>(Region.ready .any ops aG=[]->K σ)/\∀ i∈Region.ready .any ops aG,cj P ops qs i (vg P ops qs K n (aG.setIfInBounds i true)) σ
def D8{ops:Array Oper}{q:Bool}{o:Oper}{σ:St}{K K2:St->Prop}(hk:∀ s,K s->K2 s)(h:er P ops q o K σ):er P ops q o K2 σ:=by
 obtain⟨v,os,_,h2,run⟩:=Cn h;exact run σ.env K2 (λ_ _=>rfl) (hk _ h2)
def aeH{ops:Array Oper}{q:Bool}{o:Oper}{σ:St}{K:St->Prop}(h:er P ops q o K σ):∃s,K s:=by
 obtain⟨v,os,_,h2,run⟩:=Cn h;exact⟨_,h2⟩
def nS{ops:Array Oper}{qs:List Nat}{i:Nat}{σ:St}{K K2:St->Prop}(hk:∀ s,K s->K2 s)(h:cj P ops qs i K σ):cj P ops qs i K2 σ:=by
 unfold cj at h ⊢;split at h
 ·exact hk _ h
 ·exact D8 hk h
def aeI{ops:Array Oper}{qs:List Nat}{i:Nat}{σ:St}{K:St->Prop}(h:cj P ops qs i K σ):∃s,K s:=by
 unfold cj at h;split at h
 ·exact⟨_,h⟩
 ·exact aeH h
def KG{os:List Ob}{γ0:Cx}{ops:Array Oper}{qs:List Nat}(hd:∀ o∈ops.toList,∀ d,o.dst=some d->d<N){K:St->Prop}{Q:Exit->Act->World->Prop}(hQ:∀ σ' a' w',K σ'->fX N os γ0 σ' a' w'->Q .normal a' w'):∀ (n:Nat) (aG:Array Bool) (σ:St) (a:Act) (w:World),vg P ops qs K n aG σ->fX N os γ0 σ a w->wpAny P .any ops Q n aG a w
 |0,aG,σ,a,w,h,ax=>⟨h.1,hQ _ _ _ h.2 ax⟩
 |n+1,aG,σ,a,w,h,ax=>by
  refine⟨λhr=>hQ _ _ _ (h.1 hr) ax,λi hi=>?_⟩;have:=h.2 i hi;unfold cj at this;split at this
  ·rename_i ar;unfold wpOp;simp only[ar];exact KG hd hQ n _ _ _ _ this ax
  ·rename_i o ar;exact KD hd ar this ax λσ' a' w' hK cW=>KG hd hQ n _ _ _ _ hK cW
def Rs{id:Nat}{ops:Array Oper}{Q:Exit->St->Prop}(qs:List Nat)(hm:P.follows .mixedOrders=true)(hd:fq N ops=true)(h:vg P ops qs (Q .normal) ops.size (wz ops.size false) σ):W P N n0 (.region id ops true) Q σ:=by
 intro os γ0 a w _ ax;refine wp_region_any hm ?_;exact KG (oL hd) (K:=Q .normal) (λσ' a' w' hK cW=>⟨σ',hK,cW⟩) _ _ _ _ _ h ax.drawn
def aeJ{ops:Array Oper}{qs:List Nat}{K:St->Prop}{i:Nat}{o:Oper}(hi:ops[i]?=some o)(D:List Nat)(Rt:i∈D)(hD:∀ j∈D,j=i\/∃ oj,ops[j]?=some oj/\∃ e∈oj.after,Region.binds .any e=true/\e.on∈D):∀ (fuel:Nat) (aG:Array Bool) (σ:St),(∀ j∈D,aG.getD j true=false) ->
   i∈Region.ready .any ops aG ->
   (∀ j oj,ops[j]?=some oj->aG.getD j true=false->j ∉ D->o.apart ops oj=true/\AF (e9 (qs.contains i) o) (e9 (qs.contains j) oj)=true) ->
   cj P ops qs i (vg P ops qs K fuel (aG.setIfInBounds i true)) σ->vg P ops qs K (fuel+1) aG σ:=by
 intro fuel
 induction fuel with
 |zero =>
  intro aG σ hu hr k8 h;refine⟨λe=>by rw[e]at hr;simp at hr,λk hk=>?_⟩;by_cases fD:k=i
  ·subst fD;exact h
  ·obtain⟨s,hs⟩:=aeI h;have:=ready_mono hk fD;rw[hs.1]at this;simp at this
 |succ m ih =>
  intro aG σ hu hr k8 h;refine⟨λe=>by rw[e]at hr;simp at hr,λk hk=>?_⟩;by_cases fD:k=i
  ·subst fD;exact h
  ·have AG:=mem_ready.1 hk;obtain⟨eG,ok,ax,ec⟩:=AG;have q6:k ∉ D:=by
    intro q6;rcases hD k q6 with e|⟨oj,iq,e,he,hb,pj⟩
    ·exact fD e
    ·rw[ax]at iq;simp only[cA.injEq]at iq;subst iq;have h1:=ec e he hb;have h2:=hu e.on pj;rw[eL]at h1 h2;cases hx:aG[e.on]? with
     |none=>rw[hx]at h1;simp at h1
     |some b=>rw[hx]at h1 h2;simp at h1 h2;rw[h1]at h2;simp at h2
   obtain⟨ha,hc⟩:=k8 k ok ax eG q6;have h1:cj P ops qs i (cj P ops qs k (vg P ops qs K m ((aG.setIfInBounds i true).setIfInBounds k true))) σ :=
    nS (λs hs=>hs.2 k (ready_mono hk fD)) h
   have h2:cj P ops qs k (cj P ops qs i (vg P ops qs K m ((aG.setIfInBounds i true).setIfInBounds k true))) σ:=by
    unfold cj at h1 ⊢;simp only[hi,ax]at h1 ⊢;exact aeG ha hc h1
   refine nS (λs hs=>?_) h2;refine ih (aG.setIfInBounds k true) s (λj hj=>?_) (ready_mono hr (Ne.symm fD)) (λj oj iq hl pk=>?_) ?_
   ·have cy:k≠j:=λe=>q6 (by rw[e];exact hj);rw[getD_set_ne _ cy];exact hu j hj
   ·refine k8 j oj iq ?_ pk;by_cases zl:k=j
    ·subst zl;exact eG
    ·rwa [getD_set_ne _ zl]at hl
   ·rw[Array.setIfInBounds_comm _ _ (Ne.symm fD)]at hs;exact hs
def KH(ops:Array Oper)(i:Nat):List Nat :=
 (bu ops.size).foldl (λD j=>if j==i||(match ops[j]? with|some oj=>oj.after.any (λe=>Region.binds .any e&&D.contains e.on)|none=>false) then D++[j] else D) []
def G2(ops:Array Oper)(qs:List Nat)(aG:Array Bool)(i:Nat)(D:List Nat):Bool :=
 match ops[i]? with
 |none=>false
 |some o =>
  D.contains i&&D.all (λj=>j==i||match ops[j]? with|some oj=>oj.after.any (λe=>Region.binds .any e&&D.contains e.on)|none=>false) &&
  D.all (λj=>!aG.getD j true)&&o.after.all (λe=>!Region.binds .any e||aG.getD e.on false) &&
  (bu ops.size).all λj=>D.contains j||aG.getD j true||match ops[j]? with|some oj=>o.apart ops oj&&AF (e9 (qs.contains i) o) (e9 (qs.contains j) oj)|none=>true
def Ru{ops:Array Oper}{qs:List Nat}{K:St->Prop}{i:Nat}{D:List Nat}{fuel:Nat}{aG:Array Bool}(h:G2 ops qs aG i D=true)(hs:cj P ops qs i (vg P ops qs K fuel (aG.setIfInBounds i true)) σ):vg P ops qs K (fuel+1) aG σ:=by
 unfold G2 at h;cases hi:ops[i]? with
 |none=>simp[hi]at h
 |some o =>
  simp only[hi,bb,List.all_eq_true,sq,lD,beq_iff_eq,Bool.not_eq_true']at h;obtain⟨⟨⟨⟨h1,h2⟩,h3⟩,h4⟩,h5⟩:=h;refine aeJ hi D h1 (λj hj=>?_) fuel aG σ h3 ?_ ?_ hs
  ·rcases h2 j hj with h|h
   ·exact .inl h
   ·right;split at h
    ·rename_i oj iq;rw[Array.any_eq_true']at h;obtain⟨e,he,hb⟩:=h;simp only[bb,sq]at hb;exact⟨oj,iq,e,he,hb.1,hb.2⟩
    ·simp at h
  ·rw[mem_ready];refine⟨h3 i h1,o,hi,λe he hb=>?_⟩;rw[Array.all_eq_true']at h4;have:=h4 e he;simpa [hb] using this
  ·intro j oj iq hl pk;have hj:j<ops.size:=(Array.getElem?_eq_some_iff.1 iq).1;rcases h5 j (List.mem_range.2 hj) with(h|h)|h
   ·exact absurd h pk
   ·rw[hl]at h;simp at h
   ·simpa [iq] using h
inductive PT where
 |nil
 |take (i:Nat) (t:PT)
 |both (i:Nat) (t:PT) (j:Nat) (u:PT)
 |three (i:Nat) (t:PT) (j:Nat) (u:PT) (k:Nat) (v:PT)
def PT.ok(ops:Array Oper)(qs:List Nat):PT->Nat->Array Bool->Bool
 |.nil,n,aG=>n==0&&(Region.ready .any ops aG).isEmpty
 |.take _ _,0,_=>false
 |.take i t,n+1,aG=>G2 ops qs aG i (KH ops i)&&t.ok ops qs n (aG.setIfInBounds i true)
 |.both _ _ _ _,0,_=>false
 |.both i t j u,n+1,aG=>(Region.ready .any ops aG==[i,j])&&t.ok ops qs n (aG.setIfInBounds i true)&&u.ok ops qs n (aG.setIfInBounds j true)
 |.three _ _ _ _ _ _,0,_=>false
 |.three i t j u k v,n+1,aG=>(Region.ready .any ops aG==[i,j,k])&&t.ok ops qs n (aG.setIfInBounds i true)&&u.ok ops qs n (aG.setIfInBounds j true)&&v.ok ops qs n (aG.setIfInBounds k true)
def jW(P:Program)(ops:Array Oper)(qs:List Nat):PT->(St->Prop)->St->Prop
 |.nil,K,σ=>K σ
 |.take i t,K,σ=>cj P ops qs i (jW P ops qs t K) σ
 |.both i t j u,K,σ=>cj P ops qs i (jW P ops qs t K) σ/\cj P ops qs j (jW P ops qs u K) σ
 |.three i t j u k v,K,σ=>cj P ops qs i (jW P ops qs t K) σ/\cj P ops qs j (jW P ops qs u K) σ/\cj P ops qs k (jW P ops qs v K) σ
def AH{ops:Array Oper}{qs:List Nat}{K:St->Prop}:∀ (t:PT) (n:Nat) (aG:Array Bool) (σ:St),t.ok ops qs n aG=true->jW P ops qs t K σ->vg P ops qs K n aG σ
 |.nil,n,aG,σ,h,hp=>by
  simp only[PT.ok,bb,beq_iff_eq,List.isEmpty_iff]at h;obtain⟨rfl,h⟩:=h;exact⟨h,hp⟩
 |.take _ _,0,_,_,h,_=>by simp[PT.ok]at h
 |.take i t,n+1,aG,σ,h,hp=>by
  simp only[PT.ok,bb]at h;exact Ru h.1 (nS (λs hs=>AH t n _ s h.2 hs) hp)
 |.both _ _ _ _,0,_,_,h,_=>by simp[PT.ok]at h
 |.both i t j u,n+1,aG,σ,h,hp=>by
  simp only[PT.ok,bb,beq_iff_eq]at h;obtain⟨⟨h1,h2⟩,h3⟩:=h;refine⟨λe=>by rw[h1]at e;simp at e,λk hk=>?_⟩;rw[h1]at hk;simp only[bw,iM,or_false]at hk;rcases hk with rfl|rfl
  ·exact nS (λs hs=>AH t n _ s h2 hs) hp.1
  ·exact nS (λs hs=>AH u n _ s h3 hs) hp.2
 |.three _ _ _ _ _ _,0,_,_,h,_=>by simp[PT.ok]at h
 |.three i t j u k v,n+1,aG,σ,h,hp=>by
  simp only[PT.ok,bb,beq_iff_eq]at h;obtain⟨⟨⟨h1,h2⟩,h3⟩,h4⟩:=h;refine⟨λe=>by rw[h1]at e;simp at e,λx hk=>?_⟩;rw[h1]at hk;simp only[bw,iM,or_false]at hk;rcases hk with rfl|rfl|rfl
  ·exact nS (λs hs=>AH t n _ s h2 hs) hp.1
  ·exact nS (λs hs=>AH u n _ s h3 hs) hp.2.1
  ·exact nS (λs hs=>AH v n _ s h4 hs) hp.2.2
def pw{id:Nat}{ops:Array Oper}{Q:Exit->St->Prop}(qs:List Nat)(t:PT)(hm:P.follows .mixedOrders=true)(hd:fq N ops=true)(ht:t.ok ops qs ops.size (wz ops.size false)=true)(h:jW P ops qs t (Q .normal) σ):W P N n0 (.region id ops true) Q σ :=
 Rs qs hm hd (AH t _ _ σ ht h)
def Rv{id:Nat}{ops:Array Oper}{y:Code}{Q:Exit->St->Prop}(qs:List Nat)(t:PT)(hm:P.follows .mixedOrders=true)(hd:fq N ops=true)(ht:t.ok ops qs ops.size (wz ops.size false)=true)(h:∀ K:St->Prop,(∀ s,W P N n0 y Q s->K s)->jW P ops qs t K σ):W P N n0 (.seq (.region id ops true) y) Q σ :=
 G3 (pw qs t hm hd ht (h _ (λ_ h=>h)))
def mI{ops:Array Oper}{qs:List Nat}{K:St->Prop}:jW P ops qs .nil K σ=K σ:=rfl
def mJ{ops:Array Oper}{qs:List Nat}{i:Nat}{t:PT}{K:St->Prop}:jW P ops qs (.take i t) K σ=cj P ops qs i (jW P ops qs t K) σ:=rfl
def q7{ops:Array Oper}{qs:List Nat}{i j k:Nat}{t u v:PT}{K:St->Prop}:jW P ops qs (.three i t j u k v) K σ=(cj P ops qs i (jW P ops qs t K) σ/\cj P ops qs j (jW P ops qs u K) σ/\cj P ops qs k (jW P ops qs v K) σ):=rfl
def nU{ops:Array Oper}{qs:List Nat}{i j:Nat}{t u:PT}{K:St->Prop}:jW P ops qs (.both i t j u) K σ=(cj P ops qs i (jW P ops qs t K) σ/\cj P ops qs j (jW P ops qs u K) σ):=rfl
def Rw{q:Bool}{o:Oper}{K:St->Prop}:qj q P o K true true σ=mF q P o σ K:=by simp[qj]
def Rx{q:Bool}{o:Oper}{K:St->Prop}:qj q P o K false false σ=mF q P o σ K:=by simp[qj]
def Ry{q:Bool}{o:Oper}{K:St->Prop}:qj q P o K true false σ=K (σ.put o.dst (.lit (.tuple #[]))):=by simp[qj]
def Rz{q:Bool}{o:Oper}{K:St->Prop}:qj q P o K false true σ=K (σ.put o.dst (.lit (.tuple #[]))):=by simp[qj]
def aeK{q:Bool}{o:Oper}{K:St->Prop}{b want:Bool}(h1:b=true->qj q P o K true want σ)(h2:b=false->qj q P o K false want σ):qj q P o K b want σ:=by
 cases b
 ·exact h2 rfl
 ·exact h1 rfl
def jX:List Nat->PT
 |[]=>.nil
 |i::r=>.take i (jX r)
end Go.Am
namespace Go.Am
variable {P:Program} {N n0:Nat} {σ:St} {Q:Exit->St->Prop}
def ao:List (Nat×AV)->Nat->AV
 |[]=>λ_=>.undef
 |p::l=>jH (ao l) p.1 p.2
def G4(d:Nat)(v:AV)(l:List (Nat×AV)):ao ((d,v)::l)=jH (ao l) d v:=rfl
def G5(l:List (Nat×AV))(k:Nat):ao l k=.undef\/∃ p∈l,p.1=k/\ao l k=p.2:=by
 induction l with
 |nil=>exact .inl rfl
 |cons p l ih =>
  by_cases h:k=p.1
  ·right;exact⟨p,GM,h.symm,by simp[ao,jH,h]⟩
  ·have e:ao (p::l) k=ao l k:=by simp[ao,jH,h]
   rw[e];rcases ih with h|⟨q,hq,h1,h2⟩
   ·exact .inl h
   ·exact .inr ⟨q,by simp[hq],h1,h2⟩
def Has(e:Nat->AV):List (Nat×AV)->Prop
 |[]=>True
 |p::l=>e p.1=p.2/\Has e l
def Has.mem{e:Nat->AV}:∀ {l:List (Nat×AV)},Has e l->∀ p∈l,e p.1=p.2
 |q::l,h,p,hp=>by
  rcases bw.1 hp with rfl|hp
  ·exact h.1
  ·exact Has.mem h.2 p hp
def aH.ao(l:List (Nat×AV))(os:List Ob)(ho:σ.aa=os)(h:Has σ.env l):aH n0 σ ⟨ao l,os⟩:=by
 subst ho;refine aH.forget λk=>?_;rcases G5 l k with h'|⟨p,hp,rfl,h'⟩
 ·exact .inl h'
 ·right;rw[h',h.mem p hp]
def qh(ρ:Nat->Nat)(os:List Ob):List Nat->List Ob->Prop
 |[],[]=>True
 |i::aj,o::co=>(i<os.length/\(o=.gone\/os[i]?=some (bM ρ o)))/\qh ρ os aj co
 |_,_=>False
def qh.spec{ρ:Nat->Nat}{os:List Ob}:∀ {aj:List Nat} {co:List Ob},qh ρ os aj co->co.length=aj.length/\(∀ (j:Nat) o,co[j]?=some o->o=.gone\/os[aj.getD j 0]?=some (bM ρ o))/\∀ i∈aj,i<os.length
 |[],[],_=>⟨rfl,GM,GM⟩
 |i::aj,o::co,h=>by
  obtain⟨⟨h1,h2⟩,h3⟩:=h;obtain⟨a,b,c⟩:=qh.spec h3;refine⟨by simp[a],λj o' hj=>?_,λx hx=>?_⟩
  ·cases j with
   |zero=>simp at hj;subst hj;simpa using h2
   |succ j=>simpa using b j o' (by simpa using hj)
  ·rcases bw.1 hx with rfl|hx
   ·exact h1
   ·exact c x hx
def tU(R:AV->AV->Prop)(e:Nat->AV):List (Nat×AV)->Prop
 |[]=>True
 |p::l=>R p.2 (e p.1)/\tU R e l
def tU.mem{R:AV->AV->Prop}{e:Nat->AV}:∀ {l:List (Nat×AV)},tU R e l->∀ p∈l,R p.2 (e p.1)
 |q::l,h,p,hp=>by
  rcases bw.1 hp with rfl|hp
  ·exact h.1
  ·exact tU.mem h.2 p hp
def kept(aj:List Nat)(co:List Ob)(id:Nat):Prop:=∃ j,j<aj.length/\aj.getD j 0=id/\co[j]?≠some .gone
def aH.aj(aj:List Nat)(snap:Bool)(l:List (Nat×AV))(co:List Ob)(bV:aj.Nodup)(ho:qh (bq σ.aa.length aj) σ.aa aj co)(hn:n0<=aj.length)(bX:∀ i,i<n0->aj.getD i 0=i)(h:tU (aZ σ (kept aj co) (bq σ.aa.length aj) snap) σ.env l):aH n0 σ ⟨Am.ao l,co⟩:=by
 obtain⟨h1,h2,h3⟩:=ho.spec;refine aH.select aj snap co _ bV h1 h2 h3 hn bX λk=>?_;rcases G5 l k with h'|⟨p,hp,rfl,h'⟩
 ·exact .inl h'
 ·right;rw[h'];exact h.mem p hp
def aZ.pure{kp:Nat->Prop}{ρ:Nat->Nat}{snap:Bool}{v:AV}(h:kZ v=true):aZ σ kp ρ snap v v:=by
 have:=aZ.same (σ:=σ) (kp:=kp) (ρ:=ρ) (snap:=snap) v;rwa [AI _ v h]at this
def aZ.eq{kp:Nat->Prop}{ρ:Nat->Nat}{snap:Bool}{v u:AV}(h:u=bk ρ v):aZ σ kp ρ snap v u:=by
 subst h;exact .same v
def cQ.flat{kp:Nat->Prop}{id sz len:Nat}{rows:List (List AV)}(ho:σ.aa[id]?=some (.arr sz rows))(hw:∀ row∈rows,row.length=sz)(hl:len=rows.length)(tQ:¬ kp id)(hf:∀ row∈rows,∀ v∈row,(∃ x,v=.lit x)\/∃ s r,v=.tree s r):
  cQ σ kp (.tree sz rows) (.ref id sz 0 len):=by
 refine .ref id sz 0 len rows rows (λr c=>(cellAt rows r c).getD .undef) ho tQ (by simp[hl]) hw (λr c v hv=>?_) (λr c v hv=>?_)
 ·simp[hl,hv]
 ·rw[hv,Option.getD_some];simp only[cellAt,Option.bind_eq_some_iff]at hv;obtain⟨row,h1,h2⟩:=hv;rcases hf row (gI h1) v (gI h2) with⟨x,rfl⟩|⟨s,r,rfl⟩
  ·exact .lit x
  ·exact .tree s r
def aZ.nil{kp:Nat->Prop}{ρ:Nat->Nat}{sz:Nat}:aZ σ kp ρ true (.tree sz []) (.lit (.slice none 0 0)):=.snap _ _ rfl (.nil sz)
def aZ.cO{kp:Nat->Prop}{ρ:Nat->Nat}{id sz len:Nat}{rows:List (List AV)}(ho:σ.aa[id]?=some (.arr sz rows))(hw:∀ row∈rows,row.length=sz)(hl:len=rows.length)(tQ:¬ kp id)(hf:∀ row∈rows,∀ v∈row,(∃ x,v=.lit x)\/∃ s r,v=.tree s r):
  aZ σ kp ρ true (.tree sz rows) (.ref id sz 0 len):=.snap _ _ rfl (cQ.flat ho hw hl tQ hf)
def aeL{α:Type}(n0:Nat)(S:α->St)(I:α->Prop)(M:α->Nat)(x:α)(Q:Exit->St->Prop):Exit->St->Prop
 |.normal,s=>∃ y,I y/\M y<M x/\aH n0 s (S y)
 |e,s=>Q e s
def aeM{α:Type}{c:Code}(S:α->St)(I:α->Prop)(M:α->Nat)(x0:α)(hI:I x0)(h0:aH n0 σ (S x0))(round:∀ x,I x->∀ Q':Exit->St->Prop,(∀ s y,I y->M y<M x->aH n0 s (S y)->Q' .normal s)->(∀ e s,e≠.normal->Q e s->Q' e s)->W P N n0 c Q' (S x)):W P N n0 (.loop c) Q σ:=by
 refine cL h0 ?_;intro os γ0 a w hn ax b k cs;have key:∀ n x a w,M x=n->I x->fX N os γ0 (S x) a w ->
   ∃ e a' w',(∃ σ',Q e σ'/\fX N os γ0 σ' a' w')/\Arrives P (lone (b.at a (.code c::.inLoop c::k)) cs w) b k cs e a' w':=by
  intro n
  induction n using Nat.strongRecOn with
  |_ n ih =>
   intro x a w hm hI ax;have hr:W P N n0 c (aeL n0 S I M x Q) (S x):=round x hI _ (λs y h1 h2 h3=>⟨y,h1,h2,h3⟩) (λe s he h=>by cases e<;>first|exact absurd rfl he|exact h);obtain⟨e,sJ,tV,⟨σ',hq,cW⟩,oM⟩:=hr os γ0 a w hn ax b (.inLoop c::k) cs;cases e with
   |normal =>
    obtain⟨y,KI,aX,ht⟩:=hq;obtain⟨h1,h2,γ,rfl,h3,h4,h5⟩:=cW;obtain⟨aA,e1,e2,e3,e4⟩:=ht os γ0 γ hn h4 h5;obtain⟨KJ,KK,KL,KM,KO⟩:=ih (M y) GK y sJ γ.w rfl KI ⟨h1,h2,aA,e1,e2.trans h3,e3,e4⟩;exact⟨KJ,KK,KL,KM,.of_steps (Steps.trans oM (.one step_inLoop)) KO⟩
   |exit id=>exact⟨_,sJ,tV,⟨σ',hq,cW⟩,.pass (x:=.inLoop c) rfl (λ_ _=>.inl GM) oM⟩
   |goto l=>exact⟨_,sJ,tV,⟨σ',hq,cW⟩,.pass (x:=.inLoop c) rfl (λ_ _=>.inl GM) oM⟩
   |ret=>exact⟨_,sJ,tV,⟨σ',hq,cW⟩,.pass (x:=.inLoop c) rfl (λ_ _=>.inl GM) oM⟩
   |panic ch=>exact⟨_,sJ,tV,⟨σ',hq,cW⟩,.pass (x:=.inLoop c) rfl (λ_ _=>.inl GM) oM⟩
   |outgrown=>exact⟨_,sJ,tV,⟨σ',hq,cW⟩,.pass (x:=.inLoop c) rfl (λ_ _=>.inl GM) oM⟩
 obtain⟨e,a',w',hq,oM⟩:=key _ x0 a w rfl hI ax;exact⟨e,a',w',hq,.of_steps (.one step_loop) oM⟩
def aeN{id:Nat}{c:Code}(h:∀ Q':Exit->St->Prop,(∀ s,Q .normal s->Q' .normal s)->(∀ s,Q .normal s->Q' (.exit id) s)->(∀ e s,e≠.normal->e≠.exit id->Q e s->Q' e s)->W P N n0 c Q' σ):W P N n0 (.block id c) Q σ :=
 aeO (h _ (λs h=>h) (λs h=>by simp only[G6,if_true];exact h) (λe s h1 h2 h=>by
  cases e<;>first
   |exact absurd rfl h1
   |exact h
   | (rename_i px;simp only[G6];rw[if_neg (λe=>h2 (by rw[e]))];exact h)))
def D9{ρ:Nat->Nat}{sz:Nat}{rows:List (List AV)}(h:∀ row∈rows,mH row=true):bM ρ (.arr sz rows)=.arr sz rows:=by
 simp only[bM];congr 1;have:∀ row∈rows,row.map (bk ρ)=row:=λrow hr=>by
  have:=Cr ρ row (h row hr);rwa [xZ]at this
 rw[tI this];simp
def aeP(n j:Nat):bq n (bu n) j=j:=by
 unfold bq;split
 ·rename_i h;have h':j<n:=by simpa using h
  simp[az,kX h']
 ·rename_i h;simp at h ⊢;omega
mutual
def ze:∀ (v:AV),bk (λj=>j) v=v
 |.undef=>rfl
 |.lit _=>rfl
 |.tree ..=>rfl
 |.cB _=>rfl
 |.ref ..=>rfl
 |.ptr ..=>rfl
 |.agg cs=>by simp only[bk];rw[G7 cs]
 |.bD cs=>by simp only[bk];rw[G7 cs]
 |.fn f cs=>by simp only[bk];rw[G7 cs]
 |.iC t v=>by simp only[bk];rw[ze v]
 |.dD _=>rfl
def G7:∀ (l:List AV),ql (λj=>j) l=l
 |[]=>rfl
 |v::vs=>by simp only[ql];rw[ze v,G7 vs]
end
def D4(o:Ob):bM (λj=>j) o=o:=by
 have h:bk (λj=>j)=id:=by funext v;exact ze v
 cases o with
 |gone=>rfl
 |var cs=>simp[bM,h]
 |arr sz rows=>simp[bM,h]
 |mp ag L=>simp[bM,h]
def zd(n:Nat):bq n (bu n)=λj=>j:=by funext j;exact aeP n j
def RA(aa:List Ob):∀ (bn:List Ob),aa.length<=bn.length->e8 aa (bu aa.length) bn=bn:=by
 intro bn h;have hlen:(bu aa.length).length<=bn.length:=by simpa using h
 apply List.ext_getElem?;intro i;rcases Nat.lt_or_ge i aa.length with hi|hi
 ·have:=G8 (bu aa.length) aa bn hlen (DQ) GM i (by simpa using hi);simpa [az,kX hi] using this
 ·have Cs:=KP (bu aa.length) aa bn hlen;obtain⟨j,rfl⟩:∃j,i=aa.length+j:=⟨i-aa.length,GK⟩;have:=RB (bu aa.length) aa bn hlen j;simpa using this
def fZ{f:FuncId}{args:List AV}{dst:Option Tmp}{K:St->Prop}{res:AV}{bn:List Ob}(h:Holds P f args σ.aa res bn)(hl:σ.aa.length<=bn.length)(hK:K ((⟨σ.env,bn⟩:St).put dst res)):tP P f args dst K σ:=by
 refine⟨bu σ.aa.length,false,args,σ.aa,res,bn,h,⟨DQ,GM,?_,rfl,?_,GM⟩,?_⟩
 ·intro j o hj;have aX:=(aV.1 hj).1;rw[zd,D4];simpa [az,kX aX] using hj
 ·intro j c d hc hd;rw[hc]at hd;simp only[cA.injEq]at hd;subst hd;exact .eq (by rw[zd,ze])
 ·rw[zd,ze];have:bn.map (bM (λj=>j))=bn:=by
   have h:bM (λj=>j)=id:=by funext o;exact D4 o
   simp[h]
  rw[this,RA _ _ hl];exact hK
end Go.Am
namespace Go.Am
variable {P:Program} {N n0:Nat} {σ:St} {Q:Exit->St->Prop}
def aeQ{id:Nat}{ops:Array Oper}(hd:fq N ops=true)(h:∀ K:St->Prop,(∀ s,Q .normal s->K s)->opsL P ops ops.toList K σ):W P N n0 (.region id ops false) Q σ :=
 RC hd (h _ (λ_ h=>h))
def KQ{ops:Array Oper}{K:St->Prop}:∀ (l:List Oper) (i:Nat) (σ:St),ops.toList.drop i=l->opsL P ops l K σ->jW P ops [] (jX (mB i l.length)) K σ
 |[],i,σ,_,h=>h
 |o::r,i,σ,hl,h=>by
  have hi:ops[i]?=some o:=by
   have:(ops.toList.drop i)[0]?=some o:=by rw[hl];rfl
   simpa using this
  have hr:ops.toList.drop (i+1)=r:=by
   have:=congrArg List.tail hl;simpa [List.tail_drop] using this
  rw[List.length_cons,List.range'_succ];show cj P ops [] i (jW P ops [] (jX (mB (i+1) r.length)) K) σ;unfold cj;simp only[hi];have hm:∀ s,opsL P ops r K s->jW P ops [] (jX (mB (i+1) r.length)) K s:=λs hs=>KQ r (i+1) s hr hs;refine D8 hm ?_;unfold opsL at h;unfold er;cases hg:o.guard with
  |none=>simp only[hg]at h;exact h
  |some jw =>
   obtain⟨j,want⟩:=jw;simp only[hg]at h;exact h
def AJ(ops:Array Oper):Bool:=(jX (bu ops.size)).ok ops [] ops.size (wz ops.size false)
def aeR{id:Nat}{ops:Array Oper}{y:Code}(hm:P.follows .mixedOrders=true)(hd:fq N ops=true)(ht:AJ ops=true)(h:∀ K:St->Prop,(∀ s,W P N n0 y Q s->K s)->opsL P ops ops.toList K σ):
  W P N n0 (.seq (.region id ops true) y) Q σ :=
 Rv [] _ hm hd ht λK hK=>by
  have:=KQ (P:=P) (ops:=ops) ops.toList 0 σ rfl (h K hK);rw[wv];simpa using this
def aeS{id:Nat}{ops:Array Oper}(hm:P.follows .mixedOrders=true)(hd:fq N ops=true)(ht:AJ ops=true)(h:∀ K:St->Prop,(∀ s,Q .normal s->K s)->opsL P ops ops.toList K σ):
  W P N n0 (.region id ops true) Q σ :=
 pw [] _ hm hd ht (by
  have:=KQ (P:=P) (ops:=ops) ops.toList 0 σ rfl (h _ (λ_ h=>h));rw[wv];simpa using this)
def aO{v res:AV}(hr:kZ v=true)(h:v=res):oK 0 σ v res []:=by
 subst h;exact KR hr
def G9(e:Nat->AV)(d:Nat)(v:AV)(k:Nat):jH e d v k=if k=d then v else e k:=by simp only[jH]
def RD:IntKind.i64.min = -9223372036854775808:=rfl
def RE:IntKind.i64.max=9223372036854775807:=rfl
def ints(xs:List Int):List (List AV):=xs.map λx=>[Qf x]
def a8(xs:List Bool):List (List AV):=xs.map λx=>[.lit (.bool x)]
def fM(xs:List (List Int)):List (List AV):=xs.map λx=>[.tree 1 (ints x)]
def x7(xs:List Int):(ints xs).length=xs.length:=by simp[ints]
def AK(xs:List Bool):(a8 xs).length=xs.length:=by simp[a8]
def G'(xs:List (List Int)):(fM xs).length=xs.length:=by simp[fM]
def RF(xs:List Int)(i:Nat)(h:i<xs.length):(ints xs).getD i []=[Qf (xs.getD i 0)]:=by simp[ints,h]
def RG(xs:List Bool)(i:Nat)(h:i<xs.length):(a8 xs).getD i []=[.lit (.bool (xs.getD i false))]:=by simp[a8,h]
def RH(xs:List (List Int))(i:Nat)(h:i<xs.length):(fM xs).getD i []=[.tree 1 (ints (xs.getD i []))]:=by simp[fM,h]
def RJ(xs:List Int)(i:Nat)(h:i<xs.length):(ints xs)[i]?=some [Qf (xs.getD i 0)]:=by simp[ints,h]
def RK(xs:List Bool)(i:Nat)(h:i<xs.length):(a8 xs)[i]?=some [.lit (.bool (xs.getD i false))]:=by simp[a8,h]
def KS(xs:List (List Int))(i:Nat)(h:i<xs.length):(fM xs)[i]?=some [.tree 1 (ints (xs.getD i []))]:=by simp[fM,h]
def ints_set(xs:List Int)(i:Nat)(v:Int):(ints xs).set i [Qf v]=ints (xs.set i v):=by simp[ints,sr]
def q8(xs:List Bool)(i:Nat)(v:Bool):(a8 xs).set i [.lit (.bool v)]=a8 (xs.set i v):=by simp[a8,sr]
def RL(xs ys:List Int):ints xs++ints ys=ints (xs++ys):=by simp[ints]
def Cu(xs:List Int)(v:Int):ints xs++[[Qf v]]=ints (xs++[v]):=by simp[ints]
def RM(xs:List (List Int))(v:List Int):fM xs++[[.tree 1 (ints v)]]=fM (xs++[v]):=by simp[fM]
def Ea(xs:List Bool)(v:Bool):a8 xs++[[.lit (.bool v)]]=a8 (xs++[v]):=by simp[a8]
def KT(n:Nat)(v:Int):aK n [AV.lit (.int .i64 v)]=ints (aK n v):=by simp[ints]
def Cv(n:Nat)(v:Bool):aK n [AV.lit (.bool v)]=a8 (aK n v):=by simp[a8]
def Ha(xs:List Int):((ints xs).all λrow=>row.all c8)=true:=by simp[ints,c8,Value.oneCell']
def RN(xs:List Bool):((a8 xs).all λrow=>row.all c8)=true:=by simp[a8,c8,Value.oneCell']
def RO(xs:List (List Int)):((fM xs).all λrow=>row.all c8)=true:=by simp[fM,c8]
def Hb(ρ:Nat->Nat)(sz:Nat)(xs:List Int):bM ρ (.arr sz (ints xs))=.arr sz (ints xs):=D9 (by simp[ints,mH,kZ])
def AL(ρ:Nat->Nat)(sz:Nat)(xs:List Bool):bM ρ (.arr sz (a8 xs))=.arr sz (a8 xs):=D9 (by
 intro row hr;simp only[a8,bW]at hr;obtain⟨x,_,rfl⟩:=hr;rfl)
def KU(ρ:Nat->Nat)(sz:Nat)(xs:List (List Int)):bM ρ (.arr sz (fM xs))=.arr sz (fM xs):=D9 (by simp[fM,mH,kZ])
def x8(xs:List Int):∀ row∈ints xs,∀ v∈row,(∃ x,v=AV.lit x)\/∃ s r,v=AV.tree s r:=by
 intro row hr v hv;simp only[ints,bW]at hr;obtain⟨x,_,rfl⟩:=hr;simp at hv;exact .inl ⟨_,hv⟩
def RP(xs:List Bool):∀ row∈a8 xs,∀ v∈row,(∃ x,v=AV.lit x)\/∃ s r,v=AV.tree s r:=by
 intro row hr v hv;simp only[a8,bW]at hr;obtain⟨x,_,rfl⟩:=hr;simp at hv;exact .inl ⟨_,hv⟩
def aeT(xs:List (List Int)):∀ row∈fM xs,∀ v∈row,(∃ x,v=AV.lit x)\/∃ s r,v=AV.tree s r:=by
 intro row hr v hv;simp only[fM,bW]at hr;obtain⟨x,_,rfl⟩:=hr;simp at hv;exact .inr ⟨_,_,hv⟩
def vh(xs:List Int):∀ row∈ints xs,row.length=1:=by
 intro row hr;simp only[ints,bW]at hr;obtain⟨x,_,rfl⟩:=hr;rfl
def KV(xs:List Bool):∀ row∈a8 xs,row.length=1:=by
 intro row hr;simp only[a8,bW]at hr;obtain⟨x,_,rfl⟩:=hr;rfl
def aeU(xs:List (List Int)):∀ row∈fM xs,row.length=1:=by
 intro row hr;simp only[fM,bW]at hr;obtain⟨x,_,rfl⟩:=hr;rfl
def kd{α:Type}(xs:List α)(i:Nat)(d:α)(h:i<xs.length):xs.drop i=xs.getD i d::xs.drop (i+1):=by
 rw[List.drop_eq_getElem_cons h];simp[h]
end Go.Am

