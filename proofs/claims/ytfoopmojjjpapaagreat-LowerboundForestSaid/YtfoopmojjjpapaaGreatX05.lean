import Derived.Test.YtfoopmojjjpapaaGreatX04
set_option linter.all false
set_option maxHeartbeats 0
set_option maxRecDepth 20000
open List renaming mem_of_getElem?→ik,mem_append→da,map_congr_left→tI,getElem?_eq_some_iff→aT,range→aY,contains_iff_mem→uX,mem_cons→a8,not_mem_nil→iJ,getD_eq_getElem?_getD→az,getElem?_range→nN,nodup_range→Fj,range'→nq,range_eq_range'→wE,map_set→wH,replicate→aI,mem_map→b6
open Array renaming getD_eq_getD_getElem?→ep,toList_append→AQ,replicate→uW
open Bool renaming or_eq_true→kL,and_eq_true→a7
open Option renaming some→cy
namespace Go.Am
variable {P:Program}
def Jz(P:Program)(g:FuncId)(args:List AV)(dst:Option Tmp)(K:St->Prop)(σ:St):Prop :=
 ∃ res,Holds P g args [] res []/\lJ args=true/\kq res=true/\K (σ.put dst res)
def tY(P:Program)(t:TypeId)(dst:Option Tmp)(K:St->Prop)(σ:St):AV->Prop
 |.cj cells=>(ty P t).kind≠99/\ml (ty P t) cells 0 λv=>K (σ.put dst v)
 |_=>False
def lH(q:Bool)(P:Program)(o:Oper)(σ:St)(K:St->Prop):Prop :=
 match q with
 |false=>aJ P o σ K
 |true =>
  match o.op with
  |.call { callee:=.value f,args,.. } =>
   match ev σ f with
   |.fn g bn=>Jz P g (args.toList.map (ev σ)++bn) o.dst K σ
   |_=>False
  |.load t a=>tY P t o.dst K σ (ev σ a)
  |_=>False
def adJ{o:Oper}{σ:St}{K:St->Prop}{t:TypeId}{a:Operand}(cO:o.op=.load t a)(h:tY P t o.dst K σ (ev σ a)):aJ P o σ K:=by
 unfold aJ;simp only[cO];unfold b9;simp only[cO];unfold tY at h;split at h
 ·rename_i cells he;simp only[he];exact h
 ·exact h.elim
def JE{t:TypeId}{dst:Option Tmp}{K:St->Prop}{σ:St}{v:AV}(h:tY P t dst K σ v):∃x,K (σ.put dst x)/\∀ (σ2:St) (K2:St->Prop),K2 (σ2.put dst x)->tY P t dst K2 σ2 v:=by
 unfold tY at h;split at h
 ·rename_i cells;obtain⟨h1,h2⟩:=h;unfold ml at h2;split at h2
  ·rename_i ha;refine⟨_,h2.2,λσ2 K2 hK=>?_⟩;unfold tY ml;simp only;rw[if_pos ha];exact⟨h1,h2.1,hK⟩
  ·rename_i ha;split at h2
   ·rename_i x hx;refine⟨x,h2,λσ2 K2 hK=>?_⟩;unfold tY ml;simp only;rw[if_neg ha,hx];exact⟨h1,hK⟩
   ·exact h2.elim
 ·exact h.elim
def oZ(q:Bool)(P:Program)(o:Oper)(K:St->Prop)(b want:Bool)(σ:St):Prop:=(b=want->lH q P o σ K)/\(b≠want->K (σ.put o.dst (.lit (.tuple #[]))))
def ew(P:Program)(ops:Array Oper)(q:Bool)(o:Oper)(K:St->Prop)(σ:St):Prop :=
 match o.guard with
 |none=>lH q P o σ K
 |some (j,want) =>
  match (ops[j]?).bind (·.dst) with
  |none=>False
  |some d =>
   match σ.env d with
   |.lit (.bool b)=>oZ q P o K b want σ
   |.lit (.tuple vs)=>vs = #[]/\K (σ.put o.dst (.lit (.tuple #[])))
   |_=>False
def QF{q:Bool}{o:Oper}{σ:St}{K:St->Prop}(h:lH q P o σ K):aJ P o σ K:=by
 cases q with
 |false=>exact h
 |true =>
  unfold lH at h;simp only at h;unfold aJ;split at h
  ·rename_i f args cm cO;simp only[cO];split at h
   ·rename_i g bn he;simp only[he];obtain⟨res,h1,h2,h3,h4⟩:=h;exact b7 h1 h2 h3 h4
   ·exact h.elim
  ·rename_i t a cO;have:=adJ cO h;unfold aJ at this;simpa only[cO] using this
  ·exact h.elim
def JF{N:Nat}{os:List Ob}{γ0:Cx}{ops:Array Oper}(hd:∀ o∈ops.toList,∀ d,o.dst=some d->d<N){q:Bool}{i:Nat}{o:Oper}(hi:ops[i]?=some o){σ:St}{K:St->Prop}(h:ew P ops q o K σ){a:Act}{w:World}(aA:gf N os γ0 σ a w){Q:Exit->Act->World->Prop}{next:Act->World->Prop}(hn:∀ σ' a' w',K σ'->gf N os γ0 σ' a' w'->next a' w'):wpOp P ops Q i next a w:=by
 have cD:o∈ops.toList:=ik (by simpa using hi);unfold wpOp;simp only[hi];unfold ew at h;cases hg:o.guard with
 |none =>
  simp only[hg]at h;have hw:Region.wanted o (yielded ops a.tmps)=true:=by simp[Region.wanted,hg]
  rw[if_pos hw];left;exact wJ (QF h) aA (hd o cD) hn
 |some jw =>
  obtain⟨j,want⟩:=jw;simp only[hg]at h;cases dT:(ops[j]?).bind (·.dst) with
  |none=>simp[dT]at h
  |some d =>
   simp only[dT]at h;split at h
   ·rename_i b he;obtain⟨gP,aO,γ,rfl,ha,hs,hf⟩:=aA;have jm:=hs.ar d;rw[he,ha]at jm;have hv:=jm.cz;have hy:yielded ops a.tmps j=some b:=by
     unfold yielded;rw[dT];have:a.tmps[d]?=some (.bool b):=by
      rw[ep]at hv;cases hx:a.tmps[d]? with
      |none=>rw[hx]at hv;simp[Go.undef]at hv
      |some y=>rw[hx]at hv;simp at hv;rw[hv]
     simp[this]
    by_cases gr:b=want
    ·have hw:Region.wanted o (yielded ops a.tmps)=true:=by simp[Region.wanted,hg,hy,gr]
     rw[if_pos hw];left;exact wJ (QF (h.1 gr)) ⟨gP,aO,γ,rfl,ha,hs,hf⟩ (hd o cD) hn
    ·have hw:Region.wanted o (yielded ops a.tmps)=false:=by simp[Region.wanted,hg,hy,gr]
     rw[if_neg (by rw[hw];simp)];refine hn _ _ _ (h.2 gr) ⟨by rw[put_defers];exact gP,by rw[tW];exact aO,{ γ with tmps:=(a.put o.dst Go.undef).tmps },rfl,rfl,q6 hs ha (λd h=>by rw[aO];exact hd o cD d h) (.lit _),?_⟩;rw[p6];exact hf.put _
   ·rename_i vs he;obtain⟨gP,aO,γ,rfl,ha,hs,hf⟩:=aA;have jm:=hs.ar d;rw[he,ha]at jm;have hv:=jm.cz;have hy:yielded ops a.tmps j=none:=by
     unfold yielded;rw[dT];rw[ep]at hv;cases hx:a.tmps[d]? with
     |none=>simp[hx]
     |some y=>rw[hx]at hv;simp at hv;subst hv;simp[hx]
    have hw:Region.wanted o (yielded ops a.tmps)=false:=by simp[Region.wanted,hg,hy]
    rw[if_neg (by rw[hw];simp)];refine hn _ _ _ h.2 ⟨by rw[put_defers];exact gP,by rw[tW];exact aO,{ γ with tmps:=(a.put o.dst Go.undef).tmps },rfl,rfl,q6 hs ha (λd h=>by rw[aO];exact hd o cD d h) (.lit _),?_⟩;rw[p6];exact hf.put _
   ·exact h.elim
def FK(c:Nat)(a:List Ob):kr c a a:=by
 unfold kr;split
 ·rfl
 ·split
  ·intro id _;rfl
  ·split
   ·exact⟨rfl,λid o o' h h'=>by rw[h]at h';simp at h';subst h';exact xX o⟩
   ·trivial
def dU.aa{σ σ2:St}(h:σ2.aa=σ.aa){kp:Nat->Prop}{c d:AV}(ha:dU σ kp c d):dU σ2 kp c d:=by
 induction ha with
 |lit x=>exact .lit x
 |tree s r=>exact .tree s r
 |nil sz=>exact .nil sz
 |ref id sz off len rows gD g bK rZ hl0 C7 vn nW ih=>exact .ref id sz off len rows gD g (by rw[h];exact bK) rZ hl0 C7 vn ih
def cC.aa{σ σ2:St}(h:σ2.aa=σ.aa){kp:Nat->Prop}{ρ:Nat->Nat}{snap:Bool}{c d:AV}(ha:cC σ kp ρ snap c d):cC σ2 kp ρ snap c d:=by
 induction ha with
 |same v=>exact .same v
 |snap c d hs hf=>exact .snap c d hs (hf.aa h)
 |agg cs ds hl _ ih=>exact .agg cs ds hl ih
 |bx cs ds hl _ ih=>exact .bx cs ds hl ih
def eM(q:Bool)(o:Oper):Nat:=if q then 0 else cls o.op
def sc{ops:Array Oper}{o:Oper}{σ:St}{e2:Nat->AV}{os:List Ob}(h:∀ t∈o.looksAt ops,e2 t=σ.env t):∀ x∈o.op.operands.toList,ev ⟨e2,os⟩ x=ev σ x:=by
 intro x hx;cases x with
 |tmp t =>
  show e2 t=σ.env t;refine h t ?_;unfold Oper.looksAt;rw[da];left;rw[List.mem_filterMap];exact⟨_,hx,rfl⟩
 |const v=>rfl
 |func f=>rfl
 |global g=>rfl
def adK{σ:St}{v:AV}{K:FuncId->AV->Prop}{r:Option (FuncId×Option TypeId)}(h:oW P σ v K r):
  ∃ g x,K g x/\∀ (e2:Nat->AV) (K2:FuncId->AV->Prop),K2 g x->oW P ⟨e2,σ.aa⟩ v K2 r:=by
 match r,h with
 |none,h=>exact h.elim
 |some (g,none),h=>exact⟨g,v,h,λ_ _ h=>h⟩
 |some (g,some e),h =>
  unfold oW at h;obtain⟨hk,h⟩:=h;cases v with
  |ptr id rr c =>
   simp only at h;cases bR:rowOf σ id rr with
   |none=>simp[bR]at h
   |some row =>
    simp only[bR]at h;obtain⟨x,h1,h2⟩:=QG h;refine⟨g,x,h1,λe2 K2 hK=>?_⟩;unfold oW;have:rowOf ⟨e2,σ.aa⟩ id rr=some row:=bR;simp only[this];exact⟨hk,h2 _ hK⟩
  |_=>exact h.elim
def adL{o:Oper}{σ:St}{K:St->Prop}(hW:aJ P o σ K):
  ∃ v os,kr (cls o.op) σ.aa os/\K ((⟨σ.env,os⟩:St).put o.dst v)/\∀ (e2:Nat->AV) (K2:St->Prop),(∀ x∈o.op.operands.toList,ev ⟨e2,σ.aa⟩ x=ev σ x)->K2 ((⟨e2,os⟩:St).put o.dst v)->aJ P o ⟨e2,σ.aa⟩ K2:=by
 unfold aJ at hW ⊢;split at hW
 ·rename_i f args cm cO;simp only[cO];split at hW
  ·rename_i g bn he;obtain⟨ak,snap,dp,bW,res,cS,h1,⟨h2,h3,h4,h5,h6,h7⟩,h8⟩:=hW;refine⟨_,_,(by simp[kr,cls]),h8,λe2 K2 hx hK=>?_⟩;have e1:ev ⟨e2,σ.aa⟩ f=.fn g bn:=by rw[<- he];exact hx f (by simp[Op.operands,Call.operands])
   have e3:args.toList.map (ev ⟨e2,σ.aa⟩)=args.toList.map (ev σ):=tI λy hy=>hx y (by simp only[Op.operands,Call.operands,AQ,da];exact .inr hy);simp only[e1,e3];exact⟨ak,snap,dp,bW,res,cS,h1,⟨h2,h3,h4,h5,λj c d hc hd=>cC.aa (σ:=σ) (σ2:=⟨e2,σ.aa⟩) rfl (h6 j c d hc hd),h7⟩,hK⟩
  ·exact hW.elim
 ·rename_i r m args cm cO;simp only[cO];split at hW
  ·rename_i t v he;obtain⟨g,x,⟨ak,snap,dp,bW,res,cS,h1,⟨h2,h3,h4,h5,h6,h7⟩,h8⟩,adM⟩:=adK hW;refine⟨_,_,(by simp[kr,cls]),h8,λe2 K2 hx hK=>?_⟩;have e1:ev ⟨e2,σ.aa⟩ r=.iv t v:=by rw[<- he];exact hx r (by simp[Op.operands,Call.operands])
   have e3:args.toList.map (ev ⟨e2,σ.aa⟩)=args.toList.map (ev σ):=tI λy hy=>hx y (by simp only[Op.operands,Call.operands,AQ,da];exact .inr hy);simp only[e1,e3];exact adM e2 _ ⟨ak,snap,dp,bW,res,cS,h1,⟨h2,h3,h4,h5,λj c d hc hd=>cC.aa (σ:=σ) (σ2:=⟨e2,σ.aa⟩) rfl (h6 j c d hc hd),h7⟩,hK⟩
  ·exact hW.elim
 ·rename_i bX;obtain⟨v,os,h1,h2,h3⟩:=adN hW;refine⟨v,os,h1,h2,λe2 K2 hx hK=>?_⟩;have:=h3 e2 K2 hx hK;exact this
def adO{o:Oper}{σ:St}{K:St->Prop}(hc:cls o.op<=2)(hW:aJ P o σ K):
  ∃ v,K (σ.put o.dst v)/\∀ (σ2:St) (K2:St->Prop),(∀ x∈o.op.operands.toList,ev σ2 x=ev σ x)->(∀ (id:Nat),gR (cls o.op) σ.aa[id]? σ2.aa[id]?)->K2 (σ2.put o.dst v)->aJ P o σ2 K2:=by
 unfold aJ at hW ⊢;split at hW
 ·rename_i f args cm cO;rw[cO]at hc;simp[cls]at hc
 ·rename_i r m args cm cO;rw[cO]at hc;simp[cls]at hc
 ·rename_i bX;obtain⟨v,h2,h3⟩:=QH hc hW;refine⟨v,h2,λσ2 K2 hx ho hK=>?_⟩;exact h3 σ2 K2 hx (λx _ id _=>ho id) hK
def QI{q:Bool}{o:Oper}{σ:St}{K:St->Prop}(hW:lH q P o σ K):
  ∃ v os,kr (eM q o) σ.aa os/\K ((⟨σ.env,os⟩:St).put o.dst v)/\∀ (e2:Nat->AV) (K2:St->Prop),(∀ x∈o.op.operands.toList,ev ⟨e2,σ.aa⟩ x=ev σ x)->K2 ((⟨e2,os⟩:St).put o.dst v)->lH q P o ⟨e2,σ.aa⟩ K2:=by
 cases q with
 |false=>exact adL hW
 |true =>
  unfold lH at hW ⊢;simp only at hW ⊢;split at hW
  ·rename_i f args cm cO;simp only[cO];split at hW
   ·rename_i g bn he;obtain⟨res,h1,h2,h3,h4⟩:=hW;refine⟨res,σ.aa,FK _ _,h4,λe2 K2 hx hK=>?_⟩;have e1:ev ⟨e2,σ.aa⟩ f=.fn g bn:=by rw[<- he];exact hx f (by simp[Op.operands,Call.operands])
    have e3:args.toList.map (ev ⟨e2,σ.aa⟩)=args.toList.map (ev σ):=tI λy hy=>hx y (by simp only[Op.operands,Call.operands,AQ,da];exact .inr hy);simp only[e1,e3];exact⟨res,h1,h2,h3,hK⟩
   ·exact hW.elim
  ·rename_i t a cO;obtain⟨x,h1,h2⟩:=JE hW;refine⟨x,σ.aa,FK _ _,h1,λe2 K2 hx hK=>?_⟩;rw[hx a (by simp[cO,Op.operands])];exact h2 _ K2 hK
  ·exact hW.elim
def QJ{q:Bool}{o:Oper}{σ:St}{K:St->Prop}(hc:eM q o<=2)(hW:lH q P o σ K):
  ∃ v,K (σ.put o.dst v)/\∀ (σ2:St) (K2:St->Prop),(∀ x∈o.op.operands.toList,ev σ2 x=ev σ x)->(∀ (id:Nat),gR (eM q o) σ.aa[id]? σ2.aa[id]?)->K2 (σ2.put o.dst v)->lH q P o σ2 K2:=by
 cases q with
 |false=>exact adO hc hW
 |true =>
  unfold lH at hW ⊢;simp only at hW ⊢;split at hW
  ·rename_i f args cm cO;simp only[cO];split at hW
   ·rename_i g bn he;obtain⟨res,h1,h2,h3,h4⟩:=hW;refine⟨res,h4,λσ2 K2 hx _ hK=>?_⟩;have e1:ev σ2 f=.fn g bn:=by rw[<- he];exact hx f (by simp[Op.operands,Call.operands])
    have e3:args.toList.map (ev σ2)=args.toList.map (ev σ):=tI λy hy=>hx y (by simp only[Op.operands,Call.operands,AQ,da];exact .inr hy);simp only[e1,e3];exact⟨res,h1,h2,h3,hK⟩
   ·exact hW.elim
  ·rename_i t a cO;obtain⟨x,h1,h2⟩:=JE hW;refine⟨x,h1,λσ2 K2 hx _ hK=>?_⟩;rw[hx a (by simp[cO,Op.operands])];exact h2 _ K2 hK
  ·exact hW.elim
def wK{ops:Array Oper}{o:Oper}{j d:Nat}{want:Bool}(hg:o.guard=some (j,want))(hd:(ops[j]?).bind (·.dst)=some d):d∈o.looksAt ops:=by
 unfold Oper.looksAt;rw[da];right;simp[hg,hd]
def A9{ops:Array Oper}{q:Bool}{o:Oper}{σ:St}{K:St->Prop}(hW:ew P ops q o K σ):
  ∃ v os,kr (eM q o) σ.aa os/\K ((⟨σ.env,os⟩:St).put o.dst v)/\∀ (e2:Nat->AV) (K2:St->Prop),(∀ t∈o.looksAt ops,e2 t=σ.env t)->K2 ((⟨e2,os⟩:St).put o.dst v)->ew P ops q o K2 ⟨e2,σ.aa⟩:=by
 unfold ew at hW ⊢;cases hg:o.guard with
 |none =>
  simp only[hg]at hW;obtain⟨v,os,h1,h2,h3⟩:=QI hW;exact⟨v,os,h1,h2,λe2 K2 hl hK=>h3 e2 K2 (sc hl) hK⟩
 |some jw =>
  obtain⟨j,want⟩:=jw;simp only[hg]at hW;cases dT:(ops[j]?).bind (·.dst) with
  |none=>simp[dT]at hW
  |some d =>
   simp only[dT]at hW;split at hW
   ·rename_i b he;by_cases gr:b=want
    ·obtain⟨v,os,h1,h2,h3⟩:=QI (hW.1 gr);refine⟨v,os,h1,h2,λe2 K2 hl hK=>?_⟩;have:e2 d=.lit (.bool b):=by rw[hl d (wK hg dT)];exact he
     simp only[dT,this];exact⟨λ_=>h3 e2 K2 (sc hl) hK,λhn=>absurd gr hn⟩
    ·refine⟨.lit (.tuple #[]),σ.aa,FK _ _,hW.2 gr,λe2 K2 hl hK=>?_⟩;have:e2 d=.lit (.bool b):=by rw[hl d (wK hg dT)];exact he
     simp only[dT,this];exact⟨λhn=>absurd hn gr,λ_=>hK⟩
   ·rename_i vs he;refine⟨.lit (.tuple #[]),σ.aa,FK _ _,hW.2,λe2 K2 hl hK=>?_⟩;have:e2 d=.lit (.tuple vs):=by rw[hl d (wK hg dT)];exact he
    simp only[dT,this];exact⟨hW.1,hK⟩
   ·exact hW.elim
def QK{ops:Array Oper}{q:Bool}{o:Oper}{σ:St}{K:St->Prop}(hc:eM q o<=2)(hW:ew P ops q o K σ):
  ∃ v,K (σ.put o.dst v)/\∀ (σ2:St) (K2:St->Prop),(∀ t∈o.looksAt ops,σ2.env t=σ.env t)->(∀ (id:Nat),gR (eM q o) σ.aa[id]? σ2.aa[id]?)->K2 (σ2.put o.dst v)->ew P ops q o K2 σ2:=by
 unfold ew at hW ⊢;cases hg:o.guard with
 |none =>
  simp only[hg]at hW;obtain⟨v,h2,h3⟩:=QJ hc hW;exact⟨v,h2,λσ2 K2 hl ho hK=>h3 σ2 K2 (sc (e2:=σ2.env) (os:=σ2.aa) hl) ho hK⟩
 |some jw =>
  obtain⟨j,want⟩:=jw;simp only[hg]at hW;cases dT:(ops[j]?).bind (·.dst) with
  |none=>simp[dT]at hW
  |some d =>
   simp only[dT]at hW;split at hW
   ·rename_i b he;by_cases gr:b=want
    ·obtain⟨v,h2,h3⟩:=QJ hc (hW.1 gr);refine⟨v,h2,λσ2 K2 hl ho hK=>?_⟩;have:σ2.env d=.lit (.bool b):=by rw[hl d (wK hg dT)];exact he
     simp only[dT,this];exact⟨λ_=>h3 σ2 K2 (sc (e2:=σ2.env) (os:=σ2.aa) hl) ho hK,λhn=>absurd gr hn⟩
    ·refine⟨.lit (.tuple #[]),hW.2 gr,λσ2 K2 hl ho hK=>?_⟩;have:σ2.env d=.lit (.bool b):=by rw[hl d (wK hg dT)];exact he
     simp only[dT,this];exact⟨λhn=>absurd hn gr,λ_=>hK⟩
   ·rename_i vs he;refine⟨.lit (.tuple #[]),hW.2,λσ2 K2 hl ho hK=>?_⟩;have:σ2.env d=.lit (.tuple vs):=by rw[hl d (wK hg dT)];exact he
    simp only[dT,this];exact⟨hW.1,hK⟩
   ·exact hW.elim
def sq{σ:St}{dst:Option Tmp}{v:AV}{t:Nat}(h:∀ d,dst=some d->d≠t):(σ.put dst v).env t=σ.env t:=by
 cases dst with
 |none=>rfl
 |some d =>
  have:=h d rfl;simp[St.put,jn,Ne.symm this]
def Ba{σ:St}{x y:Option Tmp}{v u:AV}(h:∀ d,x=some d->y≠some d):(σ.put x v).put y u=(σ.put y u).put x v:=by
 cases x with
 |none=>rfl
 |some d =>
  cases y with
  |none=>rfl
  |some d' =>
   have bX:d'≠d:=λe=>h d rfl (by rw[e]);simp only[St.put];congr 1;funext k;simp only[jn];split<;>split<;>simp_all
def Bb{σ:St}{x:Option Tmp}{v:AV}:(σ.put x v).aa=σ.aa:=by cases x<;>rfl
def JG{σ:St}{x:Option Tmp}{v:AV}:σ.put x v=⟨(σ.put x v).env,σ.aa⟩:=by cases x<;>rfl
def Bd{σ:St}{os:List Ob}{x:Option Tmp}{v:AV}:(⟨(σ.put x v).env,os⟩:St)=(⟨σ.env,os⟩:St).put x v:=by cases x<;>rfl
def zf(ci ck:Nat):Bool:=ci==0||ck==0||(ci==1&&decide (ck<=4))||(ci==2&&decide (ck<=3))
def JH{ci ck:Nat}(h:(ci==0||(ci==1&&decide (ck<=4))||(ci==2&&decide (ck<=3)))=true){a b:List Ob}(he:kr ck a b)(id:Nat):gR ci a[id]? b[id]?:=by
 simp only[kL,a7,beq_iff_eq,decide_eq_true_eq]at h;rcases h with(rfl|⟨rfl,hk⟩)|⟨rfl,hk⟩
 ·simp[gR]
 ·unfold kr at he;have:∀ o,a[id]?=some o->∃ o',b[id]?=some o'/\tZ o o':=by
   intro o ho;have ba:=(aT.1 ho).1;split at he
   ·subst he;exact⟨o,ho,xX o⟩
   ·split at he
    ·exact⟨o,by rw[he id ba];exact ho,xX o⟩
    ·split at he
     ·have hb:id<b.length:=CZ;exact⟨b[id],by simp[hb],he.2 id o _ ho (by simp[hb])⟩
     ·omega
  simpa [gR] using this
 ·unfold kr at he;have:∀ o,a[id]?=some o->b[id]?=some o:=by
   intro o ho;have ba:=(aT.1 ho).1;split at he
   ·subst he;exact ho
   ·split at he
    ·rw[he id ba];exact ho
    ·omega
  simpa [gR] using this
def adP{ops:Array Oper}{qi qk:Bool}{oi ok:Oper}(ha:oi.apart ops ok=true)(hi:eM qi oi<=2)(hc:(eM qi oi==0||(eM qi oi==1&&decide (eM qk ok<=4))||(eM qi oi==2&&decide (eM qk ok<=3)))=true){σ:St}{K:St->Prop}(h:ew P ops qi oi (ew P ops qk ok K) σ):ew P ops qk ok (ew P ops qi oi K) σ:=by
 obtain⟨a1,a2,a3⟩:=Oper.apart_spec ha;obtain⟨v,h1,run⟩:=QK hi h;obtain⟨vk,os,ua,h2,xY⟩:=A9 h1;rw[Bb]at ua xY;refine xY σ.env _ (λt ht=>(sq λd hd e=>a1 d hd (e▸ht)).symm) ?_;refine run _ _ (λt ht=>?_) (λid=>?_) ?_
 ·rw[sq λd hd e=>a3 d hd (e▸ht)]
 ·rw[Bb];exact JH hc ua id
 ·rw[Bd]at h2;rw[Ba (λd hd e=>a2 d e hd)];exact h2
def adQ{ops:Array Oper}{qi qk:Bool}{oi ok:Oper}(ha:oi.apart ops ok=true)(hk:eM qk ok=0){σ:St}{K:St->Prop}(h:ew P ops qi oi (ew P ops qk ok K) σ):ew P ops qk ok (ew P ops qi oi K) σ:=by
 obtain⟨a1,a2,a3⟩:=Oper.apart_spec ha;obtain⟨vi,os,ua,h1,run⟩:=A9 h;obtain⟨vk,h2,C8⟩:=QK CZ h1;refine C8 σ _ (λt ht=>(sq (σ:=⟨σ.env,os⟩) λd hd e=>a1 d hd (e▸ht)).symm) (λid=>by rw[hk];simp[gR]) ?_;rw[JG];refine run _ _ (λt ht=>sq λd hd e=>a3 d hd (e▸ht)) ?_;rw[Bd,Ba (λd hd e=>a2 d e hd)];exact h2
def adR{ops:Array Oper}{qi qk:Bool}{oi ok:Oper}(ha:oi.apart ops ok=true)(hc:zf (eM qi oi) (eM qk ok)=true){σ:St}{K:St->Prop}(h:ew P ops qi oi (ew P ops qk ok K) σ):ew P ops qk ok (ew P ops qi oi K) σ:=by
 by_cases hk:eM qk ok=0
 ·exact adQ ha hk h
 ·have fI:(eM qi oi==0||(eM qi oi==1&&decide (eM qk ok<=4))||(eM qi oi==2&&decide (eM qk ok<=3)))=true:=by
   simp only[zf,kL,a7,beq_iff_eq,decide_eq_true_eq]at hc ⊢;rcases hc with((h|h)|h)|h
   ·exact .inl (.inl h)
   ·exact absurd h hk
   ·exact .inl (.inr h)
   ·exact .inr h
  refine adP ha ?_ fI h;simp only[kL,a7,beq_iff_eq,decide_eq_true_eq]at fI;omega
end Go.Am
namespace Go.Am
variable {P:Program} {N n0:Nat} {σ:St}
def cp(P:Program)(ops:Array Oper)(qs:List Nat)(i:Nat)(K:St->Prop)(σ:St):Prop :=
 match ops[i]? with
 |none=>K σ
 |some o=>ew P ops (qs.contains i) o K σ
def ub(P:Program)(ops:Array Oper)(qs:List Nat)(K:St->Prop):Nat->Array Bool->St->Prop
 |0,aG,σ=>Region.ready .any ops aG=[]/\K σ
 |n+1,aG,σ=>(Region.ready .any ops aG=[]->K σ)/\∀ i∈Region.ready .any ops aG,cp P ops qs i (ub P ops qs K n (aG.setIfInBounds i true)) σ
def C9{ops:Array Oper}{q:Bool}{o:Oper}{σ:St}{K K2:St->Prop}(hk:∀ s,K s->K2 s)(h:ew P ops q o K σ):ew P ops q o K2 σ:=by
 obtain⟨v,os,_,h2,run⟩:=A9 h;exact run σ.env K2 (λ_ _=>rfl) (hk _ h2)
def adS{ops:Array Oper}{q:Bool}{o:Oper}{σ:St}{K:St->Prop}(h:ew P ops q o K σ):∃s,K s:=by
 obtain⟨v,os,_,h2,run⟩:=A9 h;exact⟨_,h2⟩
def mQ{ops:Array Oper}{qs:List Nat}{i:Nat}{σ:St}{K K2:St->Prop}(hk:∀ s,K s->K2 s)(h:cp P ops qs i K σ):cp P ops qs i K2 σ:=by
 unfold cp at h ⊢;split at h
 ·exact hk _ h
 ·exact C9 hk h
def adT{ops:Array Oper}{qs:List Nat}{i:Nat}{σ:St}{K:St->Prop}(h:cp P ops qs i K σ):∃s,K s:=by
 unfold cp at h;split at h
 ·exact⟨_,h⟩
 ·exact adS h
def JI{os:List Ob}{γ0:Cx}{ops:Array Oper}{qs:List Nat}(hd:∀ o∈ops.toList,∀ d,o.dst=some d->d<N){K:St->Prop}{Q:Exit->Act->World->Prop}(hQ:∀ σ' a' w',K σ'->gf N os γ0 σ' a' w'->Q .normal a' w'):∀ (n:Nat) (aG:Array Bool) (σ:St) (a:Act) (w:World),ub P ops qs K n aG σ->gf N os γ0 σ a w->wpAny P .any ops Q n aG a w
 |0,aG,σ,a,w,h,aA=>⟨h.1,hQ _ _ _ h.2 aA⟩
 |n+1,aG,σ,a,w,h,aA=>by
  refine⟨λhr=>hQ _ _ _ (h.1 hr) aA,λi hi=>?_⟩;have:=h.2 i hi;unfold cp at this;split at this
  ·rename_i aq;unfold wpOp;simp only[aq];exact JI hd hQ n _ _ _ _ this aA
  ·rename_i o aq;exact JF hd aq this aA λσ' a' w' hK cW=>JI hd hQ n _ _ _ _ hK cW
def QL{id:Nat}{ops:Array Oper}{Q:Exit->St->Prop}(qs:List Nat)(hm:P.follows .mixedOrders=true)(hd:fJ N ops=true)(h:ub P ops qs (Q .normal) ops.size (uW ops.size false) σ):W P N n0 (.region id ops true) Q σ:=by
 intro os γ0 a w _ aA;refine wp_region_any hm ?_;exact JI (sr hd) (K:=Q .normal) (λσ' a' w' hK cW=>⟨σ',hK,cW⟩) _ _ _ _ _ h aA.drawn
def adU{ops:Array Oper}{qs:List Nat}{K:St->Prop}{i:Nat}{o:Oper}(hi:ops[i]?=some o)(D:List Nat)(QM:i∈D)(hD:∀ j∈D,j=i\/∃ oj,ops[j]?=some oj/\∃ e∈oj.after,Region.binds .any e=true/\e.on∈D):∀ (fuel:Nat) (aG:Array Bool) (σ:St),(∀ j∈D,aG.getD j true=false) ->
   i∈Region.ready .any ops aG ->
   (∀ j oj,ops[j]?=some oj->aG.getD j true=false->j ∉ D->o.apart ops oj=true/\zf (eM (qs.contains i) o) (eM (qs.contains j) oj)=true) ->
   cp P ops qs i (ub P ops qs K fuel (aG.setIfInBounds i true)) σ->ub P ops qs K (fuel+1) aG σ:=by
 intro fuel
 induction fuel with
 |zero =>
  intro aG σ hu hr lK h;refine⟨λe=>by rw[e]at hr;simp at hr,λk hk=>?_⟩;by_cases eC:k=i
  ·subst eC;exact h
  ·obtain⟨s,hs⟩:=adT h;have:=ready_mono hk eC;rw[hs.1]at this;simp at this
 |succ m ih =>
  intro aG σ hu hr lK h;refine⟨λe=>by rw[e]at hr;simp at hr,λk hk=>?_⟩;by_cases eC:k=i
  ·subst eC;exact h
  ·have zg:=mem_ready.1 hk;obtain⟨dY,ok,aA,c7⟩:=zg;have p7:k ∉ D:=by
    intro p7;rcases hD k p7 with e|⟨oj,gT,e,he,hb,nX⟩
    ·exact eC e
    ·rw[aA]at gT;simp only[cy.injEq]at gT;subst gT;have h1:=c7 e he hb;have h2:=hu e.on nX;rw[ep]at h1 h2;cases hx:aG[e.on]? with
     |none=>rw[hx]at h1;simp at h1
     |some b=>rw[hx]at h1 h2;simp at h1 h2;rw[h1]at h2;simp at h2
   obtain⟨ha,hc⟩:=lK k ok aA dY p7;have h1:cp P ops qs i (cp P ops qs k (ub P ops qs K m ((aG.setIfInBounds i true).setIfInBounds k true))) σ :=
    mQ (λs hs=>hs.2 k (ready_mono hk eC)) h
   have h2:cp P ops qs k (cp P ops qs i (ub P ops qs K m ((aG.setIfInBounds i true).setIfInBounds k true))) σ:=by
    unfold cp at h1 ⊢;simp only[hi,aA]at h1 ⊢;exact adR ha hc h1
   refine mQ (λs hs=>?_) h2;refine ih (aG.setIfInBounds k true) s (λj hj=>?_) (ready_mono hr (Ne.symm eC)) (λj oj gT hl nY=>?_) ?_
   ·have bX:k≠j:=λe=>p7 (by rw[e];exact hj);rw[getD_set_ne _ bX];exact hu j hj
   ·refine lK j oj gT ?_ nY;by_cases xZ:k=j
    ·subst xZ;exact dY
    ·rwa [getD_set_ne _ xZ]at hl
   ·rw[Array.setIfInBounds_comm _ _ (Ne.symm eC)]at hs;exact hs
def JJ(ops:Array Oper)(i:Nat):List Nat :=
 (aY ops.size).foldl (λD j=>if j==i||(match ops[j]? with|some oj=>oj.after.any (λe=>Region.binds .any e&&D.contains e.on)|none=>false) then D++[j] else D) []
def FL(ops:Array Oper)(qs:List Nat)(aG:Array Bool)(i:Nat)(D:List Nat):Bool :=
 match ops[i]? with
 |none=>false
 |some o =>
  D.contains i&&D.all (λj=>j==i||match ops[j]? with|some oj=>oj.after.any (λe=>Region.binds .any e&&D.contains e.on)|none=>false) &&
  D.all (λj=>!aG.getD j true)&&o.after.all (λe=>!Region.binds .any e||aG.getD e.on false) &&
  (aY ops.size).all λj=>D.contains j||aG.getD j true||match ops[j]? with|some oj=>o.apart ops oj&&zf (eM (qs.contains i) o) (eM (qs.contains j) oj)|none=>true
def QN{ops:Array Oper}{qs:List Nat}{K:St->Prop}{i:Nat}{D:List Nat}{fuel:Nat}{aG:Array Bool}(h:FL ops qs aG i D=true)(hs:cp P ops qs i (ub P ops qs K fuel (aG.setIfInBounds i true)) σ):ub P ops qs K (fuel+1) aG σ:=by
 unfold FL at h;cases hi:ops[i]? with
 |none=>simp[hi]at h
 |some o =>
  simp only[hi,a7,List.all_eq_true,uX,kL,beq_iff_eq,Bool.not_eq_true']at h;obtain⟨⟨⟨⟨h1,h2⟩,h3⟩,h4⟩,h5⟩:=h;refine adU hi D h1 (λj hj=>?_) fuel aG σ h3 ?_ ?_ hs
  ·rcases h2 j hj with h|h
   ·exact .inl h
   ·right;split at h
    ·rename_i oj gT;rw[Array.any_eq_true']at h;obtain⟨e,he,hb⟩:=h;simp only[a7,uX]at hb;exact⟨oj,gT,e,he,hb.1,hb.2⟩
    ·simp at h
  ·rw[mem_ready];refine⟨h3 i h1,o,hi,λe he hb=>?_⟩;rw[Array.all_eq_true']at h4;have:=h4 e he;simpa [hb] using this
  ·intro j oj gT hl nY;have hj:j<ops.size:=(Array.getElem?_eq_some_iff.1 gT).1;rcases h5 j (List.mem_range.2 hj) with(h|h)|h
   ·exact absurd h nY
   ·rw[hl]at h;simp at h
   ·simpa [gT] using h
inductive PT where
 |nil
 |take (i:Nat) (t:PT)
 |both (i:Nat) (t:PT) (j:Nat) (u:PT)
 |three (i:Nat) (t:PT) (j:Nat) (u:PT) (k:Nat) (v:PT)
def PT.ok(ops:Array Oper)(qs:List Nat):PT->Nat->Array Bool->Bool
 |.nil,n,aG=>n==0&&(Region.ready .any ops aG).isEmpty
 |.take _ _,0,_=>false
 |.take i t,n+1,aG=>FL ops qs aG i (JJ ops i)&&t.ok ops qs n (aG.setIfInBounds i true)
 |.both _ _ _ _,0,_=>false
 |.both i t j u,n+1,aG=>(Region.ready .any ops aG==[i,j])&&t.ok ops qs n (aG.setIfInBounds i true)&&u.ok ops qs n (aG.setIfInBounds j true)
 |.three _ _ _ _ _ _,0,_=>false
 |.three i t j u k v,n+1,aG=>(Region.ready .any ops aG==[i,j,k])&&t.ok ops qs n (aG.setIfInBounds i true)&&u.ok ops qs n (aG.setIfInBounds j true)&&v.ok ops qs n (aG.setIfInBounds k true)
def jE(P:Program)(ops:Array Oper)(qs:List Nat):PT->(St->Prop)->St->Prop
 |.nil,K,σ=>K σ
 |.take i t,K,σ=>cp P ops qs i (jE P ops qs t K) σ
 |.both i t j u,K,σ=>cp P ops qs i (jE P ops qs t K) σ/\cp P ops qs j (jE P ops qs u K) σ
 |.three i t j u k v,K,σ=>cp P ops qs i (jE P ops qs t K) σ/\cp P ops qs j (jE P ops qs u K) σ/\cp P ops qs k (jE P ops qs v K) σ
def zh{ops:Array Oper}{qs:List Nat}{K:St->Prop}:∀ (t:PT) (n:Nat) (aG:Array Bool) (σ:St),t.ok ops qs n aG=true->jE P ops qs t K σ->ub P ops qs K n aG σ
 |.nil,n,aG,σ,h,hp=>by
  simp only[PT.ok,a7,beq_iff_eq,List.isEmpty_iff]at h;obtain⟨rfl,h⟩:=h;exact⟨h,hp⟩
 |.take _ _,0,_,_,h,_=>by simp[PT.ok]at h
 |.take i t,n+1,aG,σ,h,hp=>by
  simp only[PT.ok,a7]at h;exact QN h.1 (mQ (λs hs=>zh t n _ s h.2 hs) hp)
 |.both _ _ _ _,0,_,_,h,_=>by simp[PT.ok]at h
 |.both i t j u,n+1,aG,σ,h,hp=>by
  simp only[PT.ok,a7,beq_iff_eq]at h;obtain⟨⟨h1,h2⟩,h3⟩:=h;refine⟨λe=>by rw[h1]at e;simp at e,λk hk=>?_⟩;rw[h1]at hk;simp only[a8,iJ,or_false]at hk;rcases hk with rfl|rfl
  ·exact mQ (λs hs=>zh t n _ s h2 hs) hp.1
  ·exact mQ (λs hs=>zh u n _ s h3 hs) hp.2
 |.three _ _ _ _ _ _,0,_,_,h,_=>by simp[PT.ok]at h
 |.three i t j u k v,n+1,aG,σ,h,hp=>by
  simp only[PT.ok,a7,beq_iff_eq]at h;obtain⟨⟨⟨h1,h2⟩,h3⟩,h4⟩:=h;refine⟨λe=>by rw[h1]at e;simp at e,λx hk=>?_⟩;rw[h1]at hk;simp only[a8,iJ,or_false]at hk;rcases hk with rfl|rfl|rfl
  ·exact mQ (λs hs=>zh t n _ s h2 hs) hp.1
  ·exact mQ (λs hs=>zh u n _ s h3 hs) hp.2.1
  ·exact mQ (λs hs=>zh v n _ s h4 hs) hp.2.2
def q7{id:Nat}{ops:Array Oper}{Q:Exit->St->Prop}(qs:List Nat)(t:PT)(hm:P.follows .mixedOrders=true)(hd:fJ N ops=true)(ht:t.ok ops qs ops.size (uW ops.size false)=true)(h:jE P ops qs t (Q .normal) σ):W P N n0 (.region id ops true) Q σ :=
 QL qs hm hd (zh t _ _ σ ht h)
def QO{id:Nat}{ops:Array Oper}{y:Code}{Q:Exit->St->Prop}(qs:List Nat)(t:PT)(hm:P.follows .mixedOrders=true)(hd:fJ N ops=true)(ht:t.ok ops qs ops.size (uW ops.size false)=true)(h:∀ K:St->Prop,(∀ s,W P N n0 y Q s->K s)->jE P ops qs t K σ):W P N n0 (.seq (.region id ops true) y) Q σ :=
 FM (q7 qs t hm hd ht (h _ (λ_ h=>h)))
def nV{ops:Array Oper}{qs:List Nat}{K:St->Prop}:jE P ops qs .nil K σ=K σ:=rfl
def nU{ops:Array Oper}{qs:List Nat}{i:Nat}{t:PT}{K:St->Prop}:jE P ops qs (.take i t) K σ=cp P ops qs i (jE P ops qs t K) σ:=rfl
def p8{ops:Array Oper}{qs:List Nat}{i j k:Nat}{t u v:PT}{K:St->Prop}:jE P ops qs (.three i t j u k v) K σ=(cp P ops qs i (jE P ops qs t K) σ/\cp P ops qs j (jE P ops qs u K) σ/\cp P ops qs k (jE P ops qs v K) σ):=rfl
def p9{ops:Array Oper}{qs:List Nat}{i j:Nat}{t u:PT}{K:St->Prop}:jE P ops qs (.both i t j u) K σ=(cp P ops qs i (jE P ops qs t K) σ/\cp P ops qs j (jE P ops qs u K) σ):=rfl
def Qr{q:Bool}{o:Oper}{K:St->Prop}:oZ q P o K true true σ=lH q P o σ K:=by simp[oZ]
def Qu{q:Bool}{o:Oper}{K:St->Prop}:oZ q P o K false false σ=lH q P o σ K:=by simp[oZ]
def Qs{q:Bool}{o:Oper}{K:St->Prop}:oZ q P o K true false σ=K (σ.put o.dst (.lit (.tuple #[]))):=by simp[oZ]
def Qt{q:Bool}{o:Oper}{K:St->Prop}:oZ q P o K false true σ=K (σ.put o.dst (.lit (.tuple #[]))):=by simp[oZ]
def adV{q:Bool}{o:Oper}{K:St->Prop}{b want:Bool}(h1:b=true->oZ q P o K true want σ)(h2:b=false->oZ q P o K false want σ):oZ q P o K b want σ:=by
 cases b
 ·exact h2 rfl
 ·exact h1 rfl
def jF:List Nat->PT
 |[]=>.nil
 |i::r=>.take i (jF r)
end Go.Am
namespace Go.Am
variable {P:Program} {N n0:Nat} {σ:St} {Q:Exit->St->Prop}
def ar:List (Nat×AV)->Nat->AV
 |[]=>λ_=>.undef
 |p::l=>jn (ar l) p.1 p.2
def FE(d:Nat)(v:AV)(l:List (Nat×AV)):ar ((d,v)::l)=jn (ar l) d v:=rfl
def FN(l:List (Nat×AV))(k:Nat):ar l k=.undef\/∃ p∈l,p.1=k/\ar l k=p.2:=by
 induction l with
 |nil=>exact .inl rfl
 |cons p l ih =>
  by_cases h:k=p.1
  ·right;exact⟨p,Fl,h.symm,by simp[ar,jn,h]⟩
  ·have e:ar (p::l) k=ar l k:=by simp[ar,jn,h]
   rw[e];rcases ih with h|⟨q,hq,h1,h2⟩
   ·exact .inl h
   ·exact .inr ⟨q,by simp[hq],h1,h2⟩
def Has(e:Nat->AV):List (Nat×AV)->Prop
 |[]=>True
 |p::l=>e p.1=p.2/\Has e l
def Has.mem{e:Nat->AV}:∀ {l:List (Nat×AV)},Has e l->∀ p∈l,e p.1=p.2
 |q::l,h,p,hp=>by
  rcases a8.1 hp with rfl|hp
  ·exact h.1
  ·exact Has.mem h.2 p hp
def aH.ar(l:List (Nat×AV))(os:List Ob)(ho:σ.aa=os)(h:Has σ.env l):aH n0 σ ⟨ar l,os⟩:=by
 subst ho;refine aH.forget λk=>?_;rcases FN l k with h'|⟨p,hp,rfl,h'⟩
 ·exact .inl h'
 ·right;rw[h',h.mem p hp]
def oY(ρ:Nat->Nat)(os:List Ob):List Nat->List Ob->Prop
 |[],[]=>True
 |i::ak,o::co=>(i<os.length/\(o=.gone\/os[i]?=some (bM ρ o)))/\oY ρ os ak co
 |_,_=>False
def oY.spec{ρ:Nat->Nat}{os:List Ob}:∀ {ak:List Nat} {co:List Ob},oY ρ os ak co->co.length=ak.length/\(∀ (j:Nat) o,co[j]?=some o->o=.gone\/os[ak.getD j 0]?=some (bM ρ o))/\∀ i∈ak,i<os.length
 |[],[],_=>⟨rfl,Fl,Fl⟩
 |i::ak,o::co,h=>by
  obtain⟨⟨h1,h2⟩,h3⟩:=h;obtain⟨a,b,c⟩:=oY.spec h3;refine⟨by simp[a],λj o' hj=>?_,λx hx=>?_⟩
  ·cases j with
   |zero=>simp at hj;subst hj;simpa using h2
   |succ j=>simpa using b j o' (by simpa using hj)
  ·rcases a8.1 hx with rfl|hx
   ·exact h1
   ·exact c x hx
def ss(R:AV->AV->Prop)(e:Nat->AV):List (Nat×AV)->Prop
 |[]=>True
 |p::l=>R p.2 (e p.1)/\ss R e l
def ss.mem{R:AV->AV->Prop}{e:Nat->AV}:∀ {l:List (Nat×AV)},ss R e l->∀ p∈l,R p.2 (e p.1)
 |q::l,h,p,hp=>by
  rcases a8.1 hp with rfl|hp
  ·exact h.1
  ·exact ss.mem h.2 p hp
def kept(ak:List Nat)(co:List Ob)(id:Nat):Prop:=∃ j,j<ak.length/\ak.getD j 0=id/\co[j]?≠some .gone
def aH.ak(ak:List Nat)(snap:Bool)(l:List (Nat×AV))(co:List Ob)(bT:ak.Nodup)(ho:oY (bq σ.aa.length ak) σ.aa ak co)(hn:n0<=ak.length)(bV:∀ i,i<n0->ak.getD i 0=i)(h:ss (cC σ (kept ak co) (bq σ.aa.length ak) snap) σ.env l):aH n0 σ ⟨Am.ar l,co⟩:=by
 obtain⟨h1,h2,h3⟩:=ho.spec;refine aH.select ak snap co _ bT h1 h2 h3 hn bV λk=>?_;rcases FN l k with h'|⟨p,hp,rfl,h'⟩
 ·exact .inl h'
 ·right;rw[h'];exact h.mem p hp
def cC.pure{kp:Nat->Prop}{ρ:Nat->Nat}{snap:Bool}{v:AV}(h:kq v=true):cC σ kp ρ snap v v:=by
 have:=cC.same (σ:=σ) (kp:=kp) (ρ:=ρ) (snap:=snap) v;rwa [zi _ v h]at this
def cC.eq{kp:Nat->Prop}{ρ:Nat->Nat}{snap:Bool}{v u:AV}(h:u=bh ρ v):cC σ kp ρ snap v u:=by
 subst h;exact .same v
def dU.flat{kp:Nat->Prop}{id sz len:Nat}{rows:List (List AV)}(ho:σ.aa[id]?=some (.arr sz rows))(hw:∀ row∈rows,row.length=sz)(hl:len=rows.length)(rZ:¬ kp id)(hf:∀ row∈rows,∀ v∈row,(∃ x,v=.lit x)\/∃ s r,v=.tree s r):
  dU σ kp (.tree sz rows) (.ref id sz 0 len):=by
 refine .ref id sz 0 len rows rows (λr c=>(cellAt rows r c).getD .undef) ho rZ (by simp[hl]) hw (λr c v hv=>?_) (λr c v hv=>?_)
 ·simp[hl,hv]
 ·rw[hv,Option.getD_some];simp only[cellAt,Option.bind_eq_some_iff]at hv;obtain⟨row,h1,h2⟩:=hv;rcases hf row (ik h1) v (ik h2) with⟨x,rfl⟩|⟨s,r,rfl⟩
  ·exact .lit x
  ·exact .tree s r
def cC.nil{kp:Nat->Prop}{ρ:Nat->Nat}{sz:Nat}:cC σ kp ρ true (.tree sz []) (.lit (.slice none 0 0)):=.snap _ _ rfl (.nil sz)
def cC.cJ{kp:Nat->Prop}{ρ:Nat->Nat}{id sz len:Nat}{rows:List (List AV)}(ho:σ.aa[id]?=some (.arr sz rows))(hw:∀ row∈rows,row.length=sz)(hl:len=rows.length)(rZ:¬ kp id)(hf:∀ row∈rows,∀ v∈row,(∃ x,v=.lit x)\/∃ s r,v=.tree s r):
  cC σ kp ρ true (.tree sz rows) (.ref id sz 0 len):=.snap _ _ rfl (dU.flat ho hw hl rZ hf)
def adW{α:Type}(n0:Nat)(S:α->St)(I:α->Prop)(M:α->Nat)(x:α)(Q:Exit->St->Prop):Exit->St->Prop
 |.normal,s=>∃ y,I y/\M y<M x/\aH n0 s (S y)
 |e,s=>Q e s
def adX{α:Type}{c:Code}(S:α->St)(I:α->Prop)(M:α->Nat)(x0:α)(hI:I x0)(h0:aH n0 σ (S x0))(round:∀ x,I x->∀ Q':Exit->St->Prop,(∀ s y,I y->M y<M x->aH n0 s (S y)->Q' .normal s)->(∀ e s,e≠.normal->Q e s->Q' e s)->W P N n0 c Q' (S x)):W P N n0 (.loop c) Q σ:=by
 refine df h0 ?_;intro os γ0 a w hn aA b k cs;have key:∀ n x a w,M x=n->I x->gf N os γ0 (S x) a w ->
   ∃ e a' w',(∃ σ',Q e σ'/\gf N os γ0 σ' a' w')/\Arrives P (lone (b.at a (.code c::.inLoop c::k)) cs w) b k cs e a' w':=by
  intro n
  induction n using Nat.strongRecOn with
  |_ n ih =>
   intro x a w hm hI aA;have hr:W P N n0 c (adW n0 S I M x Q) (S x):=round x hI _ (λs y h1 h2 h3=>⟨y,h1,h2,h3⟩) (λe s he h=>by cases e<;>first|exact absurd rfl he|exact h);obtain⟨e,q8,su,⟨σ',hq,cW⟩,nv⟩:=hr os γ0 a w hn aA b (.inLoop c::k) cs;cases e with
   |normal =>
    obtain⟨y,JK,ba,ht⟩:=hq;obtain⟨h1,h2,γ,rfl,h3,h4,h5⟩:=cW;obtain⟨aB,e1,e2,e3,e4⟩:=ht os γ0 γ hn h4 h5;obtain⟨JL,JM,JN,JO,JP⟩:=ih (M y) CZ y q8 γ.w rfl JK ⟨h1,h2,aB,e1,e2.trans h3,e3,e4⟩;exact⟨JL,JM,JN,JO,.of_steps (Steps.trans nv (.one step_inLoop)) JP⟩
   |exit id=>exact⟨_,q8,su,⟨σ',hq,cW⟩,.pass (x:=.inLoop c) rfl (λ_ _=>.inl Fl) nv⟩
   |goto l=>exact⟨_,q8,su,⟨σ',hq,cW⟩,.pass (x:=.inLoop c) rfl (λ_ _=>.inl Fl) nv⟩
   |ret=>exact⟨_,q8,su,⟨σ',hq,cW⟩,.pass (x:=.inLoop c) rfl (λ_ _=>.inl Fl) nv⟩
   |panic ch=>exact⟨_,q8,su,⟨σ',hq,cW⟩,.pass (x:=.inLoop c) rfl (λ_ _=>.inl Fl) nv⟩
   |outgrown=>exact⟨_,q8,su,⟨σ',hq,cW⟩,.pass (x:=.inLoop c) rfl (λ_ _=>.inl Fl) nv⟩
 obtain⟨e,a',w',hq,nv⟩:=key _ x0 a w rfl hI aA;exact⟨e,a',w',hq,.of_steps (.one step_loop) nv⟩
def adY{id:Nat}{c:Code}(h:∀ Q':Exit->St->Prop,(∀ s,Q .normal s->Q' .normal s)->(∀ s,Q .normal s->Q' (.exit id) s)->(∀ e s,e≠.normal->e≠.exit id->Q e s->Q' e s)->W P N n0 c Q' σ):W P N n0 (.block id c) Q σ :=
 adZ (h _ (λs h=>h) (λs h=>by simp only[FO,if_true];exact h) (λe s h1 h2 h=>by
  cases e<;>first
   |exact absurd rfl h1
   |exact h
   | (rename_i nZ;simp only[FO];rw[if_neg (λe=>h2 (by rw[e]))];exact h)))
def C'{ρ:Nat->Nat}{sz:Nat}{rows:List (List AV)}(h:∀ row∈rows,lJ row=true):bM ρ (.arr sz rows)=.arr sz rows:=by
 simp only[bM];congr 1;have:∀ row∈rows,row.map (bh ρ)=row:=λrow hr=>by
  have:=Be ρ row (h row hr);rwa [wL]at this
 rw[tI this];simp
def ad0(n j:Nat):bq n (aY n) j=j:=by
 unfold bq;split
 ·rename_i h;have h':j<n:=by simpa using h
  simp[az,nN h']
 ·rename_i h;simp at h ⊢;omega
mutual
def xU:∀ (v:AV),bh (λj=>j) v=v
 |.undef=>rfl
 |.lit _=>rfl
 |.tree ..=>rfl
 |.cj _=>rfl
 |.ref ..=>rfl
 |.ptr ..=>rfl
 |.agg cs=>by simp only[bh];rw[FQ cs]
 |.bx cs=>by simp only[bh];rw[FQ cs]
 |.fn f cs=>by simp only[bh];rw[FQ cs]
 |.iv t v=>by simp only[bh];rw[xU v]
 |.db _=>rfl
def FQ:∀ (l:List AV),n9 (λj=>j) l=l
 |[]=>rfl
 |v::vs=>by simp only[n9];rw[xU v,FQ vs]
end
def C3(o:Ob):bM (λj=>j) o=o:=by
 have h:bh (λj=>j)=id:=by funext v;exact xU v
 cases o with
 |gone=>rfl
 |var cs=>simp[bM,h]
 |arr sz rows=>simp[bM,h]
 |mp ag L=>simp[bM,h]
def xT(n:Nat):bq n (aY n)=λj=>j:=by funext j;exact ad0 n j
def QP(aa:List Ob):∀ (bb:List Ob),aa.length<=bb.length->fc aa (aY aa.length) bb=bb:=by
 intro bb h;have hlen:(aY aa.length).length<=bb.length:=by simpa using h
 apply List.ext_getElem?;intro i;rcases Nat.lt_or_ge i aa.length with hi|hi
 ·have:=FR (aY aa.length) aa bb hlen (Fj) Fl i (by simpa using hi);simpa [az,nN hi] using this
 ·have FT:=JQ (aY aa.length) aa bb hlen;obtain⟨j,rfl⟩:∃j,i=aa.length+j:=⟨i-aa.length,CZ⟩;have:=QR (aY aa.length) aa bb hlen j;simpa using this
def gj{f:FuncId}{args:List AV}{dst:Option Tmp}{K:St->Prop}{res:AV}{bb:List Ob}(h:Holds P f args σ.aa res bb)(hl:σ.aa.length<=bb.length)(hK:K ((⟨σ.env,bb⟩:St).put dst res)):rX P f args dst K σ:=by
 refine⟨aY σ.aa.length,false,args,σ.aa,res,bb,h,⟨Fj,Fl,?_,rfl,?_,Fl⟩,?_⟩
 ·intro j o hj;have ba:=(aT.1 hj).1;rw[xT,C3];simpa [az,nN ba] using hj
 ·intro j c d hc hd;rw[hc]at hd;simp only[cy.injEq]at hd;subst hd;exact .eq (by rw[xT,xU])
 ·rw[xT,xU];have:bb.map (bM (λj=>j))=bb:=by
   have h:bM (λj=>j)=id:=by funext o;exact C3 o
   simp[h]
  rw[this,QP _ _ hl];exact hK
end Go.Am
namespace Go.Am
variable {P:Program} {N n0:Nat} {σ:St} {Q:Exit->St->Prop}
def ad1{id:Nat}{ops:Array Oper}(hd:fJ N ops=true)(h:∀ K:St->Prop,(∀ s,Q .normal s->K s)->opsL P ops ops.toList K σ):W P N n0 (.region id ops false) Q σ :=
 QS hd (h _ (λ_ h=>h))
def JR{ops:Array Oper}{K:St->Prop}:∀ (l:List Oper) (i:Nat) (σ:St),ops.toList.drop i=l->opsL P ops l K σ->jE P ops [] (jF (nq i l.length)) K σ
 |[],i,σ,_,h=>h
 |o::r,i,σ,hl,h=>by
  have hi:ops[i]?=some o:=by
   have:(ops.toList.drop i)[0]?=some o:=by rw[hl];rfl
   simpa using this
  have hr:ops.toList.drop (i+1)=r:=by
   have:=congrArg List.tail hl;simpa [List.tail_drop] using this
  rw[List.length_cons,List.range'_succ];show cp P ops [] i (jE P ops [] (jF (nq (i+1) r.length)) K) σ;unfold cp;simp only[hi];have hm:∀ s,opsL P ops r K s->jE P ops [] (jF (nq (i+1) r.length)) K s:=λs hs=>JR r (i+1) s hr hs;refine C9 hm ?_;unfold opsL at h;unfold ew;cases hg:o.guard with
  |none=>simp only[hg]at h;exact h
  |some jw =>
   obtain⟨j,want⟩:=jw;simp only[hg]at h;exact h
def zj(ops:Array Oper):Bool:=(jF (aY ops.size)).ok ops [] ops.size (uW ops.size false)
def ad2{id:Nat}{ops:Array Oper}{y:Code}(hm:P.follows .mixedOrders=true)(hd:fJ N ops=true)(ht:zj ops=true)(h:∀ K:St->Prop,(∀ s,W P N n0 y Q s->K s)->opsL P ops ops.toList K σ):
  W P N n0 (.seq (.region id ops true) y) Q σ :=
 QO [] _ hm hd ht λK hK=>by
  have:=JR (P:=P) (ops:=ops) ops.toList 0 σ rfl (h K hK);rw[wE];simpa using this
def ad3{id:Nat}{ops:Array Oper}(hm:P.follows .mixedOrders=true)(hd:fJ N ops=true)(ht:zj ops=true)(h:∀ K:St->Prop,(∀ s,Q .normal s->K s)->opsL P ops ops.toList K σ):
  W P N n0 (.region id ops true) Q σ :=
 q7 [] _ hm hd ht (by
  have:=JR (P:=P) (ops:=ops) ops.toList 0 σ rfl (h _ (λ_ h=>h));rw[wE];simpa using this)
def aW{v res:AV}(hr:kq v=true)(h:v=res):nR 0 σ v res []:=by
 subst h;exact JS hr
def FD(e:Nat->AV)(d:Nat)(v:AV)(k:Nat):jn e d v k=if k=d then v else e k:=by simp only[jn]
def Qh:IntKind.i64.min = -9223372036854775808:=rfl
def Qi:IntKind.i64.max=9223372036854775807:=rfl
def ints(xs:List Int):List (List AV):=xs.map λx=>[OJ x]
def br(xs:List Bool):List (List AV):=xs.map λx=>[.lit (.bool x)]
def fe(xs:List (List Int)):List (List AV):=xs.map λx=>[.tree 1 (ints x)]
def xW(xs:List Int):(ints xs).length=xs.length:=by simp[ints]
def ze(xs:List Bool):(br xs).length=xs.length:=by simp[br]
def FH(xs:List (List Int)):(fe xs).length=xs.length:=by simp[fe]
def Qv(xs:List Int)(i:Nat)(h:i<xs.length):(ints xs).getD i []=[OJ (xs.getD i 0)]:=by simp[ints,h]
def Qw(xs:List Bool)(i:Nat)(h:i<xs.length):(br xs).getD i []=[.lit (.bool (xs.getD i false))]:=by simp[br,h]
def Qx(xs:List (List Int))(i:Nat)(h:i<xs.length):(fe xs).getD i []=[.tree 1 (ints (xs.getD i []))]:=by simp[fe,h]
def Qy(xs:List Int)(i:Nat)(h:i<xs.length):(ints xs)[i]?=some [OJ (xs.getD i 0)]:=by simp[ints,h]
def Qz(xs:List Bool)(i:Nat)(h:i<xs.length):(br xs)[i]?=some [.lit (.bool (xs.getD i false))]:=by simp[br,h]
def JC(xs:List (List Int))(i:Nat)(h:i<xs.length):(fe xs)[i]?=some [.tree 1 (ints (xs.getD i []))]:=by simp[fe,h]
def ints_set(xs:List Int)(i:Nat)(v:Int):(ints xs).set i [OJ v]=ints (xs.set i v):=by simp[ints,wH]
def r9(xs:List Bool)(i:Nat)(v:Bool):(br xs).set i [.lit (.bool v)]=br (xs.set i v):=by simp[br,wH]
def QA(xs ys:List Int):ints xs++ints ys=ints (xs++ys):=by simp[ints]
def C5(xs:List Int)(v:Int):ints xs++[[OJ v]]=ints (xs++[v]):=by simp[ints]
def QB(xs:List (List Int))(v:List Int):fe xs++[[.tree 1 (ints v)]]=fe (xs++[v]):=by simp[fe]
def C6(xs:List Bool)(v:Bool):br xs++[[.lit (.bool v)]]=br (xs++[v]):=by simp[br]
def JD(n:Nat)(v:Int):aI n [AV.lit (.int .i64 v)]=ints (aI n v):=by simp[ints]
def A8(n:Nat)(v:Bool):aI n [AV.lit (.bool v)]=br (aI n v):=by simp[br]
def FJ(xs:List Int):((ints xs).all λrow=>row.all cQ)=true:=by simp[ints,cQ,Value.oneCell']
def QC(xs:List Bool):((br xs).all λrow=>row.all cQ)=true:=by simp[br,cQ,Value.oneCell']
def QD(xs:List (List Int)):((fe xs).all λrow=>row.all cQ)=true:=by simp[fe,cQ]
def FG(ρ:Nat->Nat)(sz:Nat)(xs:List Int):bM ρ (.arr sz (ints xs))=.arr sz (ints xs):=C' (by simp[ints,lJ,kq])
def A7(ρ:Nat->Nat)(sz:Nat)(xs:List Bool):bM ρ (.arr sz (br xs))=.arr sz (br xs):=C' (by
 intro row hr;simp only[br,b6]at hr;obtain⟨x,_,rfl⟩:=hr;rfl)
def JB(ρ:Nat->Nat)(sz:Nat)(xs:List (List Int)):bM ρ (.arr sz (fe xs))=.arr sz (fe xs):=C' (by simp[fe,lJ,kq])
def Bf(xs:List Int):∀ row∈ints xs,∀ v∈row,(∃ x,v=AV.lit x)\/∃ s r,v=AV.tree s r:=by
 intro row hr v hv;simp only[ints,b6]at hr;obtain⟨x,_,rfl⟩:=hr;simp at hv;exact .inl ⟨_,hv⟩
def QT(xs:List Bool):∀ row∈br xs,∀ v∈row,(∃ x,v=AV.lit x)\/∃ s r,v=AV.tree s r:=by
 intro row hr v hv;simp only[br,b6]at hr;obtain⟨x,_,rfl⟩:=hr;simp at hv;exact .inl ⟨_,hv⟩
def ad4(xs:List (List Int)):∀ row∈fe xs,∀ v∈row,(∃ x,v=AV.lit x)\/∃ s r,v=AV.tree s r:=by
 intro row hr v hv;simp only[fe,b6]at hr;obtain⟨x,_,rfl⟩:=hr;simp at hv;exact .inr ⟨_,_,hv⟩
def x7(xs:List Int):∀ row∈ints xs,row.length=1:=by
 intro row hr;simp only[ints,b6]at hr;obtain⟨x,_,rfl⟩:=hr;rfl
def JT(xs:List Bool):∀ row∈br xs,row.length=1:=by
 intro row hr;simp only[br,b6]at hr;obtain⟨x,_,rfl⟩:=hr;rfl
def ad5(xs:List (List Int)):∀ row∈fe xs,row.length=1:=by
 intro row hr;simp only[fe,b6]at hr;obtain⟨x,_,rfl⟩:=hr;rfl
def lk{α:Type}(xs:List α)(i:Nat)(d:α)(h:i<xs.length):xs.drop i=xs.getD i d::xs.drop (i+1):=by
 rw[List.drop_eq_getElem_cons h];simp[h]
end Go.Am

