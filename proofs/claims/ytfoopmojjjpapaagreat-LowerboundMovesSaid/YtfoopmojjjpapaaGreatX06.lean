import Derived.Test.YtfoopmojjjpapaaGreatX05
set_option linter.all false
set_option maxHeartbeats 0
set_option maxRecDepth 20000
open List renaming mem_of_getElem?→gk,mem_append→cC,map_congr_left→tL,getElem?_eq_some_iff→aR,range→bn,contains_iff_mem→uY,mem_cons→bj,not_mem_nil→gU,getD_eq_getElem?_getD→aB,getElem?_range→qQ,nodup_range→ET,range'→lH,range_eq_range'→uV,map_set→rV,replicate→aJ,mem_map→b8
open Array renaming getD_eq_getD_getElem?→ek,toList_append→AJ,replicate→uX
open Bool renaming or_eq_true→kG,and_eq_true→aZ
open Option renaming some→cm
namespace Go.Am
variable {P:Program}
def IP(P:Program)(g:FuncId)(args:List AV)(dst:Option Tmp)(K:St->Prop)(σ:St):Prop :=
 ∃ res,Holds P g args [] res []/\lL args=true/\ki res=true/\K (σ.put dst res)
def tS(P:Program)(t:TypeId)(dst:Option Tmp)(K:St->Prop)(σ:St):AV->Prop
 |.cd cells=>(ty P t).kind≠99/\ml (ty P t) cells 0 λv=>K (σ.put dst v)
 |_=>False
def lJ(q:Bool)(P:Program)(o:Oper)(σ:St)(K:St->Prop):Prop :=
 match q with
 |false=>aI P o σ K
 |true =>
  match o.op with
  |.call { callee:=.value f,args,.. } =>
   match ev σ f with
   |.fn g bk=>IP P g (args.toList.map (ev σ)++bk) o.dst K σ
   |_=>False
  |.load t a=>tS P t o.dst K σ (ev σ a)
  |_=>False
def ach{o:Oper}{σ:St}{K:St->Prop}{t:TypeId}{a:Operand}(cZ:o.op=.load t a)(h:tS P t o.dst K σ (ev σ a)):aI P o σ K:=by
 unfold aI;simp only[cZ];unfold bW;simp only[cZ];unfold tS at h;split at h
 ·rename_i cells he;simp only[he];exact h
 ·exact h.elim
def IS{t:TypeId}{dst:Option Tmp}{K:St->Prop}{σ:St}{v:AV}(h:tS P t dst K σ v):∃x,K (σ.put dst x)/\∀ (σ2:St) (K2:St->Prop),K2 (σ2.put dst x)->tS P t dst K2 σ2 v:=by
 unfold tS at h;split at h
 ·rename_i cells;obtain⟨h1,h2⟩:=h;unfold ml at h2;split at h2
  ·rename_i ha;refine⟨_,h2.2,λσ2 K2 hK=>?_⟩;unfold tS ml;simp only;rw[if_pos ha];exact⟨h1,h2.1,hK⟩
  ·rename_i ha;split at h2
   ·rename_i x hx;refine⟨x,h2,λσ2 K2 hK=>?_⟩;unfold tS ml;simp only;rw[if_neg ha,hx];exact⟨h1,hK⟩
   ·exact h2.elim
 ·exact h.elim
def o5(q:Bool)(P:Program)(o:Oper)(K:St->Prop)(b want:Bool)(σ:St):Prop:=(b=want->lJ q P o σ K)/\(b≠want->K (σ.put o.dst (.lit (.tuple #[]))))
def dX(P:Program)(ops:Array Oper)(q:Bool)(o:Oper)(K:St->Prop)(σ:St):Prop :=
 match o.guard with
 |none=>lJ q P o σ K
 |some (j,want) =>
  match (ops[j]?).bind (·.dst) with
  |none=>False
  |some d =>
   match σ.env d with
   |.lit (.bool b)=>o5 q P o K b want σ
   |.lit (.tuple vs)=>vs = #[]/\K (σ.put o.dst (.lit (.tuple #[])))
   |_=>False
def O8{q:Bool}{o:Oper}{σ:St}{K:St->Prop}(h:lJ q P o σ K):aI P o σ K:=by
 cases q with
 |false=>exact h
 |true =>
  unfold lJ at h;simp only at h;unfold aI;split at h
  ·rename_i f args cp cZ;simp only[cZ];split at h
   ·rename_i g bk he;simp only[he];obtain⟨res,h1,h2,h3,h4⟩:=h;exact bR h1 h2 h3 h4
   ·exact h.elim
  ·rename_i t a cZ;have:=ach cZ h;unfold aI at this;simpa only[cZ] using this
  ·exact h.elim
def IT{N:Nat}{os:List Ob}{γ0:Cx}{ops:Array Oper}(hd:∀ o∈ops.toList,∀ d,o.dst=some d->d<N){q:Bool}{i:Nat}{o:Oper}(hi:ops[i]?=some o){σ:St}{K:St->Prop}(h:dX P ops q o K σ){a:Act}{w:World}(ay:fq N os γ0 σ a w){Q:Exit->Act->World->Prop}{next:Act->World->Prop}(hn:∀ σ' a' w',K σ'->fq N os γ0 σ' a' w'->next a' w'):wpOp P ops Q i next a w:=by
 have cH:o∈ops.toList:=gk (by simpa using hi);unfold wpOp;simp only[hi];unfold dX at h;cases hg:o.guard with
 |none =>
  simp only[hg]at h;have hw:Region.wanted o (yielded ops a.tmps)=true:=by simp[Region.wanted,hg]
  rw[if_pos hw];left;exact wI (O8 h) ay (hd o cH) hn
 |some jw =>
  obtain⟨j,want⟩:=jw;simp only[hg]at h;cases dW:(ops[j]?).bind (·.dst) with
  |none=>simp[dW]at h
  |some d =>
   simp only[dW]at h;split at h
   ·rename_i b he;obtain⟨gI,aN,γ,rfl,ha,hs,hf⟩:=ay;have jc:=hs.an d;rw[he,ha]at jc;have hv:=jc.cz;have hy:yielded ops a.tmps j=some b:=by
     unfold yielded;rw[dW];have:a.tmps[d]?=some (.bool b):=by
      rw[ek]at hv;cases hx:a.tmps[d]? with
      |none=>rw[hx]at hv;simp[Go.undef]at hv
      |some y=>rw[hx]at hv;simp at hv;rw[hv]
     simp[this]
    by_cases gn:b=want
    ·have hw:Region.wanted o (yielded ops a.tmps)=true:=by simp[Region.wanted,hg,hy,gn]
     rw[if_pos hw];left;exact wI (O8 (h.1 gn)) ⟨gI,aN,γ,rfl,ha,hs,hf⟩ (hd o cH) hn
    ·have hw:Region.wanted o (yielded ops a.tmps)=false:=by simp[Region.wanted,hg,hy,gn]
     rw[if_neg (by rw[hw];simp)];refine hn _ _ _ (h.2 gn) ⟨by rw[put_defers];exact gI,by rw[tR];exact aN,{ γ with tmps:=(a.put o.dst Go.undef).tmps },rfl,rfl,q6 hs ha (λd h=>by rw[aN];exact hd o cH d h) (.lit _),?_⟩;rw[p6];exact hf.put _
   ·rename_i vs he;obtain⟨gI,aN,γ,rfl,ha,hs,hf⟩:=ay;have jc:=hs.an d;rw[he,ha]at jc;have hv:=jc.cz;have hy:yielded ops a.tmps j=none:=by
     unfold yielded;rw[dW];rw[ek]at hv;cases hx:a.tmps[d]? with
     |none=>simp[hx]
     |some y=>rw[hx]at hv;simp at hv;subst hv;simp[hx]
    have hw:Region.wanted o (yielded ops a.tmps)=false:=by simp[Region.wanted,hg,hy]
    rw[if_neg (by rw[hw];simp)];refine hn _ _ _ h.2 ⟨by rw[put_defers];exact gI,by rw[tR];exact aN,{ γ with tmps:=(a.put o.dst Go.undef).tmps },rfl,rfl,q6 hs ha (λd h=>by rw[aN];exact hd o cH d h) (.lit _),?_⟩;rw[p6];exact hf.put _
   ·exact h.elim
def Fa(c:Nat)(a:List Ob):kj c a a:=by
 unfold kj;split
 ·rfl
 ·split
  ·intro id _;rfl
  ·split
   ·exact⟨rfl,λid o o' h h'=>by rw[h]at h';simp at h';subst h';exact xR o⟩
   ·trivial
def cL.aa{σ σ2:St}(h:σ2.aa=σ.aa){kp:Nat->Prop}{c d:AV}(ha:cL σ kp c d):cL σ2 kp c d:=by
 induction ha with
 |lit x=>exact .lit x
 |tree s r=>exact .tree s r
 |nil sz=>exact .nil sz
 |ref id sz off len rows gz g bI r9 hl0 AZ p7 mM ih=>exact .ref id sz off len rows gz g (by rw[h];exact bI) r9 hl0 AZ p7 ih
def bw.aa{σ σ2:St}(h:σ2.aa=σ.aa){kp:Nat->Prop}{ρ:Nat->Nat}{snap:Bool}{c d:AV}(ha:bw σ kp ρ snap c d):bw σ2 kp ρ snap c d:=by
 induction ha with
 |same v=>exact .same v
 |snap c d hs hf=>exact .snap c d hs (hf.aa h)
 |agg cs ds hl _ ih=>exact .agg cs ds hl ih
 |bu cs ds hl _ ih=>exact .bu cs ds hl ih
def eN(q:Bool)(o:Oper):Nat:=if q then 0 else cls o.op
def sc{ops:Array Oper}{o:Oper}{σ:St}{e2:Nat->AV}{os:List Ob}(h:∀ t∈o.looksAt ops,e2 t=σ.env t):∀ x∈o.op.operands.toList,ev ⟨e2,os⟩ x=ev σ x:=by
 intro x hx;cases x with
 |tmp t =>
  show e2 t=σ.env t;refine h t ?_;unfold Oper.looksAt;rw[cC];left;rw[List.mem_filterMap];exact⟨_,hx,rfl⟩
 |const v=>rfl
 |func f=>rfl
 |global g=>rfl
def aci{σ:St}{v:AV}{K:FuncId->AV->Prop}{r:Option (FuncId×Option TypeId)}(h:oX P σ v K r):
  ∃ g x,K g x/\∀ (e2:Nat->AV) (K2:FuncId->AV->Prop),K2 g x->oX P ⟨e2,σ.aa⟩ v K2 r:=by
 match r,h with
 |none,h=>exact h.elim
 |some (g,none),h=>exact⟨g,v,h,λ_ _ h=>h⟩
 |some (g,some e),h =>
  unfold oX at h;obtain⟨hk,h⟩:=h;cases v with
  |ptr id rr c =>
   simp only at h;cases bN:rowOf σ id rr with
   |none=>simp[bN]at h
   |some row =>
    simp only[bN]at h;obtain⟨x,h1,h2⟩:=O9 h;refine⟨g,x,h1,λe2 K2 hK=>?_⟩;unfold oX;have:rowOf ⟨e2,σ.aa⟩ id rr=some row:=bN;simp only[this];exact⟨hk,h2 _ hK⟩
  |_=>exact h.elim
def acj{o:Oper}{σ:St}{K:St->Prop}(hW:aI P o σ K):
  ∃ v os,kj (cls o.op) σ.aa os/\K ((⟨σ.env,os⟩:St).put o.dst v)/\∀ (e2:Nat->AV) (K2:St->Prop),(∀ x∈o.op.operands.toList,ev ⟨e2,σ.aa⟩ x=ev σ x)->K2 ((⟨e2,os⟩:St).put o.dst v)->aI P o ⟨e2,σ.aa⟩ K2:=by
 unfold aI at hW ⊢;split at hW
 ·rename_i f args cp cZ;simp only[cZ];split at hW
  ·rename_i g bk he;obtain⟨aj,snap,dz,bP,res,cY,h1,⟨h2,h3,h4,h5,h6,h7⟩,h8⟩:=hW;refine⟨_,_,(by simp[kj,cls]),h8,λe2 K2 hx hK=>?_⟩;have e1:ev ⟨e2,σ.aa⟩ f=.fn g bk:=by rw[<- he];exact hx f (by simp[Op.operands,Call.operands])
   have e3:args.toList.map (ev ⟨e2,σ.aa⟩)=args.toList.map (ev σ):=tL λy hy=>hx y (by simp only[Op.operands,Call.operands,AJ,cC];exact .inr hy);simp only[e1,e3];exact⟨aj,snap,dz,bP,res,cY,h1,⟨h2,h3,h4,h5,λj c d hc hd=>bw.aa (σ:=σ) (σ2:=⟨e2,σ.aa⟩) rfl (h6 j c d hc hd),h7⟩,hK⟩
  ·exact hW.elim
 ·rename_i r m args cp cZ;simp only[cZ];split at hW
  ·rename_i t v he;obtain⟨g,x,⟨aj,snap,dz,bP,res,cY,h1,⟨h2,h3,h4,h5,h6,h7⟩,h8⟩,ack⟩:=aci hW;refine⟨_,_,(by simp[kj,cls]),h8,λe2 K2 hx hK=>?_⟩;have e1:ev ⟨e2,σ.aa⟩ r=.gZ t v:=by rw[<- he];exact hx r (by simp[Op.operands,Call.operands])
   have e3:args.toList.map (ev ⟨e2,σ.aa⟩)=args.toList.map (ev σ):=tL λy hy=>hx y (by simp only[Op.operands,Call.operands,AJ,cC];exact .inr hy);simp only[e1,e3];exact ack e2 _ ⟨aj,snap,dz,bP,res,cY,h1,⟨h2,h3,h4,h5,λj c d hc hd=>bw.aa (σ:=σ) (σ2:=⟨e2,σ.aa⟩) rfl (h6 j c d hc hd),h7⟩,hK⟩
  ·exact hW.elim
 ·rename_i cA;obtain⟨v,os,h1,h2,h3⟩:=acm hW;refine⟨v,os,h1,h2,λe2 K2 hx hK=>?_⟩;have:=h3 e2 K2 hx hK;exact this
def acn{o:Oper}{σ:St}{K:St->Prop}(hc:cls o.op<=2)(hW:aI P o σ K):
  ∃ v,K (σ.put o.dst v)/\∀ (σ2:St) (K2:St->Prop),(∀ x∈o.op.operands.toList,ev σ2 x=ev σ x)->(∀ (id:Nat),gJ (cls o.op) σ.aa[id]? σ2.aa[id]?)->K2 (σ2.put o.dst v)->aI P o σ2 K2:=by
 unfold aI at hW ⊢;split at hW
 ·rename_i f args cp cZ;rw[cZ]at hc;simp[cls]at hc
 ·rename_i r m args cp cZ;rw[cZ]at hc;simp[cls]at hc
 ·rename_i cA;obtain⟨v,h2,h3⟩:=O' hc hW;refine⟨v,h2,λσ2 K2 hx ho hK=>?_⟩;exact h3 σ2 K2 hx (λx _ id _=>ho id) hK
def Pa{q:Bool}{o:Oper}{σ:St}{K:St->Prop}(hW:lJ q P o σ K):
  ∃ v os,kj (eN q o) σ.aa os/\K ((⟨σ.env,os⟩:St).put o.dst v)/\∀ (e2:Nat->AV) (K2:St->Prop),(∀ x∈o.op.operands.toList,ev ⟨e2,σ.aa⟩ x=ev σ x)->K2 ((⟨e2,os⟩:St).put o.dst v)->lJ q P o ⟨e2,σ.aa⟩ K2:=by
 cases q with
 |false=>exact acj hW
 |true =>
  unfold lJ at hW ⊢;simp only at hW ⊢;split at hW
  ·rename_i f args cp cZ;simp only[cZ];split at hW
   ·rename_i g bk he;obtain⟨res,h1,h2,h3,h4⟩:=hW;refine⟨res,σ.aa,Fa _ _,h4,λe2 K2 hx hK=>?_⟩;have e1:ev ⟨e2,σ.aa⟩ f=.fn g bk:=by rw[<- he];exact hx f (by simp[Op.operands,Call.operands])
    have e3:args.toList.map (ev ⟨e2,σ.aa⟩)=args.toList.map (ev σ):=tL λy hy=>hx y (by simp only[Op.operands,Call.operands,AJ,cC];exact .inr hy);simp only[e1,e3];exact⟨res,h1,h2,h3,hK⟩
   ·exact hW.elim
  ·rename_i t a cZ;obtain⟨x,h1,h2⟩:=IS hW;refine⟨x,σ.aa,Fa _ _,h1,λe2 K2 hx hK=>?_⟩;rw[hx a (by simp[cZ,Op.operands])];exact h2 _ K2 hK
  ·exact hW.elim
def Pb{q:Bool}{o:Oper}{σ:St}{K:St->Prop}(hc:eN q o<=2)(hW:lJ q P o σ K):
  ∃ v,K (σ.put o.dst v)/\∀ (σ2:St) (K2:St->Prop),(∀ x∈o.op.operands.toList,ev σ2 x=ev σ x)->(∀ (id:Nat),gJ (eN q o) σ.aa[id]? σ2.aa[id]?)->K2 (σ2.put o.dst v)->lJ q P o σ2 K2:=by
 cases q with
 |false=>exact acn hc hW
 |true =>
  unfold lJ at hW ⊢;simp only at hW ⊢;split at hW
  ·rename_i f args cp cZ;simp only[cZ];split at hW
   ·rename_i g bk he;obtain⟨res,h1,h2,h3,h4⟩:=hW;refine⟨res,h4,λσ2 K2 hx _ hK=>?_⟩;have e1:ev σ2 f=.fn g bk:=by rw[<- he];exact hx f (by simp[Op.operands,Call.operands])
    have e3:args.toList.map (ev σ2)=args.toList.map (ev σ):=tL λy hy=>hx y (by simp only[Op.operands,Call.operands,AJ,cC];exact .inr hy);simp only[e1,e3];exact⟨res,h1,h2,h3,hK⟩
   ·exact hW.elim
  ·rename_i t a cZ;obtain⟨x,h1,h2⟩:=IS hW;refine⟨x,h1,λσ2 K2 hx _ hK=>?_⟩;rw[hx a (by simp[cZ,Op.operands])];exact h2 _ K2 hK
  ·exact hW.elim
def wJ{ops:Array Oper}{o:Oper}{j d:Nat}{want:Bool}(hg:o.guard=some (j,want))(hd:(ops[j]?).bind (·.dst)=some d):d∈o.looksAt ops:=by
 unfold Oper.looksAt;rw[cC];right;simp[hg,hd]
def A2{ops:Array Oper}{q:Bool}{o:Oper}{σ:St}{K:St->Prop}(hW:dX P ops q o K σ):
  ∃ v os,kj (eN q o) σ.aa os/\K ((⟨σ.env,os⟩:St).put o.dst v)/\∀ (e2:Nat->AV) (K2:St->Prop),(∀ t∈o.looksAt ops,e2 t=σ.env t)->K2 ((⟨e2,os⟩:St).put o.dst v)->dX P ops q o K2 ⟨e2,σ.aa⟩:=by
 unfold dX at hW ⊢;cases hg:o.guard with
 |none =>
  simp only[hg]at hW;obtain⟨v,os,h1,h2,h3⟩:=Pa hW;exact⟨v,os,h1,h2,λe2 K2 hl hK=>h3 e2 K2 (sc hl) hK⟩
 |some jw =>
  obtain⟨j,want⟩:=jw;simp only[hg]at hW;cases dW:(ops[j]?).bind (·.dst) with
  |none=>simp[dW]at hW
  |some d =>
   simp only[dW]at hW;split at hW
   ·rename_i b he;by_cases gn:b=want
    ·obtain⟨v,os,h1,h2,h3⟩:=Pa (hW.1 gn);refine⟨v,os,h1,h2,λe2 K2 hl hK=>?_⟩;have:e2 d=.lit (.bool b):=by rw[hl d (wJ hg dW)];exact he
     simp only[dW,this];exact⟨λ_=>h3 e2 K2 (sc hl) hK,λhn=>absurd gn hn⟩
    ·refine⟨.lit (.tuple #[]),σ.aa,Fa _ _,hW.2 gn,λe2 K2 hl hK=>?_⟩;have:e2 d=.lit (.bool b):=by rw[hl d (wJ hg dW)];exact he
     simp only[dW,this];exact⟨λhn=>absurd hn gn,λ_=>hK⟩
   ·rename_i vs he;refine⟨.lit (.tuple #[]),σ.aa,Fa _ _,hW.2,λe2 K2 hl hK=>?_⟩;have:e2 d=.lit (.tuple vs):=by rw[hl d (wJ hg dW)];exact he
    simp only[dW,this];exact⟨hW.1,hK⟩
   ·exact hW.elim
def Pd{ops:Array Oper}{q:Bool}{o:Oper}{σ:St}{K:St->Prop}(hc:eN q o<=2)(hW:dX P ops q o K σ):
  ∃ v,K (σ.put o.dst v)/\∀ (σ2:St) (K2:St->Prop),(∀ t∈o.looksAt ops,σ2.env t=σ.env t)->(∀ (id:Nat),gJ (eN q o) σ.aa[id]? σ2.aa[id]?)->K2 (σ2.put o.dst v)->dX P ops q o K2 σ2:=by
 unfold dX at hW ⊢;cases hg:o.guard with
 |none =>
  simp only[hg]at hW;obtain⟨v,h2,h3⟩:=Pb hc hW;exact⟨v,h2,λσ2 K2 hl ho hK=>h3 σ2 K2 (sc (e2:=σ2.env) (os:=σ2.aa) hl) ho hK⟩
 |some jw =>
  obtain⟨j,want⟩:=jw;simp only[hg]at hW;cases dW:(ops[j]?).bind (·.dst) with
  |none=>simp[dW]at hW
  |some d =>
   simp only[dW]at hW;split at hW
   ·rename_i b he;by_cases gn:b=want
    ·obtain⟨v,h2,h3⟩:=Pb hc (hW.1 gn);refine⟨v,h2,λσ2 K2 hl ho hK=>?_⟩;have:σ2.env d=.lit (.bool b):=by rw[hl d (wJ hg dW)];exact he
     simp only[dW,this];exact⟨λ_=>h3 σ2 K2 (sc (e2:=σ2.env) (os:=σ2.aa) hl) ho hK,λhn=>absurd gn hn⟩
    ·refine⟨.lit (.tuple #[]),hW.2 gn,λσ2 K2 hl ho hK=>?_⟩;have:σ2.env d=.lit (.bool b):=by rw[hl d (wJ hg dW)];exact he
     simp only[dW,this];exact⟨λhn=>absurd hn gn,λ_=>hK⟩
   ·rename_i vs he;refine⟨.lit (.tuple #[]),hW.2,λσ2 K2 hl ho hK=>?_⟩;have:σ2.env d=.lit (.tuple vs):=by rw[hl d (wJ hg dW)];exact he
    simp only[dW,this];exact⟨hW.1,hK⟩
   ·exact hW.elim
def sg{σ:St}{dst:Option Tmp}{v:AV}{t:Nat}(h:∀ d,dst=some d->d≠t):(σ.put dst v).env t=σ.env t:=by
 cases dst with
 |none=>rfl
 |some d =>
  have:=h d rfl;simp[St.put,jd,Ne.symm this]
def A3{σ:St}{x y:Option Tmp}{v u:AV}(h:∀ d,x=some d->y≠some d):(σ.put x v).put y u=(σ.put y u).put x v:=by
 cases x with
 |none=>rfl
 |some d =>
  cases y with
  |none=>rfl
  |some d' =>
   have cA:d'≠d:=λe=>h d rfl (by rw[e]);simp only[St.put];congr 1;funext k;simp only[jd];split<;>split<;>simp_all
def A4{σ:St}{x:Option Tmp}{v:AV}:(σ.put x v).aa=σ.aa:=by cases x<;>rfl
def IU{σ:St}{x:Option Tmp}{v:AV}:σ.put x v=⟨(σ.put x v).env,σ.aa⟩:=by cases x<;>rfl
def A5{σ:St}{os:List Ob}{x:Option Tmp}{v:AV}:(⟨(σ.put x v).env,os⟩:St)=(⟨σ.env,os⟩:St).put x v:=by cases x<;>rfl
def y8(ci ck:Nat):Bool:=ci==0||ck==0||(ci==1&&decide (ck<=4))||(ci==2&&decide (ck<=3))
def IV{ci ck:Nat}(h:(ci==0||(ci==1&&decide (ck<=4))||(ci==2&&decide (ck<=3)))=true){a b:List Ob}(he:kj ck a b)(id:Nat):gJ ci a[id]? b[id]?:=by
 simp only[kG,aZ,beq_iff_eq,decide_eq_true_eq]at h;rcases h with(rfl|⟨rfl,hk⟩)|⟨rfl,hk⟩
 ·simp[gJ]
 ·unfold kj at he;have:∀ o,a[id]?=some o->∃ o',b[id]?=some o'/\tU o o':=by
   intro o ho;have a6:=(aR.1 ho).1;split at he
   ·subst he;exact⟨o,ho,xR o⟩
   ·split at he
    ·exact⟨o,by rw[he id a6];exact ho,xR o⟩
    ·split at he
     ·have hb:id<b.length:=Ix;exact⟨b[id],by simp[hb],he.2 id o _ ho (by simp[hb])⟩
     ·omega
  simpa [gJ] using this
 ·unfold kj at he;have:∀ o,a[id]?=some o->b[id]?=some o:=by
   intro o ho;have a6:=(aR.1 ho).1;split at he
   ·subst he;exact ho
   ·split at he
    ·rw[he id a6];exact ho
    ·omega
  simpa [gJ] using this
def aco{ops:Array Oper}{qi qk:Bool}{oi ok:Oper}(ha:oi.apart ops ok=true)(hi:eN qi oi<=2)(hc:(eN qi oi==0||(eN qi oi==1&&decide (eN qk ok<=4))||(eN qi oi==2&&decide (eN qk ok<=3)))=true){σ:St}{K:St->Prop}(h:dX P ops qi oi (dX P ops qk ok K) σ):dX P ops qk ok (dX P ops qi oi K) σ:=by
 obtain⟨a1,a2,a3⟩:=Oper.apart_spec ha;obtain⟨v,h1,run⟩:=Pd hi h;obtain⟨vk,os,tV,h2,xS⟩:=A2 h1;rw[A4]at tV xS;refine xS σ.env _ (λt ht=>(sg λd hd e=>a1 d hd (e▸ht)).symm) ?_;refine run _ _ (λt ht=>?_) (λid=>?_) ?_
 ·rw[sg λd hd e=>a3 d hd (e▸ht)]
 ·rw[A4];exact IV hc tV id
 ·rw[A5]at h2;rw[A3 (λd hd e=>a2 d e hd)];exact h2
def acp{ops:Array Oper}{qi qk:Bool}{oi ok:Oper}(ha:oi.apart ops ok=true)(hk:eN qk ok=0){σ:St}{K:St->Prop}(h:dX P ops qi oi (dX P ops qk ok K) σ):dX P ops qk ok (dX P ops qi oi K) σ:=by
 obtain⟨a1,a2,a3⟩:=Oper.apart_spec ha;obtain⟨vi,os,tV,h1,run⟩:=A2 h;obtain⟨vk,h2,CC⟩:=Pd Ix h1;refine CC σ _ (λt ht=>(sg (σ:=⟨σ.env,os⟩) λd hd e=>a1 d hd (e▸ht)).symm) (λid=>by rw[hk];simp[gJ]) ?_;rw[IU];refine run _ _ (λt ht=>sg λd hd e=>a3 d hd (e▸ht)) ?_;rw[A5,A3 (λd hd e=>a2 d e hd)];exact h2
def acq{ops:Array Oper}{qi qk:Bool}{oi ok:Oper}(ha:oi.apart ops ok=true)(hc:y8 (eN qi oi) (eN qk ok)=true){σ:St}{K:St->Prop}(h:dX P ops qi oi (dX P ops qk ok K) σ):dX P ops qk ok (dX P ops qi oi K) σ:=by
 by_cases hk:eN qk ok=0
 ·exact acp ha hk h
 ·have fD:(eN qi oi==0||(eN qi oi==1&&decide (eN qk ok<=4))||(eN qi oi==2&&decide (eN qk ok<=3)))=true:=by
   simp only[y8,kG,aZ,beq_iff_eq,decide_eq_true_eq]at hc ⊢;rcases hc with((h|h)|h)|h
   ·exact .inl (.inl h)
   ·exact absurd h hk
   ·exact .inl (.inr h)
   ·exact .inr h
  refine aco ha ?_ fD h;simp only[kG,aZ,beq_iff_eq,decide_eq_true_eq]at fD;omega
end Go.Am
namespace Go.Am
variable {P:Program} {N n0:Nat} {σ:St}
def bZ(P:Program)(ops:Array Oper)(qs:List Nat)(i:Nat)(K:St->Prop)(σ:St):Prop :=
 match ops[i]? with
 |none=>K σ
 |some o=>dX P ops (qs.contains i) o K σ
def tW(P:Program)(ops:Array Oper)(qs:List Nat)(K:St->Prop):Nat->Array Bool->St->Prop
 |0,aE,σ=>Region.ready .any ops aE=[]/\K σ
 |n+1,aE,σ=>(Region.ready .any ops aE=[]->K σ)/\∀ i∈Region.ready .any ops aE,bZ P ops qs i (tW P ops qs K n (aE.setIfInBounds i true)) σ
def CD{ops:Array Oper}{q:Bool}{o:Oper}{σ:St}{K K2:St->Prop}(hk:∀ s,K s->K2 s)(h:dX P ops q o K σ):dX P ops q o K2 σ:=by
 obtain⟨v,os,_,h2,run⟩:=A2 h;exact run σ.env K2 (λ_ _=>rfl) (hk _ h2)
def acr{ops:Array Oper}{q:Bool}{o:Oper}{σ:St}{K:St->Prop}(h:dX P ops q o K σ):∃s,K s:=by
 obtain⟨v,os,_,h2,run⟩:=A2 h;exact⟨_,h2⟩
def mN{ops:Array Oper}{qs:List Nat}{i:Nat}{σ:St}{K K2:St->Prop}(hk:∀ s,K s->K2 s)(h:bZ P ops qs i K σ):bZ P ops qs i K2 σ:=by
 unfold bZ at h ⊢;split at h
 ·exact hk _ h
 ·exact CD hk h
def acs{ops:Array Oper}{qs:List Nat}{i:Nat}{σ:St}{K:St->Prop}(h:bZ P ops qs i K σ):∃s,K s:=by
 unfold bZ at h;split at h
 ·exact⟨_,h⟩
 ·exact acr h
def IW{os:List Ob}{γ0:Cx}{ops:Array Oper}{qs:List Nat}(hd:∀ o∈ops.toList,∀ d,o.dst=some d->d<N){K:St->Prop}{Q:Exit->Act->World->Prop}(hQ:∀ σ' a' w',K σ'->fq N os γ0 σ' a' w'->Q .normal a' w'):∀ (n:Nat) (aE:Array Bool) (σ:St) (a:Act) (w:World),tW P ops qs K n aE σ->fq N os γ0 σ a w->wpAny P .any ops Q n aE a w
 |0,aE,σ,a,w,h,ay=>⟨h.1,hQ _ _ _ h.2 ay⟩
 |n+1,aE,σ,a,w,h,ay=>by
  refine⟨λhr=>hQ _ _ _ (h.1 hr) ay,λi hi=>?_⟩;have:=h.2 i hi;unfold bZ at this;split at this
  ·rename_i aq;unfold wpOp;simp only[aq];exact IW hd hQ n _ _ _ _ this ay
  ·rename_i o aq;exact IT hd aq this ay λσ' a' w' hK cP=>IW hd hQ n _ _ _ _ hK cP
def Pe{id:Nat}{ops:Array Oper}{Q:Exit->St->Prop}(qs:List Nat)(hm:P.follows .mixedOrders=true)(hd:eU N ops=true)(h:tW P ops qs (Q .normal) ops.size (uX ops.size false) σ):W P N n0 (.region id ops true) Q σ:=by
 intro os γ0 a w _ ay;refine wp_region_any hm ?_;exact IW (nx hd) (K:=Q .normal) (λσ' a' w' hK cP=>⟨σ',hK,cP⟩) _ _ _ _ _ h ay.drawn
def acu{ops:Array Oper}{qs:List Nat}{K:St->Prop}{i:Nat}{o:Oper}(hi:ops[i]?=some o)(D:List Nat)(Pf:i∈D)(hD:∀ j∈D,j=i\/∃ oj,ops[j]?=some oj/\∃ e∈oj.after,Region.binds .any e=true/\e.on∈D):∀ (fuel:Nat) (aE:Array Bool) (σ:St),(∀ j∈D,aE.getD j true=false) ->
   i∈Region.ready .any ops aE ->
   (∀ j oj,ops[j]?=some oj->aE.getD j true=false->j ∉ D->o.apart ops oj=true/\y8 (eN (qs.contains i) o) (eN (qs.contains j) oj)=true) ->
   bZ P ops qs i (tW P ops qs K fuel (aE.setIfInBounds i true)) σ->tW P ops qs K (fuel+1) aE σ:=by
 intro fuel
 induction fuel with
 |zero =>
  intro aE σ hu hr lN h;refine⟨λe=>by rw[e]at hr;simp at hr,λk hk=>?_⟩;by_cases eV:k=i
  ·subst eV;exact h
  ·obtain⟨s,hs⟩:=acs h;have:=ready_mono hk eV;rw[hs.1]at this;simp at this
 |succ m ih =>
  intro aE σ hu hr lN h;refine⟨λe=>by rw[e]at hr;simp at hr,λk hk=>?_⟩;by_cases eV:k=i
  ·subst eV;exact h
  ·have y9:=mem_ready.1 hk;obtain⟨eW,ok,ay,dJ⟩:=y9;have p8:k ∉ D:=by
    intro p8;rcases hD k p8 with e|⟨oj,gK,e,he,hb,nX⟩
    ·exact eV e
    ·rw[ay]at gK;simp only[cm.injEq]at gK;subst gK;have h1:=dJ e he hb;have h2:=hu e.on nX;rw[ek]at h1 h2;cases hx:aE[e.on]? with
     |none=>rw[hx]at h1;simp at h1
     |some b=>rw[hx]at h1 h2;simp at h1 h2;rw[h1]at h2;simp at h2
   obtain⟨ha,hc⟩:=lN k ok ay eW p8;have h1:bZ P ops qs i (bZ P ops qs k (tW P ops qs K m ((aE.setIfInBounds i true).setIfInBounds k true))) σ :=
    mN (λs hs=>hs.2 k (ready_mono hk eV)) h
   have h2:bZ P ops qs k (bZ P ops qs i (tW P ops qs K m ((aE.setIfInBounds i true).setIfInBounds k true))) σ:=by
    unfold bZ at h1 ⊢;simp only[hi,ay]at h1 ⊢;exact acq ha hc h1
   refine mN (λs hs=>?_) h2;refine ih (aE.setIfInBounds k true) s (λj hj=>?_) (ready_mono hr (Ne.symm eV)) (λj oj gK hl tX=>?_) ?_
   ·have cA:k≠j:=λe=>p8 (by rw[e];exact hj);rw[getD_set_ne _ cA];exact hu j hj
   ·refine lN j oj gK ?_ tX;by_cases xT:k=j
    ·subst xT;exact eW
    ·rwa [getD_set_ne _ xT]at hl
   ·rw[Array.setIfInBounds_comm _ _ (Ne.symm eV)]at hs;exact hs
def IX(ops:Array Oper)(i:Nat):List Nat :=
 (bn ops.size).foldl (λD j=>if j==i||(match ops[j]? with|some oj=>oj.after.any (λe=>Region.binds .any e&&D.contains e.on)|none=>false) then D++[j] else D) []
def Fb(ops:Array Oper)(qs:List Nat)(aE:Array Bool)(i:Nat)(D:List Nat):Bool :=
 match ops[i]? with
 |none=>false
 |some o =>
  D.contains i&&D.all (λj=>j==i||match ops[j]? with|some oj=>oj.after.any (λe=>Region.binds .any e&&D.contains e.on)|none=>false) &&
  D.all (λj=>!aE.getD j true)&&o.after.all (λe=>!Region.binds .any e||aE.getD e.on false) &&
  (bn ops.size).all λj=>D.contains j||aE.getD j true||match ops[j]? with|some oj=>o.apart ops oj&&y8 (eN (qs.contains i) o) (eN (qs.contains j) oj)|none=>true
def Pg{ops:Array Oper}{qs:List Nat}{K:St->Prop}{i:Nat}{D:List Nat}{fuel:Nat}{aE:Array Bool}(h:Fb ops qs aE i D=true)(hs:bZ P ops qs i (tW P ops qs K fuel (aE.setIfInBounds i true)) σ):tW P ops qs K (fuel+1) aE σ:=by
 unfold Fb at h;cases hi:ops[i]? with
 |none=>simp[hi]at h
 |some o =>
  simp only[hi,aZ,List.all_eq_true,uY,kG,beq_iff_eq,Bool.not_eq_true']at h;obtain⟨⟨⟨⟨h1,h2⟩,h3⟩,h4⟩,h5⟩:=h;refine acu hi D h1 (λj hj=>?_) fuel aE σ h3 ?_ ?_ hs
  ·rcases h2 j hj with h|h
   ·exact .inl h
   ·right;split at h
    ·rename_i oj gK;rw[Array.any_eq_true']at h;obtain⟨e,he,hb⟩:=h;simp only[aZ,uY]at hb;exact⟨oj,gK,e,he,hb.1,hb.2⟩
    ·simp at h
  ·rw[mem_ready];refine⟨h3 i h1,o,hi,λe he hb=>?_⟩;rw[Array.all_eq_true']at h4;have:=h4 e he;simpa [hb] using this
  ·intro j oj gK hl tX;have hj:j<ops.size:=(Array.getElem?_eq_some_iff.1 gK).1;rcases h5 j (List.mem_range.2 hj) with(h|h)|h
   ·exact absurd h tX
   ·rw[hl]at h;simp at h
   ·simpa [gK] using h
inductive PT where
 |nil
 |take (i:Nat) (t:PT)
 |both (i:Nat) (t:PT) (j:Nat) (u:PT)
 |three (i:Nat) (t:PT) (j:Nat) (u:PT) (k:Nat) (v:PT)
def PT.ok(ops:Array Oper)(qs:List Nat):PT->Nat->Array Bool->Bool
 |.nil,n,aE=>n==0&&(Region.ready .any ops aE).isEmpty
 |.take _ _,0,_=>false
 |.take i t,n+1,aE=>Fb ops qs aE i (IX ops i)&&t.ok ops qs n (aE.setIfInBounds i true)
 |.both _ _ _ _,0,_=>false
 |.both i t j u,n+1,aE=>(Region.ready .any ops aE==[i,j])&&t.ok ops qs n (aE.setIfInBounds i true)&&u.ok ops qs n (aE.setIfInBounds j true)
 |.three _ _ _ _ _ _,0,_=>false
 |.three i t j u k v,n+1,aE=>(Region.ready .any ops aE==[i,j,k])&&t.ok ops qs n (aE.setIfInBounds i true)&&u.ok ops qs n (aE.setIfInBounds j true)&&v.ok ops qs n (aE.setIfInBounds k true)
def jx(P:Program)(ops:Array Oper)(qs:List Nat):PT->(St->Prop)->St->Prop
 |.nil,K,σ=>K σ
 |.take i t,K,σ=>bZ P ops qs i (jx P ops qs t K) σ
 |.both i t j u,K,σ=>bZ P ops qs i (jx P ops qs t K) σ/\bZ P ops qs j (jx P ops qs u K) σ
 |.three i t j u k v,K,σ=>bZ P ops qs i (jx P ops qs t K) σ/\bZ P ops qs j (jx P ops qs u K) σ/\bZ P ops qs k (jx P ops qs v K) σ
def za{ops:Array Oper}{qs:List Nat}{K:St->Prop}:∀ (t:PT) (n:Nat) (aE:Array Bool) (σ:St),t.ok ops qs n aE=true->jx P ops qs t K σ->tW P ops qs K n aE σ
 |.nil,n,aE,σ,h,hp=>by
  simp only[PT.ok,aZ,beq_iff_eq,List.isEmpty_iff]at h;obtain⟨rfl,h⟩:=h;exact⟨h,hp⟩
 |.take _ _,0,_,_,h,_=>by simp[PT.ok]at h
 |.take i t,n+1,aE,σ,h,hp=>by
  simp only[PT.ok,aZ]at h;exact Pg h.1 (mN (λs hs=>za t n _ s h.2 hs) hp)
 |.both _ _ _ _,0,_,_,h,_=>by simp[PT.ok]at h
 |.both i t j u,n+1,aE,σ,h,hp=>by
  simp only[PT.ok,aZ,beq_iff_eq]at h;obtain⟨⟨h1,h2⟩,h3⟩:=h;refine⟨λe=>by rw[h1]at e;simp at e,λk hk=>?_⟩;rw[h1]at hk;simp only[bj,gU,or_false]at hk;rcases hk with rfl|rfl
  ·exact mN (λs hs=>za t n _ s h2 hs) hp.1
  ·exact mN (λs hs=>za u n _ s h3 hs) hp.2
 |.three _ _ _ _ _ _,0,_,_,h,_=>by simp[PT.ok]at h
 |.three i t j u k v,n+1,aE,σ,h,hp=>by
  simp only[PT.ok,aZ,beq_iff_eq]at h;obtain⟨⟨⟨h1,h2⟩,h3⟩,h4⟩:=h;refine⟨λe=>by rw[h1]at e;simp at e,λx hk=>?_⟩;rw[h1]at hk;simp only[bj,gU,or_false]at hk;rcases hk with rfl|rfl|rfl
  ·exact mN (λs hs=>za t n _ s h2 hs) hp.1
  ·exact mN (λs hs=>za u n _ s h3 hs) hp.2.1
  ·exact mN (λs hs=>za v n _ s h4 hs) hp.2.2
def nY{id:Nat}{ops:Array Oper}{Q:Exit->St->Prop}(qs:List Nat)(t:PT)(hm:P.follows .mixedOrders=true)(hd:eU N ops=true)(ht:t.ok ops qs ops.size (uX ops.size false)=true)(h:jx P ops qs t (Q .normal) σ):W P N n0 (.region id ops true) Q σ :=
 Pe qs hm hd (za t _ _ σ ht h)
def Ph{id:Nat}{ops:Array Oper}{y:Code}{Q:Exit->St->Prop}(qs:List Nat)(t:PT)(hm:P.follows .mixedOrders=true)(hd:eU N ops=true)(ht:t.ok ops qs ops.size (uX ops.size false)=true)(h:∀ K:St->Prop,(∀ s,W P N n0 y Q s->K s)->jx P ops qs t K σ):W P N n0 (.seq (.region id ops true) y) Q σ :=
 Fc (nY qs t hm hd ht (h _ (λ_ h=>h)))
def lP{ops:Array Oper}{qs:List Nat}{K:St->Prop}:jx P ops qs .nil K σ=K σ:=rfl
def lQ{ops:Array Oper}{qs:List Nat}{i:Nat}{t:PT}{K:St->Prop}:jx P ops qs (.take i t) K σ=bZ P ops qs i (jx P ops qs t K) σ:=rfl
def p9{ops:Array Oper}{qs:List Nat}{i j k:Nat}{t u v:PT}{K:St->Prop}:jx P ops qs (.three i t j u k v) K σ=(bZ P ops qs i (jx P ops qs t K) σ/\bZ P ops qs j (jx P ops qs u K) σ/\bZ P ops qs k (jx P ops qs v K) σ):=rfl
def mO{ops:Array Oper}{qs:List Nat}{i j:Nat}{t u:PT}{K:St->Prop}:jx P ops qs (.both i t j u) K σ=(bZ P ops qs i (jx P ops qs t K) σ/\bZ P ops qs j (jx P ops qs u K) σ):=rfl
def Pj{q:Bool}{o:Oper}{K:St->Prop}:o5 q P o K true true σ=lJ q P o σ K:=by simp[o5]
def Pk{q:Bool}{o:Oper}{K:St->Prop}:o5 q P o K false false σ=lJ q P o σ K:=by simp[o5]
def Pl{q:Bool}{o:Oper}{K:St->Prop}:o5 q P o K true false σ=K (σ.put o.dst (.lit (.tuple #[]))):=by simp[o5]
def Pm{q:Bool}{o:Oper}{K:St->Prop}:o5 q P o K false true σ=K (σ.put o.dst (.lit (.tuple #[]))):=by simp[o5]
def acv{q:Bool}{o:Oper}{K:St->Prop}{b want:Bool}(h1:b=true->o5 q P o K true want σ)(h2:b=false->o5 q P o K false want σ):o5 q P o K b want σ:=by
 cases b
 ·exact h2 rfl
 ·exact h1 rfl
def jy:List Nat->PT
 |[]=>.nil
 |i::r=>.take i (jy r)
end Go.Am
namespace Go.Am
variable {P:Program} {N n0:Nat} {σ:St} {Q:Exit->St->Prop}
def an:List (Nat×AV)->Nat->AV
 |[]=>λ_=>.undef
 |p::l=>jd (an l) p.1 p.2
def Fe(d:Nat)(v:AV)(l:List (Nat×AV)):an ((d,v)::l)=jd (an l) d v:=rfl
def Ff(l:List (Nat×AV))(k:Nat):an l k=.undef\/∃ p∈l,p.1=k/\an l k=p.2:=by
 induction l with
 |nil=>exact .inl rfl
 |cons p l ih =>
  by_cases h:k=p.1
  ·right;exact⟨p,Iy,h.symm,by simp[an,jd,h]⟩
  ·have e:an (p::l) k=an l k:=by simp[an,jd,h]
   rw[e];rcases ih with h|⟨q,hq,h1,h2⟩
   ·exact .inl h
   ·exact .inr ⟨q,by simp[hq],h1,h2⟩
def Has(e:Nat->AV):List (Nat×AV)->Prop
 |[]=>True
 |p::l=>e p.1=p.2/\Has e l
def Has.mem{e:Nat->AV}:∀ {l:List (Nat×AV)},Has e l->∀ p∈l,e p.1=p.2
 |q::l,h,p,hp=>by
  rcases bj.1 hp with rfl|hp
  ·exact h.1
  ·exact Has.mem h.2 p hp
def aF.an(l:List (Nat×AV))(os:List Ob)(ho:σ.aa=os)(h:Has σ.env l):aF n0 σ ⟨an l,os⟩:=by
 subst ho;refine aF.forget λk=>?_;rcases Ff l k with h'|⟨p,hp,rfl,h'⟩
 ·exact .inl h'
 ·right;rw[h',h.mem p hp]
def oZ(ρ:Nat->Nat)(os:List Ob):List Nat->List Ob->Prop
 |[],[]=>True
 |i::aj,o::co=>(i<os.length/\(o=.gone\/os[i]?=some (bH ρ o)))/\oZ ρ os aj co
 |_,_=>False
def oZ.spec{ρ:Nat->Nat}{os:List Ob}:∀ {aj:List Nat} {co:List Ob},oZ ρ os aj co->co.length=aj.length/\(∀ (j:Nat) o,co[j]?=some o->o=.gone\/os[aj.getD j 0]?=some (bH ρ o))/\∀ i∈aj,i<os.length
 |[],[],_=>⟨rfl,Iy,Iy⟩
 |i::aj,o::co,h=>by
  obtain⟨⟨h1,h2⟩,h3⟩:=h;obtain⟨a,b,c⟩:=oZ.spec h3;refine⟨by simp[a],λj o' hj=>?_,λx hx=>?_⟩
  ·cases j with
   |zero=>simp at hj;subst hj;simpa using h2
   |succ j=>simpa using b j o' (by simpa using hj)
  ·rcases bj.1 hx with rfl|hx
   ·exact h1
   ·exact c x hx
def sq(R:AV->AV->Prop)(e:Nat->AV):List (Nat×AV)->Prop
 |[]=>True
 |p::l=>R p.2 (e p.1)/\sq R e l
def sq.mem{R:AV->AV->Prop}{e:Nat->AV}:∀ {l:List (Nat×AV)},sq R e l->∀ p∈l,R p.2 (e p.1)
 |q::l,h,p,hp=>by
  rcases bj.1 hp with rfl|hp
  ·exact h.1
  ·exact sq.mem h.2 p hp
def kept(aj:List Nat)(co:List Ob)(id:Nat):Prop:=∃ j,j<aj.length/\aj.getD j 0=id/\co[j]?≠some .gone
def aF.aj(aj:List Nat)(snap:Bool)(l:List (Nat×AV))(co:List Ob)(bU:aj.Nodup)(ho:oZ (bq σ.aa.length aj) σ.aa aj co)(hn:n0<=aj.length)(bO:∀ i,i<n0->aj.getD i 0=i)(h:sq (bw σ (kept aj co) (bq σ.aa.length aj) snap) σ.env l):aF n0 σ ⟨Am.an l,co⟩:=by
 obtain⟨h1,h2,h3⟩:=ho.spec;refine aF.select aj snap co _ bU h1 h2 h3 hn bO λk=>?_;rcases Ff l k with h'|⟨p,hp,rfl,h'⟩
 ·exact .inl h'
 ·right;rw[h'];exact h.mem p hp
def bw.pure{kp:Nat->Prop}{ρ:Nat->Nat}{snap:Bool}{v:AV}(h:ki v=true):bw σ kp ρ snap v v:=by
 have:=bw.same (σ:=σ) (kp:=kp) (ρ:=ρ) (snap:=snap) v;rwa [zb _ v h]at this
def bw.eq{kp:Nat->Prop}{ρ:Nat->Nat}{snap:Bool}{v u:AV}(h:u=bf ρ v):bw σ kp ρ snap v u:=by
 subst h;exact .same v
def cL.flat{kp:Nat->Prop}{id sz len:Nat}{rows:List (List AV)}(ho:σ.aa[id]?=some (.arr sz rows))(hw:∀ row∈rows,row.length=sz)(hl:len=rows.length)(r9:¬ kp id)(hf:∀ row∈rows,∀ v∈row,(∃ x,v=.lit x)\/∃ s r,v=.tree s r):
  cL σ kp (.tree sz rows) (.ref id sz 0 len):=by
 refine .ref id sz 0 len rows rows (λr c=>(cellAt rows r c).getD .undef) ho r9 (by simp[hl]) hw (λr c v hv=>?_) (λr c v hv=>?_)
 ·simp[hl,hv]
 ·rw[hv,Option.getD_some];simp only[cellAt,Option.bind_eq_some_iff]at hv;obtain⟨row,h1,h2⟩:=hv;rcases hf row (gk h1) v (gk h2) with⟨x,rfl⟩|⟨s,r,rfl⟩
  ·exact .lit x
  ·exact .tree s r
def bw.nil{kp:Nat->Prop}{ρ:Nat->Nat}{sz:Nat}:bw σ kp ρ true (.tree sz []) (.lit (.slice none 0 0)):=.snap _ _ rfl (.nil sz)
def bw.cG{kp:Nat->Prop}{ρ:Nat->Nat}{id sz len:Nat}{rows:List (List AV)}(ho:σ.aa[id]?=some (.arr sz rows))(hw:∀ row∈rows,row.length=sz)(hl:len=rows.length)(r9:¬ kp id)(hf:∀ row∈rows,∀ v∈row,(∃ x,v=.lit x)\/∃ s r,v=.tree s r):
  bw σ kp ρ true (.tree sz rows) (.ref id sz 0 len):=.snap _ _ rfl (cL.flat ho hw hl r9 hf)
def acw{α:Type}(n0:Nat)(S:α->St)(I:α->Prop)(M:α->Nat)(x:α)(Q:Exit->St->Prop):Exit->St->Prop
 |.normal,s=>∃ y,I y/\M y<M x/\aF n0 s (S y)
 |e,s=>Q e s
def acx{α:Type}{c:Code}(S:α->St)(I:α->Prop)(M:α->Nat)(x0:α)(hI:I x0)(h0:aF n0 σ (S x0))(round:∀ x,I x->∀ Q':Exit->St->Prop,(∀ s y,I y->M y<M x->aF n0 s (S y)->Q' .normal s)->(∀ e s,e≠.normal->Q e s->Q' e s)->W P N n0 c Q' (S x)):W P N n0 (.loop c) Q σ:=by
 refine cr h0 ?_;intro os γ0 a w hn ay b k cs;have key:∀ n x a w,M x=n->I x->fq N os γ0 (S x) a w ->
   ∃ e a' w',(∃ σ',Q e σ'/\fq N os γ0 σ' a' w')/\Arrives P (lone (b.at a (.code c::.inLoop c::k)) cs w) b k cs e a' w':=by
  intro n
  induction n using Nat.strongRecOn with
  |_ n ih =>
   intro x a w hm hI ay;have hr:W P N n0 c (acw n0 S I M x Q) (S x):=round x hI _ (λs y h1 h2 h3=>⟨y,h1,h2,h3⟩) (λe s he h=>by cases e<;>first|exact absurd rfl he|exact h);obtain⟨e,q7,sr,⟨σ',hq,cP⟩,ny⟩:=hr os γ0 a w hn ay b (.inLoop c::k) cs;cases e with
   |normal =>
    obtain⟨y,IY,a6,ht⟩:=hq;obtain⟨h1,h2,γ,rfl,h3,h4,h5⟩:=cP;obtain⟨az,e1,e2,e3,e4⟩:=ht os γ0 γ hn h4 h5;obtain⟨IZ,I0,I1,I2,I3⟩:=ih (M y) Ix y q7 γ.w rfl IY ⟨h1,h2,az,e1,e2.trans h3,e3,e4⟩;exact⟨IZ,I0,I1,I2,.of_steps (Steps.trans ny (.one step_inLoop)) I3⟩
   |exit id=>exact⟨_,q7,sr,⟨σ',hq,cP⟩,.pass (x:=.inLoop c) rfl (λ_ _=>.inl Iy) ny⟩
   |goto l=>exact⟨_,q7,sr,⟨σ',hq,cP⟩,.pass (x:=.inLoop c) rfl (λ_ _=>.inl Iy) ny⟩
   |ret=>exact⟨_,q7,sr,⟨σ',hq,cP⟩,.pass (x:=.inLoop c) rfl (λ_ _=>.inl Iy) ny⟩
   |panic ch=>exact⟨_,q7,sr,⟨σ',hq,cP⟩,.pass (x:=.inLoop c) rfl (λ_ _=>.inl Iy) ny⟩
   |outgrown=>exact⟨_,q7,sr,⟨σ',hq,cP⟩,.pass (x:=.inLoop c) rfl (λ_ _=>.inl Iy) ny⟩
 obtain⟨e,a',w',hq,ny⟩:=key _ x0 a w rfl hI ay;exact⟨e,a',w',hq,.of_steps (.one step_loop) ny⟩
def acy{id:Nat}{c:Code}(h:∀ Q':Exit->St->Prop,(∀ s,Q .normal s->Q' .normal s)->(∀ s,Q .normal s->Q' (.exit id) s)->(∀ e s,e≠.normal->e≠.exit id->Q e s->Q' e s)->W P N n0 c Q' σ):W P N n0 (.block id c) Q σ :=
 acz (h _ (λs h=>h) (λs h=>by simp only[Fg,if_true];exact h) (λe s h1 h2 h=>by
  cases e<;>first
   |exact absurd rfl h1
   |exact h
   | (rename_i nZ;simp only[Fg];rw[if_neg (λe=>h2 (by rw[e]))];exact h)))
def CE{ρ:Nat->Nat}{sz:Nat}{rows:List (List AV)}(h:∀ row∈rows,lL row=true):bH ρ (.arr sz rows)=.arr sz rows:=by
 simp only[bH];congr 1;have:∀ row∈rows,row.map (bf ρ)=row:=λrow hr=>by
  have:=A6 ρ row (h row hr);rwa [wK]at this
 rw[tL this];simp
def acA(n j:Nat):bq n (bn n) j=j:=by
 unfold bq;split
 ·rename_i h;have h':j<n:=by simpa using h
  simp[aB,qQ h']
 ·rename_i h;simp at h ⊢;omega
mutual
def xO:∀ (v:AV),bf (λj=>j) v=v
 |.undef=>rfl
 |.lit _=>rfl
 |.tree ..=>rfl
 |.cd _=>rfl
 |.ref ..=>rfl
 |.ptr ..=>rfl
 |.agg cs=>by simp only[bf];rw[Fh cs]
 |.bu cs=>by simp only[bf];rw[Fh cs]
 |.fn f cs=>by simp only[bf];rw[Fh cs]
 |.gZ t v=>by simp only[bf];rw[xO v]
 |.du _=>rfl
def Fh:∀ (l:List AV),o8 (λj=>j) l=l
 |[]=>rfl
 |v::vs=>by simp only[o8];rw[xO v,Fh vs]
end
def Cz(o:Ob):bH (λj=>j) o=o:=by
 have h:bf (λj=>j)=id:=by funext v;exact xO v
 cases o with
 |gone=>rfl
 |var cs=>simp[bH,h]
 |arr sz rows=>simp[bH,h]
 |mp ag L=>simp[bH,h]
def xN(n:Nat):bq n (bn n)=λj=>j:=by funext j;exact acA n j
def Pn(aa:List Ob):∀ (a8:List Ob),aa.length<=a8.length->fl aa (bn aa.length) a8=a8:=by
 intro a8 h;have hlen:(bn aa.length).length<=a8.length:=by simpa using h
 apply List.ext_getElem?;intro i;rcases Nat.lt_or_ge i aa.length with hi|hi
 ·have:=Fi (bn aa.length) aa a8 hlen (ET) Iy i (by simpa using hi);simpa [aB,qQ hi] using this
 ·have Fj:=I4 (bn aa.length) aa a8 hlen;obtain⟨j,rfl⟩:∃j,i=aa.length+j:=⟨i-aa.length,Ix⟩;have:=Po (bn aa.length) aa a8 hlen j;simpa using this
def fF{f:FuncId}{args:List AV}{dst:Option Tmp}{K:St->Prop}{res:AV}{a8:List Ob}(h:Holds P f args σ.aa res a8)(hl:σ.aa.length<=a8.length)(hK:K ((⟨σ.env,a8⟩:St).put dst res)):r8 P f args dst K σ:=by
 refine⟨bn σ.aa.length,false,args,σ.aa,res,a8,h,⟨ET,Iy,?_,rfl,?_,Iy⟩,?_⟩
 ·intro j o hj;have a6:=(aR.1 hj).1;rw[xN,Cz];simpa [aB,qQ a6] using hj
 ·intro j c d hc hd;rw[hc]at hd;simp only[cm.injEq]at hd;subst hd;exact .eq (by rw[xN,xO])
 ·rw[xN,xO];have:a8.map (bH (λj=>j))=a8:=by
   have h:bH (λj=>j)=id:=by funext o;exact Cz o
   simp[h]
  rw[this,Pn _ _ hl];exact hK
end Go.Am
namespace Go.Am
variable {P:Program} {N n0:Nat} {σ:St} {Q:Exit->St->Prop}
def acB{id:Nat}{ops:Array Oper}(hd:eU N ops=true)(h:∀ K:St->Prop,(∀ s,Q .normal s->K s)->opsL P ops ops.toList K σ):W P N n0 (.region id ops false) Q σ :=
 Pp hd (h _ (λ_ h=>h))
def I5{ops:Array Oper}{K:St->Prop}:∀ (l:List Oper) (i:Nat) (σ:St),ops.toList.drop i=l->opsL P ops l K σ->jx P ops [] (jy (lH i l.length)) K σ
 |[],i,σ,_,h=>h
 |o::r,i,σ,hl,h=>by
  have hi:ops[i]?=some o:=by
   have:(ops.toList.drop i)[0]?=some o:=by rw[hl];rfl
   simpa using this
  have hr:ops.toList.drop (i+1)=r:=by
   have:=congrArg List.tail hl;simpa [List.tail_drop] using this
  rw[List.length_cons,List.range'_succ];show bZ P ops [] i (jx P ops [] (jy (lH (i+1) r.length)) K) σ;unfold bZ;simp only[hi];have hm:∀ s,opsL P ops r K s->jx P ops [] (jy (lH (i+1) r.length)) K s:=λs hs=>I5 r (i+1) s hr hs;refine CD hm ?_;unfold opsL at h;unfold dX;cases hg:o.guard with
  |none=>simp only[hg]at h;exact h
  |some jw =>
   obtain⟨j,want⟩:=jw;simp only[hg]at h;exact h
def zd(ops:Array Oper):Bool:=(jy (bn ops.size)).ok ops [] ops.size (uX ops.size false)
def acC{id:Nat}{ops:Array Oper}{y:Code}(hm:P.follows .mixedOrders=true)(hd:eU N ops=true)(ht:zd ops=true)(h:∀ K:St->Prop,(∀ s,W P N n0 y Q s->K s)->opsL P ops ops.toList K σ):
  W P N n0 (.seq (.region id ops true) y) Q σ :=
 Ph [] _ hm hd ht λK hK=>by
  have:=I5 (P:=P) (ops:=ops) ops.toList 0 σ rfl (h K hK);rw[uV];simpa using this
def acD{id:Nat}{ops:Array Oper}(hm:P.follows .mixedOrders=true)(hd:eU N ops=true)(ht:zd ops=true)(h:∀ K:St->Prop,(∀ s,Q .normal s->K s)->opsL P ops ops.toList K σ):
  W P N n0 (.region id ops true) Q σ :=
 nY [] _ hm hd ht (by
  have:=I5 (P:=P) (ops:=ops) ops.toList 0 σ rfl (h _ (λ_ h=>h));rw[uV];simpa using this)
def aS{v res:AV}(hr:ki v=true)(h:v=res):nW 0 σ v res []:=by
 subst h;exact I6 hr
def Fk(e:Nat->AV)(d:Nat)(v:AV)(k:Nat):jd e d v k=if k=d then v else e k:=by simp only[jd]
def Pq:IntKind.i64.min = -9223372036854775808:=rfl
def Ps:IntKind.i64.max=9223372036854775807:=rfl
def ints(xs:List Int):List (List AV):=xs.map λx=>[N0 x]
def bm(xs:List Bool):List (List AV):=xs.map λx=>[.lit (.bool x)]
def fc(xs:List (List Int)):List (List AV):=xs.map λx=>[.tree 1 (ints x)]
def wL(xs:List Int):(ints xs).length=xs.length:=by simp[ints]
def xU(xs:List Bool):(bm xs).length=xs.length:=by simp[bm]
def Fl(xs:List (List Int)):(fc xs).length=xs.length:=by simp[fc]
def Pt(xs:List Int)(i:Nat)(h:i<xs.length):(ints xs).getD i []=[N0 (xs.getD i 0)]:=by simp[ints,h]
def Pu(xs:List Bool)(i:Nat)(h:i<xs.length):(bm xs).getD i []=[.lit (.bool (xs.getD i false))]:=by simp[bm,h]
def Pv(xs:List (List Int))(i:Nat)(h:i<xs.length):(fc xs).getD i []=[.tree 1 (ints (xs.getD i []))]:=by simp[fc,h]
def Px(xs:List Int)(i:Nat)(h:i<xs.length):(ints xs)[i]?=some [N0 (xs.getD i 0)]:=by simp[ints,h]
def Py(xs:List Bool)(i:Nat)(h:i<xs.length):(bm xs)[i]?=some [.lit (.bool (xs.getD i false))]:=by simp[bm,h]
def I7(xs:List (List Int))(i:Nat)(h:i<xs.length):(fc xs)[i]?=some [.tree 1 (ints (xs.getD i []))]:=by simp[fc,h]
def ints_set(xs:List Int)(i:Nat)(v:Int):(ints xs).set i [N0 v]=ints (xs.set i v):=by simp[ints,rV]
def wM(xs:List Bool)(i:Nat)(v:Bool):(bm xs).set i [.lit (.bool v)]=bm (xs.set i v):=by simp[bm,rV]
def Pz(xs ys:List Int):ints xs++ints ys=ints (xs++ys):=by simp[ints]
def CF(xs:List Int)(v:Int):ints xs++[[N0 v]]=ints (xs++[v]):=by simp[ints]
def PA(xs:List (List Int))(v:List Int):fc xs++[[.tree 1 (ints v)]]=fc (xs++[v]):=by simp[fc]
def CG(xs:List Bool)(v:Bool):bm xs++[[.lit (.bool v)]]=bm (xs++[v]):=by simp[bm]
def I8(n:Nat)(v:Int):aJ n [AV.lit (.int .i64 v)]=ints (aJ n v):=by simp[ints]
def A7(n:Nat)(v:Bool):aJ n [AV.lit (.bool v)]=bm (aJ n v):=by simp[bm]
def Fm(xs:List Int):((ints xs).all λrow=>row.all cV)=true:=by simp[ints,cV,Value.oneCell']
def PD(xs:List Bool):((bm xs).all λrow=>row.all cV)=true:=by simp[bm,cV,Value.oneCell']
def PE(xs:List (List Int)):((fc xs).all λrow=>row.all cV)=true:=by simp[fc,cV]
def Fo(ρ:Nat->Nat)(sz:Nat)(xs:List Int):bH ρ (.arr sz (ints xs))=.arr sz (ints xs):=CE (by simp[ints,lL,ki])
def A8(ρ:Nat->Nat)(sz:Nat)(xs:List Bool):bH ρ (.arr sz (bm xs))=.arr sz (bm xs):=CE (by
 intro row hr;simp only[bm,b8]at hr;obtain⟨x,_,rfl⟩:=hr;rfl)
def I9(ρ:Nat->Nat)(sz:Nat)(xs:List (List Int)):bH ρ (.arr sz (fc xs))=.arr sz (fc xs):=CE (by simp[fc,lL,ki])
def wN(xs:List Int):∀ row∈ints xs,∀ v∈row,(∃ x,v=AV.lit x)\/∃ s r,v=AV.tree s r:=by
 intro row hr v hv;simp only[ints,b8]at hr;obtain⟨x,_,rfl⟩:=hr;simp at hv;exact .inl ⟨_,hv⟩
def I'(xs:List Bool):∀ row∈bm xs,∀ v∈row,(∃ x,v=AV.lit x)\/∃ s r,v=AV.tree s r:=by
 intro row hr v hv;simp only[bm,b8]at hr;obtain⟨x,_,rfl⟩:=hr;simp at hv;exact .inl ⟨_,hv⟩
def acE(xs:List (List Int)):∀ row∈fc xs,∀ v∈row,(∃ x,v=AV.lit x)\/∃ s r,v=AV.tree s r:=by
 intro row hr v hv;simp only[fc,b8]at hr;obtain⟨x,_,rfl⟩:=hr;simp at hv;exact .inr ⟨_,_,hv⟩
def tY(xs:List Int):∀ row∈ints xs,row.length=1:=by
 intro row hr;simp only[ints,b8]at hr;obtain⟨x,_,rfl⟩:=hr;rfl
def Fp(xs:List Bool):∀ row∈bm xs,row.length=1:=by
 intro row hr;simp only[bm,b8]at hr;obtain⟨x,_,rfl⟩:=hr;rfl
def acF(xs:List (List Int)):∀ row∈fc xs,row.length=1:=by
 intro row hr;simp only[fc,b8]at hr;obtain⟨x,_,rfl⟩:=hr;rfl
def j2{α:Type}(xs:List α)(i:Nat)(d:α)(h:i<xs.length):xs.drop i=xs.getD i d::xs.drop (i+1):=by
 rw[List.drop_eq_getElem_cons h];simp[h]
end Go.Am

