import Derived.Test.YtdipcmigdbnheaaGreatX03
set_option linter.all false
set_option maxHeartbeats 0
set_option maxRecDepth 20000
open List renaming mem_of_getElem?→gf,mem_append→cj,map_congr_left→kG,getElem?_eq_some_iff→aM,range→aN,contains_iff_mem→sV,mem_cons→b8,not_mem_nil→k8,getD_eq_getElem?_getD→aA,getElem?_range→oN,nodup_range→I3,range'→lU,length_cons→dz,range'_succ→ue,range_eq_range'→uf,map_set→sW,replicate→b6,mem_map→bZ,getElem?_eq_getElem→bT,take_of_length_le→fP,length_take→iL
open Array renaming getD_eq_getD_getElem?→eN,toList_append→xk,replicate→vC,length_toList→rK
open Bool renaming or_eq_true→ke,and_eq_true→ba
open Option renaming some→cT
namespace Go.Am
variable {P:Program}
def E0(P:Program)(g:FuncId)(args:List AV)(dst:Option Tmp)(K:St->Prop)(σ:St):Prop :=
 ∃ res,an P g args [] res []/\gF args=true/\eO res=true/\K (σ.put dst res)
def qA(P:Program)(t:TypeId)(dst:Option Tmp)(K:St->Prop)(σ:St):AV->Prop
 |.cq cells=>(ty P t).kind≠99/\ld (ty P t) cells 0 λv=>K (σ.put dst v)
 |_=>False
def kJ(q:Bool)(P:Program)(o:Oper)(σ:St)(K:St->Prop):Prop :=
 match q with
 |false=>a8 P o σ K
 |true =>
  match o.op with
  |.call { callee:=.value f,args,.. } =>
   match ev σ f with
   |.fn g aT=>E0 P g (args.toList.map (ev σ)++aT) o.dst K σ
   |_=>False
  |.load t a=>qA P t o.dst K σ (ev σ a)
  |_=>False
def VV{o:Oper}{σ:St}{K:St->Prop}{t:TypeId}{a:Operand}(dR:o.op=.load t a)(h:qA P t o.dst K σ (ev σ a)):a8 P o σ K:=by
 unfold a8;simp only[dR];unfold cf;simp only[dR];unfold qA at h;split at h
 ·rename_i cells he;simp only[he];exact h
 ·exact h.elim
def E1{t:TypeId}{dst:Option Tmp}{K:St->Prop}{σ:St}{v:AV}(h:qA P t dst K σ v):∃x,K (σ.put dst x)/\∀ (σ2:St) (K2:St->Prop),K2 (σ2.put dst x)->qA P t dst K2 σ2 v:=by
 unfold qA at h;split at h
 ·rename_i cells;obtain⟨h1,h2⟩:=h;unfold ld at h2;split at h2
  ·rename_i ha;refine⟨_,h2.2,λσ2 K2 hK=>?_⟩;unfold qA ld;simp only;rw[if_pos ha];exact⟨h1,h2.1,hK⟩
  ·rename_i ha;split at h2
   ·rename_i x hx;refine⟨x,h2,λσ2 K2 hK=>?_⟩;unfold qA ld;simp only;rw[if_neg ha,hx];exact⟨h1,hK⟩
   ·exact h2.elim
 ·exact h.elim
def m8(q:Bool)(P:Program)(o:Oper)(K:St->Prop)(b want:Bool)(σ:St):Prop:=(b=want->kJ q P o σ K)/\(b≠want->K (σ.put o.dst (.lit (.tuple #[]))))
def dN(P:Program)(ops:Array Oper)(q:Bool)(o:Oper)(K:St->Prop)(σ:St):Prop :=
 match o.guard with
 |none=>kJ q P o σ K
 |some (j,want) =>
  match (ops[j]?).bind (·.dst) with
  |none=>False
  |some d =>
   match σ.env d with
   |.lit (.bool b)=>m8 q P o K b want σ
   |.lit (.tuple vs)=>vs = #[]/\K (σ.put o.dst (.lit (.tuple #[])))
   |_=>False
def Jt{q:Bool}{o:Oper}{σ:St}{K:St->Prop}(h:kJ q P o σ K):a8 P o σ K:=by
 cases q with
 |false=>exact h
 |true =>
  unfold kJ at h;simp only at h;unfold a8;split at h
  ·rename_i f args eY dR;simp only[dR];split at h
   ·rename_i g aT he;simp only[he];obtain⟨res,h1,h2,h3,h4⟩:=h;exact bU h1 h2 h3 h4
   ·exact h.elim
  ·rename_i t a dR;have:=VV dR h;unfold a8 at this;simpa only[dR] using this
  ·exact h.elim
def Ju{N:Nat}{os:List Ob}{γ0:Cx}{ops:Array Oper}(hd:∀ o∈ops.toList,∀ d,o.dst=some d->d<N){q:Bool}{i:Nat}{o:Oper}(hi:ops[i]?=some o){σ:St}{K:St->Prop}(h:dN P ops q o K σ){a:Act}{w:World}(aR:gl N os γ0 σ a w){Q:Exit->Act->World->Prop}{next:Act->World->Prop}(hn:∀ σ' a' w',K σ'->gl N os γ0 σ' a' w'->next a' w'):wpOp P ops Q i next a w:=by
 have cR:o∈ops.toList:=gf (by simpa using hi);unfold wpOp;simp only[hi];unfold dN at h;cases hg:o.guard with
 |none =>
  simp only[hg]at h;have hw:Region.wanted o (yielded ops a.tmps)=true:=by simp[Region.wanted,hg]
  rw[if_pos hw];left;exact vR (Jt h) aR (hd o cR) hn
 |some jw =>
  obtain⟨j,want⟩:=jw;simp only[hg]at h;cases ee:(ops[j]?).bind (·.dst) with
  |none=>simp[ee]at h
  |some d =>
   simp only[ee]at h;split at h
   ·rename_i b he;obtain⟨iN,a6,γ,rfl,ha,hs,hf⟩:=aR;have jd:=hs.ax d;rw[he,ha]at jd;have hv:=jd.cH;have hy:yielded ops a.tmps j=some b:=by
     unfold yielded;rw[ee];have:a.tmps[d]?=some (.bool b):=by
      rw[eN]at hv;cases hx:a.tmps[d]? with
      |none=>rw[hx]at hv;simp[Go.undef]at hv
      |some y=>rw[hx]at hv;simp at hv;rw[hv]
     simp[this]
    by_cases gR:b=want
    ·have hw:Region.wanted o (yielded ops a.tmps)=true:=by simp[Region.wanted,hg,hy,gR]
     rw[if_pos hw];left;exact vR (Jt (h.1 gR)) ⟨iN,a6,γ,rfl,ha,hs,hf⟩ (hd o cR) hn
    ·have hw:Region.wanted o (yielded ops a.tmps)=false:=by simp[Region.wanted,hg,hy,gR]
     rw[if_neg (by rw[hw];simp)];refine hn _ _ _ (h.2 gR) ⟨by rw[put_defers];exact iN,by rw[rW];exact a6,{ γ with tmps:=(a.put o.dst Go.undef).tmps },rfl,rfl,pH hs ha (λd h=>by rw[a6];exact hd o cR d h) (.lit _),?_⟩;rw[pI];exact hf.put _
   ·rename_i vs he;obtain⟨iN,a6,γ,rfl,ha,hs,hf⟩:=aR;have jd:=hs.ax d;rw[he,ha]at jd;have hv:=jd.cH;have hy:yielded ops a.tmps j=none:=by
     unfold yielded;rw[ee];rw[eN]at hv;cases hx:a.tmps[d]? with
     |none=>simp[hx]
     |some y=>rw[hx]at hv;simp at hv;subst hv;simp[hx]
    have hw:Region.wanted o (yielded ops a.tmps)=false:=by simp[Region.wanted,hg,hy]
    rw[if_neg (by rw[hw];simp)];refine hn _ _ _ h.2 ⟨by rw[put_defers];exact iN,by rw[rW];exact a6,{ γ with tmps:=(a.put o.dst Go.undef).tmps },rfl,rfl,pH hs ha (λd h=>by rw[a6];exact hd o cR d h) (.lit _),?_⟩;rw[pI];exact hf.put _
   ·exact h.elim
def BK(c:Nat)(a:List Ob):jY c a a:=by
 unfold jY;split
 ·rfl
 ·split
  ·intro id _;rfl
  ·split
   ·exact⟨rfl,λid o o' h h'=>by rw[h]at h';simp at h';subst h';exact vS o⟩
   ·trivial
def b9.aa{σ σ2:St}(h:σ2.aa=σ.aa){kp:Nat->Prop}{c d:AV}(ha:b9 σ kp c d):b9 σ2 kp c d:=by
 induction ha with
 |lit x=>exact .lit x
 |tree s r=>exact .tree s r
 |nil sz=>exact .nil sz
 |ref id sz off len rows fE g aP pJ hl0 BL rX pG ih=>exact .ref id sz off len rows fE g (by rw[h];exact aP) pJ hl0 BL rX ih
def aE.aa{σ σ2:St}(h:σ2.aa=σ.aa){kp:Nat->Prop}{ρ:Nat->Nat}{snap:Bool}{c d:AV}(ha:aE σ kp ρ snap c d):aE σ2 kp ρ snap c d:=by
 induction ha with
 |same v=>exact .same v
 |snap c d hs hf=>exact .snap c d hs (hf.aa h)
 |agg cs ds hl _ ih=>exact .agg cs ds hl ih
 |bO cs ds hl _ ih=>exact .bO cs ds hl ih
def fj(q:Bool)(o:Oper):Nat:=if q then 0 else cls o.op
def s6{ops:Array Oper}{o:Oper}{σ:St}{e2:Nat->AV}{os:List Ob}(h:∀ t∈o.looksAt ops,e2 t=σ.env t):∀ x∈o.op.operands.toList,ev ⟨e2,os⟩ x=ev σ x:=by
 intro x hx;cases x with
 |tmp t =>
  show e2 t=σ.env t;refine h t ?_;unfold Oper.looksAt;rw[cj];left;rw[List.mem_filterMap];exact⟨_,hx,rfl⟩
 |const v=>rfl
 |func f=>rfl
 |global g=>rfl
def VW{σ:St}{v:AV}{K:FuncId->AV->Prop}{r:Option (FuncId×Option TypeId)}(h:m9 P σ v K r):
  ∃ g x,K g x/\∀ (e2:Nat->AV) (K2:FuncId->AV->Prop),K2 g x->m9 P ⟨e2,σ.aa⟩ v K2 r:=by
 match r,h with
 |none,h=>exact h.elim
 |some (g,none),h=>exact⟨g,v,h,λ_ _ h=>h⟩
 |some (g,some e),h =>
  unfold m9 at h;obtain⟨hk,h⟩:=h;cases v with
  |ptr id rr c =>
   simp only at h;cases aZ:rowOf σ id rr with
   |none=>simp[aZ]at h
   |some row =>
    simp only[aZ]at h;obtain⟨x,h1,h2⟩:=Jv h;refine⟨g,x,h1,λe2 K2 hK=>?_⟩;unfold m9;have:rowOf ⟨e2,σ.aa⟩ id rr=some row:=aZ;simp only[this];exact⟨hk,h2 _ hK⟩
  |_=>exact h.elim
def VX{o:Oper}{σ:St}{K:St->Prop}(hW:a8 P o σ K):
  ∃ v os,jY (cls o.op) σ.aa os/\K ((⟨σ.env,os⟩:St).put o.dst v)/\∀ (e2:Nat->AV) (K2:St->Prop),(∀ x∈o.op.operands.toList,ev ⟨e2,σ.aa⟩ x=ev σ x)->K2 ((⟨e2,os⟩:St).put o.dst v)->a8 P o ⟨e2,σ.aa⟩ K2:=by
 unfold a8 at hW ⊢;split at hW
 ·rename_i f args eY dR;simp only[dR];split at hW
  ·rename_i g aT he;obtain⟨ak,snap,cV,bJ,res,cz,h1,⟨h2,h3,h4,h5,h6,h7⟩,h8⟩:=hW;refine⟨_,_,(by simp[jY,cls]),h8,λe2 K2 hx hK=>?_⟩;have e1:ev ⟨e2,σ.aa⟩ f=.fn g aT:=by rw[<- he];exact hx f (by simp[Op.operands,Call.operands])
   have e3:args.toList.map (ev ⟨e2,σ.aa⟩)=args.toList.map (ev σ):=kG λy hy=>hx y (by simp only[Op.operands,Call.operands,xk,cj];exact .inr hy);simp only[e1,e3];exact⟨ak,snap,cV,bJ,res,cz,h1,⟨h2,h3,h4,h5,λj c d hc hd=>aE.aa (σ:=σ) (σ2:=⟨e2,σ.aa⟩) rfl (h6 j c d hc hd),h7⟩,hK⟩
  ·exact hW.elim
 ·rename_i r m args eY dR;simp only[dR];split at hW
  ·rename_i t v he;obtain⟨g,x,⟨ak,snap,cV,bJ,res,cz,h1,⟨h2,h3,h4,h5,h6,h7⟩,h8⟩,VY⟩:=VW hW;refine⟨_,_,(by simp[jY,cls]),h8,λe2 K2 hx hK=>?_⟩;have e1:ev ⟨e2,σ.aa⟩ r=.gm t v:=by rw[<- he];exact hx r (by simp[Op.operands,Call.operands])
   have e3:args.toList.map (ev ⟨e2,σ.aa⟩)=args.toList.map (ev σ):=kG λy hy=>hx y (by simp only[Op.operands,Call.operands,xk,cj];exact .inr hy);simp only[e1,e3];exact VY e2 _ ⟨ak,snap,cV,bJ,res,cz,h1,⟨h2,h3,h4,h5,λj c d hc hd=>aE.aa (σ:=σ) (σ2:=⟨e2,σ.aa⟩) rfl (h6 j c d hc hd),h7⟩,hK⟩
  ·exact hW.elim
 ·rename_i df;obtain⟨v,os,h1,h2,h3⟩:=VZ hW;refine⟨v,os,h1,h2,λe2 K2 hx hK=>?_⟩;have:=h3 e2 K2 hx hK;exact this
def V0{o:Oper}{σ:St}{K:St->Prop}(hc:cls o.op<=2)(hW:a8 P o σ K):
  ∃ v,K (σ.put o.dst v)/\∀ (σ2:St) (K2:St->Prop),(∀ x∈o.op.operands.toList,ev σ2 x=ev σ x)->(∀ (id:Nat),iO (cls o.op) σ.aa[id]? σ2.aa[id]?)->K2 (σ2.put o.dst v)->a8 P o σ2 K2:=by
 unfold a8 at hW ⊢;split at hW
 ·rename_i f args eY dR;rw[dR]at hc;simp[cls]at hc
 ·rename_i r m args eY dR;rw[dR]at hc;simp[cls]at hc
 ·rename_i df;obtain⟨v,h2,h3⟩:=Jw hc hW;refine⟨v,h2,λσ2 K2 hx ho hK=>?_⟩;exact h3 σ2 K2 hx (λx _ id _=>ho id) hK
def Jx{q:Bool}{o:Oper}{σ:St}{K:St->Prop}(hW:kJ q P o σ K):
  ∃ v os,jY (fj q o) σ.aa os/\K ((⟨σ.env,os⟩:St).put o.dst v)/\∀ (e2:Nat->AV) (K2:St->Prop),(∀ x∈o.op.operands.toList,ev ⟨e2,σ.aa⟩ x=ev σ x)->K2 ((⟨e2,os⟩:St).put o.dst v)->kJ q P o ⟨e2,σ.aa⟩ K2:=by
 cases q with
 |false=>exact VX hW
 |true =>
  unfold kJ at hW ⊢;simp only at hW ⊢;split at hW
  ·rename_i f args eY dR;simp only[dR];split at hW
   ·rename_i g aT he;obtain⟨res,h1,h2,h3,h4⟩:=hW;refine⟨res,σ.aa,BK _ _,h4,λe2 K2 hx hK=>?_⟩;have e1:ev ⟨e2,σ.aa⟩ f=.fn g aT:=by rw[<- he];exact hx f (by simp[Op.operands,Call.operands])
    have e3:args.toList.map (ev ⟨e2,σ.aa⟩)=args.toList.map (ev σ):=kG λy hy=>hx y (by simp only[Op.operands,Call.operands,xk,cj];exact .inr hy);simp only[e1,e3];exact⟨res,h1,h2,h3,hK⟩
   ·exact hW.elim
  ·rename_i t a dR;obtain⟨x,h1,h2⟩:=E1 hW;refine⟨x,σ.aa,BK _ _,h1,λe2 K2 hx hK=>?_⟩;rw[hx a (by simp[dR,Op.operands])];exact h2 _ K2 hK
  ·exact hW.elim
def Jy{q:Bool}{o:Oper}{σ:St}{K:St->Prop}(hc:fj q o<=2)(hW:kJ q P o σ K):
  ∃ v,K (σ.put o.dst v)/\∀ (σ2:St) (K2:St->Prop),(∀ x∈o.op.operands.toList,ev σ2 x=ev σ x)->(∀ (id:Nat),iO (fj q o) σ.aa[id]? σ2.aa[id]?)->K2 (σ2.put o.dst v)->kJ q P o σ2 K2:=by
 cases q with
 |false=>exact V0 hc hW
 |true =>
  unfold kJ at hW ⊢;simp only at hW ⊢;split at hW
  ·rename_i f args eY dR;simp only[dR];split at hW
   ·rename_i g aT he;obtain⟨res,h1,h2,h3,h4⟩:=hW;refine⟨res,h4,λσ2 K2 hx _ hK=>?_⟩;have e1:ev σ2 f=.fn g aT:=by rw[<- he];exact hx f (by simp[Op.operands,Call.operands])
    have e3:args.toList.map (ev σ2)=args.toList.map (ev σ):=kG λy hy=>hx y (by simp only[Op.operands,Call.operands,xk,cj];exact .inr hy);simp only[e1,e3];exact⟨res,h1,h2,h3,hK⟩
   ·exact hW.elim
  ·rename_i t a dR;obtain⟨x,h1,h2⟩:=E1 hW;refine⟨x,h1,λσ2 K2 hx _ hK=>?_⟩;rw[hx a (by simp[dR,Op.operands])];exact h2 _ K2 hK
  ·exact hW.elim
def s7{ops:Array Oper}{o:Oper}{j d:Nat}{want:Bool}(hg:o.guard=some (j,want))(hd:(ops[j]?).bind (·.dst)=some d):d∈o.looksAt ops:=by
 unfold Oper.looksAt;rw[cj];right;simp[hg,hd]
def zk{ops:Array Oper}{q:Bool}{o:Oper}{σ:St}{K:St->Prop}(hW:dN P ops q o K σ):
  ∃ v os,jY (fj q o) σ.aa os/\K ((⟨σ.env,os⟩:St).put o.dst v)/\∀ (e2:Nat->AV) (K2:St->Prop),(∀ t∈o.looksAt ops,e2 t=σ.env t)->K2 ((⟨e2,os⟩:St).put o.dst v)->dN P ops q o K2 ⟨e2,σ.aa⟩:=by
 unfold dN at hW ⊢;cases hg:o.guard with
 |none =>
  simp only[hg]at hW;obtain⟨v,os,h1,h2,h3⟩:=Jx hW;exact⟨v,os,h1,h2,λe2 K2 hl hK=>h3 e2 K2 (s6 hl) hK⟩
 |some jw =>
  obtain⟨j,want⟩:=jw;simp only[hg]at hW;cases ee:(ops[j]?).bind (·.dst) with
  |none=>simp[ee]at hW
  |some d =>
   simp only[ee]at hW;split at hW
   ·rename_i b he;by_cases gR:b=want
    ·obtain⟨v,os,h1,h2,h3⟩:=Jx (hW.1 gR);refine⟨v,os,h1,h2,λe2 K2 hl hK=>?_⟩;have:e2 d=.lit (.bool b):=by rw[hl d (s7 hg ee)];exact he
     simp only[ee,this];exact⟨λ_=>h3 e2 K2 (s6 hl) hK,λhn=>absurd gR hn⟩
    ·refine⟨.lit (.tuple #[]),σ.aa,BK _ _,hW.2 gR,λe2 K2 hl hK=>?_⟩;have:e2 d=.lit (.bool b):=by rw[hl d (s7 hg ee)];exact he
     simp only[ee,this];exact⟨λhn=>absurd hn gR,λ_=>hK⟩
   ·rename_i vs he;refine⟨.lit (.tuple #[]),σ.aa,BK _ _,hW.2,λe2 K2 hl hK=>?_⟩;have:e2 d=.lit (.tuple vs):=by rw[hl d (s7 hg ee)];exact he
    simp only[ee,this];exact⟨hW.1,hK⟩
   ·exact hW.elim
def Jz{ops:Array Oper}{q:Bool}{o:Oper}{σ:St}{K:St->Prop}(hc:fj q o<=2)(hW:dN P ops q o K σ):
  ∃ v,K (σ.put o.dst v)/\∀ (σ2:St) (K2:St->Prop),(∀ t∈o.looksAt ops,σ2.env t=σ.env t)->(∀ (id:Nat),iO (fj q o) σ.aa[id]? σ2.aa[id]?)->K2 (σ2.put o.dst v)->dN P ops q o K2 σ2:=by
 unfold dN at hW ⊢;cases hg:o.guard with
 |none =>
  simp only[hg]at hW;obtain⟨v,h2,h3⟩:=Jy hc hW;exact⟨v,h2,λσ2 K2 hl ho hK=>h3 σ2 K2 (s6 (e2:=σ2.env) (os:=σ2.aa) hl) ho hK⟩
 |some jw =>
  obtain⟨j,want⟩:=jw;simp only[hg]at hW;cases ee:(ops[j]?).bind (·.dst) with
  |none=>simp[ee]at hW
  |some d =>
   simp only[ee]at hW;split at hW
   ·rename_i b he;by_cases gR:b=want
    ·obtain⟨v,h2,h3⟩:=Jy hc (hW.1 gR);refine⟨v,h2,λσ2 K2 hl ho hK=>?_⟩;have:σ2.env d=.lit (.bool b):=by rw[hl d (s7 hg ee)];exact he
     simp only[ee,this];exact⟨λ_=>h3 σ2 K2 (s6 (e2:=σ2.env) (os:=σ2.aa) hl) ho hK,λhn=>absurd gR hn⟩
    ·refine⟨.lit (.tuple #[]),hW.2 gR,λσ2 K2 hl ho hK=>?_⟩;have:σ2.env d=.lit (.bool b):=by rw[hl d (s7 hg ee)];exact he
     simp only[ee,this];exact⟨λhn=>absurd hn gR,λ_=>hK⟩
   ·rename_i vs he;refine⟨.lit (.tuple #[]),hW.2,λσ2 K2 hl ho hK=>?_⟩;have:σ2.env d=.lit (.tuple vs):=by rw[hl d (s7 hg ee)];exact he
    simp only[ee,this];exact⟨hW.1,hK⟩
   ·exact hW.elim
def uu{σ:St}{dst:Option Tmp}{v:AV}{t:Nat}(h:∀ d,dst=some d->d≠t):(σ.put dst v).env t=σ.env t:=by
 cases dst with
 |none=>rfl
 |some d =>
  have:=h d rfl;simp[St.put,iv,Ne.symm this]
def BM{σ:St}{x y:Option Tmp}{v u:AV}(h:∀ d,x=some d->y≠some d):(σ.put x v).put y u=(σ.put y u).put x v:=by
 cases x with
 |none=>rfl
 |some d =>
  cases y with
  |none=>rfl
  |some d' =>
   have df:d'≠d:=λe=>h d rfl (by rw[e]);simp only[St.put];congr 1;funext k;simp only[iv];split<;>split<;>simp_all
def BN{σ:St}{x:Option Tmp}{v:AV}:(σ.put x v).aa=σ.aa:=by cases x<;>rfl
def JA{σ:St}{x:Option Tmp}{v:AV}:σ.put x v=⟨(σ.put x v).env,σ.aa⟩:=by cases x<;>rfl
def BO{σ:St}{os:List Ob}{x:Option Tmp}{v:AV}:(⟨(σ.put x v).env,os⟩:St)=(⟨σ.env,os⟩:St).put x v:=by cases x<;>rfl
def xz(ci ck:Nat):Bool:=ci==0||ck==0||(ci==1&&decide (ck<=4))||(ci==2&&decide (ck<=3))
def JB{ci ck:Nat}(h:(ci==0||(ci==1&&decide (ck<=4))||(ci==2&&decide (ck<=3)))=true){a b:List Ob}(he:jY ck a b)(id:Nat):iO ci a[id]? b[id]?:=by
 simp only[ke,ba,beq_iff_eq,decide_eq_true_eq]at h;rcases h with(rfl|⟨rfl,hk⟩)|⟨rfl,hk⟩
 ·simp[iO]
 ·unfold jY at he;have:∀ o,a[id]?=some o->∃ o',b[id]?=some o'/\qC o o':=by
   intro o ho;have bq:=(aM.1 ho).1;split at he
   ·subst he;exact⟨o,ho,vS o⟩
   ·split at he
    ·exact⟨o,by rw[he id bq];exact ho,vS o⟩
    ·split at he
     ·have hb:id<b.length:=I6;exact⟨b[id],by simp[hb],he.2 id o _ ho (by simp[hb])⟩
     ·omega
  simpa [iO] using this
 ·unfold jY at he;have:∀ o,a[id]?=some o->b[id]?=some o:=by
   intro o ho;have bq:=(aM.1 ho).1;split at he
   ·subst he;exact ho
   ·split at he
    ·rw[he id bq];exact ho
    ·omega
  simpa [iO] using this
def V1{ops:Array Oper}{qi qk:Bool}{oi ok:Oper}(ha:oi.apart ops ok=true)(hi:fj qi oi<=2)(hc:(fj qi oi==0||(fj qi oi==1&&decide (fj qk ok<=4))||(fj qi oi==2&&decide (fj qk ok<=3)))=true){σ:St}{K:St->Prop}(h:dN P ops qi oi (dN P ops qk ok K) σ):dN P ops qk ok (dN P ops qi oi K) σ:=by
 obtain⟨a1,a2,a3⟩:=Oper.apart_spec ha;obtain⟨v,h1,run⟩:=Jz hi h;obtain⟨vk,os,vT,h2,zl⟩:=zk h1;rw[BN]at vT zl;refine zl σ.env _ (λt ht=>(uu λd hd e=>a1 d hd (e▸ht)).symm) ?_;refine run _ _ (λt ht=>?_) (λid=>?_) ?_
 ·rw[uu λd hd e=>a3 d hd (e▸ht)]
 ·rw[BN];exact JB hc vT id
 ·rw[BO]at h2;rw[BM (λd hd e=>a2 d e hd)];exact h2
def V3{ops:Array Oper}{qi qk:Bool}{oi ok:Oper}(ha:oi.apart ops ok=true)(hk:fj qk ok=0){σ:St}{K:St->Prop}(h:dN P ops qi oi (dN P ops qk ok K) σ):dN P ops qk ok (dN P ops qi oi K) σ:=by
 obtain⟨a1,a2,a3⟩:=Oper.apart_spec ha;obtain⟨vi,os,vT,h1,run⟩:=zk h;obtain⟨vk,h2,E2⟩:=Jz I6 h1;refine E2 σ _ (λt ht=>(uu (σ:=⟨σ.env,os⟩) λd hd e=>a1 d hd (e▸ht)).symm) (λid=>by rw[hk];simp[iO]) ?_;rw[JA];refine run _ _ (λt ht=>uu λd hd e=>a3 d hd (e▸ht)) ?_;rw[BO,BM (λd hd e=>a2 d e hd)];exact h2
def V4{ops:Array Oper}{qi qk:Bool}{oi ok:Oper}(ha:oi.apart ops ok=true)(hc:xz (fj qi oi) (fj qk ok)=true){σ:St}{K:St->Prop}(h:dN P ops qi oi (dN P ops qk ok K) σ):dN P ops qk ok (dN P ops qi oi K) σ:=by
 by_cases hk:fj qk ok=0
 ·exact V3 ha hk h
 ·have jZ:(fj qi oi==0||(fj qi oi==1&&decide (fj qk ok<=4))||(fj qi oi==2&&decide (fj qk ok<=3)))=true:=by
   simp only[xz,ke,ba,beq_iff_eq,decide_eq_true_eq]at hc ⊢;rcases hc with((h|h)|h)|h
   ·exact .inl (.inl h)
   ·exact absurd h hk
   ·exact .inl (.inr h)
   ·exact .inr h
  refine V1 ha ?_ jZ h;simp only[ke,ba,beq_iff_eq,decide_eq_true_eq]at jZ;omega
end Go.Am
namespace Go.Am
variable {P:Program} {N n0:Nat} {σ:St}
def cQ(P:Program)(ops:Array Oper)(qs:List Nat)(i:Nat)(K:St->Prop)(σ:St):Prop :=
 match ops[i]? with
 |none=>K σ
 |some o=>dN P ops (qs.contains i) o K σ
def rY(P:Program)(ops:Array Oper)(qs:List Nat)(K:St->Prop):Nat->Array Bool->St->Prop
 |0,aL,σ=>Region.ready .any ops aL=[]/\K σ
 |n+1,aL,σ=>(Region.ready .any ops aL=[]->K σ)/\∀ i∈Region.ready .any ops aL,cQ P ops qs i (rY P ops qs K n (aL.setIfInBounds i true)) σ
def zm{ops:Array Oper}{q:Bool}{o:Oper}{σ:St}{K K2:St->Prop}(hk:∀ s,K s->K2 s)(h:dN P ops q o K σ):dN P ops q o K2 σ:=by
 obtain⟨v,os,_,h2,run⟩:=zk h;exact run σ.env K2 (λ_ _=>rfl) (hk _ h2)
def V5{ops:Array Oper}{q:Bool}{o:Oper}{σ:St}{K:St->Prop}(h:dN P ops q o K σ):∃s,K s:=by
 obtain⟨v,os,_,h2,run⟩:=zk h;exact⟨_,h2⟩
def uv{ops:Array Oper}{qs:List Nat}{i:Nat}{σ:St}{K K2:St->Prop}(hk:∀ s,K s->K2 s)(h:cQ P ops qs i K σ):cQ P ops qs i K2 σ:=by
 unfold cQ at h ⊢;split at h
 ·exact hk _ h
 ·exact zm hk h
def V6{ops:Array Oper}{qs:List Nat}{i:Nat}{σ:St}{K:St->Prop}(h:cQ P ops qs i K σ):∃s,K s:=by
 unfold cQ at h;split at h
 ·exact⟨_,h⟩
 ·exact V5 h
def E3{os:List Ob}{γ0:Cx}{ops:Array Oper}{qs:List Nat}(hd:∀ o∈ops.toList,∀ d,o.dst=some d->d<N){K:St->Prop}{Q:Exit->Act->World->Prop}(hQ:∀ σ' a' w',K σ'->gl N os γ0 σ' a' w'->Q .normal a' w'):∀ (n:Nat) (aL:Array Bool) (σ:St) (a:Act) (w:World),rY P ops qs K n aL σ->gl N os γ0 σ a w->wpAny P .any ops Q n aL a w
 |0,aL,σ,a,w,h,aR=>⟨h.1,hQ _ _ _ h.2 aR⟩
 |n+1,aL,σ,a,w,h,aR=>by
  refine⟨λhr=>hQ _ _ _ (h.1 hr) aR,λi hi=>?_⟩;have:=h.2 i hi;unfold cQ at this;split at this
  ·rename_i hi';unfold wpOp;simp only[hi'];exact E3 hd hQ n _ _ _ _ this aR
  ·rename_i o hi';exact Ju hd hi' this aR λσ' a' w' hK eP=>E3 hd hQ n _ _ _ _ hK eP
def V7{id:Nat}{ops:Array Oper}{Q:Exit->St->Prop}(qs:List Nat)(hm:P.follows .mixedOrders=true)(hd:fS N ops=true)(h:rY P ops qs (Q .normal) ops.size (vC ops.size false) σ):W P N n0 (.region id ops true) Q σ:=by
 intro os γ0 a w _ aR;refine wp_region_any hm ?_;exact E3 (pK hd) (K:=Q .normal) (λσ' a' w' hK eP=>⟨σ',hK,eP⟩) _ _ _ _ _ h aR.drawn
def V8{ops:Array Oper}{qs:List Nat}{K:St->Prop}{i:Nat}{o:Oper}(hi:ops[i]?=some o)(D:List Nat)(V9:i∈D)(hD:∀ j∈D,j=i\/∃ oj,ops[j]?=some oj/\∃ e∈oj.after,Region.binds .any e=true/\e.on∈D):∀ (fuel:Nat) (aL:Array Bool) (σ:St),(∀ j∈D,aL.getD j true=false) ->
   i∈Region.ready .any ops aL ->
   (∀ j oj,ops[j]?=some oj->aL.getD j true=false->j ∉ D->o.apart ops oj=true/\xz (fj (qs.contains i) o) (fj (qs.contains j) oj)=true) ->
   cQ P ops qs i (rY P ops qs K fuel (aL.setIfInBounds i true)) σ->rY P ops qs K (fuel+1) aL σ:=by
 intro fuel
 induction fuel with
 |zero =>
  intro aL σ hu hr nf h;refine⟨λe=>by rw[e]at hr;simp at hr,λk hk=>?_⟩;by_cases gT:k=i
  ·subst gT;exact h
  ·obtain⟨s,hs⟩:=V6 h;have:=ready_mono hk gT;rw[hs.1]at this;simp at this
 |succ m ih =>
  intro aL σ hu hr nf h;refine⟨λe=>by rw[e]at hr;simp at hr,λk hk=>?_⟩;by_cases gT:k=i
  ·subst gT;exact h
  ·have zn:=mem_ready.1 hk;obtain⟨cr,ok,aR,dO⟩:=zn;have s8:k ∉ D:=by
    intro s8;rcases hD k s8 with e|⟨oj,kj,e,he,hb,vU⟩
    ·exact gT e
    ·rw[aR]at kj;simp only[cT.injEq]at kj;subst kj;have h1:=dO e he hb;have h2:=hu e.on vU;rw[eN]at h1 h2;cases hx:aL[e.on]? with
     |none=>rw[hx]at h1;simp at h1
     |some b=>rw[hx]at h1 h2;simp at h1 h2;rw[h1]at h2;simp at h2
   obtain⟨ha,hc⟩:=nf k ok aR cr s8;have h1:cQ P ops qs i (cQ P ops qs k (rY P ops qs K m ((aL.setIfInBounds i true).setIfInBounds k true))) σ :=
    uv (λs hs=>hs.2 k (ready_mono hk gT)) h
   have h2:cQ P ops qs k (cQ P ops qs i (rY P ops qs K m ((aL.setIfInBounds i true).setIfInBounds k true))) σ:=by
    unfold cQ at h1 ⊢;simp only[hi,aR]at h1 ⊢;exact V4 ha hc h1
   refine uv (λs hs=>?_) h2;refine ih (aL.setIfInBounds k true) s (λj hj=>?_) (ready_mono hr (Ne.symm gT)) (λj oj kj hl pL=>?_) ?_
   ·have df:k≠j:=λe=>s8 (by rw[e];exact hj);rw[getD_set_ne _ df];exact hu j hj
   ·refine nf j oj kj ?_ pL;by_cases zo:k=j
    ·subst zo;exact cr
    ·rwa [getD_set_ne _ zo]at hl
   ·rw[Array.setIfInBounds_comm _ _ (Ne.symm gT)]at hs;exact hs
def E4(ops:Array Oper)(i:Nat):List Nat :=
 (aN ops.size).foldl (λD j=>if j==i||(match ops[j]? with|some oj=>oj.after.any (λe=>Region.binds .any e&&D.contains e.on)|none=>false) then D++[j] else D) []
def BQ(ops:Array Oper)(qs:List Nat)(aL:Array Bool)(i:Nat)(D:List Nat):Bool :=
 match ops[i]? with
 |none=>false
 |some o =>
  D.contains i&&D.all (λj=>j==i||match ops[j]? with|some oj=>oj.after.any (λe=>Region.binds .any e&&D.contains e.on)|none=>false) &&
  D.all (λj=>!aL.getD j true)&&o.after.all (λe=>!Region.binds .any e||aL.getD e.on false) &&
  (aN ops.size).all λj=>D.contains j||aL.getD j true||match ops[j]? with|some oj=>o.apart ops oj&&xz (fj (qs.contains i) o) (fj (qs.contains j) oj)|none=>true
def V'{ops:Array Oper}{qs:List Nat}{K:St->Prop}{i:Nat}{D:List Nat}{fuel:Nat}{aL:Array Bool}(h:BQ ops qs aL i D=true)(hs:cQ P ops qs i (rY P ops qs K fuel (aL.setIfInBounds i true)) σ):rY P ops qs K (fuel+1) aL σ:=by
 unfold BQ at h;cases hi:ops[i]? with
 |none=>simp[hi]at h
 |some o =>
  simp only[hi,ba,List.all_eq_true,sV,ke,beq_iff_eq,Bool.not_eq_true']at h;obtain⟨⟨⟨⟨h1,h2⟩,h3⟩,h4⟩,h5⟩:=h;refine V8 hi D h1 (λj hj=>?_) fuel aL σ h3 ?_ ?_ hs
  ·rcases h2 j hj with h|h
   ·exact .inl h
   ·right;split at h
    ·rename_i oj kj;rw[Array.any_eq_true']at h;obtain⟨e,he,hb⟩:=h;simp only[ba,sV]at hb;exact⟨oj,kj,e,he,hb.1,hb.2⟩
    ·simp at h
  ·rw[mem_ready];refine⟨h3 i h1,o,hi,λe he hb=>?_⟩;rw[Array.all_eq_true']at h4;have:=h4 e he;simpa [hb] using this
  ·intro j oj kj hl pL;have hj:j<ops.size:=(Array.getElem?_eq_some_iff.1 kj).1;rcases h5 j (List.mem_range.2 hj) with(h|h)|h
   ·exact absurd h pL
   ·rw[hl]at h;simp at h
   ·simpa [kj] using h
inductive PT where
 |nil
 |take (i:Nat) (t:PT)
 |both (i:Nat) (t:PT) (j:Nat) (u:PT)
 |three (i:Nat) (t:PT) (j:Nat) (u:PT) (k:Nat) (v:PT)
def PT.ok(ops:Array Oper)(qs:List Nat):PT->Nat->Array Bool->Bool
 |.nil,n,aL=>n==0&&(Region.ready .any ops aL).isEmpty
 |.take _ _,0,_=>false
 |.take i t,n+1,aL=>BQ ops qs aL i (E4 ops i)&&t.ok ops qs n (aL.setIfInBounds i true)
 |.both _ _ _ _,0,_=>false
 |.both i t j u,n+1,aL=>(Region.ready .any ops aL==[i,j])&&t.ok ops qs n (aL.setIfInBounds i true)&&u.ok ops qs n (aL.setIfInBounds j true)
 |.three _ _ _ _ _ _,0,_=>false
 |.three i t j u k v,n+1,aL=>(Region.ready .any ops aL==[i,j,k])&&t.ok ops qs n (aL.setIfInBounds i true)&&u.ok ops qs n (aL.setIfInBounds j true)&&v.ok ops qs n (aL.setIfInBounds k true)
def iP(P:Program)(ops:Array Oper)(qs:List Nat):PT->(St->Prop)->St->Prop
 |.nil,K,σ=>K σ
 |.take i t,K,σ=>cQ P ops qs i (iP P ops qs t K) σ
 |.both i t j u,K,σ=>cQ P ops qs i (iP P ops qs t K) σ/\cQ P ops qs j (iP P ops qs u K) σ
 |.three i t j u k v,K,σ=>cQ P ops qs i (iP P ops qs t K) σ/\cQ P ops qs j (iP P ops qs u K) σ/\cQ P ops qs k (iP P ops qs v K) σ
def vV{ops:Array Oper}{qs:List Nat}{K:St->Prop}:∀ (t:PT) (n:Nat) (aL:Array Bool) (σ:St),t.ok ops qs n aL=true->iP P ops qs t K σ->rY P ops qs K n aL σ
 |.nil,n,aL,σ,h,hp=>by
  simp only[PT.ok,ba,beq_iff_eq,List.isEmpty_iff]at h;obtain⟨rfl,h⟩:=h;exact⟨h,hp⟩
 |.take _ _,0,_,_,h,_=>by simp[PT.ok]at h
 |.take i t,n+1,aL,σ,h,hp=>by
  simp only[PT.ok,ba]at h;exact V' h.1 (uv (λs hs=>vV t n _ s h.2 hs) hp)
 |.both _ _ _ _,0,_,_,h,_=>by simp[PT.ok]at h
 |.both i t j u,n+1,aL,σ,h,hp=>by
  simp only[PT.ok,ba,beq_iff_eq]at h;obtain⟨⟨h1,h2⟩,h3⟩:=h;refine⟨λe=>by rw[h1]at e;simp at e,λk hk=>?_⟩;rw[h1]at hk;simp only[b8,k8,or_false]at hk;rcases hk with rfl|rfl
  ·exact uv (λs hs=>vV t n _ s h2 hs) hp.1
  ·exact uv (λs hs=>vV u n _ s h3 hs) hp.2
 |.three _ _ _ _ _ _,0,_,_,h,_=>by simp[PT.ok]at h
 |.three i t j u k v,n+1,aL,σ,h,hp=>by
  simp only[PT.ok,ba,beq_iff_eq]at h;obtain⟨⟨⟨h1,h2⟩,h3⟩,h4⟩:=h;refine⟨λe=>by rw[h1]at e;simp at e,λx hk=>?_⟩;rw[h1]at hk;simp only[b8,k8,or_false]at hk;rcases hk with rfl|rfl|rfl
  ·exact uv (λs hs=>vV t n _ s h2 hs) hp.1
  ·exact uv (λs hs=>vV u n _ s h3 hs) hp.2.1
  ·exact uv (λs hs=>vV v n _ s h4 hs) hp.2.2
def lg{id:Nat}{ops:Array Oper}{Q:Exit->St->Prop}(qs:List Nat)(t:PT)(hm:P.follows .mixedOrders=true)(hd:fS N ops=true)(ht:t.ok ops qs ops.size (vC ops.size false)=true)(h:iP P ops qs t (Q .normal) σ):W P N n0 (.region id ops true) Q σ :=
 V7 qs hm hd (vV t _ _ σ ht h)
def JC{id:Nat}{ops:Array Oper}{y:Code}{Q:Exit->St->Prop}(qs:List Nat)(t:PT)(hm:P.follows .mixedOrders=true)(hd:fS N ops=true)(ht:t.ok ops qs ops.size (vC ops.size false)=true)(h:∀ K:St->Prop,(∀ s,W P N n0 y Q s->K s)->iP P ops qs t K σ):W P N n0 (.seq (.region id ops true) y) Q σ :=
 E5 (lg qs t hm hd ht (h _ (λ_ h=>h)))
def uw{ops:Array Oper}{qs:List Nat}{K:St->Prop}:iP P ops qs .nil K σ=K σ:=rfl
def ux{ops:Array Oper}{qs:List Nat}{i:Nat}{t:PT}{K:St->Prop}:iP P ops qs (.take i t) K σ=cQ P ops qs i (iP P ops qs t K) σ:=rfl
def JD{ops:Array Oper}{qs:List Nat}{i j k:Nat}{t u v:PT}{K:St->Prop}:iP P ops qs (.three i t j u k v) K σ=(cQ P ops qs i (iP P ops qs t K) σ/\cQ P ops qs j (iP P ops qs u K) σ/\cQ P ops qs k (iP P ops qs v K) σ):=rfl
def xA{ops:Array Oper}{qs:List Nat}{i j:Nat}{t u:PT}{K:St->Prop}:iP P ops qs (.both i t j u) K σ=(cQ P ops qs i (iP P ops qs t K) σ/\cQ P ops qs j (iP P ops qs u K) σ):=rfl
def JE{q:Bool}{o:Oper}{K:St->Prop}:m8 q P o K true true σ=kJ q P o σ K:=by simp[m8]
def JF{q:Bool}{o:Oper}{K:St->Prop}:m8 q P o K false false σ=kJ q P o σ K:=by simp[m8]
def JG{q:Bool}{o:Oper}{K:St->Prop}:m8 q P o K true false σ=K (σ.put o.dst (.lit (.tuple #[]))):=by simp[m8]
def JH{q:Bool}{o:Oper}{K:St->Prop}:m8 q P o K false true σ=K (σ.put o.dst (.lit (.tuple #[]))):=by simp[m8]
def Wa{q:Bool}{o:Oper}{K:St->Prop}{b want:Bool}(h1:b=true->m8 q P o K true want σ)(h2:b=false->m8 q P o K false want σ):m8 q P o K b want σ:=by
 cases b
 ·exact h2 rfl
 ·exact h1 rfl
def iQ:List Nat->PT
 |[]=>.nil
 |i::r=>.take i (iQ r)
end Go.Am
namespace Go.Am
variable {P:Program} {N n0:Nat} {σ:St} {Q:Exit->St->Prop}
def ax:List (Nat×AV)->Nat->AV
 |[]=>λ_=>.undef
 |p::l=>iv (ax l) p.1 p.2
def BR(d:Nat)(v:AV)(l:List (Nat×AV)):ax ((d,v)::l)=iv (ax l) d v:=rfl
def BS(l:List (Nat×AV))(k:Nat):ax l k=.undef\/∃ p∈l,p.1=k/\ax l k=p.2:=by
 induction l with
 |nil=>exact .inl rfl
 |cons p l ih =>
  by_cases h:k=p.1
  ·right;exact⟨p,Jd,h.symm,by simp[ax,iv,h]⟩
  ·have e:ax (p::l) k=ax l k:=by simp[ax,iv,h]
   rw[e];rcases ih with h|⟨q,hq,h1,h2⟩
   ·exact .inl h
   ·exact .inr ⟨q,by simp[hq],h1,h2⟩
def Has(e:Nat->AV):List (Nat×AV)->Prop
 |[]=>True
 |p::l=>e p.1=p.2/\Has e l
def Has.mem{e:Nat->AV}:∀ {l:List (Nat×AV)},Has e l->∀ p∈l,e p.1=p.2
 |q::l,h,p,hp=>by
  rcases b8.1 hp with rfl|hp
  ·exact h.1
  ·exact Has.mem h.2 p hp
def aB.ax(l:List (Nat×AV))(os:List Ob)(ho:σ.aa=os)(h:Has σ.env l):aB n0 σ ⟨ax l,os⟩:=by
 subst ho;refine aB.forget λk=>?_;rcases BS l k with h'|⟨p,hp,rfl,h'⟩
 ·exact .inl h'
 ·right;rw[h',h.mem p hp]
def ng(ρ:Nat->Nat)(os:List Ob):List Nat->List Ob->Prop
 |[],[]=>True
 |i::ak,o::co=>(i<os.length/\(o=.gone\/os[i]?=some (bH ρ o)))/\ng ρ os ak co
 |_,_=>False
def ng.spec{ρ:Nat->Nat}{os:List Ob}:∀ {ak:List Nat} {co:List Ob},ng ρ os ak co->co.length=ak.length/\(∀ (j:Nat) o,co[j]?=some o->o=.gone\/os[ak.getD j 0]?=some (bH ρ o))/\∀ i∈ak,i<os.length
 |[],[],_=>⟨rfl,Jd,Jd⟩
 |i::ak,o::co,h=>by
  obtain⟨⟨h1,h2⟩,h3⟩:=h;obtain⟨a,b,c⟩:=ng.spec h3;refine⟨by simp[a],λj o' hj=>?_,λx hx=>?_⟩
  ·cases j with
   |zero=>simp at hj;subst hj;simpa using h2
   |succ j=>simpa using b j o' (by simpa using hj)
  ·rcases b8.1 hx with rfl|hx
   ·exact h1
   ·exact c x hx
def pM(R:AV->AV->Prop)(e:Nat->AV):List (Nat×AV)->Prop
 |[]=>True
 |p::l=>R p.2 (e p.1)/\pM R e l
def pM.mem{R:AV->AV->Prop}{e:Nat->AV}:∀ {l:List (Nat×AV)},pM R e l->∀ p∈l,R p.2 (e p.1)
 |q::l,h,p,hp=>by
  rcases b8.1 hp with rfl|hp
  ·exact h.1
  ·exact pM.mem h.2 p hp
def kept(ak:List Nat)(co:List Ob)(id:Nat):Prop:=∃ j,j<ak.length/\ak.getD j 0=id/\co[j]?≠some .gone
def aB.ak(ak:List Nat)(snap:Bool)(l:List (Nat×AV))(co:List Ob)(cu:ak.Nodup)(ho:ng (bm σ.aa.length ak) σ.aa ak co)(hn:n0<=ak.length)(cP:∀ i,i<n0->ak.getD i 0=i)(h:pM (aE σ (kept ak co) (bm σ.aa.length ak) snap) σ.env l):aB n0 σ ⟨Am.ax l,co⟩:=by
 obtain⟨h1,h2,h3⟩:=ho.spec;refine aB.select ak snap co _ cu h1 h2 h3 hn cP λk=>?_;rcases BS l k with h'|⟨p,hp,rfl,h'⟩
 ·exact .inl h'
 ·right;rw[h'];exact h.mem p hp
def aE.pure{kp:Nat->Prop}{ρ:Nat->Nat}{snap:Bool}{v:AV}(h:eO v=true):aE σ kp ρ snap v v:=by
 have:=aE.same (σ:=σ) (kp:=kp) (ρ:=ρ) (snap:=snap) v;rwa [vW _ v h]at this
def aE.eq{kp:Nat->Prop}{ρ:Nat->Nat}{snap:Bool}{v u:AV}(h:u=aX ρ v):aE σ kp ρ snap v u:=by
 subst h;exact .same v
def b9.flat{kp:Nat->Prop}{id sz len:Nat}{rows:List (List AV)}(ho:σ.aa[id]?=some (.arr sz rows))(hw:∀ row∈rows,row.length=sz)(hl:len=rows.length)(pJ:¬ kp id)(hf:∀ row∈rows,∀ v∈row,(∃ x,v=.lit x)\/∃ s r,v=.tree s r):
  b9 σ kp (.tree sz rows) (.ref id sz 0 len):=by
 refine .ref id sz 0 len rows rows (λr c=>(cellAt rows r c).getD .undef) ho pJ (by simp[hl]) hw (λr c v hv=>?_) (λr c v hv=>?_)
 ·simp[hl,hv]
 ·rw[hv,Option.getD_some];simp only[cellAt,Option.bind_eq_some_iff]at hv;obtain⟨row,h1,h2⟩:=hv;rcases hf row (gf h1) v (gf h2) with⟨x,rfl⟩|⟨s,r,rfl⟩
  ·exact .lit x
  ·exact .tree s r
def aE.nil{kp:Nat->Prop}{ρ:Nat->Nat}{sz:Nat}:aE σ kp ρ true (.tree sz []) (.lit (.slice none 0 0)):=.snap _ _ rfl (.nil sz)
def aE.bS{kp:Nat->Prop}{ρ:Nat->Nat}{id sz len:Nat}{rows:List (List AV)}(ho:σ.aa[id]?=some (.arr sz rows))(hw:∀ row∈rows,row.length=sz)(hl:len=rows.length)(pJ:¬ kp id)(hf:∀ row∈rows,∀ v∈row,(∃ x,v=.lit x)\/∃ s r,v=.tree s r):
  aE σ kp ρ true (.tree sz rows) (.ref id sz 0 len):=.snap _ _ rfl (b9.flat ho hw hl pJ hf)
def Wd{α:Type}(n0:Nat)(S:α->St)(I:α->Prop)(M:α->Nat)(x:α)(Q:Exit->St->Prop):Exit->St->Prop
 |.normal,s=>∃ y,I y/\M y<M x/\aB n0 s (S y)
 |e,s=>Q e s
def We{α:Type}{c:Code}(S:α->St)(I:α->Prop)(M:α->Nat)(x0:α)(hI:I x0)(h0:aB n0 σ (S x0))(round:∀ x,I x->∀ Q':Exit->St->Prop,(∀ s y,I y->M y<M x->aB n0 s (S y)->Q' .normal s)->(∀ e s,e≠.normal->Q e s->Q' e s)->W P N n0 c Q' (S x)):W P N n0 (.loop c) Q σ:=by
 refine bP h0 ?_;intro os γ0 a w hn aR b k cs;have key:∀ n x a w,M x=n->I x->gl N os γ0 (S x) a w ->
   ∃ e a' w',(∃ σ',Q e σ'/\gl N os γ0 σ' a' w')/\Arrives P (lone (b.at a (.code c::.inLoop c::k)) cs w) b k cs e a' w':=by
  intro n
  induction n using Nat.strongRecOn with
  |_ n ih =>
   intro x a w hm hI aR;have hr:W P N n0 c (Wd n0 S I M x Q) (S x):=round x hI _ (λs y h1 h2 h3=>⟨y,h1,h2,h3⟩) (λe s he h=>by cases e<;>first|exact absurd rfl he|exact h);obtain⟨e,xB,zp,⟨σ',hq,eP⟩,j3⟩:=hr os γ0 a w hn aR b (.inLoop c::k) cs;cases e with
   |normal =>
    obtain⟨y,Wf,bq,ht⟩:=hq;obtain⟨h1,h2,γ,rfl,h3,h4,h5⟩:=eP;obtain⟨aD,e1,e2,e3,e4⟩:=ht os γ0 γ hn h4 h5;obtain⟨Wg,Wh,Wi,Wj,Wl⟩:=ih (M y) I6 y xB γ.w rfl Wf ⟨h1,h2,aD,e1,e2.trans h3,e3,e4⟩;exact⟨Wg,Wh,Wi,Wj,.of_steps (Steps.trans j3 (.one step_inLoop)) Wl⟩
   |exit id=>exact⟨_,xB,zp,⟨σ',hq,eP⟩,.pass (x:=.inLoop c) rfl (λ_ _=>.inl Jd) j3⟩
   |goto l=>exact⟨_,xB,zp,⟨σ',hq,eP⟩,.pass (x:=.inLoop c) rfl (λ_ _=>.inl Jd) j3⟩
   |ret=>exact⟨_,xB,zp,⟨σ',hq,eP⟩,.pass (x:=.inLoop c) rfl (λ_ _=>.inl Jd) j3⟩
   |panic ch=>exact⟨_,xB,zp,⟨σ',hq,eP⟩,.pass (x:=.inLoop c) rfl (λ_ _=>.inl Jd) j3⟩
   |outgrown=>exact⟨_,xB,zp,⟨σ',hq,eP⟩,.pass (x:=.inLoop c) rfl (λ_ _=>.inl Jd) j3⟩
 obtain⟨e,a',w',hq,j3⟩:=key _ x0 a w rfl hI aR;exact⟨e,a',w',hq,.of_steps (.one step_loop) j3⟩
def Wm{id:Nat}{c:Code}(h:∀ Q':Exit->St->Prop,(∀ s,Q .normal s->Q' .normal s)->(∀ s,Q .normal s->Q' (.exit id) s)->(∀ e s,e≠.normal->e≠.exit id->Q e s->Q' e s)->W P N n0 c Q' σ):W P N n0 (.block id c) Q σ :=
 Wn (h _ (λs h=>h) (λs h=>by simp only[BT,if_true];exact h) (λe s h1 h2 h=>by
  cases e<;>first
   |exact absurd rfl h1
   |exact h
   | (rename_i vX;simp only[BT];rw[if_neg (λe=>h2 (by rw[e]))];exact h)))
def zq{ρ:Nat->Nat}{sz:Nat}{rows:List (List AV)}(h:∀ row∈rows,gF row=true):bH ρ (.arr sz rows)=.arr sz rows:=by
 simp only[bH];congr 1;have:∀ row∈rows,row.map (aX ρ)=row:=λrow hr=>by
  have:=xC ρ row (h row hr);rwa [s9]at this
 rw[kG this];simp
def Wo(n j:Nat):bm n (aN n) j=j:=by
 unfold bm;split
 ·rename_i h;have h':j<n:=by simpa using h
  simp[aA,oN h']
 ·rename_i h;simp at h ⊢;omega
mutual
def uy:∀ (v:AV),aX (λj=>j) v=v
 |.undef=>rfl
 |.lit _=>rfl
 |.tree ..=>rfl
 |.cq _=>rfl
 |.ref ..=>rfl
 |.ptr ..=>rfl
 |.agg cs=>by simp only[aX];rw[BU cs]
 |.bO cs=>by simp only[aX];rw[BU cs]
 |.fn f cs=>by simp only[aX];rw[BU cs]
 |.gm t v=>by simp only[aX];rw[uy v]
 |.fT _=>rfl
def BU:∀ (l:List AV),nh (λj=>j) l=l
 |[]=>rfl
 |v::vs=>by simp only[nh];rw[uy v,BU vs]
end
def zr(o:Ob):bH (λj=>j) o=o:=by
 have h:aX (λj=>j)=id:=by funext v;exact uy v
 cases o with
 |gone=>rfl
 |var cs=>simp[bH,h]
 |arr sz rows=>simp[bH,h]
 |mp ag L=>simp[bH,h]
def uz(n:Nat):bm n (aN n)=λj=>j:=by funext j;exact Wo n j
def JI(aa:List Ob):∀ (bg:List Ob),aa.length<=bg.length->dY aa (aN aa.length) bg=bg:=by
 intro bg h;have hlen:(aN aa.length).length<=bg.length:=by simpa using h
 apply List.ext_getElem?;intro i;rcases Nat.lt_or_ge i aa.length with hi|hi
 ·have:=BV (aN aa.length) aa bg hlen (I3) Jd i (by simpa using hi);simpa [aA,oN hi] using this
 ·have JJ:=E6 (aN aa.length) aa bg hlen;obtain⟨j,rfl⟩:∃j,i=aa.length+j:=⟨i-aa.length,I6⟩;have:=JK (aN aa.length) aa bg hlen j;simpa using this
def lh{f:FuncId}{args:List AV}{dst:Option Tmp}{K:St->Prop}{res:AV}{bg:List Ob}(h:an P f args σ.aa res bg)(hl:σ.aa.length<=bg.length)(hK:K ((⟨σ.env,bg⟩:St).put dst res)):oQ P f args dst K σ:=by
 refine⟨aN σ.aa.length,false,args,σ.aa,res,bg,h,⟨I3,Jd,?_,rfl,?_,Jd⟩,?_⟩
 ·intro j o hj;have bq:=(aM.1 hj).1;rw[uz,zr];simpa [aA,oN bq] using hj
 ·intro j c d hc hd;rw[hc]at hd;simp only[cT.injEq]at hd;subst hd;exact .eq (by rw[uz,uy])
 ·rw[uz,uy];have:bg.map (bH (λj=>j))=bg:=by
   have h:bH (λj=>j)=id:=by funext o;exact zr o
   simp[h]
  rw[this,JI _ _ hl];exact hK
end Go.Am
namespace Go.Am
variable {P:Program} {N n0:Nat} {σ:St} {Q:Exit->St->Prop}
def Wp{id:Nat}{ops:Array Oper}(hd:fS N ops=true)(h:∀ K:St->Prop,(∀ s,Q .normal s->K s)->opsL P ops ops.toList K σ):W P N n0 (.region id ops false) Q σ :=
 JL hd (h _ (λ_ h=>h))
def E7{ops:Array Oper}{K:St->Prop}:∀ (l:List Oper) (i:Nat) (σ:St),ops.toList.drop i=l->opsL P ops l K σ->iP P ops [] (iQ (lU i l.length)) K σ
 |[],i,σ,_,h=>h
 |o::r,i,σ,hl,h=>by
  have hi:ops[i]?=some o:=by
   have:(ops.toList.drop i)[0]?=some o:=by rw[hl];rfl
   simpa using this
  have hr:ops.toList.drop (i+1)=r:=by
   have:=congrArg List.tail hl;simpa [List.tail_drop] using this
  rw[dz,ue];show cQ P ops [] i (iP P ops [] (iQ (lU (i+1) r.length)) K) σ;unfold cQ;simp only[hi];have hm:∀ s,opsL P ops r K s->iP P ops [] (iQ (lU (i+1) r.length)) K s:=λs hs=>E7 r (i+1) s hr hs;refine zm hm ?_;unfold opsL at h;unfold dN;cases hg:o.guard with
  |none=>simp only[hg]at h;exact h
  |some jw =>
   obtain⟨j,want⟩:=jw;simp only[hg]at h;exact h
def vY(ops:Array Oper):Bool:=(iQ (aN ops.size)).ok ops [] ops.size (vC ops.size false)
def Wq{id:Nat}{ops:Array Oper}{y:Code}(hm:P.follows .mixedOrders=true)(hd:fS N ops=true)(ht:vY ops=true)(h:∀ K:St->Prop,(∀ s,W P N n0 y Q s->K s)->opsL P ops ops.toList K σ):
  W P N n0 (.seq (.region id ops true) y) Q σ :=
 JC [] _ hm hd ht λK hK=>by
  have:=E7 (P:=P) (ops:=ops) ops.toList 0 σ rfl (h K hK);rw[uf];simpa using this
def Wr{id:Nat}{ops:Array Oper}(hm:P.follows .mixedOrders=true)(hd:fS N ops=true)(ht:vY ops=true)(h:∀ K:St->Prop,(∀ s,Q .normal s->K s)->opsL P ops ops.toList K σ):
  W P N n0 (.region id ops true) Q σ :=
 lg [] _ hm hd ht (by
  have:=E7 (P:=P) (ops:=ops) ops.toList 0 σ rfl (h _ (λ_ h=>h));rw[uf];simpa using this)
def aO{v res:AV}(hr:eO v=true)(h:v=res):mB 0 σ v res []:=by
 subst h;exact BW hr
def BX(e:Nat->AV)(d:Nat)(v:AV)(k:Nat):iv e d v k=if k=d then v else e k:=by simp only[iv]
def JM:IntKind.i64.min = -9223372036854775808:=rfl
def JN:IntKind.i64.max=9223372036854775807:=rfl
def ints(xs:List Int):List (List AV):=xs.map λx=>[aa3 x]
def aY(xs:List Bool):List (List AV):=xs.map λx=>[.lit (.bool x)]
def fF(xs:List (List Int)):List (List AV):=xs.map λx=>[.tree 1 (ints x)]
def ni(xs:List Int):(ints xs).length=xs.length:=by simp[ints]
def vZ(xs:List Bool):(aY xs).length=xs.length:=by simp[aY]
def pN(xs:List (List Int)):(fF xs).length=xs.length:=by simp[fF]
def JO(xs:List Int)(i:Nat)(h:i<xs.length):(ints xs).getD i []=[aa3 (xs.getD i 0)]:=by simp[ints,h]
def JP(xs:List Bool)(i:Nat)(h:i<xs.length):(aY xs).getD i []=[.lit (.bool (xs.getD i false))]:=by simp[aY,h]
def JQ(xs:List (List Int))(i:Nat)(h:i<xs.length):(fF xs).getD i []=[.tree 1 (ints (xs.getD i []))]:=by simp[fF,h]
def JR(xs:List Int)(i:Nat)(h:i<xs.length):(ints xs)[i]?=some [aa3 (xs.getD i 0)]:=by simp[ints,h]
def JS(xs:List Bool)(i:Nat)(h:i<xs.length):(aY xs)[i]?=some [.lit (.bool (xs.getD i false))]:=by simp[aY,h]
def JT(xs:List (List Int))(i:Nat)(h:i<xs.length):(fF xs)[i]?=some [.tree 1 (ints (xs.getD i []))]:=by simp[fF,h]
def ints_set(xs:List Int)(i:Nat)(v:Int):(ints xs).set i [aa3 v]=ints (xs.set i v):=by simp[ints,sW]
def E8(xs:List Bool)(i:Nat)(v:Bool):(aY xs).set i [.lit (.bool v)]=aY (xs.set i v):=by simp[aY,sW]
def JU(xs ys:List Int):ints xs++ints ys=ints (xs++ys):=by simp[ints]
def BY(xs:List Int)(v:Int):ints xs++[[aa3 v]]=ints (xs++[v]):=by simp[ints]
def E9(xs:List (List Int))(v:List Int):fF xs++[[.tree 1 (ints v)]]=fF (xs++[v]):=by simp[fF]
def JV(xs:List Bool)(v:Bool):aY xs++[[.lit (.bool v)]]=aY (xs++[v]):=by simp[aY]
def BZ(n:Nat)(v:Int):b6 n [AV.lit (.int .i64 v)]=ints (b6 n v):=by simp[ints]
def E'(n:Nat)(v:Bool):b6 n [AV.lit (.bool v)]=aY (b6 n v):=by simp[aY]
def zs(xs:List Int):((ints xs).all λrow=>row.all b7)=true:=by simp[ints,b7,Value.oneCell']
def JW(xs:List Bool):((aY xs).all λrow=>row.all b7)=true:=by simp[aY,b7,Value.oneCell']
def JX(xs:List (List Int)):((fF xs).all λrow=>row.all b7)=true:=by simp[fF,b7]
def uA(ρ:Nat->Nat)(sz:Nat)(xs:List Int):bH ρ (.arr sz (ints xs))=.arr sz (ints xs):=zq (by simp[ints,gF,eO])
def xD(ρ:Nat->Nat)(sz:Nat)(xs:List Bool):bH ρ (.arr sz (aY xs))=.arr sz (aY xs):=zq (by
 intro row hr;simp only[aY,bZ]at hr;obtain⟨x,_,rfl⟩:=hr;rfl)
def B0(ρ:Nat->Nat)(sz:Nat)(xs:List (List Int)):bH ρ (.arr sz (fF xs))=.arr sz (fF xs):=zq (by simp[fF,gF,eO])
def qD(xs:List Int):∀ row∈ints xs,∀ v∈row,(∃ x,v=AV.lit x)\/∃ s r,v=AV.tree s r:=by
 intro row hr v hv;simp only[ints,bZ]at hr;obtain⟨x,_,rfl⟩:=hr;simp at hv;exact .inl ⟨_,hv⟩
def B1(xs:List Bool):∀ row∈aY xs,∀ v∈row,(∃ x,v=AV.lit x)\/∃ s r,v=AV.tree s r:=by
 intro row hr v hv;simp only[aY,bZ]at hr;obtain⟨x,_,rfl⟩:=hr;simp at hv;exact .inl ⟨_,hv⟩
def JY(xs:List (List Int)):∀ row∈fF xs,∀ v∈row,(∃ x,v=AV.lit x)\/∃ s r,v=AV.tree s r:=by
 intro row hr v hv;simp only[fF,bZ]at hr;obtain⟨x,_,rfl⟩:=hr;simp at hv;exact .inr ⟨_,_,hv⟩
def pO(xs:List Int):∀ row∈ints xs,row.length=1:=by
 intro row hr;simp only[ints,bZ]at hr;obtain⟨x,_,rfl⟩:=hr;rfl
def zt(xs:List Bool):∀ row∈aY xs,row.length=1:=by
 intro row hr;simp only[aY,bZ]at hr;obtain⟨x,_,rfl⟩:=hr;rfl
def JZ(xs:List (List Int)):∀ row∈fF xs,row.length=1:=by
 intro row hr;simp only[fF,bZ]at hr;obtain⟨x,_,rfl⟩:=hr;rfl
def cS{α:Type}(xs:List α)(i:Nat)(d:α)(h:i<xs.length):xs.drop i=xs.getD i d::xs.drop (i+1):=by
 rw[List.drop_eq_getElem_cons h];simp[h]
end Go.Am
namespace Go.Am
variable {P:Program} {dst:Option Tmp} {tt:TypeId} {p:String} {af:Array Edge} {g:Option (Nat×Bool)} {σ:St} {K:St->Prop}
def nj:Option Ob->Prop
 |some (.var _)=>True
 |some (.arr _ _)=>True
 |some (.mp _ _)=>True
 |_=>False
def J0(a:Nat)(L:List (List Int×AV)):nj (some (.mp a L))=True:=by simp only[nj]
def J1(c:List AV):nj (some (.var c))=True:=by simp only[nj]
def J2(s:Nat)(c:List (List AV)):nj (some (.arr s c))=True:=by simp only[nj]
def xE(σ:St)(dst:Option Tmp)(K:St->Prop):AV->Prop
 |.ptr id r c=>nj σ.aa[id]?/\K (σ.put dst (.ptr id r c))
 |.cq cells=>K (σ.put dst (.cq cells))
 |_=>False
def J3(x:Operand):a8 P ⟨dst,.nilCheck x,tt,p,af,g⟩ σ K=xE σ dst K (ev σ x):=by
 simp only[a8,cf];cases ev σ x<;>simp only[xE];rename_i id r c;cases h:σ.aa[id]? with
 |none=>simp[nj]
 |some o=>cases o<;>simp[nj]
def xF(σ:St)(dst:Option Tmp)(K:St->Prop)(off:Nat):AV->Prop
 |.ptr id r c=>nj σ.aa[id]?/\K (σ.put dst (.ptr id r (c+off)))
 |.cq cells=>K (σ.put dst (.cq (cells.drop off)))
 |_=>False
def uB(σ:St)(dst:Option Tmp)(K:St->Prop)(v:AV)(kind:Nat):Option (Nat×Nat×Nat)->Prop
 |some (off,_,size)=>kind=3/\0<size/\xF σ dst K off v
 |none=>False
def J4(s:TypeId)(x:Operand)(f:Nat):a8 P ⟨dst,.fieldAddr s x f,tt,p,af,g⟩ σ K=uB σ dst K (ev σ x) (ty P s).kind (ty P s).aI[f]?:=by
 simp only[a8,cf];split
 ·rename_i off ft size hk hf;rw[hk,hf];simp only[uB,true_and];cases ev σ x<;>simp only[xF];rename_i id r c;cases h:σ.aa[id]? with
  |none=>simp[nj]
  |some o=>cases o<;>simp[nj]
 ·rename_i df;cases hf:(ty P s).aI[f]? with
  |none=>simp[uB]
  |some q =>
   obtain⟨off,ft,size⟩:=q;simp only[uB];have:(ty P s).kind≠3:=λe=>df off ft size e hf;simp[this]
def qE(t:Ty)(e:Ty)(σ:St)(dst:Option Tmp)(K:St->Prop):AV->AV->Prop
 |.ref id sz off len,.lit (.int _ n) =>
  t.kind=1 /\
  match σ.aa[id]? with
  |some (.arr cJ _)=>(cJ=sz/\sz=e.size/\e.kind≠99/\0<=n/\n<len)/\K (σ.put dst (.ptr id (off+n.toNat) 0))
  |_=>False
 |.tree sz rows,.lit (.int _ n)=>t.kind=1/\(sz=e.size/\e.kind≠99/\0<=n/\n<rows.length)/\K (σ.put dst (.cq (rows.getD n.toNat [])))
 |.ptr id r c,.lit (.int _ n)=>t.kind=2/\nj σ.aa[id]?/\(e.kind≠99/\0<=n/\n<t.len)/\K (σ.put dst (.ptr id r (c+n.toNat*e.size)))
 |_,_=>False
def J5(t:TypeId)(x i:Operand):a8 P ⟨dst,.indexAddr t x i,tt,p,af,g⟩ σ K=qE (ty P t) (ty P (ty P t).elem) σ dst K (ev σ x) (ev σ i):=by
 simp only[a8,cf];split
 ·rename_i id sz off len k n hk hx hi;rw[hx,hi];simp only[qE,hk,true_and];cases σ.aa[id]? with
  |none=>rfl
  |some o=>cases o<;>rfl
 ·rename_i sz rows k n hk hx hi;rw[hx,hi];simp only[qE,hk,true_and]
 ·rename_i id r c k n hk hx hi;rw[hx,hi];simp only[qE,hk,true_and];cases h:σ.aa[id]? with
  |none=>simp[nj]
  |some o=>cases o<;>simp[nj]
 ·rename_i h1 h2 h3;unfold qE;split
  ·rename_i id sz off len k n hx hi;simp only[eq_iff_iff,false_iff];rintro⟨hk,_⟩;exact h1 id sz off len k n hk hx hi
  ·rename_i sz rows k n hx hi;simp only[eq_iff_iff,false_iff];rintro⟨hk,_⟩;exact h2 sz rows k n hk hx hi
  ·rename_i id r c k n hx hi;simp only[eq_iff_iff,false_iff];rintro⟨hk,_⟩;exact h3 id r c k n hk hx hi
  ·rfl
def Fa(P:Program)(dst:Option Tmp)(args:List AV)(K:St->Prop)(σ:St):AV->Prop
 |.fn g aT=>oQ P g (args++aT) dst K σ
 |_=>False
def J6(f:Operand)(args:Array Operand)(eY:Array TypeId):a8 P ⟨dst,.call ⟨.value f,args,eY⟩,tt,p,af,g⟩ σ K=Fa P dst (args.toList.map (ev σ)) K σ (ev σ f):=by
 simp only[a8];cases ev σ f<;>rfl
def Fb(P:Program)(dst:Option Tmp)(args:List AV)(K:St->Prop)(σ:St)(m:String):AV->Prop
 |.gm t v=>m9 P σ v (λg x=>oQ P g (x::args) dst K σ) (uC P t m)
 |_=>False
def J7(r:Operand)(m:String)(args:Array Operand)(eY:Array TypeId):a8 P ⟨dst,.call ⟨.invoke r m,args,eY⟩,tt,p,af,g⟩ σ K=Fb P dst (args.toList.map (ev σ)) K σ m (ev σ r):=by
 simp only[a8];cases ev σ r<;>rfl
def Fe(P:Program)(dst:Option Tmp)(args:List AV)(K:St->Prop)(σ:St):AV->Prop
 |.fn g aT=>E0 P g (args++aT) dst K σ
 |_=>False
def J8(f:Operand)(args:Array Operand)(eY:Array TypeId):kJ true P ⟨dst,.call ⟨.value f,args,eY⟩,tt,p,af,g⟩ σ K=Fe P dst (args.toList.map (ev σ)) K σ (ev σ f):=by
 simp only[kJ];cases ev σ f<;>rfl
def rZ(σ:St):List (Nat×Operand)->List (Nat×AV)
 |[]=>[]
 |q::l=>(q.1,ev σ q.2)::rZ σ l
def r8(σ:St):List (Nat×Operand)->Bool
 |[]=>true
 |q::l=>(cellsOf (ev σ q.2)).all b7&&r8 σ l
def J9(σ:St)(l:List (Nat×Operand)):rZ σ l=l.map λq=>(q.1,ev σ q.2):=by
 induction l with
 |nil=>rfl
 |cons q l ih=>simp only[rZ,ih,List.map_cons]
def J'(σ:St)(l:List (Nat×Operand)):r8 σ l=l.all λq=>(cellsOf (ev σ q.2)).all b7:=by
 induction l with
 |nil=>rfl
 |cons q l ih=>simp only[r8,ih,List.all_cons]
def Ka(o:Oper):kJ false P o σ K=a8 P o σ K:=by simp only[kJ]
def Kb(x:Operand):a8 P ⟨dst,.move x,tt,p,af,g⟩ σ K =
  (K (σ.put dst (ev σ x))):=by unfold a8 cf;rfl
def Kd(x:Operand):a8 P ⟨dst,.assign x,tt,p,af,g⟩ σ K =
  (K (σ.put dst (ev σ x))):=by unfold a8 cf;rfl
def Ke(c a b:Operand):a8 P ⟨dst,.pick c a b,tt,p,af,g⟩ σ K =
  (match ev σ c with
   |.lit (.bool t)=>K (σ.put dst (eZ t (ev σ a) (ev σ b)))
   |_=>False):=by unfold a8 cf;rfl
def Kf (e:TypeId):a8 P ⟨dst,.alloc e,tt,p,af,g⟩ σ K =
    ((ty P e).kind≠99 /\
      match (ty P e).zero with
      | some z=>K (({ σ with aa:=σ.aa++[.var (z.map .lit)] }:St).put dst (.ptr σ.aa.length 0 0))
      | none=>False):=by unfold a8 cf;rfl
def Kg(e:TypeId)(x:Operand):a8 P ⟨dst,.box e x,tt,p,af,g⟩ σ K =
  ((cellsOf (ev σ x)).all b7=true/\K (({ σ with aa:=σ.aa++[.var (cellsOf (ev σ x))] }:St).put dst (.ptr σ.aa.length 0 0))):=by unfold a8 cf;rfl
def Kh(t:TypeId)(parts:Array (Nat×Operand)):a8 P ⟨dst,.build t parts,tt,p,af,g⟩ σ K =
  (match (ty P t).kind,(ty P t).zero with
   |3,some z =>
    match lj (λi=>((ty P t).aI[i]?).map λf=>(f.1,f.2.2)) (z.map .lit) (rZ σ parts.toList) with
    |some cs=>(r8 σ parts.toList=true/\((ty P t).aI.all λf=>decide (0<f.2.2))=true)/\K (σ.put dst (.agg cs))
    |none=>False
   |2,some z =>
    match lj (λi=>some (i*(ty P (ty P t).elem).size,(ty P (ty P t).elem).size)) (z.map .lit) (rZ σ parts.toList) with
    |some cs=>(r8 σ parts.toList=true/\(ty P (ty P t).elem).kind≠99)/\K (σ.put dst (.agg cs))
    |none=>False
   |_,_=>False):=by rw[J9,J'];unfold a8 cf;rfl
def Ki(t:TypeId)(len:Nat)(parts:Array (Nat×Operand)):a8 P ⟨dst,.buildSlice t len parts,tt,p,af,g⟩ σ K =
  (match (ty P t).kind,(ty P (ty P t).elem).zero with
   |1,some z =>
    match lj (λi=>some (i*(ty P (ty P t).elem).size,(ty P (ty P t).elem).size)) ((aN len).flatMap λ_=>z.map .lit) (rZ σ parts.toList) with
    |some cs=>((ty P (ty P t).elem).kind≠99/\0<(ty P (ty P t).elem).size/\z.length=(ty P (ty P t).elem).size/\len*(ty P (ty P t).elem).size<=16777216/\r8 σ parts.toList=true) /\
      K (({ σ with aa:=σ.aa++[.arr (ty P (ty P t).elem).size (lk (ty P (ty P t).elem).size len cs)] }:St).put dst (.ref σ.aa.length (ty P (ty P t).elem).size 0 len))
    |none=>False
   |_,_=>False):=by rw[J9,J'];unfold a8 cf;rfl
def Kj (t:TypeId) (a:Operand):a8 P ⟨dst,.load t a,tt,p,af,g⟩ σ K =
    ((ty P t).kind≠99 /\
      match ev σ a with
      | .ptr id r c =>
        match rowOf σ id r with
        | some row=>ld (ty P t) row c λv=>K (σ.put dst v)
        | none=>False
      | .cq cells=>ld (ty P t) cells 0 λv=>K (σ.put dst v)
      | _=>False):=by unfold a8 cf;rfl
def Kk (t:TypeId) (a x:Operand):a8 P ⟨dst,.store t a x,tt,p,af,g⟩ σ K =
    ((ty P t).kind≠99 /\
      match ev σ a with
      | .ptr id r c =>
        match rowOf σ id r with
        | some row=>((cellsOf (ev σ x)).length=(ty P t).size/\c+(ty P t).size<=row.length/\(cellsOf (ev σ x)).all b7=true)/\K ((mC σ id r (setCells row c (cellsOf (ev σ x)))).put dst .undef)
        | none=>False
      | _=>False):=by unfold a8 cf;rfl
def Kl(op:BinOp)(t:TypeId)(x y:Operand)(yt:TypeId):a8 P ⟨dst,.binOp op t x y yt,tt,p,af,g⟩ σ K =
  (match ev σ x,ev σ y with
   |.lit (.int k a),.lit (.int k' b)=>k=k'/\fG op k a b λv=>K (σ.put dst (.lit v))
   |.lit (.bool a),.lit (.bool b) =>
    (ty P t).kind=6 /\
    match op with
    |.eql=>K (σ.put dst (.lit (.bool (a==b))))
    |.neq=>K (σ.put dst (.lit (.bool (a != b))))
    |_=>False
   |.tree _ rows,.lit (.slice none 0 0) =>
    ((ty P t).kind=1/\0<rows.length) /\
    match op with
    |.eql=>K (σ.put dst (.lit (.bool false)))
    |.neq=>K (σ.put dst (.lit (.bool true)))
    |_=>False
   |.lit (.slice a _ _),.lit (.slice none 0 0) =>
    (ty P t).kind=1 /\
    match op with
    |.eql=>K (σ.put dst (.lit (.bool a.isNone)))
    |.neq=>K (σ.put dst (.lit (.bool (!a.isNone))))
    |_=>False
   |.agg cs,.agg ds =>
    match nk cs,nk ds with
    |some as,some bs =>
     (uD P t as.length/\bs.length=as.length/\P.eqGuardType P.depth t=false) /\
     match op with
     |.eql=>K (σ.put dst (.lit (.bool (decide (as=bs)))))
     |.neq=>K (σ.put dst (.lit (.bool (!decide (as=bs)))))
     |_=>False
    |_,_=>False
   |_,_=>False):=by unfold a8 cf;rfl
def Km(op:UnOp)(t:TypeId)(x:Operand):a8 P ⟨dst,.unOp op t x,tt,p,af,g⟩ σ K =
  (match op,ev σ x with
   |.not,.lit (.bool b)=>K (σ.put dst (.lit (.bool !b)))
   |.neg,.lit (.int k a)=>(k.min<=-a/\-a<=k.max)/\K (σ.put dst (.lit (.int k (-a))))
   |_,_=>False):=by unfold a8 cf;rfl
def Kn(fn:Fn)(first captured:Array Operand):a8 P ⟨dst,.makeFunc fn first captured,tt,p,af,g⟩ σ K =
  (match fn with
   |.func f=>first.size=0/\K (σ.put dst (.fn f (captured.toList.map (ev σ))))
   |_=>False):=by unfold a8 cf;rfl
def Ko (t:TypeId) (l c:Operand):a8 P ⟨dst,.makeSlice t l c,tt,p,af,g⟩ σ K =
    (match (ty P t).kind,(ty P (ty P t).elem).zero,ev σ l,ev σ c with
      | 1,some z,.lit (.int k n),.lit (.int k' n') =>
        ((ty P (ty P t).elem).kind≠99/\0<(ty P (ty P t).elem).size/\z.length=(ty P (ty P t).elem).size/\n'=n/\0<=n/\n<=1099511627776/\(ty P (ty P t).elem).bytes<=128/\k=k) /\
          K (({ σ with aa:=σ.aa++[.arr (ty P (ty P t).elem).size (b6 n.toNat (z.map .lit))] }:St).put dst (.ref σ.aa.length (ty P (ty P t).elem).size 0 n.toNat))/\k'=k'
      | _,_,_,_=>False):=by unfold a8 cf;rfl
def Kp (t:TypeId) (x:Operand) (lo hi mx:Option Operand):a8 P ⟨dst,.slice t x lo hi mx,tt,p,af,g⟩ σ K =
    ((ty P t).kind=1/\(ty P (ty P t).elem).kind≠99/\mx=none /\
      match ev σ x with
      | .ref id sz off len =>
        match σ.aa[id]? with
        | some (.arr cJ rows) =>
          cJ=sz/\sz=(ty P (ty P t).elem).size /\
          match lo.map (ev σ),hi.map (ev σ) with
          | none,none=>K (σ.put dst (.ref id sz off len))
          | some (.lit (.int _ l)),none=>(0<=l/\l<=len/\rows.length=rows.length)/\K (σ.put dst (.ref id sz (off+l.toNat) (len - l.toNat)))
          | none,some (.lit (.int _ h))=>(0<=h/\h<=len)/\K (σ.put dst (.ref id sz off h.toNat))
          | some (.lit (.int _ l)),some (.lit (.int _ h))=>(0<=l/\l<=h/\h<=len)/\K (σ.put dst (.ref id sz (off+l.toNat) (h.toNat - l.toNat)))
          | _,_=>False
        | _=>False
      | .tree sz rows =>
          (rows≠[]->sz=(ty P (ty P t).elem).size) /\
          match lo.map (ev σ),hi.map (ev σ) with
          | none,none=>K (σ.put dst (.tree sz rows))
          | some (.lit (.int _ l)),none=>(0<=l/\l<=rows.length)/\K (σ.put dst (.tree sz (rows.drop l.toNat)))
          | none,some (.lit (.int _ h))=>(0<=h/\h<=rows.length)/\K (σ.put dst (.tree sz (rows.take h.toNat)))
          | some (.lit (.int _ l)),some (.lit (.int _ h))=>(0<=l/\l<=h/\h<=rows.length)/\K (σ.put dst (.tree sz ((rows.take h.toNat).drop l.toNat)))
          | _,_=>False
      | _=>False):=by unfold a8 cf;rfl
def Kq(s:TypeId)(x:Operand)(f:Nat):a8 P ⟨dst,.field s x f,tt,p,af,g⟩ σ K =
  (match (ty P s).kind,(ty P s).aI[f]? with
   |3,some (off,t,size) =>
    (ty P t).kind≠99/\size=(ty P t).size /\
    match ev σ x with
    |.agg cs=>if(ty P t).isAgg then off+size<=cs.length/\K (σ.put dst (.agg ((cs.drop off).take size))) else
      match cs[off]? with
      |some v=>K (σ.put dst v)
      |none=>False
    |_=>False
   |_,_=>False):=by unfold a8 cf;rfl
def Kr(t:TypeId)(r:Option Operand):a8 P ⟨dst,.makeMap t r,tt,p,af,g⟩ σ K =
  ((r=none/\(ty P t).kind=8)/\K (({ σ with aa:=σ.aa++[.mp (xG P t) []] }:St).put dst (.fT σ.aa.length))):=by unfold a8 cf;rfl
def Ks(t:TypeId)(x i:Operand)(ok:Bool):a8 P ⟨dst,.lookup t x i ok,tt,p,af,g⟩ σ K =
  (match keyOf (ev σ i),kK σ (ev σ x),zeroV P (ty P t).elem with
   |some (ag,l),some (_,g7,L),some z=>(j4 P t ag/\g7=ag/\l.length=jA ag/\(ty P t).kind=8/\ok=false)/\K (σ.put dst ((mD l L).getD (.lit z)))
   |_,_,_=>False):=by unfold a8 cf;rfl
def Kt(t:TypeId)(m k x:Operand):a8 P ⟨dst,.mapUpdate t m k x,tt,p,af,g⟩ σ K =
  (match keyOf (ev σ k),kK σ (ev σ m) with
   |some (ag,l),some (id,g7,L)=>(j4 P t ag/\g7=ag/\l.length=jA ag)/\K (({ σ with aa:=σ.aa.set id (.mp ag (e7 l (ev σ x) L)) }:St).put dst .undef)
   |_,_=>False):=by unfold a8 cf;rfl
def Ku(t:TypeId)(m k:Operand):a8 P ⟨dst,.mapEntry t m k,tt,p,af,g⟩ σ K =
  (match keyOf (ev σ k),kK σ (ev σ m),zeroV P (ty P t).elem with
   |some (ag,l),some (id,g7,L),some z=>(j4 P t ag/\g7=ag/\l.length=jA ag/\(ty P t).kind=8) /\
    K (({ σ with aa:=σ.aa.set id (.mp ag (e7 l ((mD l L).getD (.lit z)) L)) }:St).put dst (.bO [(mD l L).getD (.lit z),aa3 (xH l L:Nat)]))
   |_,_,_=>False):=by unfold a8 cf;rfl
def Kv(t:TypeId)(m s x:Operand):a8 P ⟨dst,.entryStore t m s x,tt,p,af,g⟩ σ K =
  (match ev σ s,kK σ (ev σ m) with
   |.lit (.int .i64 n),some (id,ag,L)=>(0<=n/\n<L.length)/\K (({ σ with aa:=σ.aa.set id (.mp ag (n5 n.toNat (ev σ x) L)) }:St).put dst .undef)
   |_,_=>False):=by unfold a8 cf;rfl
def Kw(t:TypeId)(x i:Operand):a8 P ⟨dst,.index t x i,tt,p,af,g⟩ σ K =
  (match ev σ x,ev σ i with
   |.lit (.string s),.lit (.int _ n)=>(P.underlying t=some .string/\0<=n/\n<s.size)/\K (σ.put dst (.lit (.int .u8 (Ff s n.toNat))))
   |_,_=>False):=by unfold a8 cf;rfl
def Kx(t:TypeId)(x:Operand):a8 P ⟨dst,.makeInterface t x,tt,p,af,g⟩ σ K =
  (ta P t=false/\K (σ.put dst (.gm t (ev σ x)))):=by unfold a8 cf;rfl
def Ky(x:Operand)(xt asserted:TypeId)(ok:Bool):a8 P ⟨dst,.typeAssert x xt asserted ok,tt,p,af,g⟩ σ K =
  (match ev σ x with
   |.gm t v=>(ta P asserted=false/\t=asserted/\ok=false)/\K (σ.put dst v)
   |_=>False):=by unfold a8 cf;rfl
def Kz(x:Operand)(i:Nat):a8 P ⟨dst,.extract x i,tt,p,af,g⟩ σ K =
  (match ev σ x with
   |.bO vs =>
    match vs[i]? with
    |some v=>K (σ.put dst v)
    |none=>False
   |_=>False):=by unfold a8 cf;rfl
def KA(args:Array Operand)(argTypes:Array TypeId):a8 P ⟨dst,.call ⟨.builtin .len,args,argTypes⟩,tt,p,af,g⟩ σ K =
  (match args.toList,argTypes.toList with
   |[x],[t] =>
    match ev σ x with
    |.ref id sz _ len =>
     (ty P t).kind=1 /\
     match σ.aa[id]? with
     |some (.arr cJ _)=>cJ=sz/\K (σ.put dst (aa3 len))
     |_=>False
    |.tree _ rows=>(ty P t).kind=1/\K (σ.put dst (aa3 rows.length))
    |.lit (.slice none 0 0)=>(ty P t).kind=1/\K (σ.put dst (aa3 0))
    |.fT id =>
     (ty P t).kind=8 /\
     match σ.aa[id]? with
     |some (.mp _ L)=>K (σ.put dst (aa3 L.length))
     |_=>False
    |_=>False
   |_,_=>False):=by unfold a8 cf;rfl
def KB(args:Array Operand)(argTypes:Array TypeId):a8 P ⟨dst,.call ⟨.builtin .append,args,argTypes⟩,tt,p,af,g⟩ σ K =
  (match args.toList,argTypes.toList with
   |[s,x],[t,t'] =>
    match (ty P t).kind,(ty P (ty P t).elem).zero,oR σ (ty P (ty P t).elem).size (ev σ s),mF σ (ev σ x) with
    |1,some z,some (pre,σ1),some (sz,src) =>
     (t'=t/\(ty P (ty P t).elem).kind≠99/\sz=(ty P (ty P t).elem).size/\0<sz/\z.length=sz/\pre.length+src.length<=549755813888/\(ty P (ty P t).elem).bytes<=128/\(src.all λrow=>row.all b7)=true) /\
      K (({ σ1 with aa:=σ1.aa++[.arr sz (pre++src)] }:St).put dst (.ref σ1.aa.length sz 0 (pre.length+src.length)))
    |_,_,_,_=>False
   |_,_=>False):=by unfold a8 cf;rfl
def KC(args:Array Operand)(argTypes:Array TypeId):a8 P ⟨dst,.call ⟨.builtin .min,args,argTypes⟩,tt,p,af,g⟩ σ K =
  (match args.toList with
   |[x,y] =>
    match ev σ x,ev σ y with
    |.lit (.int k a),.lit (.int k' b)=>k=k'/\K (σ.put dst (.lit (.int k (min a b))))
    |_,_=>False
   |_=>False):=by unfold a8 cf;rfl
def KD(args:Array Operand)(argTypes:Array TypeId):a8 P ⟨dst,.call ⟨.builtin .max,args,argTypes⟩,tt,p,af,g⟩ σ K =
  (match args.toList with
   |[x,y] =>
    match ev σ x,ev σ y with
    |.lit (.int k a),.lit (.int k' b)=>k=k'/\K (σ.put dst (.lit (.int k (max a b))))
    |_,_=>False
   |_=>False):=by unfold a8 cf;rfl
def KE (args:Array Operand) (argTypes:Array TypeId):a8 P ⟨dst,.call ⟨.builtin .copy,args,argTypes⟩,tt,p,af,g⟩ σ K =
    (match args.toList,argTypes.toList with
      | [s,x],[t,_] =>
        match ev σ s,mF σ (ev σ x) with
        | .ref id sz off len,some (cJ,src) =>
          match σ.aa[id]? with
          | some (.arr j5 rows) =>
            ((ty P t).kind=1/\(ty P (ty P t).elem).kind≠99/\cJ=sz/\j5=sz/\sz=(ty P (ty P t).elem).size/\0<sz/\(src.all λrow=>row.all b7)=true) /\
              K (({ σ with aa:=σ.aa.set id (.arr sz (rows.take off++src.take (min src.length len)++rows.drop (off+min src.length len))) }:St).put dst (aa3 (min src.length len:Nat)))
          | _=>False
        | _,_=>False
      | _,_=>False):=by unfold a8 cf;rfl
def KF (args:Array Operand) (argTypes:Array TypeId):a8 P ⟨dst,.call ⟨.builtin .clear,args,argTypes⟩,tt,p,af,g⟩ σ K =
    (match args.toList,argTypes.toList with
      | [s],[t] =>
        match ev σ s,(ty P (ty P t).elem).zero with
        | .ref id sz off len,some z =>
          match σ.aa[id]? with
          | some (.arr cJ rows) =>
            ((ty P t).kind=1/\(ty P (ty P t).elem).kind≠99/\cJ=sz/\z.length=sz/\0<sz/\(z.all λu=>u.oneCell')=true) /\
              K (({ σ with aa:=σ.aa.set id (.arr sz (rows.take off++b6 len (z.map AV.lit)++rows.drop (off+len))) }:St).put dst (.lit (.tuple #[])))
          | _=>False
        | _,_=>False
      | _,_=>False):=by unfold a8 cf;rfl
def KG(s d:TypeId)(x:Operand):a8 P ⟨dst,.convert s d x,tt,p,af,g⟩ σ K =
  (match P.underlying d,ev σ x with
   |some (.int k),.lit (.int _ n)=>(P.underlying s).isSome=true/\K (σ.put dst (.lit (.int k (k.wrap n))))
   |_,_=>False):=by unfold a8 cf;rfl
end Go.Am
namespace Go.Am
variable {P:Program} {N n0:Nat} {σ:St} {Q:Exit->St->Prop}
def du(ak:List Nat)(snap:Bool){v res:AV}{bg:List Ob}(cu:ak.Nodup)(ho:ng (bm σ.aa.length ak) σ.aa ak bg)(hn:n0<=ak.length)(cP:∀ i,i<n0->ak.getD i 0=i)(h:aE σ (kept ak bg) (bm σ.aa.length ak) snap res v):mB n0 σ v res bg:=by
 obtain⟨h1,h2,h3⟩:=ho.spec;exact⟨ak,snap,cu,h1,h2,h3,hn,cP,h⟩
def fB{e:Nat->AV}{os:List Ob}{v res:AV}{bg:List Ob}(ho:os=bg)(hn:n0<=bg.length)(h:v=res):mB n0 ⟨e,os⟩ v res bg:=by
 subst ho;subst h
 let σ:St:=⟨e,os⟩
 show mB n0 σ v v σ.aa;have hn:n0<=σ.aa.length:=hn;refine⟨aN σ.aa.length,false,I3,Jd,λj o hj=>.inr ?_,Jd,by simpa using hn,λi hi=>?_,?_⟩
 ·have bq:=(aM.1 hj).1;rw[uz,zr];simpa [aA,oN bq] using hj
 ·have:i<σ.aa.length:=I6;simp[aA,oN this]
 ·exact .eq (by rw[uz,uy])
end Go.Am
namespace Go.Am
variable {P:Program} {N n0:Nat} {σ:St} {Q:Exit->St->Prop}
def gG{ak:List Nat}{co:List Ob}{id:Nat}(h:id ∉ ak):¬ kept ak co id:=by
 rintro⟨j,hj,he,_⟩;apply h;rw[<- he,aA,bT hj];exact List.getElem_mem hj
def tc(ρ:Nat->Nat)(os:List Ob):List Nat->List Ob->Prop
 |[],[]=>True
 |i::ak,o::co=>os[i]?=some (bH ρ o)/\tc ρ os ak co
 |_,_=>False
def tc.spec{ρ:Nat->Nat}{os:List Ob}:∀ {ak:List Nat} {co:List Ob},tc ρ os ak co->co.length=ak.length/\∀ (j:Nat) o,co[j]?=some o->os[ak.getD j 0]?=some (bH ρ o)
 |[],[],_=>⟨rfl,Jd⟩
 |i::ak,o::co,h=>by
  obtain⟨h1,h3⟩:=h;obtain⟨a,b⟩:=tc.spec h3;refine⟨by simp[a],λj o' hj=>?_⟩;cases j with
  |zero=>simp at hj;subst hj;simpa using h1
  |succ j=>simpa using b j o' (by simpa using hj)
def dS(R:AV->AV->Prop):List AV->List AV->Prop
 |[],[]=>True
 |c::cs,d::ds=>R c d/\dS R cs ds
 |_,_=>False
def dS.spec{R:AV->AV->Prop}:∀ {cs ds:List AV},dS R cs ds->cs.length=ds.length/\∀ (j:Nat) c d,cs[j]?=some c->ds[j]?=some d->R c d
 |[],[],_=>⟨rfl,Jd⟩
 |c::cs,d::ds,h=>by
  obtain⟨a,b⟩:=dS.spec h.2;refine⟨by simp[a],λj c' d' hc hd=>?_⟩;cases j with
  |zero=>simp at hc hd;subst hc;subst hd;exact h.1
  |succ j=>exact b j c' d' (by simpa using hc) (by simpa using hd)
def aE.qF{kp:Nat->Prop}{ρ:Nat->Nat}{snap:Bool}{a b c d:AV}(h:aE σ kp ρ snap a c)(k:aE σ kp ρ snap b d):aE σ kp ρ snap (.bO [a,b]) (.bO [c,d]) :=
 .bO _ _ rfl (dS.spec (R:=aE σ kp ρ snap) (cs:=[a,b]) (ds:=[c,d]) ⟨h,k,trivial⟩).2
def g9(ak:List Nat){f:FuncId}{args cV:List AV}{bJ:List Ob}{dst:Option Tmp}{K:St->Prop}{res:AV}{cz:List Ob}(h:an P f cV bJ res cz)(cu:ak.Nodup)(ho:tc (bm σ.aa.length ak) σ.aa ak bJ)(ha:dS (aE σ (·∈ak) (bm σ.aa.length ak) false) cV args)(hK:K (({ σ with aa:=dY σ.aa ak (cz.map (bH (bm σ.aa.length ak))) }:St).put dst (aX (bm σ.aa.length ak) res))):oQ P f args dst K σ:=by
 obtain⟨h1,h2⟩:=ho.spec;obtain⟨h3,h4⟩:=ha.spec;exact⟨ak,false,cV,bJ,res,cz,h,⟨cu,h1,h2,h3,h4,Jd⟩,hK⟩
def n6(ak:List Nat){f:FuncId}{args cV:List AV}{bJ:List Ob}{dst:Option Tmp}{K:St->Prop}{res:AV}{cz:List Ob}(h:an P f cV bJ res cz)(cu:ak.Nodup)(ho:tc (bm σ.aa.length ak) σ.aa ak bJ)(ha:dS (aE σ (·∈ak) (bm σ.aa.length ak) true) cV args)(hf:flat res=true)(v3:∀ o∈cz,td o)(hK:K (({ σ with aa:=dY σ.aa ak (cz.map (bH (bm σ.aa.length ak))) }:St).put dst (aX (bm σ.aa.length ak) res))):oQ P f args dst K σ:=by
 obtain⟨h1,h2⟩:=ho.spec;obtain⟨h3,h4⟩:=ha.spec;exact⟨ak,true,cV,bJ,res,cz,h,⟨cu,h1,h2,h3,h4,λ_=>⟨hf,v3⟩⟩,hK⟩
def KH{ρ:Nat->Nat}(cs:List AV):bH ρ (.var cs)=.var (cs.map (aX ρ)):=by simp only[bH]
def KI{ρ:Nat->Nat}:bH ρ .gone=.gone:=by simp only[bH]
def KJ:aN 1=[0]:=aab
def KK:aN 2=[0,1]:=aab
def KL:aN 3=[0,1,2]:=aab
def KM(xs:List Int):(ints xs).take xs.length=ints xs:=by rw[fP (by simp[ints])]
def KN(xs:List Bool):(aY xs).take xs.length=aY xs:=by rw[fP (by simp[aY])]
def KO(xs:List (List Int)):(fF xs).take xs.length=fF xs:=by rw[fP (by simp[fF])]
def B2{y:Code}{Q0 Q1:Exit->St->Prop}{G:Prop}(S0:St)(hn:∀ s,W P N n0 y Q0 s->Q1 .normal s)(hm:W P N n0 y Q0 S0)(h:(∀ s,aB n0 s S0->Q1 .normal s)->G):G :=
 h λs ht=>hn s (bP ht hm)
end Go.Am
namespace Go.Am
variable {P:Program} {N n0:Nat} {σ:St} {Q:Exit->St->Prop}
def KP(P:Program)(ops:Array Oper)(Q:Exit->Act->World->Prop)(js:List Nat):Exit->Act->World->Prop
 |.normal,a,w=>wpOps P ops Q js a w
 |e,a,w=>Q e a w
def Oper.Ws{o:Oper}{a:Act}{w:World}{K:Act->World->Prop}{Q Q':Exit->Act->World->Prop}(hq:∀ e a w,e≠.normal->Q e a w->Q' e a w)(hl:LetsOut Q->LetsOut Q')(hh:o.wp P a w K Q):o.wp P a w K Q':=by
 unfold Oper.wp at *;generalize (execOp a.eval o).run P w=r at *;cases r with
 |ok n w' =>
  cases n<;>simp only[Oper.upon]at hh⊢<;>
   first
    |exact hh
    |exact Calls.mono hh (λe w'' he=>by
      cases e with
      |returned v=>exact he
      |panicked c=>exact hq _ _ _ Jd he
      |outgrown=>exact hl he)
 |halt x w'=>cases x<;>simp only[Oper.upon]at hh ⊢<;>first|exact hh|exact hq _ _ _ Jd hh
def v5{ops:Array Oper}{Q:Exit->Act->World->Prop}{js:List Nat}:∀ (is:List Nat) (a:Act) (w:World),wpOps P ops (KP P ops Q js) is a w->wpOps P ops Q (is++js) a w
 |[],a,w,h=>h
 |i::is,a,w,h=>by
  rw[List.cons_append,wpOps_cons];rw[wpOps_cons]at h;have hl:LetsOut (KP P ops Q js)->LetsOut Q:=λh=>h;unfold wpOp at h ⊢;cases ho:ops[i]? with
  |none=>simp only[ho]at h ⊢;exact v5 is a w h
  |some o =>
   simp only[ho]at h ⊢;by_cases hw:Region.wanted o (yielded ops a.tmps)=true
   ·rw[if_pos hw]at h ⊢;rcases h with h|⟨h1,h2⟩
    ·left;exact Oper.Ws (λe a w he hq=>by cases e<;>first|exact absurd rfl he|exact hq) hl (Oper.wp_mono (λa w=>v5 is a w) h)
    ·exact .inr ⟨h1,hl h2⟩
   ·rw[if_neg hw]at h ⊢;exact v5 is _ w h
def qG{N:Nat}{os:List Ob}{γ0:Cx}{ops:Array Oper}(hd:∀ o∈ops.toList,∀ d,o.dst=some d->d<N){K:St->Prop}{Q:Exit->Act->World->Prop}(hQ:∀ σ' a' w',K σ'->gl N os γ0 σ' a' w'->Q .normal a' w'):∀ (l:List Oper) (i:Nat) (σ:St) (a:Act) (w:World),(∀ k,k<l.length->ops[i+k]?=l[k]?)->opsL P ops l K σ->gl N os γ0 σ a w ->
   wpOps P ops Q (lU i l.length) a w
 |[],i,σ,a,w,_,h,aR=>by simpa [wpOps] using hQ _ _ _ h aR
 |o::r,i,σ,a,w,hl,h,aR=>by
  have hi:ops[i]?=some o:=by simpa using hl 0 Jd
  have hr:∀ k,k<r.length->ops[i+1+k]?=r[k]?:=λk hk=>by
   have:=hl (k+1) (by simpa using hk);rw[show i+1+k=i+(k+1) by omega,this];simp
  have cR:o∈ops.toList:=gf (by simpa using hi);rw[dz,ue,wpOps_cons];unfold wpOp;simp only[hi];unfold opsL at h;cases hg:o.guard with
  |none =>
   simp only[hg]at h;have hw:Region.wanted o (yielded ops a.tmps)=true:=by simp[Region.wanted,hg]
   rw[if_pos hw];left;exact vR h aR (hd o cR) (λσ' a' w' hK eP=>qG hd hQ r (i+1) σ' a' w' hr hK eP)
  |some jw =>
   obtain⟨j,want⟩:=jw;simp only[hg]at h;cases ee:(ops[j]?).bind (·.dst) with
   |none=>simp[ee]at h
   |some d =>
    simp only[ee]at h;split at h
    ·rename_i b he;obtain⟨iN,a6,γ,rfl,ha,hs,hf⟩:=aR;have jd:=hs.ax d;rw[he,ha]at jd;have hv:=jd.cH;have hy:yielded ops a.tmps j=some b:=by
      unfold yielded;rw[ee];have:a.tmps[d]?=some (.bool b):=by
       rw[eN]at hv;cases hx:a.tmps[d]? with
       |none=>rw[hx]at hv;simp[Go.undef]at hv
       |some y=>rw[hx]at hv;simp at hv;rw[hv]
      simp[this]
     by_cases gR:b=want
     ·have hw:Region.wanted o (yielded ops a.tmps)=true:=by simp[Region.wanted,hg,hy,gR]
      rw[if_pos hw];left;exact vR (h.1 gR) ⟨iN,a6,γ,rfl,ha,hs,hf⟩ (hd o cR) (λσ' a' w' hK eP=>qG hd hQ r (i+1) σ' a' w' hr hK eP)
     ·have hw:Region.wanted o (yielded ops a.tmps)=false:=by simp[Region.wanted,hg,hy,gR]
      rw[if_neg (by rw[hw];simp)];refine qG hd hQ r (i+1) _ _ _ hr (h.2 gR) ⟨by rw[put_defers];exact iN,by rw[rW];exact a6,{ γ with tmps:=(a.put o.dst Go.undef).tmps },rfl,rfl,pH hs ha (λd h=>by rw[a6];exact hd o cR d h) (.lit _),?_⟩;rw[pI];exact hf.put _
    ·rename_i vs he;obtain⟨iN,a6,γ,rfl,ha,hs,hf⟩:=aR;have jd:=hs.ax d;rw[he,ha]at jd;have hv:=jd.cH;have hy:yielded ops a.tmps j=none:=by
      unfold yielded;rw[ee];rw[eN]at hv;cases hx:a.tmps[d]? with
      |none=>simp[hx]
      |some y=>rw[hx]at hv;simp at hv;subst hv;simp[hx]
     have hw:Region.wanted o (yielded ops a.tmps)=false:=by simp[Region.wanted,hg,hy]
     rw[if_neg (by rw[hw];simp)];refine qG hd hQ r (i+1) _ _ _ hr h.2 ⟨by rw[put_defers];exact iN,by rw[rW];exact a6,{ γ with tmps:=(a.put o.dst Go.undef).tmps },rfl,rfl,pH hs ha (λd h=>by rw[a6];exact hd o cR d h) (.lit _),?_⟩;rw[pI];exact hf.put _
    ·exact h.elim
def Wt{os:List Ob}{γ0:Cx}{ops:Array Oper}(hd:∀ o∈ops.toList,∀ d,o.dst=some d->d<N){K K1:St->Prop}{Q:Exit->Act->World->Prop}(hn:os.length=n0)(hQ:∀ σ' a' w',K σ'->gl N os γ0 σ' a' w'->Q .normal a' w')(n:Nat)(hK:∀ s,K1 s->∃ s1,aB n0 s s1/\opsL P ops (ops.toList.drop n) K s1)(σ:St)(a:Act)(w:World)(h:opsL P ops (ops.toList.take n) K1 σ)(aR:gl N os γ0 σ a w):wpOps P ops Q (aN ops.size) a w:=by
 have e:aN ops.size=lU 0 (ops.toList.take n).length++lU (ops.toList.take n).length (ops.toList.drop n).length:=by
  rw[uf];have:=List.range'_append (s:=0) (m:=(ops.toList.take n).length) (n:=(ops.toList.drop n).length) (step:=1);simp only[Nat.zero_add,Nat.one_mul]at this;rw[this];congr 1;rw[<- List.length_append,List.take_append_drop];simp
 rw[e];refine v5 _ a w ?_;refine qG hd (K:=K1) (λσ' a' w' hk eP=>?_) (ops.toList.take n) 0 σ a w (λk hk=>?_) h aR
 ·obtain⟨s1,ht,ho⟩:=hK σ' hk;obtain⟨h1,h2,γ,rfl,h3,h4,h5⟩:=eP;obtain⟨aD,e1,e2,e3,e4⟩:=ht os γ0 γ hn h4 h5;refine qG hd hQ (ops.toList.drop n) _ s1 a' γ.w (λk hk=>?_) ho ⟨h1,h2,aD,e1,e2.trans h3,e3,e4⟩;rw[List.getElem?_drop];simp only[List.length_drop,rK]at hk;rw[iL,rK,Nat.min_eq_left I6];simp
 ·simp only[iL,rK]at hk;rw[List.getElem?_take_of_lt I6];simp
end Go.Am
namespace Go.Am
variable {σ:St}
def jB(R:AV->AV->Prop):List (List AV)->List (List AV)->Prop
 |[],[]=>True
 |c::cs,d::ds=>dS R c d/\jB R cs ds
 |_,_=>False
def jB.spec{R:AV->AV->Prop}:∀ {cs ds:List (List AV)},jB R cs ds->cs.length=ds.length/\∀ (r c:Nat) v,cellAt cs r c=some v->cellAt ds r c=some ((cellAt ds r c).getD .undef)/\R v ((cellAt ds r c).getD .undef)
 |[],[],_=>⟨rfl,by simp[cellAt]⟩
 |c::cs,d::ds,h=>by
  obtain⟨a,b⟩:=jB.spec h.2;refine⟨by simp[a],λr j v hv=>?_⟩;cases r with
  |zero =>
   simp only[cellAt,List.getElem?_cons_zero,Option.bind_some]at hv ⊢;obtain⟨e1,e2⟩:=h.1.spec;have hj:j<d.length:=by rw[<- e1];exact(aM.1 hv).1
   rw[bT hj];exact⟨rfl,e2 j v _ hv (bT hj)⟩
  |succ r =>
   have:=b r j v (by simpa [cellAt] using hv);simpa [cellAt] using this
def b9.mk{kp:Nat->Prop}{id sz len:Nat}{rows fE:List (List AV)}(ho:σ.aa[id]?=some (.arr sz rows))(hl:len=rows.length)(pJ:¬ kp id)(hw:∀ row∈fE,row.length=sz)(h:jB (b9 σ kp) fE rows):b9 σ kp (.tree sz fE) (.ref id sz 0 len):=by
 obtain⟨a,b⟩:=h.spec;subst hl;refine .ref id sz 0 rows.length rows fE (λr c=>(cellAt rows r c).getD .undef) ho pJ (by simp[a]) hw (λr c v hv=>?_) (λr c v hv=>?_)
 ·simpa using(b r c v hv).1
 ·exact(b r c v hv).2
end Go.Am

