import Derived.Test.YtdipcmigdbnheaaGreatX03
set_option linter.all false
set_option maxHeartbeats 0
set_option maxRecDepth 20000
open List renaming mem_of_getElem?→iD,mem_append→cH,map_congr_left→l8,getElem?_eq_some_iff→a8,range→aW,contains_iff_mem→rq,mem_cons→cB,not_mem_nil→kI,getD_eq_getElem?_getD→aA,getElem?_range→lg,nodup_range→Gt,range'→og,length_cons→eB,range'_succ→xg,range_eq_range'→xh,map_set→ry,replicate→bH,mem_map→cz,getElem?_eq_getElem→bK,take_of_length_le→dJ,length_take→eN
open Array renaming getD_eq_getD_getElem?→gm,toList_append→BA,replicate→yD,length_toList→vO
open Bool renaming or_eq_true→l9,and_eq_true→bw
open Option renaming some→dI
namespace Go.Am
variable {P:Program}
def Ks(P:Program)(g:FuncId)(args:List AV)(dst:Option Tmp)(K:St->Prop)(σ:St):Prop :=
 ∃ res,ao P g args [] res []/\ju args=true/\gL res=true/\K (σ.put dst res)
def uH(P:Program)(t:TypeId)(dst:Option Tmp)(K:St->Prop)(σ:St):AV->Prop
 |.cq cells=>(ty P t).kind≠99/\nJ (ty P t) cells 0 λv=>K (σ.put dst v)
 |_=>False
def nf(q:Bool)(P:Program)(o:Oper)(σ:St)(K:St->Prop):Prop :=
 match q with
 |false=>aZ P o σ K
 |true =>
  match o.op with
  |.call { callee:=.value f,args,.. } =>
   match ev σ f with
   |.fn g bj=>Ks P g (args.toList.map (ev σ)++bj) o.dst K σ
   |_=>False
  |.load t a=>uH P t o.dst K σ (ev σ a)
  |_=>False
def adF{o:Oper}{σ:St}{K:St->Prop}{t:TypeId}{a:Operand}(da:o.op=.load t a)(h:uH P t o.dst K σ (ev σ a)):aZ P o σ K:=by
 unfold aZ;simp only[da];unfold cU;simp only[da];unfold uH at h;split at h
 ·rename_i cells he;simp only[he];exact h
 ·exact h.elim
def Kt{t:TypeId}{dst:Option Tmp}{K:St->Prop}{σ:St}{v:AV}(h:uH P t dst K σ v):∃x,K (σ.put dst x)/\∀ (σ2:St) (K2:St->Prop),K2 (σ2.put dst x)->uH P t dst K2 σ2 v:=by
 unfold uH at h;split at h
 ·rename_i cells;obtain⟨h1,h2⟩:=h;unfold nJ at h2;split at h2
  ·rename_i ha;refine⟨_,h2.2,λσ2 K2 hK=>?_⟩;unfold uH nJ;simp only;rw[if_pos ha];exact⟨h1,h2.1,hK⟩
  ·rename_i ha;split at h2
   ·rename_i x hx;refine⟨x,h2,λσ2 K2 hK=>?_⟩;unfold uH nJ;simp only;rw[if_neg ha,hx];exact⟨h1,hK⟩
   ·exact h2.elim
 ·exact h.elim
def qo(q:Bool)(P:Program)(o:Oper)(K:St->Prop)(b want:Bool)(σ:St):Prop:=(b=want->nf q P o σ K)/\(b≠want->K (σ.put o.dst (.lit (.tuple #[]))))
def fy(P:Program)(ops:Array Oper)(q:Bool)(o:Oper)(K:St->Prop)(σ:St):Prop :=
 match o.guard with
 |none=>nf q P o σ K
 |some (j,want) =>
  match (ops[j]?).bind (·.dst) with
  |none=>False
  |some d =>
   match σ.env d with
   |.lit (.bool b)=>qo q P o K b want σ
   |.lit (.tuple vs)=>vs = #[]/\K (σ.put o.dst (.lit (.tuple #[])))
   |_=>False
def PX{q:Bool}{o:Oper}{σ:St}{K:St->Prop}(h:nf q P o σ K):aZ P o σ K:=by
 cases q with
 |false=>exact h
 |true =>
  unfold nf at h;simp only at h;unfold aZ;split at h
  ·rename_i f args dC da;simp only[da];split at h
   ·rename_i g bj he;simp only[he];obtain⟨res,h1,h2,h3,h4⟩:=h;exact cF h1 h2 h3 h4
   ·exact h.elim
  ·rename_i t a da;have:=adF da h;unfold aZ at this;simpa only[da] using this
  ·exact h.elim
def PY{N:Nat}{os:List Ob}{γ0:Cx}{ops:Array Oper}(hd:∀ o∈ops.toList,∀ d,o.dst=some d->d<N){q:Bool}{i:Nat}{o:Oper}(hi:ops[i]?=some o){σ:St}{K:St->Prop}(h:fy P ops q o K σ){a:Act}{w:World}(ax:iH N os γ0 σ a w){Q:Exit->Act->World->Prop}{next:Act->World->Prop}(hn:∀ σ' a' w',K σ'->iH N os γ0 σ' a' w'->next a' w'):wpOp P ops Q i next a w:=by
 have bO:o∈ops.toList:=iD (by simpa using hi);unfold wpOp;simp only[hi];unfold fy at h;cases hg:o.guard with
 |none =>
  simp only[hg]at h;have hw:Region.wanted o (yielded ops a.tmps)=true:=by simp[Region.wanted,hg]
  rw[if_pos hw];left;exact yN (PX h) ax (hd o bO) hn
 |some jw =>
  obtain⟨j,want⟩:=jw;simp only[hg]at h;cases eY:(ops[j]?).bind (·.dst) with
  |none=>simp[eY]at h
  |some d =>
   simp only[eY]at h;split at h
   ·rename_i b he;obtain⟨iU,bx,γ,rfl,ha,hs,hf⟩:=ax;have kP:=hs.aw d;rw[he,ha]at kP;have hv:=kP.dz;have hy:yielded ops a.tmps j=some b:=by
     unfold yielded;rw[eY];have:a.tmps[d]?=some (.bool b):=by
      rw[gm]at hv;cases hx:a.tmps[d]? with
      |none=>rw[hx]at hv;simp[Go.undef]at hv
      |some y=>rw[hx]at hv;simp at hv;rw[hv]
     simp[this]
    by_cases iv:b=want
    ·have hw:Region.wanted o (yielded ops a.tmps)=true:=by simp[Region.wanted,hg,hy,iv]
     rw[if_pos hw];left;exact yN (PX (h.1 iv)) ⟨iU,bx,γ,rfl,ha,hs,hf⟩ (hd o bO) hn
    ·have hw:Region.wanted o (yielded ops a.tmps)=false:=by simp[Region.wanted,hg,hy,iv]
     rw[if_neg (by rw[hw];simp)];refine hn _ _ _ (h.2 iv) ⟨by rw[put_defers];exact iU,by rw[uI];exact bx,{ γ with tmps:=(a.put o.dst Go.undef).tmps },rfl,rfl,sH hs ha (λd h=>by rw[bx];exact hd o bO d h) (.lit _),?_⟩;rw[rF];exact hf.put _
   ·rename_i vs he;obtain⟨iU,bx,γ,rfl,ha,hs,hf⟩:=ax;have kP:=hs.aw d;rw[he,ha]at kP;have hv:=kP.dz;have hy:yielded ops a.tmps j=none:=by
     unfold yielded;rw[eY];rw[gm]at hv;cases hx:a.tmps[d]? with
     |none=>simp[hx]
     |some y=>rw[hx]at hv;simp at hv;subst hv;simp[hx]
    have hw:Region.wanted o (yielded ops a.tmps)=false:=by simp[Region.wanted,hg,hy]
    rw[if_neg (by rw[hw];simp)];refine hn _ _ _ h.2 ⟨by rw[put_defers];exact iU,by rw[uI];exact bx,{ γ with tmps:=(a.put o.dst Go.undef).tmps },rfl,rfl,sH hs ha (λd h=>by rw[bx];exact hd o bO d h) (.lit _),?_⟩;rw[rF];exact hf.put _
   ·exact h.elim
def GW(c:Nat)(a:List Ob):mf c a a:=by
 unfold mf;split
 ·rfl
 ·split
  ·intro id _;rfl
  ·split
   ·exact⟨rfl,λid o o' h h'=>by rw[h]at h';simp at h';subst h';exact Ad o⟩
   ·trivial
def cL.aa{σ σ2:St}(h:σ2.aa=σ.aa){kp:Nat->Prop}{c d:AV}(ha:cL σ kp c d):cL σ2 kp c d:=by
 induction ha with
 |lit x=>exact .lit x
 |tree s r=>exact .tree s r
 |nil sz=>exact .nil sz
 |ref id sz off len rows iI g bk tF hl0 GX v3 tE ih=>exact .ref id sz off len rows iI g (by rw[h];exact bk) tF hl0 GX v3 ih
def aJ.aa{σ σ2:St}(h:σ2.aa=σ.aa){kp:Nat->Prop}{ρ:Nat->Nat}{snap:Bool}{c d:AV}(ha:aJ σ kp ρ snap c d):aJ σ2 kp ρ snap c d:=by
 induction ha with
 |same v=>exact .same v
 |snap c d hs hf=>exact .snap c d hs (hf.aa h)
 |agg cs ds hl _ ih=>exact .agg cs ds hl ih
 |bJ cs ds hl _ ih=>exact .bJ cs ds hl ih
def ic(q:Bool)(o:Oper):Nat:=if q then 0 else cls o.op
def xq{ops:Array Oper}{o:Oper}{σ:St}{e2:Nat->AV}{os:List Ob}(h:∀ t∈o.looksAt ops,e2 t=σ.env t):∀ x∈o.op.operands.toList,ev ⟨e2,os⟩ x=ev σ x:=by
 intro x hx;cases x with
 |tmp t =>
  show e2 t=σ.env t;refine h t ?_;unfold Oper.looksAt;rw[cH];left;rw[List.mem_filterMap];exact⟨_,hx,rfl⟩
 |const v=>rfl
 |func f=>rfl
 |global g=>rfl
def adG{σ:St}{v:AV}{K:FuncId->AV->Prop}{r:Option (FuncId×Option TypeId)}(h:qq P σ v K r):
  ∃ g x,K g x/\∀ (e2:Nat->AV) (K2:FuncId->AV->Prop),K2 g x->qq P ⟨e2,σ.aa⟩ v K2 r:=by
 match r,h with
 |none,h=>exact h.elim
 |some (g,none),h=>exact⟨g,v,h,λ_ _ h=>h⟩
 |some (g,some e),h =>
  unfold qq at h;obtain⟨hk,h⟩:=h;cases v with
  |ptr id rr c =>
   simp only at h;cases bq:rowOf σ id rr with
   |none=>simp[bq]at h
   |some row =>
    simp only[bq]at h;obtain⟨x,h1,h2⟩:=PZ h;refine⟨g,x,h1,λe2 K2 hK=>?_⟩;unfold qq;have:rowOf ⟨e2,σ.aa⟩ id rr=some row:=bq;simp only[this];exact⟨hk,h2 _ hK⟩
  |_=>exact h.elim
def adH{o:Oper}{σ:St}{K:St->Prop}(hW:aZ P o σ K):
  ∃ v os,mf (cls o.op) σ.aa os/\K ((⟨σ.env,os⟩:St).put o.dst v)/\∀ (e2:Nat->AV) (K2:St->Prop),(∀ x∈o.op.operands.toList,ev ⟨e2,σ.aa⟩ x=ev σ x)->K2 ((⟨e2,os⟩:St).put o.dst v)->aZ P o ⟨e2,σ.aa⟩ K2:=by
 unfold aZ at hW ⊢;split at hW
 ·rename_i f args dC da;simp only[da];split at hW
  ·rename_i g bj he;obtain⟨au,snap,ec,cp,res,dh,h1,⟨h2,h3,h4,h5,h6,h7⟩,h8⟩:=hW;refine⟨_,_,(by simp[mf,cls]),h8,λe2 K2 hx hK=>?_⟩;have e1:ev ⟨e2,σ.aa⟩ f=.fn g bj:=by rw[<- he];exact hx f (by simp[Op.operands,Call.operands])
   have e3:args.toList.map (ev ⟨e2,σ.aa⟩)=args.toList.map (ev σ):=l8 λy hy=>hx y (by simp only[Op.operands,Call.operands,BA,cH];exact .inr hy);simp only[e1,e3];exact⟨au,snap,ec,cp,res,dh,h1,⟨h2,h3,h4,h5,λj c d hc hd=>aJ.aa (σ:=σ) (σ2:=⟨e2,σ.aa⟩) rfl (h6 j c d hc hd),h7⟩,hK⟩
  ·exact hW.elim
 ·rename_i r m args dC da;simp only[da];split at hW
  ·rename_i t v he;obtain⟨g,x,⟨au,snap,ec,cp,res,dh,h1,⟨h2,h3,h4,h5,h6,h7⟩,h8⟩,adI⟩:=adG hW;refine⟨_,_,(by simp[mf,cls]),h8,λe2 K2 hx hK=>?_⟩;have e1:ev ⟨e2,σ.aa⟩ r=.jl t v:=by rw[<- he];exact hx r (by simp[Op.operands,Call.operands])
   have e3:args.toList.map (ev ⟨e2,σ.aa⟩)=args.toList.map (ev σ):=l8 λy hy=>hx y (by simp only[Op.operands,Call.operands,BA,cH];exact .inr hy);simp only[e1,e3];exact adI e2 _ ⟨au,snap,ec,cp,res,dh,h1,⟨h2,h3,h4,h5,λj c d hc hd=>aJ.aa (σ:=σ) (σ2:=⟨e2,σ.aa⟩) rfl (h6 j c d hc hd),h7⟩,hK⟩
  ·exact hW.elim
 ·rename_i dO;obtain⟨v,os,h1,h2,h3⟩:=adJ hW;refine⟨v,os,h1,h2,λe2 K2 hx hK=>?_⟩;have:=h3 e2 K2 hx hK;exact this
def adK{o:Oper}{σ:St}{K:St->Prop}(hc:cls o.op<=2)(hW:aZ P o σ K):
  ∃ v,K (σ.put o.dst v)/\∀ (σ2:St) (K2:St->Prop),(∀ x∈o.op.operands.toList,ev σ2 x=ev σ x)->(∀ (id:Nat),kr (cls o.op) σ.aa[id]? σ2.aa[id]?)->K2 (σ2.put o.dst v)->aZ P o σ2 K2:=by
 unfold aZ at hW ⊢;split at hW
 ·rename_i f args dC da;rw[da]at hc;simp[cls]at hc
 ·rename_i r m args dC da;rw[da]at hc;simp[cls]at hc
 ·rename_i dO;obtain⟨v,h2,h3⟩:=P0 hc hW;refine⟨v,h2,λσ2 K2 hx ho hK=>?_⟩;exact h3 σ2 K2 hx (λx _ id _=>ho id) hK
def P1{q:Bool}{o:Oper}{σ:St}{K:St->Prop}(hW:nf q P o σ K):
  ∃ v os,mf (ic q o) σ.aa os/\K ((⟨σ.env,os⟩:St).put o.dst v)/\∀ (e2:Nat->AV) (K2:St->Prop),(∀ x∈o.op.operands.toList,ev ⟨e2,σ.aa⟩ x=ev σ x)->K2 ((⟨e2,os⟩:St).put o.dst v)->nf q P o ⟨e2,σ.aa⟩ K2:=by
 cases q with
 |false=>exact adH hW
 |true =>
  unfold nf at hW ⊢;simp only at hW ⊢;split at hW
  ·rename_i f args dC da;simp only[da];split at hW
   ·rename_i g bj he;obtain⟨res,h1,h2,h3,h4⟩:=hW;refine⟨res,σ.aa,GW _ _,h4,λe2 K2 hx hK=>?_⟩;have e1:ev ⟨e2,σ.aa⟩ f=.fn g bj:=by rw[<- he];exact hx f (by simp[Op.operands,Call.operands])
    have e3:args.toList.map (ev ⟨e2,σ.aa⟩)=args.toList.map (ev σ):=l8 λy hy=>hx y (by simp only[Op.operands,Call.operands,BA,cH];exact .inr hy);simp only[e1,e3];exact⟨res,h1,h2,h3,hK⟩
   ·exact hW.elim
  ·rename_i t a da;obtain⟨x,h1,h2⟩:=Kt hW;refine⟨x,σ.aa,GW _ _,h1,λe2 K2 hx hK=>?_⟩;rw[hx a (by simp[da,Op.operands])];exact h2 _ K2 hK
  ·exact hW.elim
def P3{q:Bool}{o:Oper}{σ:St}{K:St->Prop}(hc:ic q o<=2)(hW:nf q P o σ K):
  ∃ v,K (σ.put o.dst v)/\∀ (σ2:St) (K2:St->Prop),(∀ x∈o.op.operands.toList,ev σ2 x=ev σ x)->(∀ (id:Nat),kr (ic q o) σ.aa[id]? σ2.aa[id]?)->K2 (σ2.put o.dst v)->nf q P o σ2 K2:=by
 cases q with
 |false=>exact adK hc hW
 |true =>
  unfold nf at hW ⊢;simp only at hW ⊢;split at hW
  ·rename_i f args dC da;simp only[da];split at hW
   ·rename_i g bj he;obtain⟨res,h1,h2,h3,h4⟩:=hW;refine⟨res,h4,λσ2 K2 hx _ hK=>?_⟩;have e1:ev σ2 f=.fn g bj:=by rw[<- he];exact hx f (by simp[Op.operands,Call.operands])
    have e3:args.toList.map (ev σ2)=args.toList.map (ev σ):=l8 λy hy=>hx y (by simp only[Op.operands,Call.operands,BA,cH];exact .inr hy);simp only[e1,e3];exact⟨res,h1,h2,h3,hK⟩
   ·exact hW.elim
  ·rename_i t a da;obtain⟨x,h1,h2⟩:=Kt hW;refine⟨x,h1,λσ2 K2 hx _ hK=>?_⟩;rw[hx a (by simp[da,Op.operands])];exact h2 _ K2 hK
  ·exact hW.elim
def xr{ops:Array Oper}{o:Oper}{j d:Nat}{want:Bool}(hg:o.guard=some (j,want))(hd:(ops[j]?).bind (·.dst)=some d):d∈o.looksAt ops:=by
 unfold Oper.looksAt;rw[cH];right;simp[hg,hd]
def DG{ops:Array Oper}{q:Bool}{o:Oper}{σ:St}{K:St->Prop}(hW:fy P ops q o K σ):
  ∃ v os,mf (ic q o) σ.aa os/\K ((⟨σ.env,os⟩:St).put o.dst v)/\∀ (e2:Nat->AV) (K2:St->Prop),(∀ t∈o.looksAt ops,e2 t=σ.env t)->K2 ((⟨e2,os⟩:St).put o.dst v)->fy P ops q o K2 ⟨e2,σ.aa⟩:=by
 unfold fy at hW ⊢;cases hg:o.guard with
 |none =>
  simp only[hg]at hW;obtain⟨v,os,h1,h2,h3⟩:=P1 hW;exact⟨v,os,h1,h2,λe2 K2 hl hK=>h3 e2 K2 (xq hl) hK⟩
 |some jw =>
  obtain⟨j,want⟩:=jw;simp only[hg]at hW;cases eY:(ops[j]?).bind (·.dst) with
  |none=>simp[eY]at hW
  |some d =>
   simp only[eY]at hW;split at hW
   ·rename_i b he;by_cases iv:b=want
    ·obtain⟨v,os,h1,h2,h3⟩:=P1 (hW.1 iv);refine⟨v,os,h1,h2,λe2 K2 hl hK=>?_⟩;have:e2 d=.lit (.bool b):=by rw[hl d (xr hg eY)];exact he
     simp only[eY,this];exact⟨λ_=>h3 e2 K2 (xq hl) hK,λhn=>absurd iv hn⟩
    ·refine⟨.lit (.tuple #[]),σ.aa,GW _ _,hW.2 iv,λe2 K2 hl hK=>?_⟩;have:e2 d=.lit (.bool b):=by rw[hl d (xr hg eY)];exact he
     simp only[eY,this];exact⟨λhn=>absurd hn iv,λ_=>hK⟩
   ·rename_i vs he;refine⟨.lit (.tuple #[]),σ.aa,GW _ _,hW.2,λe2 K2 hl hK=>?_⟩;have:e2 d=.lit (.tuple vs):=by rw[hl d (xr hg eY)];exact he
    simp only[eY,this];exact⟨hW.1,hK⟩
   ·exact hW.elim
def P4{ops:Array Oper}{q:Bool}{o:Oper}{σ:St}{K:St->Prop}(hc:ic q o<=2)(hW:fy P ops q o K σ):
  ∃ v,K (σ.put o.dst v)/\∀ (σ2:St) (K2:St->Prop),(∀ t∈o.looksAt ops,σ2.env t=σ.env t)->(∀ (id:Nat),kr (ic q o) σ.aa[id]? σ2.aa[id]?)->K2 (σ2.put o.dst v)->fy P ops q o K2 σ2:=by
 unfold fy at hW ⊢;cases hg:o.guard with
 |none =>
  simp only[hg]at hW;obtain⟨v,h2,h3⟩:=P3 hc hW;exact⟨v,h2,λσ2 K2 hl ho hK=>h3 σ2 K2 (xq (e2:=σ2.env) (os:=σ2.aa) hl) ho hK⟩
 |some jw =>
  obtain⟨j,want⟩:=jw;simp only[hg]at hW;cases eY:(ops[j]?).bind (·.dst) with
  |none=>simp[eY]at hW
  |some d =>
   simp only[eY]at hW;split at hW
   ·rename_i b he;by_cases iv:b=want
    ·obtain⟨v,h2,h3⟩:=P3 hc (hW.1 iv);refine⟨v,h2,λσ2 K2 hl ho hK=>?_⟩;have:σ2.env d=.lit (.bool b):=by rw[hl d (xr hg eY)];exact he
     simp only[eY,this];exact⟨λ_=>h3 σ2 K2 (xq (e2:=σ2.env) (os:=σ2.aa) hl) ho hK,λhn=>absurd iv hn⟩
    ·refine⟨.lit (.tuple #[]),hW.2 iv,λσ2 K2 hl ho hK=>?_⟩;have:σ2.env d=.lit (.bool b):=by rw[hl d (xr hg eY)];exact he
     simp only[eY,this];exact⟨λhn=>absurd hn iv,λ_=>hK⟩
   ·rename_i vs he;refine⟨.lit (.tuple #[]),hW.2,λσ2 K2 hl ho hK=>?_⟩;have:σ2.env d=.lit (.tuple vs):=by rw[hl d (xr hg eY)];exact he
    simp only[eY,this];exact⟨hW.1,hK⟩
   ·exact hW.elim
def yO{σ:St}{dst:Option Tmp}{v:AV}{t:Nat}(h:∀ d,dst=some d->d≠t):(σ.put dst v).env t=σ.env t:=by
 cases dst with
 |none=>rfl
 |some d =>
  have:=h d rfl;simp[St.put,j8,Ne.symm this]
def GY{σ:St}{x y:Option Tmp}{v u:AV}(h:∀ d,x=some d->y≠some d):(σ.put x v).put y u=(σ.put y u).put x v:=by
 cases x with
 |none=>rfl
 |some d =>
  cases y with
  |none=>rfl
  |some d' =>
   have dO:d'≠d:=λe=>h d rfl (by rw[e]);simp only[St.put];congr 1;funext k;simp only[j8];split<;>split<;>simp_all
def GZ{σ:St}{x:Option Tmp}{v:AV}:(σ.put x v).aa=σ.aa:=by cases x<;>rfl
def P5{σ:St}{x:Option Tmp}{v:AV}:σ.put x v=⟨(σ.put x v).env,σ.aa⟩:=by cases x<;>rfl
def G0{σ:St}{os:List Ob}{x:Option Tmp}{v:AV}:(⟨(σ.put x v).env,os⟩:St)=(⟨σ.env,os⟩:St).put x v:=by cases x<;>rfl
def BQ(ci ck:Nat):Bool:=ci==0||ck==0||(ci==1&&decide (ck<=4))||(ci==2&&decide (ck<=3))
def P6{ci ck:Nat}(h:(ci==0||(ci==1&&decide (ck<=4))||(ci==2&&decide (ck<=3)))=true){a b:List Ob}(he:mf ck a b)(id:Nat):kr ci a[id]? b[id]?:=by
 simp only[l9,bw,beq_iff_eq,decide_eq_true_eq]at h;rcases h with(rfl|⟨rfl,hk⟩)|⟨rfl,hk⟩
 ·simp[kr]
 ·unfold mf at he;have:∀ o,a[id]?=some o->∃ o',b[id]?=some o'/\uJ o o':=by
   intro o ho;have br:=(a8.1 ho).1;split at he
   ·subst he;exact⟨o,ho,Ad o⟩
   ·split at he
    ·exact⟨o,by rw[he id br];exact ho,Ad o⟩
    ·split at he
     ·have hb:id<b.length:=GC;exact⟨b[id],by simp[hb],he.2 id o _ ho (by simp[hb])⟩
     ·omega
  simpa [kr] using this
 ·unfold mf at he;have:∀ o,a[id]?=some o->b[id]?=some o:=by
   intro o ho;have br:=(a8.1 ho).1;split at he
   ·subst he;exact ho
   ·split at he
    ·rw[he id br];exact ho
    ·omega
  simpa [kr] using this
def adL{ops:Array Oper}{qi qk:Bool}{oi ok:Oper}(ha:oi.apart ops ok=true)(hi:ic qi oi<=2)(hc:(ic qi oi==0||(ic qi oi==1&&decide (ic qk ok<=4))||(ic qi oi==2&&decide (ic qk ok<=3)))=true){σ:St}{K:St->Prop}(h:fy P ops qi oi (fy P ops qk ok K) σ):fy P ops qk ok (fy P ops qi oi K) σ:=by
 obtain⟨a1,a2,a3⟩:=Oper.apart_spec ha;obtain⟨v,h1,run⟩:=P4 hi h;obtain⟨vk,os,Ae,h2,DH⟩:=DG h1;rw[GZ]at Ae DH;refine DH σ.env _ (λt ht=>(yO λd hd e=>a1 d hd (e▸ht)).symm) ?_;refine run _ _ (λt ht=>?_) (λid=>?_) ?_
 ·rw[yO λd hd e=>a3 d hd (e▸ht)]
 ·rw[GZ];exact P6 hc Ae id
 ·rw[G0]at h2;rw[GY (λd hd e=>a2 d e hd)];exact h2
def adM{ops:Array Oper}{qi qk:Bool}{oi ok:Oper}(ha:oi.apart ops ok=true)(hk:ic qk ok=0){σ:St}{K:St->Prop}(h:fy P ops qi oi (fy P ops qk ok K) σ):fy P ops qk ok (fy P ops qi oi K) σ:=by
 obtain⟨a1,a2,a3⟩:=Oper.apart_spec ha;obtain⟨vi,os,Ae,h1,run⟩:=DG h;obtain⟨vk,h2,Ku⟩:=P4 GC h1;refine Ku σ _ (λt ht=>(yO (σ:=⟨σ.env,os⟩) λd hd e=>a1 d hd (e▸ht)).symm) (λid=>by rw[hk];simp[kr]) ?_;rw[P5];refine run _ _ (λt ht=>yO λd hd e=>a3 d hd (e▸ht)) ?_;rw[G0,GY (λd hd e=>a2 d e hd)];exact h2
def adN{ops:Array Oper}{qi qk:Bool}{oi ok:Oper}(ha:oi.apart ops ok=true)(hc:BQ (ic qi oi) (ic qk ok)=true){σ:St}{K:St->Prop}(h:fy P ops qi oi (fy P ops qk ok K) σ):fy P ops qk ok (fy P ops qi oi K) σ:=by
 by_cases hk:ic qk ok=0
 ·exact adM ha hk h
 ·have ln:(ic qi oi==0||(ic qi oi==1&&decide (ic qk ok<=4))||(ic qi oi==2&&decide (ic qk ok<=3)))=true:=by
   simp only[BQ,l9,bw,beq_iff_eq,decide_eq_true_eq]at hc ⊢;rcases hc with((h|h)|h)|h
   ·exact .inl (.inl h)
   ·exact absurd h hk
   ·exact .inl (.inr h)
   ·exact .inr h
  refine adL ha ?_ ln h;simp only[l9,bw,beq_iff_eq,decide_eq_true_eq]at ln;omega
end Go.Am
namespace Go.Am
variable {P:Program} {N n0:Nat} {σ:St}
def dj(P:Program)(ops:Array Oper)(qs:List Nat)(i:Nat)(K:St->Prop)(σ:St):Prop :=
 match ops[i]? with
 |none=>K σ
 |some o=>fy P ops (qs.contains i) o K σ
def uK(P:Program)(ops:Array Oper)(qs:List Nat)(K:St->Prop):Nat->Array Bool->St->Prop
 |0,a6,σ=>Region.ready .any ops a6=[]/\K σ
 |n+1,a6,σ=>(Region.ready .any ops a6=[]->K σ)/\∀ i∈Region.ready .any ops a6,dj P ops qs i (uK P ops qs K n (a6.setIfInBounds i true)) σ
def DI{ops:Array Oper}{q:Bool}{o:Oper}{σ:St}{K K2:St->Prop}(hk:∀ s,K s->K2 s)(h:fy P ops q o K σ):fy P ops q o K2 σ:=by
 obtain⟨v,os,_,h2,run⟩:=DG h;exact run σ.env K2 (λ_ _=>rfl) (hk _ h2)
def adO{ops:Array Oper}{q:Bool}{o:Oper}{σ:St}{K:St->Prop}(h:fy P ops q o K σ):∃s,K s:=by
 obtain⟨v,os,_,h2,run⟩:=DG h;exact⟨_,h2⟩
def oo{ops:Array Oper}{qs:List Nat}{i:Nat}{σ:St}{K K2:St->Prop}(hk:∀ s,K s->K2 s)(h:dj P ops qs i K σ):dj P ops qs i K2 σ:=by
 unfold dj at h ⊢;split at h
 ·exact hk _ h
 ·exact DI hk h
def adP{ops:Array Oper}{qs:List Nat}{i:Nat}{σ:St}{K:St->Prop}(h:dj P ops qs i K σ):∃s,K s:=by
 unfold dj at h;split at h
 ·exact⟨_,h⟩
 ·exact adO h
def Kv{os:List Ob}{γ0:Cx}{ops:Array Oper}{qs:List Nat}(hd:∀ o∈ops.toList,∀ d,o.dst=some d->d<N){K:St->Prop}{Q:Exit->Act->World->Prop}(hQ:∀ σ' a' w',K σ'->iH N os γ0 σ' a' w'->Q .normal a' w'):∀ (n:Nat) (a6:Array Bool) (σ:St) (a:Act) (w:World),uK P ops qs K n a6 σ->iH N os γ0 σ a w->wpAny P .any ops Q n a6 a w
 |0,a6,σ,a,w,h,ax=>⟨h.1,hQ _ _ _ h.2 ax⟩
 |n+1,a6,σ,a,w,h,ax=>by
  refine⟨λhr=>hQ _ _ _ (h.1 hr) ax,λi hi=>?_⟩;have:=h.2 i hi;unfold dj at this;split at this
  ·rename_i hi';unfold wpOp;simp only[hi'];exact Kv hd hQ n _ _ _ _ this ax
  ·rename_i o hi';exact PY hd hi' this ax λσ' a' w' hK ed=>Kv hd hQ n _ _ _ _ hK ed
def P7{id:Nat}{ops:Array Oper}{Q:Exit->St->Prop}(qs:List Nat)(hm:P.follows .mixedOrders=true)(hd:gU N ops=true)(h:uK P ops qs (Q .normal) ops.size (yD ops.size false) σ):W P N n0 (.region id ops true) Q σ:=by
 intro os γ0 a w _ ax;refine wp_region_any hm ?_;exact Kv (sI hd) (K:=Q .normal) (λσ' a' w' hK ed=>⟨σ',hK,ed⟩) _ _ _ _ _ h ax.drawn
def adQ{ops:Array Oper}{qs:List Nat}{K:St->Prop}{i:Nat}{o:Oper}(hi:ops[i]?=some o)(D:List Nat)(hiD:i∈D)(hD:∀ j∈D,j=i\/∃ oj,ops[j]?=some oj/\∃ e∈oj.after,Region.binds .any e=true/\e.on∈D):∀ (fuel:Nat) (a6:Array Bool) (σ:St),(∀ j∈D,a6.getD j true=false) ->
   i∈Region.ready .any ops a6 ->
   (∀ j oj,ops[j]?=some oj->a6.getD j true=false->j ∉ D->o.apart ops oj=true/\BQ (ic (qs.contains i) o) (ic (qs.contains j) oj)=true) ->
   dj P ops qs i (uK P ops qs K fuel (a6.setIfInBounds i true)) σ->uK P ops qs K (fuel+1) a6 σ:=by
 intro fuel
 induction fuel with
 |zero =>
  intro a6 σ hu hr lp h;refine⟨λe=>by rw[e]at hr;simp at hr,λk hk=>?_⟩;by_cases jD:k=i
  ·subst jD;exact h
  ·obtain⟨s,hs⟩:=adP h;have:=ready_mono hk jD;rw[hs.1]at this;simp at this
 |succ m ih =>
  intro a6 σ hu hr lp h;refine⟨λe=>by rw[e]at hr;simp at hr,λk hk=>?_⟩;by_cases jD:k=i
  ·subst jD;exact h
  ·have DJ:=mem_ready.1 hk;obtain⟨cI,ok,ax,fA⟩:=DJ;have xu:k ∉ D:=by
    intro xu;rcases hD k xu with e|⟨oj,mM,e,he,hb,Af⟩
    ·exact jD e
    ·rw[ax]at mM;simp only[dI.injEq]at mM;subst mM;have h1:=fA e he hb;have h2:=hu e.on Af;rw[gm]at h1 h2;cases hx:a6[e.on]? with
     |none=>rw[hx]at h1;simp at h1
     |some b=>rw[hx]at h1 h2;simp at h1 h2;rw[h1]at h2;simp at h2
   obtain⟨ha,hc⟩:=lp k ok ax cI xu;have h1:dj P ops qs i (dj P ops qs k (uK P ops qs K m ((a6.setIfInBounds i true).setIfInBounds k true))) σ :=
    oo (λs hs=>hs.2 k (ready_mono hk jD)) h
   have h2:dj P ops qs k (dj P ops qs i (uK P ops qs K m ((a6.setIfInBounds i true).setIfInBounds k true))) σ:=by
    unfold dj at h1 ⊢;simp only[hi,ax]at h1 ⊢;exact adN ha hc h1
   refine oo (λs hs=>?_) h2;refine ih (a6.setIfInBounds k true) s (λj hj=>?_) (ready_mono hr (Ne.symm jD)) (λj oj mM hl tG=>?_) ?_
   ·have dO:k≠j:=λe=>xu (by rw[e];exact hj);rw[getD_set_ne _ dO];exact hu j hj
   ·refine lp j oj mM ?_ tG;by_cases DK:k=j
    ·subst DK;exact cI
    ·rwa [getD_set_ne _ DK]at hl
   ·rw[Array.setIfInBounds_comm _ _ (Ne.symm jD)]at hs;exact hs
def Kw(ops:Array Oper)(i:Nat):List Nat :=
 (aW ops.size).foldl (λD j=>if j==i||(match ops[j]? with|some oj=>oj.after.any (λe=>Region.binds .any e&&D.contains e.on)|none=>false) then D++[j] else D) []
def G1(ops:Array Oper)(qs:List Nat)(a6:Array Bool)(i:Nat)(D:List Nat):Bool :=
 match ops[i]? with
 |none=>false
 |some o =>
  D.contains i&&D.all (λj=>j==i||match ops[j]? with|some oj=>oj.after.any (λe=>Region.binds .any e&&D.contains e.on)|none=>false) &&
  D.all (λj=>!a6.getD j true)&&o.after.all (λe=>!Region.binds .any e||a6.getD e.on false) &&
  (aW ops.size).all λj=>D.contains j||a6.getD j true||match ops[j]? with|some oj=>o.apart ops oj&&BQ (ic (qs.contains i) o) (ic (qs.contains j) oj)|none=>true
def P8{ops:Array Oper}{qs:List Nat}{K:St->Prop}{i:Nat}{D:List Nat}{fuel:Nat}{a6:Array Bool}(h:G1 ops qs a6 i D=true)(hs:dj P ops qs i (uK P ops qs K fuel (a6.setIfInBounds i true)) σ):uK P ops qs K (fuel+1) a6 σ:=by
 unfold G1 at h;cases hi:ops[i]? with
 |none=>simp[hi]at h
 |some o =>
  simp only[hi,bw,List.all_eq_true,rq,l9,beq_iff_eq,Bool.not_eq_true']at h;obtain⟨⟨⟨⟨h1,h2⟩,h3⟩,h4⟩,h5⟩:=h;refine adQ hi D h1 (λj hj=>?_) fuel a6 σ h3 ?_ ?_ hs
  ·rcases h2 j hj with h|h
   ·exact .inl h
   ·right;split at h
    ·rename_i oj mM;rw[Array.any_eq_true']at h;obtain⟨e,he,hb⟩:=h;simp only[bw,rq]at hb;exact⟨oj,mM,e,he,hb.1,hb.2⟩
    ·simp at h
  ·rw[mem_ready];refine⟨h3 i h1,o,hi,λe he hb=>?_⟩;rw[Array.all_eq_true']at h4;have:=h4 e he;simpa [hb] using this
  ·intro j oj mM hl tG;have hj:j<ops.size:=(Array.getElem?_eq_some_iff.1 mM).1;rcases h5 j (List.mem_range.2 hj) with(h|h)|h
   ·exact absurd h tG
   ·rw[hl]at h;simp at h
   ·simpa [mM] using h
inductive PT where
 |nil
 |take (i:Nat) (t:PT)
 |both (i:Nat) (t:PT) (j:Nat) (u:PT)
 |three (i:Nat) (t:PT) (j:Nat) (u:PT) (k:Nat) (v:PT)
def PT.ok(ops:Array Oper)(qs:List Nat):PT->Nat->Array Bool->Bool
 |.nil,n,a6=>n==0&&(Region.ready .any ops a6).isEmpty
 |.take _ _,0,_=>false
 |.take i t,n+1,a6=>G1 ops qs a6 i (Kw ops i)&&t.ok ops qs n (a6.setIfInBounds i true)
 |.both _ _ _ _,0,_=>false
 |.both i t j u,n+1,a6=>(Region.ready .any ops a6==[i,j])&&t.ok ops qs n (a6.setIfInBounds i true)&&u.ok ops qs n (a6.setIfInBounds j true)
 |.three _ _ _ _ _ _,0,_=>false
 |.three i t j u k v,n+1,a6=>(Region.ready .any ops a6==[i,j,k])&&t.ok ops qs n (a6.setIfInBounds i true)&&u.ok ops qs n (a6.setIfInBounds j true)&&v.ok ops qs n (a6.setIfInBounds k true)
def ku(P:Program)(ops:Array Oper)(qs:List Nat):PT->(St->Prop)->St->Prop
 |.nil,K,σ=>K σ
 |.take i t,K,σ=>dj P ops qs i (ku P ops qs t K) σ
 |.both i t j u,K,σ=>dj P ops qs i (ku P ops qs t K) σ/\dj P ops qs j (ku P ops qs u K) σ
 |.three i t j u k v,K,σ=>dj P ops qs i (ku P ops qs t K) σ/\dj P ops qs j (ku P ops qs u K) σ/\dj P ops qs k (ku P ops qs v K) σ
def Ag{ops:Array Oper}{qs:List Nat}{K:St->Prop}:∀ (t:PT) (n:Nat) (a6:Array Bool) (σ:St),t.ok ops qs n a6=true->ku P ops qs t K σ->uK P ops qs K n a6 σ
 |.nil,n,a6,σ,h,hp=>by
  simp only[PT.ok,bw,beq_iff_eq,List.isEmpty_iff]at h;obtain⟨rfl,h⟩:=h;exact⟨h,hp⟩
 |.take _ _,0,_,_,h,_=>by simp[PT.ok]at h
 |.take i t,n+1,a6,σ,h,hp=>by
  simp only[PT.ok,bw]at h;exact P8 h.1 (oo (λs hs=>Ag t n _ s h.2 hs) hp)
 |.both _ _ _ _,0,_,_,h,_=>by simp[PT.ok]at h
 |.both i t j u,n+1,a6,σ,h,hp=>by
  simp only[PT.ok,bw,beq_iff_eq]at h;obtain⟨⟨h1,h2⟩,h3⟩:=h;refine⟨λe=>by rw[h1]at e;simp at e,λk hk=>?_⟩;rw[h1]at hk;simp only[cB,kI,or_false]at hk;rcases hk with rfl|rfl
  ·exact oo (λs hs=>Ag t n _ s h2 hs) hp.1
  ·exact oo (λs hs=>Ag u n _ s h3 hs) hp.2
 |.three _ _ _ _ _ _,0,_,_,h,_=>by simp[PT.ok]at h
 |.three i t j u k v,n+1,a6,σ,h,hp=>by
  simp only[PT.ok,bw,beq_iff_eq]at h;obtain⟨⟨⟨h1,h2⟩,h3⟩,h4⟩:=h;refine⟨λe=>by rw[h1]at e;simp at e,λx hk=>?_⟩;rw[h1]at hk;simp only[cB,kI,or_false]at hk;rcases hk with rfl|rfl|rfl
  ·exact oo (λs hs=>Ag t n _ s h2 hs) hp.1
  ·exact oo (λs hs=>Ag u n _ s h3 hs) hp.2.1
  ·exact oo (λs hs=>Ag v n _ s h4 hs) hp.2.2
def kv{id:Nat}{ops:Array Oper}{Q:Exit->St->Prop}(qs:List Nat)(t:PT)(hm:P.follows .mixedOrders=true)(hd:gU N ops=true)(ht:t.ok ops qs ops.size (yD ops.size false)=true)(h:ku P ops qs t (Q .normal) σ):W P N n0 (.region id ops true) Q σ :=
 P7 qs hm hd (Ag t _ _ σ ht h)
def P9{id:Nat}{ops:Array Oper}{y:Code}{Q:Exit->St->Prop}(qs:List Nat)(t:PT)(hm:P.follows .mixedOrders=true)(hd:gU N ops=true)(ht:t.ok ops qs ops.size (yD ops.size false)=true)(h:∀ K:St->Prop,(∀ s,W P N n0 y Q s->K s)->ku P ops qs t K σ):W P N n0 (.seq (.region id ops true) y) Q σ :=
 Kx (kv qs t hm hd ht (h _ (λ_ h=>h)))
def uL{ops:Array Oper}{qs:List Nat}{K:St->Prop}:ku P ops qs .nil K σ=K σ:=rfl
def uM{ops:Array Oper}{qs:List Nat}{i:Nat}{t:PT}{K:St->Prop}:ku P ops qs (.take i t) K σ=dj P ops qs i (ku P ops qs t K) σ:=rfl
def DM{ops:Array Oper}{qs:List Nat}{i j k:Nat}{t u v:PT}{K:St->Prop}:ku P ops qs (.three i t j u k v) K σ=(dj P ops qs i (ku P ops qs t K) σ/\dj P ops qs j (ku P ops qs u K) σ/\dj P ops qs k (ku P ops qs v K) σ):=rfl
def xw{ops:Array Oper}{qs:List Nat}{i j:Nat}{t u:PT}{K:St->Prop}:ku P ops qs (.both i t j u) K σ=(dj P ops qs i (ku P ops qs t K) σ/\dj P ops qs j (ku P ops qs u K) σ):=rfl
def Qa{q:Bool}{o:Oper}{K:St->Prop}:qo q P o K true true σ=nf q P o σ K:=by simp[qo]
def Qd{q:Bool}{o:Oper}{K:St->Prop}:qo q P o K false false σ=nf q P o σ K:=by simp[qo]
def Qe{q:Bool}{o:Oper}{K:St->Prop}:qo q P o K true false σ=K (σ.put o.dst (.lit (.tuple #[]))):=by simp[qo]
def Qf{q:Bool}{o:Oper}{K:St->Prop}:qo q P o K false true σ=K (σ.put o.dst (.lit (.tuple #[]))):=by simp[qo]
def adS{q:Bool}{o:Oper}{K:St->Prop}{b want:Bool}(h1:b=true->qo q P o K true want σ)(h2:b=false->qo q P o K false want σ):qo q P o K b want σ:=by
 cases b
 ·exact h2 rfl
 ·exact h1 rfl
def kx:List Nat->PT
 |[]=>.nil
 |i::r=>.take i (kx r)
end Go.Am
namespace Go.Am
variable {P:Program} {N n0:Nat} {σ:St} {Q:Exit->St->Prop}
def aw:List (Nat×AV)->Nat->AV
 |[]=>λ_=>.undef
 |p::l=>j8 (aw l) p.1 p.2
def G2(d:Nat)(v:AV)(l:List (Nat×AV)):aw ((d,v)::l)=j8 (aw l) d v:=rfl
def G3(l:List (Nat×AV))(k:Nat):aw l k=.undef\/∃ p∈l,p.1=k/\aw l k=p.2:=by
 induction l with
 |nil=>exact .inl rfl
 |cons p l ih =>
  by_cases h:k=p.1
  ·right;exact⟨p,GF,h.symm,by simp[aw,j8,h]⟩
  ·have e:aw (p::l) k=aw l k:=by simp[aw,j8,h]
   rw[e];rcases ih with h|⟨q,hq,h1,h2⟩
   ·exact .inl h
   ·exact .inr ⟨q,by simp[hq],h1,h2⟩
def Has(e:Nat->AV):List (Nat×AV)->Prop
 |[]=>True
 |p::l=>e p.1=p.2/\Has e l
def Has.mem{e:Nat->AV}:∀ {l:List (Nat×AV)},Has e l->∀ p∈l,e p.1=p.2
 |q::l,h,p,hp=>by
  rcases cB.1 hp with rfl|hp
  ·exact h.1
  ·exact Has.mem h.2 p hp
def aF.aw(l:List (Nat×AV))(os:List Ob)(ho:σ.aa=os)(h:Has σ.env l):aF n0 σ ⟨aw l,os⟩:=by
 subst ho;refine aF.forget λk=>?_;rcases G3 l k with h'|⟨p,hp,rfl,h'⟩
 ·exact .inl h'
 ·right;rw[h',h.mem p hp]
def qt(ρ:Nat->Nat)(os:List Ob):List Nat->List Ob->Prop
 |[],[]=>True
 |i::au,o::co=>(i<os.length/\(o=.gone\/os[i]?=some (cg ρ o)))/\qt ρ os au co
 |_,_=>False
def qt.spec{ρ:Nat->Nat}{os:List Ob}:∀ {au:List Nat} {co:List Ob},qt ρ os au co->co.length=au.length/\(∀ (j:Nat) o,co[j]?=some o->o=.gone\/os[au.getD j 0]?=some (cg ρ o))/\∀ i∈au,i<os.length
 |[],[],_=>⟨rfl,GF,GF⟩
 |i::au,o::co,h=>by
  obtain⟨⟨h1,h2⟩,h3⟩:=h;obtain⟨a,b,c⟩:=qt.spec h3;refine⟨by simp[a],λj o' hj=>?_,λx hx=>?_⟩
  ·cases j with
   |zero=>simp at hj;subst hj;simpa using h2
   |succ j=>simpa using b j o' (by simpa using hj)
  ·rcases cB.1 hx with rfl|hx
   ·exact h1
   ·exact c x hx
def tH(R:AV->AV->Prop)(e:Nat->AV):List (Nat×AV)->Prop
 |[]=>True
 |p::l=>R p.2 (e p.1)/\tH R e l
def tH.mem{R:AV->AV->Prop}{e:Nat->AV}:∀ {l:List (Nat×AV)},tH R e l->∀ p∈l,R p.2 (e p.1)
 |q::l,h,p,hp=>by
  rcases cB.1 hp with rfl|hp
  ·exact h.1
  ·exact tH.mem h.2 p hp
def kept(au:List Nat)(co:List Ob)(id:Nat):Prop:=∃ j,j<au.length/\au.getD j 0=id/\co[j]?≠some .gone
def aF.au(au:List Nat)(snap:Bool)(l:List (Nat×AV))(co:List Ob)(bX:au.Nodup)(ho:qt (bL σ.aa.length au) σ.aa au co)(hn:n0<=au.length)(dt:∀ i,i<n0->au.getD i 0=i)(h:tH (aJ σ (kept au co) (bL σ.aa.length au) snap) σ.env l):aF n0 σ ⟨Am.aw l,co⟩:=by
 obtain⟨h1,h2,h3⟩:=ho.spec;refine aF.select au snap co _ bX h1 h2 h3 hn dt λk=>?_;rcases G3 l k with h'|⟨p,hp,rfl,h'⟩
 ·exact .inl h'
 ·right;rw[h'];exact h.mem p hp
def aJ.pure{kp:Nat->Prop}{ρ:Nat->Nat}{snap:Bool}{v:AV}(h:gL v=true):aJ σ kp ρ snap v v:=by
 have:=aJ.same (σ:=σ) (kp:=kp) (ρ:=ρ) (snap:=snap) v;rwa [Ah _ v h]at this
def aJ.eq{kp:Nat->Prop}{ρ:Nat->Nat}{snap:Bool}{v u:AV}(h:u=bC ρ v):aJ σ kp ρ snap v u:=by
 subst h;exact .same v
def cL.flat{kp:Nat->Prop}{id sz len:Nat}{rows:List (List AV)}(ho:σ.aa[id]?=some (.arr sz rows))(hw:∀ row∈rows,row.length=sz)(hl:len=rows.length)(tF:¬ kp id)(hf:∀ row∈rows,∀ v∈row,(∃ x,v=.lit x)\/∃ s r,v=.tree s r):
  cL σ kp (.tree sz rows) (.ref id sz 0 len):=by
 refine .ref id sz 0 len rows rows (λr c=>(cellAt rows r c).getD .undef) ho tF (by simp[hl]) hw (λr c v hv=>?_) (λr c v hv=>?_)
 ·simp[hl,hv]
 ·rw[hv,Option.getD_some];simp only[cellAt,Option.bind_eq_some_iff]at hv;obtain⟨row,h1,h2⟩:=hv;rcases hf row (iD h1) v (iD h2) with⟨x,rfl⟩|⟨s,r,rfl⟩
  ·exact .lit x
  ·exact .tree s r
def aJ.nil{kp:Nat->Prop}{ρ:Nat->Nat}{sz:Nat}:aJ σ kp ρ true (.tree sz []) (.lit (.slice none 0 0)):=.snap _ _ rfl (.nil sz)
def aJ.cC{kp:Nat->Prop}{ρ:Nat->Nat}{id sz len:Nat}{rows:List (List AV)}(ho:σ.aa[id]?=some (.arr sz rows))(hw:∀ row∈rows,row.length=sz)(hl:len=rows.length)(tF:¬ kp id)(hf:∀ row∈rows,∀ v∈row,(∃ x,v=.lit x)\/∃ s r,v=.tree s r):
  aJ σ kp ρ true (.tree sz rows) (.ref id sz 0 len):=.snap _ _ rfl (cL.flat ho hw hl tF hf)
def adT{α:Type}(n0:Nat)(S:α->St)(I:α->Prop)(M:α->Nat)(x:α)(Q:Exit->St->Prop):Exit->St->Prop
 |.normal,s=>∃ y,I y/\M y<M x/\aF n0 s (S y)
 |e,s=>Q e s
def adU{α:Type}{c:Code}(S:α->St)(I:α->Prop)(M:α->Nat)(x0:α)(hI:I x0)(h0:aF n0 σ (S x0))(round:∀ x,I x->∀ Q':Exit->St->Prop,(∀ s y,I y->M y<M x->aF n0 s (S y)->Q' .normal s)->(∀ e s,e≠.normal->Q e s->Q' e s)->W P N n0 c Q' (S x)):W P N n0 (.loop c) Q σ:=by
 refine bY h0 ?_;intro os γ0 a w hn ax b k cs;have key:∀ n x a w,M x=n->I x->iH N os γ0 (S x) a w ->
   ∃ e a' w',(∃ σ',Q e σ'/\iH N os γ0 σ' a' w')/\Arrives P (lone (b.at a (.code c::.inLoop c::k)) cs w) b k cs e a' w':=by
  intro n
  induction n using Nat.strongRecOn with
  |_ n ih =>
   intro x a w hm hI ax;have hr:W P N n0 c (adT n0 S I M x Q) (S x):=round x hI _ (λs y h1 h2 h3=>⟨y,h1,h2,h3⟩) (λe s he h=>by cases e<;>first|exact absurd rfl he|exact h);obtain⟨e,sJ,tI,⟨σ',hq,ed⟩,jm⟩:=hr os γ0 a w hn ax b (.inLoop c::k) cs;cases e with
   |normal =>
    obtain⟨y,Ky,br,ht⟩:=hq;obtain⟨h1,h2,γ,rfl,h3,h4,h5⟩:=ed;obtain⟨aO,e1,e2,e3,e4⟩:=ht os γ0 γ hn h4 h5;obtain⟨Kz,KA,KB,KC,KD⟩:=ih (M y) GC y sJ γ.w rfl Ky ⟨h1,h2,aO,e1,e2.trans h3,e3,e4⟩;exact⟨Kz,KA,KB,KC,.of_steps (Steps.trans jm (.one step_inLoop)) KD⟩
   |exit id=>exact⟨_,sJ,tI,⟨σ',hq,ed⟩,.pass (x:=.inLoop c) rfl (λ_ _=>.inl GF) jm⟩
   |goto l=>exact⟨_,sJ,tI,⟨σ',hq,ed⟩,.pass (x:=.inLoop c) rfl (λ_ _=>.inl GF) jm⟩
   |ret=>exact⟨_,sJ,tI,⟨σ',hq,ed⟩,.pass (x:=.inLoop c) rfl (λ_ _=>.inl GF) jm⟩
   |panic ch=>exact⟨_,sJ,tI,⟨σ',hq,ed⟩,.pass (x:=.inLoop c) rfl (λ_ _=>.inl GF) jm⟩
   |outgrown=>exact⟨_,sJ,tI,⟨σ',hq,ed⟩,.pass (x:=.inLoop c) rfl (λ_ _=>.inl GF) jm⟩
 obtain⟨e,a',w',hq,jm⟩:=key _ x0 a w rfl hI ax;exact⟨e,a',w',hq,.of_steps (.one step_loop) jm⟩
def adV{id:Nat}{c:Code}(h:∀ Q':Exit->St->Prop,(∀ s,Q .normal s->Q' .normal s)->(∀ s,Q .normal s->Q' (.exit id) s)->(∀ e s,e≠.normal->e≠.exit id->Q e s->Q' e s)->W P N n0 c Q' σ):W P N n0 (.block id c) Q σ :=
 adW (h _ (λs h=>h) (λs h=>by simp only[G4,if_true];exact h) (λe s h1 h2 h=>by
  cases e<;>first
   |exact absurd rfl h1
   |exact h
   | (rename_i yP;simp only[G4];rw[if_neg (λe=>h2 (by rw[e]))];exact h)))
def DN{ρ:Nat->Nat}{sz:Nat}{rows:List (List AV)}(h:∀ row∈rows,ju row=true):cg ρ (.arr sz rows)=.arr sz rows:=by
 simp only[cg];congr 1;have:∀ row∈rows,row.map (bC ρ)=row:=λrow hr=>by
  have:=BR ρ row (h row hr);rwa [xy]at this
 rw[l8 this];simp
def adX(n j:Nat):bL n (aW n) j=j:=by
 unfold bL;split
 ·rename_i h;have h':j<n:=by simpa using h
  simp[aA,lg h']
 ·rename_i h;simp at h ⊢;omega
mutual
def yQ:∀ (v:AV),bC (λj=>j) v=v
 |.undef=>rfl
 |.lit _=>rfl
 |.tree ..=>rfl
 |.cq _=>rfl
 |.ref ..=>rfl
 |.ptr ..=>rfl
 |.agg cs=>by simp only[bC];rw[G5 cs]
 |.bJ cs=>by simp only[bC];rw[G5 cs]
 |.fn f cs=>by simp only[bC];rw[G5 cs]
 |.jl t v=>by simp only[bC];rw[yQ v]
 |.iV _=>rfl
def G5:∀ (l:List AV),qu (λj=>j) l=l
 |[]=>rfl
 |v::vs=>by simp only[qu];rw[yQ v,G5 vs]
end
def DP(o:Ob):cg (λj=>j) o=o:=by
 have h:bC (λj=>j)=id:=by funext v;exact yQ v
 cases o with
 |gone=>rfl
 |var cs=>simp[cg,h]
 |arr sz rows=>simp[cg,h]
 |mp ag L=>simp[cg,h]
def yR(n:Nat):bL n (aW n)=λj=>j:=by funext j;exact adX n j
def Qg(aa:List Ob):∀ (bI:List Ob),aa.length<=bI.length->eS aa (aW aa.length) bI=bI:=by
 intro bI h;have hlen:(aW aa.length).length<=bI.length:=by simpa using h
 apply List.ext_getElem?;intro i;rcases Nat.lt_or_ge i aa.length with hi|hi
 ·have:=G6 (aW aa.length) aa bI hlen (Gt) GF i (by simpa using hi);simpa [aA,lg hi] using this
 ·have G7:=KE (aW aa.length) aa bI hlen;obtain⟨j,rfl⟩:∃j,i=aa.length+j:=⟨i-aa.length,GC⟩;have:=Qh (aW aa.length) aa bI hlen j;simpa using this
def ig{f:FuncId}{args:List AV}{dst:Option Tmp}{K:St->Prop}{res:AV}{bI:List Ob}(h:ao P f args σ.aa res bI)(hl:σ.aa.length<=bI.length)(hK:K ((⟨σ.env,bI⟩:St).put dst res)):sK P f args dst K σ:=by
 refine⟨aW σ.aa.length,false,args,σ.aa,res,bI,h,⟨Gt,GF,?_,rfl,?_,GF⟩,?_⟩
 ·intro j o hj;have br:=(a8.1 hj).1;rw[yR,DP];simpa [aA,lg br] using hj
 ·intro j c d hc hd;rw[hc]at hd;simp only[dI.injEq]at hd;subst hd;exact .eq (by rw[yR,yQ])
 ·rw[yR,yQ];have:bI.map (cg (λj=>j))=bI:=by
   have h:cg (λj=>j)=id:=by funext o;exact DP o
   simp[h]
  rw[this,Qg _ _ hl];exact hK
end Go.Am
namespace Go.Am
variable {P:Program} {N n0:Nat} {σ:St} {Q:Exit->St->Prop}
def adY{id:Nat}{ops:Array Oper}(hd:gU N ops=true)(h:∀ K:St->Prop,(∀ s,Q .normal s->K s)->opsL P ops ops.toList K σ):W P N n0 (.region id ops false) Q σ :=
 Qi hd (h _ (λ_ h=>h))
def KF{ops:Array Oper}{K:St->Prop}:∀ (l:List Oper) (i:Nat) (σ:St),ops.toList.drop i=l->opsL P ops l K σ->ku P ops [] (kx (og i l.length)) K σ
 |[],i,σ,_,h=>h
 |o::r,i,σ,hl,h=>by
  have hi:ops[i]?=some o:=by
   have:(ops.toList.drop i)[0]?=some o:=by rw[hl];rfl
   simpa using this
  have hr:ops.toList.drop (i+1)=r:=by
   have:=congrArg List.tail hl;simpa [List.tail_drop] using this
  rw[eB,xg];show dj P ops [] i (ku P ops [] (kx (og (i+1) r.length)) K) σ;unfold dj;simp only[hi];have hm:∀ s,opsL P ops r K s->ku P ops [] (kx (og (i+1) r.length)) K s:=λs hs=>KF r (i+1) s hr hs;refine DI hm ?_;unfold opsL at h;unfold fy;cases hg:o.guard with
  |none=>simp only[hg]at h;exact h
  |some jw =>
   obtain⟨j,want⟩:=jw;simp only[hg]at h;exact h
def Ai(ops:Array Oper):Bool:=(kx (aW ops.size)).ok ops [] ops.size (yD ops.size false)
def adZ{id:Nat}{ops:Array Oper}{y:Code}(hm:P.follows .mixedOrders=true)(hd:gU N ops=true)(ht:Ai ops=true)(h:∀ K:St->Prop,(∀ s,W P N n0 y Q s->K s)->opsL P ops ops.toList K σ):
  W P N n0 (.seq (.region id ops true) y) Q σ :=
 P9 [] _ hm hd ht λK hK=>by
  have:=KF (P:=P) (ops:=ops) ops.toList 0 σ rfl (h K hK);rw[xh];simpa using this
def ad0{id:Nat}{ops:Array Oper}(hm:P.follows .mixedOrders=true)(hd:gU N ops=true)(ht:Ai ops=true)(h:∀ K:St->Prop,(∀ s,Q .normal s->K s)->opsL P ops ops.toList K σ):
  W P N n0 (.region id ops true) Q σ :=
 kv [] _ hm hd ht (by
  have:=KF (P:=P) (ops:=ops) ops.toList 0 σ rfl (h _ (λ_ h=>h));rw[xh];simpa using this)
def aE{v res:AV}(hr:gL v=true)(h:v=res):pF 0 σ v res []:=by
 subst h;exact G8 hr
def G9(e:Nat->AV)(d:Nat)(v:AV)(k:Nat):j8 e d v k=if k=d then v else e k:=by simp only[j8]
def Qj:IntKind.i64.min = -9223372036854775808:=rfl
def Qk:IntKind.i64.max=9223372036854775807:=rfl
def ints(xs:List Int):List (List AV):=xs.map λx=>[aaC x]
def aX(xs:List Bool):List (List AV):=xs.map λx=>[.lit (.bool x)]
def ij(xs:List (List Int)):List (List AV):=xs.map λx=>[.tree 1 (ints x)]
def lI(xs:List Int):(ints xs).length=xs.length:=by simp[ints]
def yS(xs:List Bool):(aX xs).length=xs.length:=by simp[aX]
def ou(xs:List (List Int)):(ij xs).length=xs.length:=by simp[ij]
def Qm(xs:List Int)(i:Nat)(h:i<xs.length):(ints xs).getD i []=[aaC (xs.getD i 0)]:=by simp[ints,h]
def Qn(xs:List Bool)(i:Nat)(h:i<xs.length):(aX xs).getD i []=[.lit (.bool (xs.getD i false))]:=by simp[aX,h]
def Qo(xs:List (List Int))(i:Nat)(h:i<xs.length):(ij xs).getD i []=[.tree 1 (ints (xs.getD i []))]:=by simp[ij,h]
def Qp(xs:List Int)(i:Nat)(h:i<xs.length):(ints xs)[i]?=some [aaC (xs.getD i 0)]:=by simp[ints,h]
def Qq(xs:List Bool)(i:Nat)(h:i<xs.length):(aX xs)[i]?=some [.lit (.bool (xs.getD i false))]:=by simp[aX,h]
def Qr(xs:List (List Int))(i:Nat)(h:i<xs.length):(ij xs)[i]?=some [.tree 1 (ints (xs.getD i []))]:=by simp[ij,h]
def ints_set(xs:List Int)(i:Nat)(v:Int):(ints xs).set i [aaC v]=ints (xs.set i v):=by simp[ints,ry]
def v5(xs:List Bool)(i:Nat)(v:Bool):(aX xs).set i [.lit (.bool v)]=aX (xs.set i v):=by simp[aX,ry]
def Qs(xs ys:List Int):ints xs++ints ys=ints (xs++ys):=by simp[ints]
def G'(xs:List Int)(v:Int):ints xs++[[aaC v]]=ints (xs++[v]):=by simp[ints]
def KG(xs:List (List Int))(v:List Int):ij xs++[[.tree 1 (ints v)]]=ij (xs++[v]):=by simp[ij]
def KH(xs:List Bool)(v:Bool):aX xs++[[.lit (.bool v)]]=aX (xs++[v]):=by simp[aX]
def BS(n:Nat)(v:Int):bH n [AV.lit (.int .i64 v)]=ints (bH n v):=by simp[ints]
def KI(n:Nat)(v:Bool):bH n [AV.lit (.bool v)]=aX (bH n v):=by simp[aX]
def BT(xs:List Int):((ints xs).all λrow=>row.all cO)=true:=by simp[ints,cO,Value.oneCell']
def Qt(xs:List Bool):((aX xs).all λrow=>row.all cO)=true:=by simp[aX,cO,Value.oneCell']
def Qu(xs:List (List Int)):((ij xs).all λrow=>row.all cO)=true:=by simp[ij,cO]
def rG(ρ:Nat->Nat)(sz:Nat)(xs:List Int):cg ρ (.arr sz (ints xs))=.arr sz (ints xs):=DN (by simp[ints,ju,gL])
def Aj(ρ:Nat->Nat)(sz:Nat)(xs:List Bool):cg ρ (.arr sz (aX xs))=.arr sz (aX xs):=DN (by
 intro row hr;simp only[aX,cz]at hr;obtain⟨x,_,rfl⟩:=hr;rfl)
def Ha(ρ:Nat->Nat)(sz:Nat)(xs:List (List Int)):cg ρ (.arr sz (ij xs))=.arr sz (ij xs):=DN (by simp[ij,ju,gL])
def sL(xs:List Int):∀ row∈ints xs,∀ v∈row,(∃ x,v=AV.lit x)\/∃ s r,v=AV.tree s r:=by
 intro row hr v hv;simp only[ints,cz]at hr;obtain⟨x,_,rfl⟩:=hr;simp at hv;exact .inl ⟨_,hv⟩
def Hb(xs:List Bool):∀ row∈aX xs,∀ v∈row,(∃ x,v=AV.lit x)\/∃ s r,v=AV.tree s r:=by
 intro row hr v hv;simp only[aX,cz]at hr;obtain⟨x,_,rfl⟩:=hr;simp at hv;exact .inl ⟨_,hv⟩
def Qv(xs:List (List Int)):∀ row∈ij xs,∀ v∈row,(∃ x,v=AV.lit x)\/∃ s r,v=AV.tree s r:=by
 intro row hr v hv;simp only[ij,cz]at hr;obtain⟨x,_,rfl⟩:=hr;simp at hv;exact .inr ⟨_,_,hv⟩
def rH(xs:List Int):∀ row∈ints xs,row.length=1:=by
 intro row hr;simp only[ints,cz]at hr;obtain⟨x,_,rfl⟩:=hr;rfl
def DQ(xs:List Bool):∀ row∈aX xs,row.length=1:=by
 intro row hr;simp only[aX,cz]at hr;obtain⟨x,_,rfl⟩:=hr;rfl
def Qw(xs:List (List Int)):∀ row∈ij xs,row.length=1:=by
 intro row hr;simp only[ij,cz]at hr;obtain⟨x,_,rfl⟩:=hr;rfl
def cP{α:Type}(xs:List α)(i:Nat)(d:α)(h:i<xs.length):xs.drop i=xs.getD i d::xs.drop (i+1):=by
 rw[List.drop_eq_getElem_cons h];simp[h]
end Go.Am
namespace Go.Am
variable {P:Program} {dst:Option Tmp} {tt:TypeId} {p:String} {af:Array Edge} {g:Option (Nat×Bool)} {σ:St} {K:St->Prop}
def qv:Option Ob->Prop
 |some (.var _)=>True
 |some (.arr _ _)=>True
 |some (.mp _ _)=>True
 |_=>False
def Qx(a:Nat)(L:List (List Int×AV)):qv (some (.mp a L))=True:=by simp only[qv]
def Qy(c:List AV):qv (some (.var c))=True:=by simp only[qv]
def Qz(s:Nat)(c:List (List AV)):qv (some (.arr s c))=True:=by simp only[qv]
def BU(σ:St)(dst:Option Tmp)(K:St->Prop):AV->Prop
 |.ptr id r c=>qv σ.aa[id]?/\K (σ.put dst (.ptr id r c))
 |.cq cells=>K (σ.put dst (.cq cells))
 |_=>False
def QA(x:Operand):aZ P ⟨dst,.nilCheck x,tt,p,af,g⟩ σ K=BU σ dst K (ev σ x):=by
 simp only[aZ,cU];cases ev σ x<;>simp only[BU];rename_i id r c;cases h:σ.aa[id]? with
 |none=>simp[qv]
 |some o=>cases o<;>simp[qv]
def BV(σ:St)(dst:Option Tmp)(K:St->Prop)(off:Nat):AV->Prop
 |.ptr id r c=>qv σ.aa[id]?/\K (σ.put dst (.ptr id r (c+off)))
 |.cq cells=>K (σ.put dst (.cq (cells.drop off)))
 |_=>False
def yT(σ:St)(dst:Option Tmp)(K:St->Prop)(v:AV)(kind:Nat):Option (Nat×Nat×Nat)->Prop
 |some (off,_,size)=>kind=3/\0<size/\BV σ dst K off v
 |none=>False
def QB(s:TypeId)(x:Operand)(f:Nat):aZ P ⟨dst,.fieldAddr s x f,tt,p,af,g⟩ σ K=yT σ dst K (ev σ x) (ty P s).kind (ty P s).aY[f]?:=by
 simp only[aZ,cU];split
 ·rename_i off ft size hk hf;rw[hk,hf];simp only[yT,true_and];cases ev σ x<;>simp only[BV];rename_i id r c;cases h:σ.aa[id]? with
  |none=>simp[qv]
  |some o=>cases o<;>simp[qv]
 ·rename_i dO;cases hf:(ty P s).aY[f]? with
  |none=>simp[yT]
  |some q =>
   obtain⟨off,ft,size⟩:=q;simp only[yT];have:(ty P s).kind≠3:=λe=>dO off ft size e hf;simp[this]
def uN(t:Ty)(e:Ty)(σ:St)(dst:Option Tmp)(K:St->Prop):AV->AV->Prop
 |.ref id sz off len,.lit (.int _ n) =>
  t.kind=1 /\
  match σ.aa[id]? with
  |some (.arr dK _)=>(dK=sz/\sz=e.size/\e.kind≠99/\0<=n/\n<len)/\K (σ.put dst (.ptr id (off+n.toNat) 0))
  |_=>False
 |.tree sz rows,.lit (.int _ n)=>t.kind=1/\(sz=e.size/\e.kind≠99/\0<=n/\n<rows.length)/\K (σ.put dst (.cq (rows.getD n.toNat [])))
 |.ptr id r c,.lit (.int _ n)=>t.kind=2/\qv σ.aa[id]?/\(e.kind≠99/\0<=n/\n<t.len)/\K (σ.put dst (.ptr id r (c+n.toNat*e.size)))
 |_,_=>False
def QC(t:TypeId)(x i:Operand):aZ P ⟨dst,.indexAddr t x i,tt,p,af,g⟩ σ K=uN (ty P t) (ty P (ty P t).elem) σ dst K (ev σ x) (ev σ i):=by
 simp only[aZ,cU];split
 ·rename_i id sz off len k n hk hx hi;rw[hx,hi];simp only[uN,hk,true_and];cases σ.aa[id]? with
  |none=>rfl
  |some o=>cases o<;>rfl
 ·rename_i sz rows k n hk hx hi;rw[hx,hi];simp only[uN,hk,true_and]
 ·rename_i id r c k n hk hx hi;rw[hx,hi];simp only[uN,hk,true_and];cases h:σ.aa[id]? with
  |none=>simp[qv]
  |some o=>cases o<;>simp[qv]
 ·rename_i h1 h2 h3;unfold uN;split
  ·rename_i id sz off len k n hx hi;simp only[eq_iff_iff,false_iff];rintro⟨hk,_⟩;exact h1 id sz off len k n hk hx hi
  ·rename_i sz rows k n hx hi;simp only[eq_iff_iff,false_iff];rintro⟨hk,_⟩;exact h2 sz rows k n hk hx hi
  ·rename_i id r c k n hx hi;simp only[eq_iff_iff,false_iff];rintro⟨hk,_⟩;exact h3 id r c k n hk hx hi
  ·rfl
def KJ(P:Program)(dst:Option Tmp)(args:List AV)(K:St->Prop)(σ:St):AV->Prop
 |.fn g bj=>sK P g (args++bj) dst K σ
 |_=>False
def QD(f:Operand)(args:Array Operand)(dC:Array TypeId):aZ P ⟨dst,.call ⟨.value f,args,dC⟩,tt,p,af,g⟩ σ K=KJ P dst (args.toList.map (ev σ)) K σ (ev σ f):=by
 simp only[aZ];cases ev σ f<;>rfl
def KK(P:Program)(dst:Option Tmp)(args:List AV)(K:St->Prop)(σ:St)(m:String):AV->Prop
 |.jl t v=>qq P σ v (λg x=>sK P g (x::args) dst K σ) (yU P t m)
 |_=>False
def QE(r:Operand)(m:String)(args:Array Operand)(dC:Array TypeId):aZ P ⟨dst,.call ⟨.invoke r m,args,dC⟩,tt,p,af,g⟩ σ K=KK P dst (args.toList.map (ev σ)) K σ m (ev σ r):=by
 simp only[aZ];cases ev σ r<;>rfl
def KL(P:Program)(dst:Option Tmp)(args:List AV)(K:St->Prop)(σ:St):AV->Prop
 |.fn g bj=>Ks P g (args++bj) dst K σ
 |_=>False
def QF(f:Operand)(args:Array Operand)(dC:Array TypeId):nf true P ⟨dst,.call ⟨.value f,args,dC⟩,tt,p,af,g⟩ σ K=KL P dst (args.toList.map (ev σ)) K σ (ev σ f):=by
 simp only[nf];cases ev σ f<;>rfl
def v7(σ:St):List (Nat×Operand)->List (Nat×AV)
 |[]=>[]
 |q::l=>(q.1,ev σ q.2)::v7 σ l
def v8(σ:St):List (Nat×Operand)->Bool
 |[]=>true
 |q::l=>(cellsOf (ev σ q.2)).all cO&&v8 σ l
def QG(σ:St)(l:List (Nat×Operand)):v7 σ l=l.map λq=>(q.1,ev σ q.2):=by
 induction l with
 |nil=>rfl
 |cons q l ih=>simp only[v7,ih,List.map_cons]
def QH(σ:St)(l:List (Nat×Operand)):v8 σ l=l.all λq=>(cellsOf (ev σ q.2)).all cO:=by
 induction l with
 |nil=>rfl
 |cons q l ih=>simp only[v8,ih,List.all_cons]
def QI(o:Oper):nf false P o σ K=aZ P o σ K:=by simp only[nf]
def QJ(x:Operand):aZ P ⟨dst,.move x,tt,p,af,g⟩ σ K =
  (K (σ.put dst (ev σ x))):=by unfold aZ cU;rfl
def QK(x:Operand):aZ P ⟨dst,.assign x,tt,p,af,g⟩ σ K =
  (K (σ.put dst (ev σ x))):=by unfold aZ cU;rfl
def QL(c a b:Operand):aZ P ⟨dst,.pick c a b,tt,p,af,g⟩ σ K =
  (match ev σ c with
   |.lit (.bool t)=>K (σ.put dst (gV t (ev σ a) (ev σ b)))
   |_=>False):=by unfold aZ cU;rfl
def QM (e:TypeId):aZ P ⟨dst,.alloc e,tt,p,af,g⟩ σ K =
    ((ty P e).kind≠99 /\
      match (ty P e).zero with
      | some z=>K (({ σ with aa:=σ.aa++[.var (z.map .lit)] }:St).put dst (.ptr σ.aa.length 0 0))
      | none=>False):=by unfold aZ cU;rfl
def QN(e:TypeId)(x:Operand):aZ P ⟨dst,.box e x,tt,p,af,g⟩ σ K =
  ((cellsOf (ev σ x)).all cO=true/\K (({ σ with aa:=σ.aa++[.var (cellsOf (ev σ x))] }:St).put dst (.ptr σ.aa.length 0 0))):=by unfold aZ cU;rfl
def QO(t:TypeId)(parts:Array (Nat×Operand)):aZ P ⟨dst,.build t parts,tt,p,af,g⟩ σ K =
  (match (ty P t).kind,(ty P t).zero with
   |3,some z =>
    match nK (λi=>((ty P t).aY[i]?).map λf=>(f.1,f.2.2)) (z.map .lit) (v7 σ parts.toList) with
    |some cs=>(v8 σ parts.toList=true/\((ty P t).aY.all λf=>decide (0<f.2.2))=true)/\K (σ.put dst (.agg cs))
    |none=>False
   |2,some z =>
    match nK (λi=>some (i*(ty P (ty P t).elem).size,(ty P (ty P t).elem).size)) (z.map .lit) (v7 σ parts.toList) with
    |some cs=>(v8 σ parts.toList=true/\(ty P (ty P t).elem).kind≠99)/\K (σ.put dst (.agg cs))
    |none=>False
   |_,_=>False):=by rw[QG,QH];unfold aZ cU;rfl
def QP(t:TypeId)(len:Nat)(parts:Array (Nat×Operand)):aZ P ⟨dst,.buildSlice t len parts,tt,p,af,g⟩ σ K =
  (match (ty P t).kind,(ty P (ty P t).elem).zero with
   |1,some z =>
    match nK (λi=>some (i*(ty P (ty P t).elem).size,(ty P (ty P t).elem).size)) ((aW len).flatMap λ_=>z.map .lit) (v7 σ parts.toList) with
    |some cs=>((ty P (ty P t).elem).kind≠99/\0<(ty P (ty P t).elem).size/\z.length=(ty P (ty P t).elem).size/\len*(ty P (ty P t).elem).size<=16777216/\v8 σ parts.toList=true) /\
      K (({ σ with aa:=σ.aa++[.arr (ty P (ty P t).elem).size (nL (ty P (ty P t).elem).size len cs)] }:St).put dst (.ref σ.aa.length (ty P (ty P t).elem).size 0 len))
    |none=>False
   |_,_=>False):=by rw[QG,QH];unfold aZ cU;rfl
def QQ (t:TypeId) (a:Operand):aZ P ⟨dst,.load t a,tt,p,af,g⟩ σ K =
    ((ty P t).kind≠99 /\
      match ev σ a with
      | .ptr id r c =>
        match rowOf σ id r with
        | some row=>nJ (ty P t) row c λv=>K (σ.put dst v)
        | none=>False
      | .cq cells=>nJ (ty P t) cells 0 λv=>K (σ.put dst v)
      | _=>False):=by unfold aZ cU;rfl
def QR (t:TypeId) (a x:Operand):aZ P ⟨dst,.store t a x,tt,p,af,g⟩ σ K =
    ((ty P t).kind≠99 /\
      match ev σ a with
      | .ptr id r c =>
        match rowOf σ id r with
        | some row=>((cellsOf (ev σ x)).length=(ty P t).size/\c+(ty P t).size<=row.length/\(cellsOf (ev σ x)).all cO=true)/\K ((pG σ id r (setCells row c (cellsOf (ev σ x)))).put dst .undef)
        | none=>False
      | _=>False):=by unfold aZ cU;rfl
def QT(op:BinOp)(t:TypeId)(x y:Operand)(yt:TypeId):aZ P ⟨dst,.binOp op t x y yt,tt,p,af,g⟩ σ K =
  (match ev σ x,ev σ y with
   |.lit (.int k a),.lit (.int k' b)=>k=k'/\iJ op k a b λv=>K (σ.put dst (.lit v))
   |.lit (.bool a),.lit (.bool b) =>
    (ty P t).kind=6 /\
    match op with
    |.eql=>K (σ.put dst (.lit (.bool (a==b))))
    |.neq=>K (σ.put dst (.lit (.bool (a != b))))
    |_=>False
   |.tree _ rows,.lit (.slice none 0 0) =>
    ((ty P t).kind=1/\0<rows.length) /\
    match op with
    |.eql=>K (σ.put dst (.lit (.bool false)))
    |.neq=>K (σ.put dst (.lit (.bool true)))
    |_=>False
   |.lit (.slice a _ _),.lit (.slice none 0 0) =>
    (ty P t).kind=1 /\
    match op with
    |.eql=>K (σ.put dst (.lit (.bool a.isNone)))
    |.neq=>K (σ.put dst (.lit (.bool (!a.isNone))))
    |_=>False
   |.agg cs,.agg ds =>
    match qw cs,qw ds with
    |some as,some bs =>
     (vZ P t as.length/\bs.length=as.length/\P.eqGuardType P.depth t=false) /\
     match op with
     |.eql=>K (σ.put dst (.lit (.bool (decide (as=bs)))))
     |.neq=>K (σ.put dst (.lit (.bool (!decide (as=bs)))))
     |_=>False
    |_,_=>False
   |_,_=>False):=by unfold aZ cU;rfl
def QU(op:UnOp)(t:TypeId)(x:Operand):aZ P ⟨dst,.unOp op t x,tt,p,af,g⟩ σ K =
  (match op,ev σ x with
   |.not,.lit (.bool b)=>K (σ.put dst (.lit (.bool !b)))
   |.neg,.lit (.int k a)=>(k.min<=-a/\-a<=k.max)/\K (σ.put dst (.lit (.int k (-a))))
   |_,_=>False):=by unfold aZ cU;rfl
def QV(fn:Fn)(first captured:Array Operand):aZ P ⟨dst,.makeFunc fn first captured,tt,p,af,g⟩ σ K =
  (match fn with
   |.func f=>first.size=0/\K (σ.put dst (.fn f (captured.toList.map (ev σ))))
   |_=>False):=by unfold aZ cU;rfl
def QW (t:TypeId) (l c:Operand):aZ P ⟨dst,.makeSlice t l c,tt,p,af,g⟩ σ K =
    (match (ty P t).kind,(ty P (ty P t).elem).zero,ev σ l,ev σ c with
      | 1,some z,.lit (.int k n),.lit (.int k' n') =>
        ((ty P (ty P t).elem).kind≠99/\0<(ty P (ty P t).elem).size/\z.length=(ty P (ty P t).elem).size/\n'=n/\0<=n/\n<=1099511627776/\(ty P (ty P t).elem).bytes<=128/\k=k) /\
          K (({ σ with aa:=σ.aa++[.arr (ty P (ty P t).elem).size (bH n.toNat (z.map .lit))] }:St).put dst (.ref σ.aa.length (ty P (ty P t).elem).size 0 n.toNat))/\k'=k'
      | _,_,_,_=>False):=by unfold aZ cU;rfl
def QX (t:TypeId) (x:Operand) (lo hi mx:Option Operand):aZ P ⟨dst,.slice t x lo hi mx,tt,p,af,g⟩ σ K =
    ((ty P t).kind=1/\(ty P (ty P t).elem).kind≠99/\mx=none /\
      match ev σ x with
      | .ref id sz off len =>
        match σ.aa[id]? with
        | some (.arr dK rows) =>
          dK=sz/\sz=(ty P (ty P t).elem).size /\
          match lo.map (ev σ),hi.map (ev σ) with
          | none,none=>K (σ.put dst (.ref id sz off len))
          | some (.lit (.int _ l)),none=>(0<=l/\l<=len/\rows.length=rows.length)/\K (σ.put dst (.ref id sz (off+l.toNat) (len - l.toNat)))
          | none,some (.lit (.int _ h))=>(0<=h/\h<=len)/\K (σ.put dst (.ref id sz off h.toNat))
          | some (.lit (.int _ l)),some (.lit (.int _ h))=>(0<=l/\l<=h/\h<=len)/\K (σ.put dst (.ref id sz (off+l.toNat) (h.toNat - l.toNat)))
          | _,_=>False
        | _=>False
      | .tree sz rows =>
          (rows≠[]->sz=(ty P (ty P t).elem).size) /\
          match lo.map (ev σ),hi.map (ev σ) with
          | none,none=>K (σ.put dst (.tree sz rows))
          | some (.lit (.int _ l)),none=>(0<=l/\l<=rows.length)/\K (σ.put dst (.tree sz (rows.drop l.toNat)))
          | none,some (.lit (.int _ h))=>(0<=h/\h<=rows.length)/\K (σ.put dst (.tree sz (rows.take h.toNat)))
          | some (.lit (.int _ l)),some (.lit (.int _ h))=>(0<=l/\l<=h/\h<=rows.length)/\K (σ.put dst (.tree sz ((rows.take h.toNat).drop l.toNat)))
          | _,_=>False
      | _=>False):=by unfold aZ cU;rfl
def QY(s:TypeId)(x:Operand)(f:Nat):aZ P ⟨dst,.field s x f,tt,p,af,g⟩ σ K =
  (match (ty P s).kind,(ty P s).aY[f]? with
   |3,some (off,t,size) =>
    (ty P t).kind≠99/\size=(ty P t).size /\
    match ev σ x with
    |.agg cs=>if(ty P t).isAgg then off+size<=cs.length/\K (σ.put dst (.agg ((cs.drop off).take size))) else
      match cs[off]? with
      |some v=>K (σ.put dst v)
      |none=>False
    |_=>False
   |_,_=>False):=by unfold aZ cU;rfl
def QZ(t:TypeId)(r:Option Operand):aZ P ⟨dst,.makeMap t r,tt,p,af,g⟩ σ K =
  ((r=none/\(ty P t).kind=8)/\K (({ σ with aa:=σ.aa++[.mp (BW P t) []] }:St).put dst (.iV σ.aa.length))):=by unfold aZ cU;rfl
def Q2(t:TypeId)(x i:Operand)(ok:Bool):aZ P ⟨dst,.lookup t x i ok,tt,p,af,g⟩ σ K =
  (match keyOf (ev σ i),ng σ (ev σ x),zeroV P (ty P t).elem with
   |some (ag,l),some (_,jU,L),some z=>(me P t ag/\jU=ag/\l.length=lj ag/\(ty P t).kind=8/\ok=false)/\K (σ.put dst ((pH l L).getD (.lit z)))
   |_,_,_=>False):=by unfold aZ cU;rfl
def Q3(t:TypeId)(m k x:Operand):aZ P ⟨dst,.mapUpdate t m k x,tt,p,af,g⟩ σ K =
  (match keyOf (ev σ k),ng σ (ev σ m) with
   |some (ag,l),some (id,jU,L)=>(me P t ag/\jU=ag/\l.length=lj ag)/\K (({ σ with aa:=σ.aa.set id (.mp ag (gW l (ev σ x) L)) }:St).put dst .undef)
   |_,_=>False):=by unfold aZ cU;rfl
def Q4(t:TypeId)(m k:Operand):aZ P ⟨dst,.mapEntry t m k,tt,p,af,g⟩ σ K =
  (match keyOf (ev σ k),ng σ (ev σ m),zeroV P (ty P t).elem with
   |some (ag,l),some (id,jU,L),some z=>(me P t ag/\jU=ag/\l.length=lj ag/\(ty P t).kind=8) /\
    K (({ σ with aa:=σ.aa.set id (.mp ag (gW l ((pH l L).getD (.lit z)) L)) }:St).put dst (.bJ [(pH l L).getD (.lit z),aaC (BX l L:Nat)]))
   |_,_,_=>False):=by unfold aZ cU;rfl
def Q5(t:TypeId)(m s x:Operand):aZ P ⟨dst,.entryStore t m s x,tt,p,af,g⟩ σ K =
  (match ev σ s,ng σ (ev σ m) with
   |.lit (.int .i64 n),some (id,ag,L)=>(0<=n/\n<L.length)/\K (({ σ with aa:=σ.aa.set id (.mp ag (rI n.toNat (ev σ x) L)) }:St).put dst .undef)
   |_,_=>False):=by unfold aZ cU;rfl
def Q6(t:TypeId)(x i:Operand):aZ P ⟨dst,.index t x i,tt,p,af,g⟩ σ K =
  (match ev σ x,ev σ i with
   |.lit (.string s),.lit (.int _ n)=>(P.underlying t=some .string/\0<=n/\n<s.size)/\K (σ.put dst (.lit (.int .u8 (KM s n.toNat))))
   |_,_=>False):=by unfold aZ cU;rfl
def Q7(t:TypeId)(x:Operand):aZ P ⟨dst,.makeInterface t x,tt,p,af,g⟩ σ K =
  (xz P t=false/\K (σ.put dst (.jl t (ev σ x)))):=by unfold aZ cU;rfl
def Q8(x:Operand)(xt asserted:TypeId)(ok:Bool):aZ P ⟨dst,.typeAssert x xt asserted ok,tt,p,af,g⟩ σ K =
  (match ev σ x with
   |.jl t v=>(xz P asserted=false/\t=asserted/\ok=false)/\K (σ.put dst v)
   |_=>False):=by unfold aZ cU;rfl
def Q9(x:Operand)(i:Nat):aZ P ⟨dst,.extract x i,tt,p,af,g⟩ σ K =
  (match ev σ x with
   |.bJ vs =>
    match vs[i]? with
    |some v=>K (σ.put dst v)
    |none=>False
   |_=>False):=by unfold aZ cU;rfl
def Ra(args:Array Operand)(argTypes:Array TypeId):aZ P ⟨dst,.call ⟨.builtin .len,args,argTypes⟩,tt,p,af,g⟩ σ K =
  (match args.toList,argTypes.toList with
   |[x],[t] =>
    match ev σ x with
    |.ref id sz _ len =>
     (ty P t).kind=1 /\
     match σ.aa[id]? with
     |some (.arr dK _)=>dK=sz/\K (σ.put dst (aaC len))
     |_=>False
    |.tree _ rows=>(ty P t).kind=1/\K (σ.put dst (aaC rows.length))
    |.lit (.slice none 0 0)=>(ty P t).kind=1/\K (σ.put dst (aaC 0))
    |.iV id =>
     (ty P t).kind=8 /\
     match σ.aa[id]? with
     |some (.mp _ L)=>K (σ.put dst (aaC L.length))
     |_=>False
    |_=>False
   |_,_=>False):=by unfold aZ cU;rfl
def Rb(args:Array Operand)(argTypes:Array TypeId):aZ P ⟨dst,.call ⟨.builtin .append,args,argTypes⟩,tt,p,af,g⟩ σ K =
  (match args.toList,argTypes.toList with
   |[s,x],[t,t'] =>
    match (ty P t).kind,(ty P (ty P t).elem).zero,sM σ (ty P (ty P t).elem).size (ev σ s),pI σ (ev σ x) with
    |1,some z,some (pre,σ1),some (sz,src) =>
     (t'=t/\(ty P (ty P t).elem).kind≠99/\sz=(ty P (ty P t).elem).size/\0<sz/\z.length=sz/\pre.length+src.length<=549755813888/\(ty P (ty P t).elem).bytes<=128/\(src.all λrow=>row.all cO)=true) /\
      K (({ σ1 with aa:=σ1.aa++[.arr sz (pre++src)] }:St).put dst (.ref σ1.aa.length sz 0 (pre.length+src.length)))
    |_,_,_,_=>False
   |_,_=>False):=by unfold aZ cU;rfl
def Rd(args:Array Operand)(argTypes:Array TypeId):aZ P ⟨dst,.call ⟨.builtin .min,args,argTypes⟩,tt,p,af,g⟩ σ K =
  (match args.toList with
   |[x,y] =>
    match ev σ x,ev σ y with
    |.lit (.int k a),.lit (.int k' b)=>k=k'/\K (σ.put dst (.lit (.int k (min a b))))
    |_,_=>False
   |_=>False):=by unfold aZ cU;rfl
def Re(args:Array Operand)(argTypes:Array TypeId):aZ P ⟨dst,.call ⟨.builtin .max,args,argTypes⟩,tt,p,af,g⟩ σ K =
  (match args.toList with
   |[x,y] =>
    match ev σ x,ev σ y with
    |.lit (.int k a),.lit (.int k' b)=>k=k'/\K (σ.put dst (.lit (.int k (max a b))))
    |_,_=>False
   |_=>False):=by unfold aZ cU;rfl
def Rf (args:Array Operand) (argTypes:Array TypeId):aZ P ⟨dst,.call ⟨.builtin .copy,args,argTypes⟩,tt,p,af,g⟩ σ K =
    (match args.toList,argTypes.toList with
      | [s,x],[t,_] =>
        match ev σ s,pI σ (ev σ x) with
        | .ref id sz off len,some (dK,src) =>
          match σ.aa[id]? with
          | some (.arr mg rows) =>
            ((ty P t).kind=1/\(ty P (ty P t).elem).kind≠99/\dK=sz/\mg=sz/\sz=(ty P (ty P t).elem).size/\0<sz/\(src.all λrow=>row.all cO)=true) /\
              K (({ σ with aa:=σ.aa.set id (.arr sz (rows.take off++src.take (min src.length len)++rows.drop (off+min src.length len))) }:St).put dst (aaC (min src.length len:Nat)))
          | _=>False
        | _,_=>False
      | _,_=>False):=by unfold aZ cU;rfl
def Rg (args:Array Operand) (argTypes:Array TypeId):aZ P ⟨dst,.call ⟨.builtin .clear,args,argTypes⟩,tt,p,af,g⟩ σ K =
    (match args.toList,argTypes.toList with
      | [s],[t] =>
        match ev σ s,(ty P (ty P t).elem).zero with
        | .ref id sz off len,some z =>
          match σ.aa[id]? with
          | some (.arr dK rows) =>
            ((ty P t).kind=1/\(ty P (ty P t).elem).kind≠99/\dK=sz/\z.length=sz/\0<sz/\(z.all λu=>u.oneCell')=true) /\
              K (({ σ with aa:=σ.aa.set id (.arr sz (rows.take off++bH len (z.map AV.lit)++rows.drop (off+len))) }:St).put dst (.lit (.tuple #[])))
          | _=>False
        | _,_=>False
      | _,_=>False):=by unfold aZ cU;rfl
def Rh(s d:TypeId)(x:Operand):aZ P ⟨dst,.convert s d x,tt,p,af,g⟩ σ K =
  (match P.underlying d,ev σ x with
   |some (.int k),.lit (.int _ n)=>(P.underlying s).isSome=true/\K (σ.put dst (.lit (.int k (k.wrap n))))
   |_,_=>False):=by unfold aZ cU;rfl
end Go.Am
namespace Go.Am
variable {P:Program} {N n0:Nat} {σ:St} {Q:Exit->St->Prop}
def cZ(au:List Nat)(snap:Bool){v res:AV}{bI:List Ob}(bX:au.Nodup)(ho:qt (bL σ.aa.length au) σ.aa au bI)(hn:n0<=au.length)(dt:∀ i,i<n0->au.getD i 0=i)(h:aJ σ (kept au bI) (bL σ.aa.length au) snap res v):pF n0 σ v res bI:=by
 obtain⟨h1,h2,h3⟩:=ho.spec;exact⟨au,snap,bX,h1,h2,h3,hn,dt,h⟩
def eu{e:Nat->AV}{os:List Ob}{v res:AV}{bI:List Ob}(ho:os=bI)(hn:n0<=bI.length)(h:v=res):pF n0 ⟨e,os⟩ v res bI:=by
 subst ho;subst h
 let σ:St:=⟨e,os⟩
 show pF n0 σ v v σ.aa;have hn:n0<=σ.aa.length:=hn;refine⟨aW σ.aa.length,false,Gt,GF,λj o hj=>.inr ?_,GF,by simpa using hn,λi hi=>?_,?_⟩
 ·have br:=(a8.1 hj).1;rw[yR,DP];simpa [aA,lg br] using hj
 ·have:i<σ.aa.length:=GC;simp[aA,lg this]
 ·exact .eq (by rw[yR,yQ])
end Go.Am
namespace Go.Am
variable {P:Program} {N n0:Nat} {σ:St} {Q:Exit->St->Prop}
def iK{au:List Nat}{co:List Ob}{id:Nat}(h:id ∉ au):¬ kept au co id:=by
 rintro⟨j,hj,he,_⟩;apply h;rw[<- he,aA,bK hj];exact List.getElem_mem hj
def xA(ρ:Nat->Nat)(os:List Ob):List Nat->List Ob->Prop
 |[],[]=>True
 |i::au,o::co=>os[i]?=some (cg ρ o)/\xA ρ os au co
 |_,_=>False
def xA.spec{ρ:Nat->Nat}{os:List Ob}:∀ {au:List Nat} {co:List Ob},xA ρ os au co->co.length=au.length/\∀ (j:Nat) o,co[j]?=some o->os[au.getD j 0]?=some (cg ρ o)
 |[],[],_=>⟨rfl,GF⟩
 |i::au,o::co,h=>by
  obtain⟨h1,h3⟩:=h;obtain⟨a,b⟩:=xA.spec h3;refine⟨by simp[a],λj o' hj=>?_⟩;cases j with
  |zero=>simp at hj;subst hj;simpa using h1
  |succ j=>simpa using b j o' (by simpa using hj)
def fF(R:AV->AV->Prop):List AV->List AV->Prop
 |[],[]=>True
 |c::cs,d::ds=>R c d/\fF R cs ds
 |_,_=>False
def fF.spec{R:AV->AV->Prop}:∀ {cs ds:List AV},fF R cs ds->cs.length=ds.length/\∀ (j:Nat) c d,cs[j]?=some c->ds[j]?=some d->R c d
 |[],[],_=>⟨rfl,GF⟩
 |c::cs,d::ds,h=>by
  obtain⟨a,b⟩:=fF.spec h.2;refine⟨by simp[a],λj c' d' hc hd=>?_⟩;cases j with
  |zero=>simp at hc hd;subst hc;subst hd;exact h.1
  |succ j=>exact b j c' d' (by simpa using hc) (by simpa using hd)
def aJ.lq{kp:Nat->Prop}{ρ:Nat->Nat}{snap:Bool}{a b c d:AV}(h:aJ σ kp ρ snap a c)(k:aJ σ kp ρ snap b d):aJ σ kp ρ snap (.bJ [a,b]) (.bJ [c,d]) :=
 .bJ _ _ rfl (fF.spec (R:=aJ σ kp ρ snap) (cs:=[a,b]) (ds:=[c,d]) ⟨h,k,trivial⟩).2
def jn(au:List Nat){f:FuncId}{args ec:List AV}{cp:List Ob}{dst:Option Tmp}{K:St->Prop}{res:AV}{dh:List Ob}(h:ao P f ec cp res dh)(bX:au.Nodup)(ho:xA (bL σ.aa.length au) σ.aa au cp)(ha:fF (aJ σ (·∈au) (bL σ.aa.length au) false) ec args)(hK:K (({ σ with aa:=eS σ.aa au (dh.map (cg (bL σ.aa.length au))) }:St).put dst (bC (bL σ.aa.length au) res))):sK P f args dst K σ:=by
 obtain⟨h1,h2⟩:=ho.spec;obtain⟨h3,h4⟩:=ha.spec;exact⟨au,false,ec,cp,res,dh,h,⟨bX,h1,h2,h3,h4,GF⟩,hK⟩
def nM(au:List Nat){f:FuncId}{args ec:List AV}{cp:List Ob}{dst:Option Tmp}{K:St->Prop}{res:AV}{dh:List Ob}(h:ao P f ec cp res dh)(bX:au.Nodup)(ho:xA (bL σ.aa.length au) σ.aa au cp)(ha:fF (aJ σ (·∈au) (bL σ.aa.length au) true) ec args)(hf:flat res=true)(Ak:∀ o∈dh,xB o)(hK:K (({ σ with aa:=eS σ.aa au (dh.map (cg (bL σ.aa.length au))) }:St).put dst (bC (bL σ.aa.length au) res))):sK P f args dst K σ:=by
 obtain⟨h1,h2⟩:=ho.spec;obtain⟨h3,h4⟩:=ha.spec;exact⟨au,true,ec,cp,res,dh,h,⟨bX,h1,h2,h3,h4,λ_=>⟨hf,Ak⟩⟩,hK⟩
def Ri{ρ:Nat->Nat}(cs:List AV):cg ρ (.var cs)=.var (cs.map (bC ρ)):=by simp only[cg]
def Rj{ρ:Nat->Nat}:cg ρ .gone=.gone:=by simp only[cg]
def Rk:aW 1=[0]:=Px
def Rl:aW 2=[0,1]:=Px
def Rm:aW 3=[0,1,2]:=Px
def Rn(xs:List Int):(ints xs).take xs.length=ints xs:=by rw[dJ (by simp[ints])]
def Ro(xs:List Bool):(aX xs).take xs.length=aX xs:=by rw[dJ (by simp[aX])]
def Rp(xs:List (List Int)):(ij xs).take xs.length=ij xs:=by rw[dJ (by simp[ij])]
def yV{y:Code}{Q0 Q1:Exit->St->Prop}{G:Prop}(S0:St)(hn:∀ s,W P N n0 y Q0 s->Q1 .normal s)(hm:W P N n0 y Q0 S0)(h:(∀ s,aF n0 s S0->Q1 .normal s)->G):G :=
 h λs ht=>hn s (bY ht hm)
end Go.Am
namespace Go.Am
variable {P:Program} {N n0:Nat} {σ:St} {Q:Exit->St->Prop}
def Rq(P:Program)(ops:Array Oper)(Q:Exit->Act->World->Prop)(js:List Nat):Exit->Act->World->Prop
 |.normal,a,w=>wpOps P ops Q js a w
 |e,a,w=>Q e a w
def Oper.ad1{o:Oper}{a:Act}{w:World}{K:Act->World->Prop}{Q Q':Exit->Act->World->Prop}(hq:∀ e a w,e≠.normal->Q e a w->Q' e a w)(hl:LetsOut Q->LetsOut Q')(hh:o.wp P a w K Q):o.wp P a w K Q':=by
 unfold Oper.wp at *;generalize (execOp a.eval o).run P w=r at *;cases r with
 |ok n w' =>
  cases n<;>simp only[Oper.upon]at hh⊢<;>
   first
    |exact hh
    |exact Calls.mono hh (λe w'' he=>by
      cases e with
      |returned v=>exact he
      |panicked c=>exact hq _ _ _ GF he
      |outgrown=>exact hl he)
 |halt x w'=>cases x<;>simp only[Oper.upon]at hh ⊢<;>first|exact hh|exact hq _ _ _ GF hh
def Al{ops:Array Oper}{Q:Exit->Act->World->Prop}{js:List Nat}:∀ (is:List Nat) (a:Act) (w:World),wpOps P ops (Rq P ops Q js) is a w->wpOps P ops Q (is++js) a w
 |[],a,w,h=>h
 |i::is,a,w,h=>by
  rw[List.cons_append,wpOps_cons];rw[wpOps_cons]at h;have hl:LetsOut (Rq P ops Q js)->LetsOut Q:=λh=>h;unfold wpOp at h ⊢;cases ho:ops[i]? with
  |none=>simp only[ho]at h ⊢;exact Al is a w h
  |some o =>
   simp only[ho]at h ⊢;by_cases hw:Region.wanted o (yielded ops a.tmps)=true
   ·rw[if_pos hw]at h ⊢;rcases h with h|⟨h1,h2⟩
    ·left;exact Oper.ad1 (λe a w he hq=>by cases e<;>first|exact absurd rfl he|exact hq) hl (Oper.wp_mono (λa w=>Al is a w) h)
    ·exact .inr ⟨h1,hl h2⟩
   ·rw[if_neg hw]at h ⊢;exact Al is _ w h
def uO{N:Nat}{os:List Ob}{γ0:Cx}{ops:Array Oper}(hd:∀ o∈ops.toList,∀ d,o.dst=some d->d<N){K:St->Prop}{Q:Exit->Act->World->Prop}(hQ:∀ σ' a' w',K σ'->iH N os γ0 σ' a' w'->Q .normal a' w'):∀ (l:List Oper) (i:Nat) (σ:St) (a:Act) (w:World),(∀ k,k<l.length->ops[i+k]?=l[k]?)->opsL P ops l K σ->iH N os γ0 σ a w ->
   wpOps P ops Q (og i l.length) a w
 |[],i,σ,a,w,_,h,ax=>by simpa [wpOps] using hQ _ _ _ h ax
 |o::r,i,σ,a,w,hl,h,ax=>by
  have hi:ops[i]?=some o:=by simpa using hl 0 GF
  have hr:∀ k,k<r.length->ops[i+1+k]?=r[k]?:=λk hk=>by
   have:=hl (k+1) (by simpa using hk);rw[show i+1+k=i+(k+1) by omega,this];simp
  have bO:o∈ops.toList:=iD (by simpa using hi);rw[eB,xg,wpOps_cons];unfold wpOp;simp only[hi];unfold opsL at h;cases hg:o.guard with
  |none =>
   simp only[hg]at h;have hw:Region.wanted o (yielded ops a.tmps)=true:=by simp[Region.wanted,hg]
   rw[if_pos hw];left;exact yN h ax (hd o bO) (λσ' a' w' hK ed=>uO hd hQ r (i+1) σ' a' w' hr hK ed)
  |some jw =>
   obtain⟨j,want⟩:=jw;simp only[hg]at h;cases eY:(ops[j]?).bind (·.dst) with
   |none=>simp[eY]at h
   |some d =>
    simp only[eY]at h;split at h
    ·rename_i b he;obtain⟨iU,bx,γ,rfl,ha,hs,hf⟩:=ax;have kP:=hs.aw d;rw[he,ha]at kP;have hv:=kP.dz;have hy:yielded ops a.tmps j=some b:=by
      unfold yielded;rw[eY];have:a.tmps[d]?=some (.bool b):=by
       rw[gm]at hv;cases hx:a.tmps[d]? with
       |none=>rw[hx]at hv;simp[Go.undef]at hv
       |some y=>rw[hx]at hv;simp at hv;rw[hv]
      simp[this]
     by_cases iv:b=want
     ·have hw:Region.wanted o (yielded ops a.tmps)=true:=by simp[Region.wanted,hg,hy,iv]
      rw[if_pos hw];left;exact yN (h.1 iv) ⟨iU,bx,γ,rfl,ha,hs,hf⟩ (hd o bO) (λσ' a' w' hK ed=>uO hd hQ r (i+1) σ' a' w' hr hK ed)
     ·have hw:Region.wanted o (yielded ops a.tmps)=false:=by simp[Region.wanted,hg,hy,iv]
      rw[if_neg (by rw[hw];simp)];refine uO hd hQ r (i+1) _ _ _ hr (h.2 iv) ⟨by rw[put_defers];exact iU,by rw[uI];exact bx,{ γ with tmps:=(a.put o.dst Go.undef).tmps },rfl,rfl,sH hs ha (λd h=>by rw[bx];exact hd o bO d h) (.lit _),?_⟩;rw[rF];exact hf.put _
    ·rename_i vs he;obtain⟨iU,bx,γ,rfl,ha,hs,hf⟩:=ax;have kP:=hs.aw d;rw[he,ha]at kP;have hv:=kP.dz;have hy:yielded ops a.tmps j=none:=by
      unfold yielded;rw[eY];rw[gm]at hv;cases hx:a.tmps[d]? with
      |none=>simp[hx]
      |some y=>rw[hx]at hv;simp at hv;subst hv;simp[hx]
     have hw:Region.wanted o (yielded ops a.tmps)=false:=by simp[Region.wanted,hg,hy]
     rw[if_neg (by rw[hw];simp)];refine uO hd hQ r (i+1) _ _ _ hr h.2 ⟨by rw[put_defers];exact iU,by rw[uI];exact bx,{ γ with tmps:=(a.put o.dst Go.undef).tmps },rfl,rfl,sH hs ha (λd h=>by rw[bx];exact hd o bO d h) (.lit _),?_⟩;rw[rF];exact hf.put _
    ·exact h.elim
def ad2{os:List Ob}{γ0:Cx}{ops:Array Oper}(hd:∀ o∈ops.toList,∀ d,o.dst=some d->d<N){K K1:St->Prop}{Q:Exit->Act->World->Prop}(hn:os.length=n0)(hQ:∀ σ' a' w',K σ'->iH N os γ0 σ' a' w'->Q .normal a' w')(n:Nat)(hK:∀ s,K1 s->∃ s1,aF n0 s s1/\opsL P ops (ops.toList.drop n) K s1)(σ:St)(a:Act)(w:World)(h:opsL P ops (ops.toList.take n) K1 σ)(ax:iH N os γ0 σ a w):wpOps P ops Q (aW ops.size) a w:=by
 have e:aW ops.size=og 0 (ops.toList.take n).length++og (ops.toList.take n).length (ops.toList.drop n).length:=by
  rw[xh];have:=List.range'_append (s:=0) (m:=(ops.toList.take n).length) (n:=(ops.toList.drop n).length) (step:=1);simp only[Nat.zero_add,Nat.one_mul]at this;rw[this];congr 1;rw[<- List.length_append,List.take_append_drop];simp
 rw[e];refine Al _ a w ?_;refine uO hd (K:=K1) (λσ' a' w' hk ed=>?_) (ops.toList.take n) 0 σ a w (λk hk=>?_) h ax
 ·obtain⟨s1,ht,ho⟩:=hK σ' hk;obtain⟨h1,h2,γ,rfl,h3,h4,h5⟩:=ed;obtain⟨aO,e1,e2,e3,e4⟩:=ht os γ0 γ hn h4 h5;refine uO hd hQ (ops.toList.drop n) _ s1 a' γ.w (λk hk=>?_) ho ⟨h1,h2,aO,e1,e2.trans h3,e3,e4⟩;rw[List.getElem?_drop];simp only[List.length_drop,vO]at hk;rw[eN,vO,Nat.min_eq_left GC];simp
 ·simp only[eN,vO]at hk;rw[List.getElem?_take_of_lt GC];simp
end Go.Am
namespace Go.Am
variable {σ:St}
def kQ(R:AV->AV->Prop):List (List AV)->List (List AV)->Prop
 |[],[]=>True
 |c::cs,d::ds=>fF R c d/\kQ R cs ds
 |_,_=>False
def kQ.spec{R:AV->AV->Prop}:∀ {cs ds:List (List AV)},kQ R cs ds->cs.length=ds.length/\∀ (r c:Nat) v,cellAt cs r c=some v->cellAt ds r c=some ((cellAt ds r c).getD .undef)/\R v ((cellAt ds r c).getD .undef)
 |[],[],_=>⟨rfl,by simp[cellAt]⟩
 |c::cs,d::ds,h=>by
  obtain⟨a,b⟩:=kQ.spec h.2;refine⟨by simp[a],λr j v hv=>?_⟩;cases r with
  |zero =>
   simp only[cellAt,List.getElem?_cons_zero,Option.bind_some]at hv ⊢;obtain⟨e1,e2⟩:=h.1.spec;have hj:j<d.length:=by rw[<- e1];exact(a8.1 hv).1
   rw[bK hj];exact⟨rfl,e2 j v _ hv (bK hj)⟩
  |succ r =>
   have:=b r j v (by simpa [cellAt] using hv);simpa [cellAt] using this
def cL.mk{kp:Nat->Prop}{id sz len:Nat}{rows iI:List (List AV)}(ho:σ.aa[id]?=some (.arr sz rows))(hl:len=rows.length)(tF:¬ kp id)(hw:∀ row∈iI,row.length=sz)(h:kQ (cL σ kp) iI rows):cL σ kp (.tree sz iI) (.ref id sz 0 len):=by
 obtain⟨a,b⟩:=h.spec;subst hl;refine .ref id sz 0 rows.length rows iI (λr c=>(cellAt rows r c).getD .undef) ho tF (by simp[a]) hw (λr c v hv=>?_) (λr c v hv=>?_)
 ·simpa using(b r c v hv).1
 ·exact(b r c v hv).2
end Go.Am

