import Derived.Test.YtfoopmojjjpapaaGreatX17
set_option linter.all false
set_option maxHeartbeats 0
set_option maxRecDepth 20000
open List renaming getElem?_set→bY,mapIdx_cons→IB,all_cons→Ck
open Option renaming map_some→gY
open Bool renaming and_eq_true→aZ
namespace Go.Am
variable {P:Program} {N n0:Nat} {σ:St} {Q:Exit->St->Prop}
def bg.ae3{σ:St}{γ:Cx}(h:bg σ γ){id sz:Nat}{R R':List (List AV)}(ho:σ.aa[id]?=some (.arr sz R))(hl:R'.length=R.length)(hw:∀ row∈R',row.length=sz)(cA:R≠[])(hc:∀ (r c:Nat) v',cellAt R' r c=some v'->∃ v,cellAt R r c=some v/\∀ cv,aw σ.aa γ.w γ.Z γ.blk v cv->aw σ.aa γ.w γ.Z γ.blk v' cv):bg ⟨σ.env,σ.aa.set id (.arr sz R')⟩ γ:=by
 obtain⟨h0,hr,bI⟩:=h.dF id _ ho;rcases bI with⟨_,h2⟩|⟨b,o,cap,cur,t,h1,h2,h3,h4,h5,h6⟩
 ·exact absurd h2 cA
 ·have:=h.write (ob':=.arr sz R') ho Iy ⟨rfl,hl.symm⟩ h1 (w':=γ.w) h2 (λ_ _=>rfl) rfl ⟨h0,hw,h3,by rw[hl];exact h4,h5,λr c v' hv=>by
   obtain⟨v,kN,xY⟩:=hc r c v' hv;exact xY _ (h6 r c v kN)⟩
  exact this
def Fr.ae4(os:List Ob)(γ:Cx){id:Nat}{o o':Ob}(ho:os[id]?=some o)(jK:o.dT o'):Fr os γ (os.set id o') γ where
 kJ:=rfl
 tape:=rfl
 output:=rfl
 size:=Nat.le_refl _
 dV:=λ_ _ _=>rfl
 z0:=λ_ h=>h
 z1:=λ_ h=>.inl h
 own:=by
  rintro b⟨i,p,c,⟨x,hx,eF⟩,hb⟩;rw[bY]at hx;split at hx
  ·rename_i e;subst e;exact .inl ⟨id,p,c,⟨_,ho,(Ob.Qo jK).1⟩,hb⟩
  ·exact .inl ⟨i,p,c,⟨x,hx,eF⟩,hb⟩
 len:=Iy
 dY:=by
  rintro i hi⟨x,hx,eF⟩;have hx0:=hx;rw[bY]at hx;split at hx
  ·rename_i e;subst e;exact⟨rfl,o,o',ho,by rw[bY];simp[hi],jK⟩
  ·exact⟨rfl,x,x,hx,hx0,Ob.jg eF⟩
def UT(v v':AV):Prop:=v'=v\/(v=.lit (.slice none 0 0)/\∃ s,v'=.tree s [])
def Dg:List AV->List AV->Prop
 |[],[]=>True
 |c::cs,d::ds=>UT c d/\Dg cs ds
 |_,_=>False
def Dg.get:∀ {cs ds:List AV},Dg cs ds->cs.length=ds.length/\∀ (j:Nat) d,ds[j]?=some d->∃ c,cs[j]?=some c/\UT c d
 |[],[],_=>⟨rfl,Iy⟩
 |c::cs,d::ds,h=>by
  obtain⟨a,b⟩:=Dg.get h.2;refine⟨by simp[a],λj d' hd=>?_⟩;cases j with
  |zero=>simp at hd;subst hd;exact⟨c,rfl,h.1⟩
  |succ j=>exact b j d' (by simpa using hd)
 |[],_::_,h=>h.elim
 |_::_,[],h=>h.elim
def aF.ae5(id r0 sz:Nat){R:List (List AV)}{cells cells':List AV}(ho:σ.aa[id]?=some (.arr sz R))(bN:R[r0]?=some cells)(hc:Dg cells cells'):aF n0 σ ⟨σ.env,σ.aa.set id (.arr sz (R.set r0 cells'))⟩:=by
 intro os γ0 γ _ hs hf;obtain⟨hl,hg⟩:=hc.get;have wV:r0<R.length:=(List.getElem?_eq_some_iff.1 bN).1;have w5:=(hs.dF id _ ho).2.1;refine⟨γ,rfl,rfl,hs.ae3 ho Iy (λrow Bu=>?_) (λe=>by rw[e]at wV;exact absurd wV (Nat.not_lt_zero _)) (λr c v' hv=>?_),hf.trans (Fr.ae4 _ _ ho ⟨rfl,Iy⟩)⟩
 ·rcases List.mem_or_eq_of_mem_set Bu with h|h
  ·exact w5 row h
  ·subst h;rw[<- hl];exact w5 cells (List.mem_of_getElem? bN)
 ·unfold cellAt at hv;rw[bY]at hv;by_cases e:r0=r
  ·subst e;rw[if_pos rfl,if_pos wV,Option.bind_some]at hv;obtain⟨v,h1,h2⟩:=hg c v' hv;refine⟨v,by unfold cellAt;rw[bN];exact h1,λcv hr=>?_⟩;rcases h2 with rfl|⟨rfl,s,rfl⟩
   ·exact hr
   ·rw[hr.cz];exact .cG _ _ (.nil _ _ _)
  ·rw[if_neg e]at hv;exact⟨v',hv,λcv hr=>hr⟩
end Go.Am
namespace Go.Am
variable {P:Program} {N n0:Nat} {σ:St} {Q:Exit->St->Prop}
end Go.Am
namespace Go.Am
variable {P:Program} {N n0:Nat} {σ:St}
def Kk(ag:Nat)(f:Nat->Value)(p:List Int×AV)(r:List (List Int×AV)):da ag f (p::r)=(kV ag p.1,f 0)::da ag (λj=>f (j+1)) r:=by
 unfold da;simp[IB]
def UU(x:Int):∀ (L:List (List Int×AV)) (f:Nat->Value) (g:Nat->Nat) (i:Nat),(∀ p∈L,p.1.length=1) ->
  Instr.findNow (.int .i64) (.int .i64 x) ((da 0 f L).mapIdx λj p=>(⟨p.1,p.2,g j⟩:MapEntry)) i=some ((ic [x] L i).map λq=>(q,f (q-i)))
 |[],_,_,_,_=>rfl
 |p::r,f,g,i,h=>by
  have hp:=h p Iy;obtain⟨l,v⟩:=p;obtain⟨y,rfl⟩:∃y,l=[y]:=List.length_eq_one_iff.1 hp;rw[Kk];simp only[IB,Instr.findNow,kV,if_true,List.headD_cons,Instr.sameNow,ic];by_cases qj:y=x
  ·subst qj;simp
  ·rw[if_neg (λe=>qj (by simpa using e))];have:(x==y)=false:=by simpa using λe=>qj e.symm
   rw[this];have ih:=UU x r (λj=>f (j+1)) (λj=>g (j+1)) (i+1) (λq hq=>h q (by simp[hq]));simp only[ih];cases hf:ic [x] r (i+1) with
   |none=>rfl
   |some q =>
    have:=(zn hf).1;simp only[gY];rw[show q-(i+1)+1=q-i by omega]
def jb.int{t kt et:TypeId}(h1:P.underlying t=some (.map kt et))(h2:P.underlying kt=some (.int .i64)):jb P t 0:=by
 refine⟨kt,et,h1,λl hl=>?_⟩;obtain⟨x,rfl⟩:∃x,l=[x]:=List.length_eq_one_iff.1 hl;refine⟨λe w=>?_,λw=>?_,λf L w hL=>?_⟩
 ·exact run_checkKey h2 e x w
 ·have Dh:Instr.sameBits 10000 (.int .i64 x) (.int .i64 x)=true:=by simp[Instr.sameBits]
  show(Instr.keyThatStays (.int .i64 x) (.int .i64 x)).run P w=_;simp[Instr.keyThatStays,Dh,kV]
 ·have h:=UU x L f id 0 hL;simp only[id]at h;show(Instr.findKey kt (.int .i64 x) (cR (da 0 f L)).toList).run P w=_;simp[Instr.findKey,run_underlying h2,sH,h]
end Go.Am
namespace Go.Am
variable {P:Program} {N n0:Nat} {σ:St}
def Di{n:Nat}(hn:n≠0)(l:List Int):kV n l=.agg (l.map (Value.int .i64)).toArray:=by unfold kV;rw[if_neg hn]
def ae6{t:TypeId}{n:Nat}(h:vg P t n)(hn:n≠0)(w:World){as bs:List Int}(ha:as.length=n)(hb:bs.length=n):(Op.equal t (kV n as) (kV n bs)).run P w=.ok (decide (as=bs)) w:=by
 rw[Di hn,Di hn];exact h w as bs ha hb
def UW{t:TypeId}{n:Nat}(h:vg P t n)(hn:n≠0){l:List Int}(hl:l.length=n)(w:World):∀ (L:List (List Int×AV)) (f:Nat->Value) (g:Nat->Nat) (i:Nat),(∀ p∈L,p.1.length=n) ->
  (Instr.findAsking t (kV n l) ((da n f L).mapIdx λj p=>(⟨p.1,p.2,g j⟩:MapEntry)) i).run P w=.ok ((ic l L i).map λq=>(q,f (q-i))) w
 |[],_,_,_,_=>rfl
 |p::r,f,g,i,hL=>by
  have hp:=hL p Iy;rw[Kk];have he:=ae6 h hn w hl hp;simp only[IB,Instr.findAsking,Sem.run_bind,he,Result.andThen_ok,Sem.run_ite,ic];by_cases qj:p.1=l
  ·rw[if_pos qj];simp[qj.symm]
  ·rw[if_neg qj,if_neg (by simpa using λe=>qj e.symm)];have ih:=UW h hn hl w r (λj=>f (j+1)) (λj=>g (j+1)) (i+1) (λq hq=>hL q (by simp[hq]));rw[ih];cases hf:ic l r (i+1) with
   |none=>rfl
   |some q =>
    have:=(zn hf).1;simp only[gY];rw[show q-(i+1)+1=q-i by omega]
def UX(k:Nat):∀ (l:List Int),((l.map (Value.int .i64)).zip (l.map (Value.int .i64))).all (λ(x,y)=>Instr.sameBits k x y)=true
 |[]=>rfl
 |x::r=>by
  simp only[List.map_cons,List.zip_cons_cons,Ck,UX k r,Bool.and_true];cases k<;>simp[Instr.sameBits]
def ae7(w:World){ft:TypeId}(hf:P.underlying ft=some (.int .i64)){l:List Int}{o:Nat}(ho:o<l.length):(part ft (l.map (Value.int .i64)).toArray o).run P w=.ok (.int .i64 (l.getD o 0)) w:=by
 have hx:((l.map (Value.int .i64)).toArray)[o]?=some (.int .i64 (l.getD o 0)):=by simp[ho]
 simp only[part,isAgg,Sem.run_bind,run_underlying hf,Result.andThen_ok,Sem.run_pure,Bool.false_eq_true,if_false,Sem.run_ite,hx]
def ae8{ft:TypeId}(hf:P.underlying ft=some (.int .i64))(e:Bool)(x:Int)(k:Nat)(w:World):(Instr.checkKey e (k+1) ft (.int .i64 x)).run P w=.ok () w:=by
 simp[Instr.checkKey,run_underlying hf]
def Gt(P : Program)(n : Nat)(fs : List Field): Bool := fs.all λf => f.name != "_" && decide (f.offset < n) && (match P.underlying f.type with | some (.int .i64) => true | _ => false)
def ae9 {P : Program} {n : Nat} {f : Field} (h : (f.name != "_" && decide (f.offset < n) && (match P.underlying f.type with | some (.int .i64) => true | _ => false)) = true) : f.name ≠ "_" /\ f.offset < n /\ P.underlying f.type = some (.int .i64) := by
 simp only[aZ,bne_iff_ne,decide_eq_true_eq]at h;refine⟨h.1.1,h.1.2,?_⟩;have h2:=h.2;split at h2
 ·assumption
 ·cases h2
def ae'{kt:TypeId}{n:Nat}{fs:Array Field}(h2:P.underlying kt=some (.struct fs))(hn:n≠0)(iz:Gt P n fs.toList=true)(l:List Int)(hl:l.length=n)(e:Bool)(w:World):(Instr.checkKey e 10000 kt (kV n l)).run P w=.ok () w:=by
 rw[Di hn,show(10000:Nat)=9999+1 from rfl,Instr.checkKey];simp only[Sem.run_bind,run_underlying h2,Result.andThen_ok];rw[<- Array.forIn_toList];generalize fs.toList=L at iz
 induction L with
 |nil=>simp
 |cons f r ih =>
  unfold Gt at iz;rw[Ck,aZ]at iz;obtain⟨a1,a2,a3⟩:=ae9 iz.1;have p1:=ae7 (P:=P) w a3 (l:=l) (o:=f.offset) Ix;have p2:=ae8 a3 e (l.getD f.offset 0) 9998 w;simp only[List.forIn_cons,Sem.run_bind,a1,ne_eq,not_false_eq_true,if_true,Result.andThen_ok,p1,p2,Sem.run_pure];exact ih iz.2
def jb.agg{t kt et:TypeId}{n:Nat}{fs:Array Field}(h1:P.underlying t=some (.map kt et))(h2:P.underlying kt=some (.struct fs))(h3:vg P kt n)(hn:n≠0)(h4:∀ (l:List Int),l.length=n->∀ e w,(Instr.checkKey e 10000 kt (kV n l)).run P w=.ok () w):jb P t n:=by
 have hk:jZ n=n:=by unfold jZ;rw[if_neg hn]
 refine⟨kt,et,h1,λl hl=>?_⟩;rw[hk]at hl;refine⟨h4 l hl,λw=>?_,λf L w hL=>?_⟩
 ·have Dh:Instr.sameBits 10000 (kV n l) (kV n l)=true:=by
   rw[Di hn];simp only[Instr.sameBits,beq_self_eq_true,Bool.true_and];exact UX 9999 l
  simp[Instr.keyThatStays,Dh]
 ·rw[hk]at hL;have h:=UW h3 hn hl w L f id 0 hL;simp only[id]at h;cases L with
  |nil=>simp[Instr.findKey,run_underlying h2,sH,da,Instr.findNow,ic]
  |cons p r =>
   have afa:Instr.findNow (.struct fs) (kV n l) (cR (da n f (p::r))).toList 0=none:=by
    rw[sH,Kk];simp only[IB,Instr.findNow,Di hn,Instr.sameNow]
   simp only[Instr.findKey,Sem.run_bind,run_underlying h2,Result.andThen_ok,afa];rw[sH];exact h
def jb.struct{t kt et:TypeId}{n:Nat}{fs:Array Field}(h1:P.underlying t=some (.map kt et))(h2:P.underlying kt=some (.struct fs))(hn:n≠0)(h3:F3 P 2 kt n=true)(h4:Gt P n fs.toList=true):jb P t n :=
 jb.agg h1 h2 (vg.of 2 h3) hn (ae' h2 hn h4)
def UY(P:Program)(kt:TypeId)(n:Nat):Bool:=match P.underlying kt with
 |some (.struct fs)=>Gt P n fs.toList
 |_=>false
def jb.aew{t kt et:TypeId}{n:Nat}(h1:P.underlying t=some (.map kt et))(h2:UY P kt n=true)(hn:n≠0)(h3:F3 P 2 kt n=true):jb P t n:=by
 unfold UY at h2;split at h2
 ·rename_i fs iz;exact jb.struct h1 iz hn h3 h2
 ·cases h2
end Go.Am

