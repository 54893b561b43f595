import Derived.Test.YtdipcmigdbnheaaGreatX02
set_option linter.unusedVariables false
set_option linter.unusedSimpArgs false
set_option linter.unnecessarySimpa false
set_option linter.unusedSectionVars false
set_option maxHeartbeats 64000000
set_option maxRecDepth 20000
open Bool renaming and_eq_true→a7
open List renaming mem_cons→bW,mem_of_getElem?→iy,getElem?_map→bR,getElem?_cons_zero→uK,getElem?_append_left→dH,getElem?_set_ne→cz,getElem?_cons_succ→uL,getElem?_append_right→fA,length_cons→dI,eq_nil_of_length_eq_zero→qF,getElem?_eq_some_iff→aY,getD_eq_getElem?_getD→ay,mem_map_of_mem→D0,length_map→eD,mem_map→bV,all_eq_true→eW,nodup_nil→G4,map_congr_left→qC
open Option renaming map_eq_some_iff→zG,some→dw,map_some→eC
open Nat renaming lt_or_ge→dG,le_refl→aV
open Array renaming toList_append→zF,getD_eq_getD_getElem?→eY,getElem?_append_left→D1,getElem?_toList→BC
namespace Go.Am
variable {P:Program}
mutual
def aX (ρ:Nat→Nat):AV→AV
  | .ref id sz off len=>.ref (ρ id) sz off len
  | .ptr id r c=>.ptr (ρ id) r c
  | .agg cs=>.agg (m6 ρ cs)
  | .bM cs=>.bM (m6 ρ cs)
  | .fn f cs=>.fn f (m6 ρ cs)
  | .er t v=>.er t (aX ρ v)
  | .fL id=>.fL (ρ id)
  | v=>v
def m6 (ρ:Nat→Nat):List AV→List AV
  | []=>[]
  | v::vs=>aX ρ v::m6 ρ vs
end
theorem uW (ρ:Nat→Nat) (l:List AV):m6 ρ l=l.map (aX ρ):=by
  induction l with
  | nil=>simp[m6]
  | cons v l ih=>simp[m6,ih]
def bD (ρ:Nat→Nat):Ob→Ob
  | .gone=>.gone
  | .var cs=>.var (cs.map (aX ρ))
  | .arr sz rows=>.arr sz (rows.map (·.map (aX ρ)))
  | .mp ag L=>.mp ag (L.map fun p=>(p.1,aX ρ p.2))
mutual
def flat:AV→Bool
  | .tree ..=>false
  | .dz _=>false
  | .agg cs=>zY cs
  | .bM cs=>zY cs
  | .fn _ cs=>zY cs
  | .er _ v=>flat v
  | _=>true
def zY:List AV→Bool
  | []=>true
  | v::vs=>flat v && zY vs
end
theorem HE {l:List AV} (h:zY l=true):∀ v∈l,flat v=true:=by
  induction l with
  | nil=>intro v hv;simp at hv
  | cons x l ih =>
    simp only[zY,a7] at h
    intro v hv
    rcases bW.1 hv with rfl | hv
    · exact h.1
    · exact ih h.2 v hv
def uS:Ob→Prop
  | .gone=>True
  | .var cs=>∀ v∈cs,flat v=true
  | .arr _ rows=>∀ row∈rows,∀ v∈row,flat v=true
  | .mp _ L=>∀ p∈L,flat p.2=true
theorem aB.Z2 {os:List Ob} {w:World} {Z Z':Nat→Prop} {blk:gG} {v:AV} {cv:Value} (h:aB os w Z blk v cv) (hf:flat v=true):aB os w Z' blk v cv:=by
  induction h with
  | undef cv=>exact .undef cv
  | cI v cv h=>cases h<;>first|exact .cI _ _ (.lit _)|simp[flat] at hf
  | dz=>simp[flat] at hf
  | kx id sz off len cv h h1=>exact .kx id sz off len cv h h1
  | my id r c cv h h1=>exact .my id r c cv h h1
  | ref id sz off len b o cap cap' rows h hb hl hc ic=>exact .ref id sz off len b o cap cap' rows h hb hl hc ic
  | l7 id sz h hb=>exact .l7 id sz h hb
  | mz id sz off b x bo rows h hb hl=>exact .mz id sz off b x bo rows h hb hl
  | m7 id c b cap cells h hb=>exact .m7 id c b cap cells h hb
  | nL id r c sz b o cap rows h hb=>exact .nL id r c sz b o cap rows h hb
  | agg cs a8 hs _ ih=>simp only[flat] at hf;exact .agg cs a8 hs (fun j x hx=>ih j x hx (HE hf x (iy hx)))
  | bM cs a8 hs _ ih=>simp only[flat] at hf;exact .bM cs a8 hs (fun j x hx=>ih j x hx (HE hf x (iy hx)))
  | fn f cs a8 hs _ ih=>simp only[flat] at hf;exact .fn f cs a8 hs (fun j x hx=>ih j x hx (HE hf x (iy hx)))
  | er t v cv _ ih=>simp only[flat] at hf;exact .er t v cv (ih hf)
  | fL id b ag L h hb=>exact .fL id b ag L h hb
  | qa id cv h h1=>exact .qa id cv h h1
theorem aB.up {os gW:List Ob} {w:World} {Z Z':Nat→Prop} {blk jX:gG} {ρ:Nat→Nat} {v:AV} {cv:Value} (h:aB os w Z blk v cv) (hz:∀ b,Z b→Z' b)
    (ho:∀ j o,os[j]?=some o→gW[ρ j]?=some (bD ρ o)∧(o≠.gone→jX (ρ j)=blk j)):aB gW w Z' jX (aX ρ v) cv:=by
  induction h with
  | undef cv=>exact .undef cv
  | cI v cv h =>
    have h':aB gW w Z' jX v cv:=.cI _ _ (h.mono (fun b hb=>⟨hz b hb,rfl⟩))
    cases h<;>simpa [aX] using h'
  | dz cells b o f uY hc ht=>exact .dz cells b o f (hz b uY) hc (fun j x hx=>(ht j x hx).mono (fun b hb=>⟨hz b hb,rfl⟩))
  | kx id sz off len cv h h1=>exact .kx _ sz off len cv (ho id _ h).1 h1
  | my id r c cv h h1=>exact .my _ r c cv (ho id _ h).1 h1
  | ref id sz off len b o cap cap' rows h hb hl hc ic =>
    obtain ⟨h1,h2⟩:=ho id _ h
    exact .ref _ sz off len b o cap cap' _ h1 ((h2 (by simp)).trans hb) (by simpa using hl) hc ic
  | l7 id sz h hb =>
    obtain ⟨h1,h2⟩:=ho id _ h
    exact .l7 _ sz h1 ((h2 (by simp)).trans hb)
  | mz id sz off b x bo rows h hb hl =>
    obtain ⟨h1,h2⟩:=ho id _ h
    exact .mz _ sz off b x bo _ h1 ((h2 (by simp)).trans hb) (by simpa using hl)
  | m7 id c b cap cells h hb =>
    obtain ⟨h1,h2⟩:=ho id _ h
    exact .m7 _ c b cap _ h1 ((h2 (by simp)).trans hb)
  | nL id r c sz b o cap rows h hb =>
    obtain ⟨h1,h2⟩:=ho id _ h
    exact .nL _ r c sz b o cap _ h1 ((h2 (by simp)).trans hb)
  | agg cs a8 hs _ ih =>
    simp only[aX,uW]
    refine .agg _ a8 (by simpa using hs) (fun j x hx=>?_)
    simp only[bR,zG] at hx
    obtain ⟨y,hy,rfl⟩:=hx
    exact ih j y hy
  | bM cs a8 hs _ ih =>
    simp only[aX,uW]
    refine .bM _ a8 (by simpa using hs) (fun j x hx=>?_)
    simp only[bR,zG] at hx
    obtain ⟨y,hy,rfl⟩:=hx
    exact ih j y hy
  | fn f cs a8 hs _ ih =>
    simp only[aX,uW]
    refine .fn f _ a8 (by simpa using hs) (fun j x hx=>?_)
    simp only[bR,zG] at hx
    obtain ⟨y,hy,rfl⟩:=hx
    exact ih j y hy
  | er t v cv _ ih=>simp only[aX];exact .er t _ cv ih
  | fL id b ag L h hb =>
    obtain ⟨h1,h2⟩:=ho id _ h
    exact .fL _ b ag _ h1 ((h2 (by simp)).trans hb)
  | qa id cv h h1=>exact .qa _ cv (ho id _ h).1 h1
theorem BQ {ρ:Nat→Nat} {o:Ob}:bD ρ o=.gone↔o=.gone:=by cases o<;>simp[bD]
theorem Ob.Z3 {ρ:Nat→Nat} {x y:Ob} (h:x.dU y):(bD ρ x).dU (bD ρ y):=by
  cases x<;>cases y<;>simp[Ob.dU,bD] at h ⊢<;>exact h
theorem aB.down {os gW:List Ob} {w:World} {Z Z':Nat→Prop} {blk jX:gG} {ρ:Nat→Nat} {v:AV} {cv:Value} (h:aB os w Z blk v cv) (hz:∀ b,Z b→Z' b)
    (ho:∀ j x,os[ρ j]?=some x→∃ o,gW[j]?=some o∧(o=.gone∨(x=bD ρ o∧jX j=blk (ρ j)))):∀ v',v=aX ρ v'→aB gW w Z' jX v' cv:=by
  induction h with
  | undef cv=>intro v' hv;cases v'<;>simp[aX] at hv;exact .undef cv
  | cI v cv h =>
    intro v' hv
    have h':aB gW w Z' jX v cv:=.cI _ _ (h.mono (fun b hb=>⟨hz b hb,rfl⟩))
    cases h<;>cases v'<;>simp[aX] at hv<;>(first|(subst hv;exact h')|(obtain ⟨rfl,rfl⟩:=hv;exact h'))
  | dz cells b o f uY hc ht =>
    intro v' hv
    cases v'<;>simp[aX] at hv
    subst hv
    exact .dz _ b o f (hz b uY) hc (fun j x hx=>(ht j x hx).mono (fun b hb=>⟨hz b hb,rfl⟩))
  | kx id sz off len cv h h1 =>
    intro v' hv
    cases v'<;>simp[aX] at hv
    obtain ⟨rfl,rfl,rfl,rfl⟩:=hv
    obtain ⟨o,h2,rfl | ⟨h3,_⟩⟩:=ho _ _ h
    · exact .kx _ _ _ _ cv h2 h1
    · have:=BQ.1 h3.symm
      subst this
      exact .kx _ _ _ _ cv h2 h1
  | my id r c cv h h1 =>
    intro v' hv
    cases v'<;>simp[aX] at hv
    obtain ⟨rfl,rfl,rfl⟩:=hv
    obtain ⟨o,h2,rfl | ⟨h3,_⟩⟩:=ho _ _ h
    · exact .my _ _ _ cv h2 h1
    · have:=BQ.1 h3.symm
      subst this
      exact .my _ _ _ cv h2 h1
  | ref id sz off len b o cap cap' rows h hb hl hc ic =>
    intro v' hv
    cases v'<;>simp[aX] at hv
    obtain ⟨rfl,rfl,rfl,rfl⟩:=hv
    obtain ⟨x,h2,rfl | ⟨h3,h4⟩⟩:=ho _ _ h
    · exact .kx _ _ _ _ _ h2 rfl
    · cases x<;>simp[bD] at h3
      obtain ⟨rfl,rfl⟩:=h3
      exact .ref _ _ _ _ b o cap cap' _ h2 (h4.trans hb) (by simpa using hl) hc ic
  | l7 id sz h hb =>
    intro v' hv
    cases v'<;>simp[aX] at hv
    obtain ⟨rfl,rfl,rfl,rfl⟩:=hv
    obtain ⟨x,h2,rfl | ⟨h3,h4⟩⟩:=ho _ _ h
    · exact .kx _ _ _ _ _ h2 rfl
    · cases x<;>simp[bD] at h3
      obtain ⟨rfl,h3⟩:=h3
      subst h3
      exact .l7 _ _ h2 (h4.trans hb)
  | mz id sz off b x bo rows h hb hl =>
    intro v' hv
    cases v'<;>simp[aX] at hv
    obtain ⟨rfl,rfl,rfl,rfl⟩:=hv
    obtain ⟨y,h2,rfl | ⟨h3,h4⟩⟩:=ho _ _ h
    · exact .kx _ _ _ _ _ h2 rfl
    · cases y<;>simp[bD] at h3
      obtain ⟨rfl,rfl⟩:=h3
      exact .mz _ _ _ b x bo _ h2 (h4.trans hb) (by simpa using hl)
  | m7 id c b cap cells h hb =>
    intro v' hv
    cases v'<;>simp[aX] at hv
    obtain ⟨rfl,rfl,rfl⟩:=hv
    obtain ⟨y,h2,rfl | ⟨h3,h4⟩⟩:=ho _ _ h
    · exact .my _ _ _ _ h2 rfl
    · cases y<;>simp[bD] at h3
      exact .m7 _ _ b cap _ h2 (h4.trans hb)
  | nL id r c sz b o cap rows h hb =>
    intro v' hv
    cases v'<;>simp[aX] at hv
    obtain ⟨rfl,rfl,rfl⟩:=hv
    obtain ⟨y,h2,rfl | ⟨h3,h4⟩⟩:=ho _ _ h
    · exact .my _ _ _ _ h2 rfl
    · cases y<;>simp[bD] at h3
      obtain ⟨rfl,rfl⟩:=h3
      exact .nL _ _ _ _ b o cap _ h2 (h4.trans hb)
  | agg cs a8 hs _ ih =>
    intro v' hv
    cases v'<;>simp[aX,uW] at hv
    rename_i qb
    subst hv
    exact .agg _ a8 (by simpa using hs) (fun j x hx=>ih j (aX ρ x) (by simp[hx]) x rfl)
  | bM cs a8 hs _ ih =>
    intro v' hv
    cases v'<;>simp[aX,uW] at hv
    rename_i qb
    subst hv
    exact .bM _ a8 (by simpa using hs) (fun j x hx=>ih j (aX ρ x) (by simp[hx]) x rfl)
  | fn f cs a8 hs _ ih =>
    intro v' hv
    cases v'<;>simp[aX,uW] at hv
    obtain ⟨rfl,hv⟩:=hv
    subst hv
    exact .fn _ _ a8 (by simpa using hs) (fun j x hx=>ih j (aX ρ x) (by simp[hx]) x rfl)
  | er t v cv _ ih =>
    intro v' hv
    cases v'<;>simp[aX] at hv
    obtain ⟨rfl,hv⟩:=hv
    exact .er _ _ cv (ih _ hv)
  | fL id b ag L h hb =>
    intro v' hv
    cases v'<;>simp[aX] at hv
    subst hv
    obtain ⟨y,h2,rfl | ⟨h3,h4⟩⟩:=ho _ _ h
    · exact .qa _ _ h2 rfl
    · cases y<;>simp[bD] at h3
      obtain ⟨rfl,h3⟩:=h3
      exact .fL _ b _ _ h2 (h4.trans hb)
  | qa id cv h h1 =>
    intro v' hv
    cases v'<;>simp[aX] at hv
    subst hv
    obtain ⟨y,h2,rfl | ⟨h3,h4⟩⟩:=ho _ _ h
    · exact .qa _ _ h2 h1
    · exact .qa _ _ (by rw[h2,BQ.1 h3.symm]) h1
def NQ (P : Program) (f : FuncId) : Prop := ∃ fn, P.funcs[f]? = some fn ∧ (fn.name == "runtime.NumGoroutine") = false ∧ fn.body.isNone = false
def ao (P:Program) (f:FuncId) (args:List AV) (aa:List Ob) (res:AV) (bh:List Ob):Prop :=
  NQ P f∧∀ γ:Cx,γ.tmps.size=args.length→bj ⟨fun k=>args.getD k .undef,aa⟩ γ →
    Calls P f γ.tmps γ.w (fun e w'=>∃ cv aI,e=.returned cv∧aI.w=w'∧aI.tmps = #[cv]∧bj ⟨fun k=>[res].getD k .undef,bh⟩ aI∧Fr aa γ bh aI)
inductive cw (σ:St) (kp:Nat→Prop):AV→AV→Prop
  | lit (x:Value):cw σ kp (.lit x) (.lit x)
  | tree (s:Nat) (r:List (List AV)):cw σ kp (.tree s r) (.tree s r)
  | nil (sz:Nat):cw σ kp (.tree sz []) (.lit (.slice none 0 0))
  | ref (id sz off len:Nat) (rows gk:List (List AV)) (g:Nat→Nat→AV) (ho:σ.aa[id]?=some (.arr sz rows)) (qO:¬ kp id) (hl:gk.length=((rows.drop off).take len).length) (hw:∀ row∈gk,row.length=sz)
      (h1:∀ r c v,cellAt gk r c=some v→cellAt ((rows.drop off).take len) r c=some (g r c)) (h2:∀ r c v,cellAt gk r c=some v→cw σ kp v (g r c)):cw σ kp (.tree sz gk) (.ref id sz off len)
inductive aO (σ:St) (kp:Nat→Prop) (ρ:Nat→Nat) (snap:Bool):AV→AV→Prop
  | same (v:AV):aO σ kp ρ snap v (aX ρ v)
  | snap (c d:AV) (hs:snap=true) (h:cw σ kp c d):aO σ kp ρ snap c d
  | agg (cs ds:List AV) (hl:cs.length=ds.length) (h:∀ (j:Nat) c d,cs[j]?=some c→ds[j]?=some d→aO σ kp ρ snap c d):aO σ kp ρ snap (.agg cs) (.agg ds)
  | bM (cs ds:List AV) (hl:cs.length=ds.length) (h:∀ (j:Nat) c d,cs[j]?=some c→ds[j]?=some d→aO σ kp ρ snap c d):aO σ kp ρ snap (.bM cs) (.bM ds)
def a9 (n:Nat) (an:List Nat) (j:Nat):Nat:=if j<an.length then an.getD j 0 else n+(j - an.length)
def dQ (aa:List Ob):List Nat→List Ob→List Ob
  | i::an,o::new=>dQ (aa.set i o) an new
  | [],new=>aa++new
  | _::_,[]=>aa
theorem HB (an:List Nat):∀ (aa new:List Ob),an.length≤new.length→(dQ aa an new).length=aa.length+(new.length - an.length):=by
  induction an with
  | nil=>intro aa new _;simp[dQ]
  | cons i an ih =>
    intro aa new h
    cases new with
    | nil=>simp at h
    | cons o new=>simp only[dQ];rw[ih _ _ (by simpa using h)];simp
theorem Eu (an:List Nat):∀ (aa new:List Ob),an.length≤new.length→an.Nodup→(∀ i∈an,i<aa.length)→∀ j,j<an.length→(dQ aa an new)[an.getD j 0]?=new[j]?:=by
  induction an with
  | nil=>intro aa new _ _ _ j hj;simp at hj
  | cons i an ih =>
    intro aa new h hn hl j hj
    cases new with
    | nil=>simp at h
    | cons o new =>
      simp only[dQ]
      rw[List.nodup_cons] at hn
      have hi:=hl i (by simp)
      have h':an.length≤new.length:=by simpa using h
      cases j with
      | zero =>
        simp only[List.getD_cons_zero,uK]
        have key:∀ (an:List Nat) (aa new:List Ob),an.length≤new.length→i ∉ an→i<aa.length→(dQ aa an new)[i]?=aa[i]?:=by
          intro an
          induction an with
          | nil=>intro aa new _ _ hi;simp only[dQ];rw[dH hi]
          | cons k an Z4 =>
            intro aa new h yf hi
            cases new with
            | nil=>simp at h
            | cons o new =>
              simp only[bW,not_or] at yf
              simp only[dQ]
              rw[Z4 _ _ (by simpa using h) yf.2 (by simpa using hi),cz (Ne.symm yf.1)]
        rw[key an _ _ h' hn.1 (by simpa using hi)]
        simp[hi]
      | succ j =>
        simp only[List.getD_cons_succ,uL]
        exact ih _ _ h' hn.2 (fun k hk=>by simpa using hl k (by simp[hk])) j (by simpa using hj)
theorem Ev (an:List Nat):∀ (aa new:List Ob),an.length≤new.length→∀ i,i ∉ an→i<aa.length→(dQ aa an new)[i]?=aa[i]?:=by
  induction an with
  | nil=>intro aa new _ i _ hi;simp only[dQ];rw[dH hi]
  | cons k an ih =>
    intro aa new h i yf hi
    cases new with
    | nil=>simp at h
    | cons o new =>
      simp only[bW,not_or] at yf
      simp only[dQ]
      rw[ih _ _ (by simpa using h) i yf.2 (by simpa using hi),cz (Ne.symm yf.1)]
theorem NN (an:List Nat):∀ (aa new:List Ob),an.length≤new.length→∀ m,(dQ aa an new)[aa.length+m]?=new[an.length+m]?:=by
  induction an with
  | nil=>intro aa new _ m;simp only[dQ];rw[fA (by omega)];simp
  | cons k an ih =>
    intro aa new h m
    cases new with
    | nil=>simp at h
    | cons o new =>
      simp only[dQ]
      have:=ih (aa.set k o) new (by simpa using h) m
      simp only[List.length_set] at this
      rw[this]
      simp only[dI]
      have e:an.length+1+m=(an.length+m)+1:=by omega
      rw[e];simp
end Go.Am
namespace Go.Am
variable {P:Program}
def Ew (P:Program) (f:FuncId) (args:List AV) (σ:St) (K:AV→St→Prop):Prop :=
  ∃ (an:List Nat) (snap:Bool) (cU:List AV) (bN:List Ob) (res:AV) (cA:List Ob),ao P f cU bN res cA ∧
    (an.Nodup∧bN.length=an.length∧(∀ (j:Nat) o,bN[j]?=some o→σ.aa[an.getD j 0]?=some (bD (a9 σ.aa.length an) o)) ∧
      cU.length=args.length∧(∀ (j:Nat) c d,cU[j]?=some c→args[j]?=some d→aO σ (·∈an) (a9 σ.aa.length an) snap c d) ∧
      (snap=true→flat res=true∧∀ o∈cA,uS o)) ∧
    K (aX (a9 σ.aa.length an) res) { σ with aa:=dQ σ.aa an (cA.map (bD (a9 σ.aa.length an))) }
theorem cw.Ex {σ:St} {γ:Cx} (h:bj σ γ) {kp:Nat→Prop} {γc:Cx}
    (hz:∀ b,γ.Z b→γc.Z b) (hw:γc.w=γ.w) (HF:∀ id b o cap,¬ kp id→Live σ.aa id→γ.blk id=some (b,o,cap)→γc.Z b)
    {c d:AV} (ha:cw σ kp c d):∀ cv,aB σ.aa γ.w γ.Z γ.blk d cv→gD γc.w γc.Z c cv:=by
  induction ha with
  | lit x=>intro cv hv;rw[hv.cH];exact .lit x
  | tree s r=>intro cv hv;exact hv.yg.mono (fun b hb=>⟨hz b hb,by rw[hw]⟩)
  | nil sz=>intro cv hv;rw[hv.cH];exact .nil sz 0 none
  | ref id sz off len rows gk g cj qO hl0 wi tE tF ih =>
    intro cv hv
    obtain ⟨h0,bX,Z5⟩:=h.eN id _ cj
    have cM:Live σ.aa id:=⟨_,cj,by simp⟩
    cases hv with
    | cI _ _ h=>cases h
    | kx _ _ _ _ _ h=>rw[cj] at h;simp at h
    | l7 _ _ h' hb =>
      have:gk=[]:=qF (by simpa using hl0)
      subst this;exact gD.nil sz 0 none
    | mz _ _ _ b x bo Z6 h' hb hl =>
      have:gk=[]:=qF (by simpa using hl0)
      subst this;exact gD.nil sz 0 (some ⟨b,x,none⟩)
    | ref _ _ _ _ b o cap cap' Z6 h' hb hl hc ic =>
      rw[cj] at h';simp at h'
      subst h'
      rcases Z5 with ⟨h1,_⟩ | ⟨b',o',BR,cur,t,h1,h2,h3,h4,h5,h6⟩
      · rw[hb] at h1;simp at h1
      · rw[hb] at h1;simp at h1
        obtain ⟨rfl,rfl,rfl⟩:=h1
        have hlen:((rows.drop off).take len).length=len:=by simp;omega
        have p6:∀ r c v,cellAt ((rows.drop off).take len) r c=some v→cellAt rows (off+r) c=some v∧r<len:=by
          intro r c v hv
          simp only[cellAt,List.getElem?_take,List.getElem?_drop] at hv
          split at hv
          · exact⟨hv,by assumption⟩
          · simp at hv
        have Hm:γc.Z b:=HF id b o cap qO cM hb
        have:=gD.tree (w:=γc.w) (Z:=γc.Z) sz gk b (o+off * sz) cap' (fun r c=>cur.getD (o+((off+r) * sz+c)) Go.undef) Hm
          wi (by rw[hl0,hlen];exact ic)
          (fun r c v hv=>by
            obtain ⟨sk,hr⟩:=p6 r c _ (tE r c v hv)
            obtain ⟨tx,kv⟩:=BT bX sk
            have aT:=yh (show off+r<cap by omega) kv
            rw[hw]
            have e:o+off * sz+(r * sz+c)=o+((off+r) * sz+c):=by rw[Nat.add_mul];omega
            rw[e]
            exact zZ h2 (by omega))
          (fun r c v hv=>by
            obtain ⟨sk,_⟩:=p6 r c _ (tE r c v hv)
            exact ih r c v hv _ (h6 _ _ _ sk))
        rw[hl0,hlen] at this
        exact this
theorem aO.rel {σ:St} {γ:Cx} (h:bj σ γ) {kp:Nat→Prop} {ρ:Nat→Nat} {bN:List Ob} {snap:Bool} {γc:Cx}
    (hz:∀ b,γ.Z b→γc.Z b) (hw:γc.w=γ.w) (HF:snap=true→∀ id b o cap,¬ kp id→Live σ.aa id→γ.blk id=some (b,o,cap)→γc.Z b)
    (ho:∀ j x,σ.aa[ρ j]?=some x→∃ o,bN[j]?=some o∧(o=.gone∨(x=bD ρ o∧γc.blk j=γ.blk (ρ j))))
    {c d:AV} (ha:aO σ kp ρ snap c d):∀ cv,aB σ.aa γ.w γ.Z γ.blk d cv→aB bN γc.w γc.Z γc.blk c cv:=by
  induction ha with
  | same v =>
    intro cv hv
    rw[hw]
    exact hv.down hz ho v rfl
  | snap c d hs hf =>
    intro cv hv
    exact .cI _ _ (hf.Ex h hz hw (HF hs) cv hv)
  | agg cs ds hl _ ih =>
    intro cv hv
    obtain ⟨a8,rfl,h1,h2⟩:=hv.NR
    refine .agg cs a8 (by omega) (fun j x hx=>?_)
    have hj:j<ds.length:=by have:=(aY.1 hx).1;omega
    exact ih j x ds[j] hx (by simp[hj]) _ (h2 j _ (by simp[hj]))
  | bM cs ds hl _ ih =>
    intro cv hv
    obtain ⟨a8,rfl,h1,h2⟩:=hv.NT
    refine .bM cs a8 (by omega) (fun j x hx=>?_)
    have hj:j<ds.length:=by have:=(aY.1 hx).1;omega
    exact ih j x ds[j] hx (by simp[hj]) _ (h2 j _ (by simp[hj]))
theorem NU {n:Nat} {an:List Nat} (_hs:∀ i∈an,i<n) {j:Nat} (h:a9 n an j<n):j<an.length∧a9 n an j=an.getD j 0:=by
  unfold a9 at h ⊢
  split
  · exact⟨by assumption,rfl⟩
  · rename_i hj
    rw[if_neg hj] at h
    omega
theorem az {an:List Nat} {j:Nat} (h:j<an.length):an.getD j 0∈an:=by
  rw[ay];simp[h]
theorem NV {an:List Nat} (hn:an.Nodup) {i j:Nat} (hi:i<an.length) (hj:j<an.length) (h:an.getD i 0=an.getD j 0):i=j:=by
  rw[ay,ay] at h
  simp[hi,hj] at h
  exact (List.getElem_inj hn).1 h
theorem Ey {an:List Nat} {i:Nat} (h:i∈an) :∃j,j<an.length∧an.getD j 0=i:=by
  obtain ⟨j,hj⟩:=List.mem_iff_getElem?.1 h
  have:=(aY.1 hj).1
  exact⟨j,this,by rw[ay,hj];rfl⟩
def il (P:Program) (f:FuncId) (args:List AV) (aa:List Ob) (iC:AV→List Ob→Prop):Prop :=
  NQ P f∧∀ γ:Cx,γ.tmps.size=args.length→bj ⟨fun k=>args.getD k .undef,aa⟩ γ →
    Calls P f γ.tmps γ.w (fun e w'=>∃ res bh cv aI,iC res bh∧e=.returned cv∧aI.w=w'∧aI.tmps = #[cv]∧bj ⟨fun k=>[res].getD k .undef,bh⟩ aI∧Fr aa γ bh aI)
def HG (P:Program) (f:FuncId) (args:List AV) (σ:St) (K:AV→St→Prop):Prop :=
  ∃ (an:List Nat) (snap:Bool) (cU:List AV) (bN:List Ob) (iC:AV→List Ob→Prop),il P f cU bN iC ∧
    (an.Nodup∧bN.length=an.length∧(∀ (j:Nat) o,bN[j]?=some o→σ.aa[an.getD j 0]?=some (bD (a9 σ.aa.length an) o)) ∧
      cU.length=args.length∧(∀ (j:Nat) c d,cU[j]?=some c→args[j]?=some d→aO σ (·∈an) (a9 σ.aa.length an) snap c d)) ∧
    ∀ res cA,iC res cA→(snap=true→flat res=true∧∀ o∈cA,uS o) ∧
      K (aX (a9 σ.aa.length an) res) { σ with aa:=dQ σ.aa an (cA.map (bD (a9 σ.aa.length an))) }
theorem NW {σ:St} {γ:Cx} (h:bj σ γ) {f:FuncId} {args:List AV} {argv:Array Value} (a5:argv.size=args.length) (HH:∀ (j:Nat) d,args[j]?=some d→aB σ.aa γ.w γ.Z γ.blk d (argv.getD j Go.undef))
    {K:AV→St→Prop} (hc:HG P f args σ K) :
    Calls P f argv γ.w (fun e w'=>∃ cv v σ' aI,e=.returned cv∧aI.w=w'∧aI.tmps=γ.tmps∧bj σ' aI∧Fr σ.aa γ σ'.aa aI∧aB σ'.aa aI.w aI.Z aI.blk v cv∧K v σ'∧σ'.env=σ.env):=by
  obtain ⟨an,snap,cU,bN,iC,hH,⟨bC,bL,nM,sm,m4⟩,Z7⟩:=hc
  have l8:∀ i∈an,i<σ.aa.length:=by
    intro i hi
    obtain ⟨j,hj,rfl⟩:=Ey hi
    have:j<bN.length:=by omega
    exact (aY.1 (nM j bN[j] (by simp[this]))).1
  let ρ:=a9 σ.aa.length an
  let S:Nat→Prop:=fun b=>snap=true∧∃ id o cap,id ∉ an∧Live σ.aa id∧γ.blk id=some (b,o,cap)
  let γc:Cx:={ w:=γ.w,tmps:=argv,Z:=fun b=>γ.Z b∨S b,blk:=fun j=>if j<an.length then γ.blk (an.getD j 0) else none }
  have uZ:∀ j x,σ.aa[ρ j]?=some x→∃ o,bN[j]?=some o∧(o=.gone∨(x=bD ρ o∧γc.blk j=γ.blk (ρ j))):=by
    intro j x hx
    obtain ⟨hj,hr⟩:=NU l8 (aY.1 hx).1
    have ky:j<bN.length:=by omega
    have:=nM j bN[j] (by simp[ky])
    refine⟨bN[j],by simp[ky],.inr ⟨?_,?_⟩⟩
    · have cP:σ.aa[a9 σ.aa.length an j]?=some x:=hx
      rw[hr,this] at cP
      simpa using cP.symm
    · show (if j<an.length then γ.blk (an.getD j 0) else none)=γ.blk (a9 σ.aa.length an j)
      rw[if_pos hj,hr]
  have im:∀ b,γ.Z b→γc.Z b:=fun b hb=>.inl hb
  have tH:∀ j,Live bN j→Live σ.aa (an.getD j 0)∧j<an.length:=by
    rintro j ⟨o,ho,hg⟩
    have hj:=(aY.1 ho).1
    exact⟨⟨_,nM j o ho,fun e=>hg (BQ.1 e)⟩,by omega⟩
  have u1:=fun {i b o c}=>h.blt (i:=i) (b:=b) (o:=o) (c:=c)
  have HI:bj ⟨fun k=>cU.getD k .undef,bN⟩ γc:=by
    refine⟨fun k=>?_,?_,?_,?_,?_⟩
    · rcases dG k cU.length with hk | hk
      · have e:cU.getD k .undef=cU[k]:=by simp[hk]
        show aB bN γc.w γc.Z γc.blk (cU.getD k .undef) _
        rw[e]
        have m8:k<args.length:=by omega
        exact (m4 k cU[k] args[k] (by simp[hk]) (by simp[m8])).rel h im rfl (fun hs id b o cap cT hl hb=>.inr ⟨hs,id,o,cap,cT,hl,hb⟩) uZ _ (HH k _ (by simp[m8]))
      · have e:cU.getD k .undef=.undef:=by simp[hk]
        show aB bN γc.w γc.Z γc.blk (cU.getD k .undef) _
        rw[e]
        exact .undef _
    · intro j o ho
      have hj:=(aY.1 ho).1
      have BU:j<an.length:=by rw[← bL];exact hj
      have cj:=h.eN _ _ (nM j o ho)
      have hb:γc.blk j=γ.blk (an.getD j 0):=by show (if j<an.length then _ else _)=_;rw[if_pos BU]
      cases o with
      | gone=>trivial
      | var cells =>
        obtain ⟨b,cap,cur,t,h1,h2,h3,h4⟩:=cj
        exact⟨b,cap,cur,t,hb.trans h1,h2,by simpa using h3,fun c v hv=>(h4 c (aX ρ v) (by simp[hv];rfl)).down im uZ v rfl⟩
      | mp ag L =>
        obtain ⟨b,f,h1,h2,h3,h4⟩:=cj
        refine⟨b,f,hb.trans h1,?_,fun p hp=>h3 (p.1,aX ρ p.2) (D0 (f:=fun p:List Int × AV=>(p.1,aX ρ p.2)) hp),fun j p hp=>(h4 j (p.1,aX ρ p.2) (by simp only[bR,hp];rfl)).down im uZ p.2 rfl⟩
        rw[HJ,eD] at h2;exact h2
      | arr sz rows =>
        obtain ⟨h0,hr,cj⟩:=cj
        refine⟨h0,fun row a6=>by simpa using hr (row.map (aX ρ)) (D0 a6),?_⟩
        rcases cj with ⟨h1,h2⟩ | ⟨b,o,cap,cur,t,h1,h2,h3,h4,h5,h6⟩
        · exact .inl ⟨hb.trans h1,by simpa using h2⟩
        · refine .inr ⟨b,o,cap,cur,t,hb.trans h1,h2,h3,by simpa using h4,h5,fun r c v hv=>(h6 r c (aX ρ v) ?_).down im uZ v rfl⟩
          simp only[cellAt,bR] at hv ⊢
          cases gH:rows[r]? with
          | none=>simp[gH] at hv
          | some row=>simp[gH] at hv ⊢;exact⟨v,hv,rfl⟩
    · intro i j b o c o' c' hi hj fX gA
      obtain ⟨h1,h2⟩:=tH i hi
      obtain ⟨h3,h4⟩:=tH j hj
      have e1:γc.blk i=γ.blk (an.getD i 0):=by show (if i<an.length then _ else _)=_;rw[if_pos h2]
      have e2:γc.blk j=γ.blk (an.getD j 0):=by show (if j<an.length then _ else _)=_;rw[if_pos h4]
      exact NV bC h2 h4 (h.inj _ _ b o c o' c' h1 h3 (e1 ▸ fX) (e2 ▸ gA))
    · rintro b ⟨i,o,c,hi,hb⟩ hz
      obtain ⟨h1,h2⟩:=tH i hi
      have e1:γc.blk i=γ.blk (an.getD i 0):=by show (if i<an.length then _ else _)=_;rw[if_pos h2]
      rw[e1] at hb
      rcases hz with hz | ⟨_,id,o',cap',cT,hl,da⟩
      · exact h.nz b ⟨_,o,c,h1,hb⟩ hz
      · have:=h.inj _ _ b o c o' cap' h1 hl hb da
        exact cT (this ▸ az h2)
    · rintro b (hb | ⟨_,id,o,cap,_,hl,hb⟩)
      · exact h.iq b hb
      · exact u1 hl hb
  have fe:=hH.2 γc (by show argv.size=_;omega) HI
  refine fe.mono ?_
  rintro e w' ⟨res,cA,cv,aI,HK,rfl,rfl,uP,jV,gl⟩
  obtain ⟨NX,hK⟩:=Z7 res cA HK
  have Z8:an.length≤cA.length:=by have:=gl.len;omega
  let new:=cA.map (bD ρ)
  have ak:an.length≤new.length:=by simpa [new] using Z8
  let oC:=dQ σ.aa an new
  let iM:Cx:={ w:=aI.w,tmps:=γ.tmps,Z:=fun b=>aI.Z b∧¬ S b,blk:=fun i=>if i<σ.aa.length then γ.blk i else aI.blk (an.length+(i - σ.aa.length)) }
  have BV:∀ j o,cA[j]?=some o→oC[ρ j]?=some (bD ρ o)∧(o≠.gone→iM.blk (ρ j)=aI.blk j):=by
    intro j o ho
    by_cases hj:j<an.length
    · have e:ρ j=an.getD j 0:=by show a9 _ _ _=_;simp only[a9];rw[if_pos hj]
      have cd:=l8 _ (az hj)
      refine⟨?_,fun hg=>?_⟩
      · rw[e]
        show (dQ σ.aa an new)[an.getD j 0]?=_
        rw[Eu an σ.aa new ak bC l8 j hj]
        simp[new,ho]
      · rw[e]
        show (if an.getD j 0<σ.aa.length then _ else _)=_
        rw[if_pos cd]
        have:=(gl.kz j (by omega) ⟨o,ho,hg⟩).1
        rw[this]
        show _=if j<an.length then _ else _
        rw[if_pos hj]
    · have e:ρ j=σ.aa.length+(j - an.length):=by show a9 _ _ _=_;simp only[a9];rw[if_neg hj]
      have e2:an.length+(j - an.length)=j:=by omega
      refine⟨?_,fun hg=>?_⟩
      · rw[e]
        show (dQ σ.aa an new)[_]?=_
        rw[NN an σ.aa new ak,e2]
        simp[new,ho]
      · rw[e]
        show (if σ.aa.length+(j - an.length)<σ.aa.length then _ else aI.blk (an.length+(σ.aa.length+(j - an.length) - σ.aa.length)))=_
        rw[if_neg (by omega)]
        congr 1;omega
  have NY:∀ b,S b→¬ γ.Z b:=by
    rintro b ⟨_,id,o,cap,_,hl,hb⟩
    exact h.nz b ⟨id,o,cap,hl,hb⟩
  have z3:∀ b,oD bN γc.blk b→∃ i∈an,∃ o cap,Live σ.aa i∧γ.blk i=some (b,o,cap):=by
    rintro b ⟨j,o,c,hl,hb⟩
    obtain ⟨h1,h2⟩:=tH j hl
    have e1:γc.blk j=γ.blk (an.getD j 0):=by show (if j<an.length then _ else _)=_;rw[if_pos h2]
    exact⟨_,az h2,o,c,h1,e1 ▸ hb⟩
  have Z9:∀ i,i ∉ an→Live σ.aa i→∀ b o c,γ.blk i=some (b,o,c)→aI.w.heap[b]?=γ.w.heap[b]?:=by
    intro i hi hl b o c hb
    refine gl.fV b (u1 hl hb) (fun ho=>?_)
    obtain ⟨i',ax,o',c',kY,da⟩:=z3 b ho
    have:=h.inj _ _ b o c o' c' hl kY hb da
    exact hi (this ▸ ax)
  have NZ:∀ v cv,aB σ.aa γ.w γ.Z γ.blk v cv→aB oC iM.w iM.Z iM.blk v cv:=by
    intro v cv hv
    refine hv.mono (fun b hb=>⟨⟨gl.z0 b (im b hb),fun hs=>NY b hs hb⟩,?_⟩) (fun i o ho=>?_)
    · refine gl.fV b (h.iq b hb) (fun ho=>?_)
      obtain ⟨i',_,o',c',kY,da⟩:=z3 b ho
      exact h.nz b ⟨i',o',c',kY,da⟩ hb
    · have hi:=(aY.1 ho).1
      have fN:iM.blk i=γ.blk i:=by show (if i<σ.aa.length then _ else _)=_;rw[if_pos hi]
      by_cases m9:i∈an
      · obtain ⟨j,hj,rfl⟩:=Ey m9
        have ky:j<cA.length:=by omega
        have yi:oC[an.getD j 0]?=some (bD ρ cA[j]):=by
          show (dQ σ.aa an new)[an.getD j 0]?=_
          rw[Eu an σ.aa new ak bC l8 j hj]
          simp[new,ky]
        by_cases hg:cA[j]=.gone
        · left;rw[yi,hg];rfl
        · right
          refine⟨fN,_,yi,?_⟩
          obtain ⟨_,x,x',hx,cP,kA⟩:=gl.kz j (by omega) ⟨cA[j],by simp[ky],hg⟩
          have e1:cA[j]=x':=by simpa [ky] using cP
          have e2:=nM j x hx
          rw[ho] at e2
          simp at e2
          rw[e1,e2]
          exact Ob.Z3 kA
      · have yi:oC[i]?=some o:=by
          show (dQ σ.aa an new)[i]?=_
          rw[Ev an σ.aa new ak i m9 hi];exact ho
        by_cases hg:o=.gone
        · subst hg;exact .inl yi
        · exact .inr ⟨fN,o,yi,Ob.jY hg⟩
  have Ez:∀ v cv,aB cA aI.w aI.Z aI.blk v cv→(snap=true→flat v=true)→aB oC iM.w iM.Z iM.blk (aX ρ v) cv:=by
    intro v cv hv gB
    by_cases nf:snap=true
    · exact (hv.Z2 (Z':=iM.Z) (gB nf)).up (fun b hb=>hb) BV
    · exact hv.up (fun b hb=>⟨hb,fun hs=>nf hs.1⟩) BV
  have kZ:∀ i,Live oC i→(i<σ.aa.length∧i ∉ an∧Live σ.aa i∧iM.blk i=γ.blk i)∨∃ j,Live cA j∧i=ρ j∧iM.blk i=aI.blk j:=by
    rintro i ⟨o,ho,hg⟩
    have hlen:=(aY.1 ho).1
    have uX:oC.length=σ.aa.length+(new.length - an.length):=HB an σ.aa new ak
    have EA:new.length=cA.length:=by simp[new]
    rcases dG i σ.aa.length with hi | hi
    · by_cases m9:i∈an
      · right
        obtain ⟨j,hj,rfl⟩:=Ey m9
        have ky:j<cA.length:=by omega
        have e:ρ j=an.getD j 0:=by show a9 _ _ _=_;simp only[a9];rw[if_pos hj]
        have hx:=BV j cA[j] (by simp[ky])
        rw[e] at hx
        rw[ho] at hx
        simp only[dw.injEq] at hx
        have qS:cA[j]≠.gone:=by intro h0;apply hg;rw[hx.1,h0];rfl
        exact⟨j,⟨_,by simp[ky],qS⟩,e.symm,hx.2 qS⟩
      · left
        have:oC[i]?=σ.aa[i]?:=Ev an σ.aa new ak i m9 hi
        rw[this] at ho
        exact⟨hi,m9,⟨o,ho,hg⟩,by show (if i<σ.aa.length then _ else _)=_;rw[if_pos hi]⟩
    · right
      have ky:an.length+(i - σ.aa.length)<cA.length:=by omega
      have e:ρ (an.length+(i - σ.aa.length))=i:=by
        show a9 _ _ _=_
        simp only[a9]
        rw[if_neg (by omega)];omega
      have hx:=BV _ _ (show cA[an.length+(i - σ.aa.length)]?=some cA[an.length+(i - σ.aa.length)] by simp[ky])
      rw[e] at hx
      rw[ho] at hx
      simp only[dw.injEq] at hx
      have qS:cA[an.length+(i - σ.aa.length)]≠.gone:=by intro h0;apply hg;rw[hx.1,h0];rfl
      exact⟨_,⟨_,by simp[ky],qS⟩,e.symm,hx.2 qS⟩
  have HL:∀ j b o c,Live cA j→aI.blk j=some (b,o,c)→(∃ i∈an,∃ o cap,Live σ.aa i∧γ.blk i=some (b,o,cap))∨γ.w.heap.size≤b:=by
    intro j b o c hl hb
    rcases gl.own b ⟨j,o,c,hl,hb⟩ with h1 | h1
    · exact .inl (z3 b h1)
    · exact .inr h1
  have aaa:bj ⟨σ.env,oC⟩ iM:=by
    refine⟨fun k=>NZ _ _ (h.aw k),?_,?_,?_,?_⟩
    · intro i o ho
      by_cases bE:o=.gone
      · subst bE;trivial
      rcases kZ i ⟨o,ho,bE⟩ with ⟨hi,m9,hl,fN⟩ | ⟨j,⟨x,hx,dD⟩,rfl,fN⟩
      · have he:oC[i]?=σ.aa[i]?:=Ev an σ.aa new ak i m9 hi
        have cp:σ.aa[i]?=some o:=by rw[← he];exact ho
        exact (h.eN i o cp).mono NZ fN (fun b o c hb=>Z9 i m9 hl b o c hb)
      · have z4:=(BV j x hx).1
        have e:o=bD ρ x:=by
          have:oC[ρ j]?=some o:=ho
          rw[z4] at this;simpa using this.symm
        subst e
        have cj:=jV.eN j x hx
        have gB:snap=true→uS x:=fun hs=>(NX hs).2 x (iy hx)
        cases x with
        | gone=>trivial
        | var cells =>
          obtain ⟨b,cap,cur,t,h1,h2,h3,h4⟩:=cj
          refine⟨b,cap,cur,t,fN.trans h1,h2,by simpa using h3,fun c v hv=>?_⟩
          simp only[bR,zG] at hv
          obtain ⟨y,hy,rfl⟩:=hv
          exact Ez _ _ (h4 c y hy) (fun hs=>gB hs y (iy hy))
        | mp ag L =>
          obtain ⟨b,f,h1,h2,h3,h4⟩:=cj
          refine⟨b,f,fN.trans h1,?_,fun p hp=>?_,fun j p hp=>?_⟩
          · rw[HJ,eD];exact h2
          · obtain ⟨y,hy,rfl⟩:=bV.1 hp
            exact h3 y hy
          · simp only[bR,zG] at hp
            obtain ⟨y,hy,rfl⟩:=hp
            exact Ez _ _ (h4 j y hy) (fun hs=>gB hs y (iy hy))
        | arr sz rows =>
          obtain ⟨h0,hr,cj⟩:=cj
          refine⟨h0,?_,?_⟩
          · intro row a6
            simp only[bV] at a6
            obtain ⟨y,hy,rfl⟩:=a6
            simpa using hr y hy
          · rcases cj with ⟨h1,h2⟩ | ⟨b,o,cap,cur,t,h1,h2,h3,h4,h5,h6⟩
            · exact .inl ⟨fN.trans h1,by simpa using h2⟩
            · refine .inr ⟨b,o,cap,cur,t,fN.trans h1,h2,h3,by simpa using h4,h5,fun r c v hv=>?_⟩
              simp only[cellAt,bR] at hv
              cases gH:rows[r]? with
              | none=>simp[gH] at hv
              | some row =>
                simp only[gH,eC,Option.bind_some,bR,zG] at hv
                obtain ⟨y,hy,rfl⟩:=hv
                exact Ez _ _ (h6 r c y (by simp[cellAt,gH,hy])) (fun hs=>gB hs row (iy gH) y (iy hy))
    · intro i j b o c o' c' hi hj fX gA
      rcases kZ i hi with ⟨jm,m9,sq,fN⟩ | ⟨ji,wu,rfl,fN⟩<;>rcases kZ j hj with ⟨jH,BU,qT,BW⟩ | ⟨jj,N0,rfl,BW⟩
      · exact h.inj i j b o c o' c' sq qT (fN ▸ fX) (BW ▸ gA)
      · rw[fN] at fX
        rw[BW] at gA
        rcases HL jj b o' c' N0 gA with ⟨i',ax,o1,c1,kY,da⟩ | l9
        · exact absurd (h.inj i i' b o c o1 c1 sq kY fX da) (fun e=>m9 (e ▸ ax))
        · have:=u1 sq fX;omega
      · rw[fN] at fX
        rw[BW] at gA
        rcases HL ji b o c wu fX with ⟨i',ax,o1,c1,kY,da⟩ | l9
        · exact absurd (h.inj j i' b o' c' o1 c1 qT kY gA da) (fun e=>BU (e ▸ ax))
        · have:=u1 qT gA;omega
      · rw[fN] at fX
        rw[BW] at gA
        rw[jV.inj ji jj b o c o' c' wu N0 fX gA]
    · rintro b ⟨i,o,c,hi,hb⟩ ⟨hz,wv⟩
      rcases kZ i hi with ⟨jm,m9,sq,fN⟩ | ⟨ji,wu,rfl,fN⟩
      · rw[fN] at hb
        rcases gl.z1 b hz with (h1 | h1) | h1 | h1
        · exact h.nz b ⟨i,o,c,sq,hb⟩ h1
        · exact wv h1
        · obtain ⟨i',ax,o1,c1,kY,da⟩:=z3 b h1
          exact m9 ((h.inj i i' b o c o1 c1 sq kY hb da) ▸ ax)
        · have:=u1 sq hb
          have HM:γ.w.heap.size≤b:=h1
          omega
      · rw[fN] at hb
        exact jV.nz b ⟨ji,o,c,wu,hb⟩ hz
    · rintro b ⟨hz,_⟩
      exact jV.iq b hz
  refine⟨cv,aX ρ res,⟨σ.env,oC⟩,iM,rfl,rfl,rfl,aaa,?_,?_,hK,rfl⟩
  · refine⟨gl.m5,gl.tape,gl.output,gl.size,?_,?_,?_,?_,?_,?_⟩
    · intro b hb k7
      refine gl.fV b hb (fun ho=>k7 ?_)
      obtain ⟨i',_,o1,c1,kY,da⟩:=z3 b ho
      exact⟨i',o1,c1,kY,da⟩
    · intro b hb
      exact⟨gl.z0 b (im b hb),fun hs=>NY b hs hb⟩
    · rintro b ⟨hz,wv⟩
      rcases gl.z1 b hz with (h1 | h1) | h1 | h1
      · exact .inl h1
      · exact absurd h1 wv
      · obtain ⟨i',_,o1,c1,kY,da⟩:=z3 b h1
        exact .inr (.inl ⟨i',o1,c1,kY,da⟩)
      · exact .inr (.inr h1)
    · rintro b ⟨i,o,c,hi,hb⟩
      rcases kZ i hi with ⟨jm,m9,sq,fN⟩ | ⟨ji,wu,rfl,fN⟩
      · rw[fN] at hb;exact .inl ⟨i,o,c,sq,hb⟩
      · rw[fN] at hb
        rcases HL ji b o c wu hb with ⟨i',_,o1,c1,kY,da⟩ | l9
        · exact .inl ⟨i',o1,c1,kY,da⟩
        · exact .inr l9
    · show σ.aa.length≤(dQ σ.aa an new).length
      rw[HB an σ.aa new ak];omega
    · rintro i hi ⟨o,ho,hg⟩
      refine⟨by show (if i<σ.aa.length then _ else _)=_;rw[if_pos hi],?_⟩
      by_cases m9:i∈an
      · obtain ⟨j,hj,rfl⟩:=Ey m9
        have ky:j<cA.length:=by omega
        have yi:oC[an.getD j 0]?=some (bD ρ cA[j]):=by
          show (dQ σ.aa an new)[an.getD j 0]?=_
          rw[Eu an σ.aa new ak bC l8 j hj]
          simp[new,ky]
        have fh:oC[an.getD j 0]?=some o:=ho
        rw[yi] at fh
        simp only[dw.injEq] at fh
        have qS:cA[j]≠.gone:=by intro h0;apply hg;rw[← fh,h0];rfl
        obtain ⟨_,x,x',hx,cP,kA⟩:=gl.kz j (by omega) ⟨cA[j],by simp[ky],qS⟩
        have e1:cA[j]=x':=by simpa [ky] using cP
        refine⟨bD ρ x,o,nM j x hx,ho,?_⟩
        rw[← fh,e1]
        cases x<;>cases x'<;>simp_all [Ob.dU,bD]
      · have he:oC[i]?=σ.aa[i]?:=Ev an σ.aa new ak i m9 hi
        have cp:σ.aa[i]?=some o:=by rw[← he];exact ho
        exact⟨o,o,cp,ho,Ob.jY hg⟩
  · have:=jV.aw 0
    rw[uP] at this
    exact Ez res cv (by simpa using this) (fun hs=>(NX hs).1)
theorem ao.r {f:FuncId} {args:List AV} {aa:List Ob} {res:AV} {bh:List Ob} (h:ao P f args aa res bh):il P f args aa (fun r os=>r=res∧os=bh) :=
  ⟨h.1,fun γ a5 hs=>(h.2 γ a5 hs).mono fun _ _ ⟨cv,aI,h1,h2,h3,h4,h5⟩=>⟨res,bh,cv,aI,⟨rfl,rfl⟩,h1,h2,h3,h4,h5⟩⟩
theorem Ew.r {f:FuncId} {args:List AV} {σ:St} {K:AV→St→Prop} (h:Ew P f args σ K):HG P f args σ K:=by
  obtain ⟨an,snap,cU,bN,res,cA,h1,⟨h2,h3,h4,h5,h6,h7⟩,h8⟩:=h
  exact⟨an,snap,cU,bN,_,h1.r,⟨h2,h3,h4,h5,h6⟩,fun r os ⟨e1,e2⟩=>by subst e1;subst e2;exact⟨h7,h8⟩⟩
theorem N1 {σ:St} {γ:Cx} (h:bj σ γ) {f:FuncId} {args:List AV} {argv:Array Value} (a5:argv.size=args.length) (HH:∀ (j:Nat) d,args[j]?=some d→aB σ.aa γ.w γ.Z γ.blk d (argv.getD j Go.undef))
    {K:AV→St→Prop} (hc:Ew P f args σ K) :
    Calls P f argv γ.w (fun e w'=>∃ cv v σ' aI,e=.returned cv∧aI.w=w'∧aI.tmps=γ.tmps∧bj σ' aI∧Fr σ.aa γ σ'.aa aI∧aB σ'.aa aI.w aI.Z aI.blk v cv∧K v σ'∧σ'.env=σ.env) :=
  NW h a5 HH hc.r
end Go.Am
namespace Go.Am
variable {P:Program}
theorem bj.select {σ:St} {γ:Cx} (h:bj σ γ) (an:List Nat) (snap:Bool) (bN:List Ob) (bC:an.Nodup) (bL:bN.length=an.length)
    (nM:∀ (j:Nat) o,bN[j]?=some o→o=.gone∨σ.aa[an.getD j 0]?=some (bD (a9 σ.aa.length an) o)) (l8:∀ i∈an,i<σ.aa.length)
    (e:Nat→AV) (tm:Array Value)
    (he:∀ k,e k=.undef∨∃ d,aO σ (fun id=>∃ j,j<an.length∧an.getD j 0=id∧bN[j]?≠some .gone) (a9 σ.aa.length an) snap (e k) d∧aB σ.aa γ.w γ.Z γ.blk d (tm.getD k Go.undef)) :
    ∃ aI,aI.w=γ.w∧aI.tmps=tm∧bj ⟨e,bN⟩ aI∧((∀ i,i<bN.length→aI.blk i=γ.blk (an.getD i 0))∧(∀ b,γ.Z b→aI.Z b)∧(∀ b,aI.Z b→γ.Z b∨oD σ.aa γ.blk b) ∧
      ∀ i,Live bN i→Live σ.aa (an.getD i 0)∧∃ o,bN[i]?=some o∧σ.aa[an.getD i 0]?=some (bD (a9 σ.aa.length an) o)):=by
  let ρ:=a9 σ.aa.length an
  let kp:Nat→Prop:=fun id=>∃ j,j<an.length∧an.getD j 0=id∧bN[j]?≠some .gone
  let S:Nat→Prop:=fun b=>snap=true∧∃ id o cap,¬ kp id∧Live σ.aa id∧γ.blk id=some (b,o,cap)
  let γc:Cx:={ w:=γ.w,tmps:=tm,Z:=fun b=>γ.Z b∨S b,blk:=fun j=>if j<an.length then γ.blk (an.getD j 0) else none }
  have uZ:∀ j x,σ.aa[ρ j]?=some x→∃ o,bN[j]?=some o∧(o=.gone∨(x=bD ρ o∧γc.blk j=γ.blk (ρ j))):=by
    intro j x hx
    obtain ⟨hj,hr⟩:=NU l8 (aY.1 hx).1
    have ky:j<bN.length:=by omega
    refine⟨bN[j],by simp[ky],?_⟩
    rcases nM j bN[j] (by simp[ky]) with hg | this
    · exact .inl hg
    · right
      refine⟨?_,?_⟩
      · have cP:σ.aa[a9 σ.aa.length an j]?=some x:=hx
        rw[hr,this] at cP
        simpa using cP.symm
      · show (if j<an.length then γ.blk (an.getD j 0) else none)=γ.blk (a9 σ.aa.length an j)
        rw[if_pos hj,hr]
  have im:∀ b,γ.Z b→γc.Z b:=fun b hb=>.inl hb
  have tH:∀ j,Live bN j→Live σ.aa (an.getD j 0)∧j<an.length∧kp (an.getD j 0)∧∃ o,bN[j]?=some o∧σ.aa[an.getD j 0]?=some (bD ρ o):=by
    rintro j ⟨o,ho,hg⟩
    have hj:=(aY.1 ho).1
    rcases nM j o ho with h' | h'
    · exact absurd h' hg
    · exact⟨⟨_,h',fun e=>hg (BQ.1 e)⟩,by omega,⟨j,by omega,rfl,by rw[ho];simpa using hg⟩,o,ho,h'⟩
  have qc:∀ j,j<an.length→γc.blk j=γ.blk (an.getD j 0):=fun j hj=>by show (if j<an.length then _ else _)=_;rw[if_pos hj]
  have HI:bj ⟨e,bN⟩ γc:=by
    refine⟨fun k=>?_,?_,?_,?_,?_⟩
    · rcases he k with h0 | ⟨d,hd,hr⟩
      · show aB bN γc.w γc.Z γc.blk (e k) _
        rw[h0];exact .undef _
      · exact hd.rel h im rfl (fun hs id b o cap cT hl hb=>.inr ⟨hs,id,o,cap,cT,hl,hb⟩) uZ _ hr
    · intro j o ho
      by_cases bE:o=.gone
      · subst bE;trivial
      obtain ⟨_,BU,_,o',cp,aab⟩:=tH j ⟨o,ho,bE⟩
      have:o=o':=by
        have h1:bN[j]?=some o:=ho
        rw[cp] at h1;simpa using h1.symm
      subst this
      have cj:=h.eN _ _ aab
      have hb:=qc j BU
      cases o with
      | gone=>trivial
      | var cells =>
        obtain ⟨b,cap,cur,t,h1,h2,h3,h4⟩:=cj
        exact⟨b,cap,cur,t,hb.trans h1,h2,by simpa using h3,fun c v hv=>(h4 c (aX ρ v) (by simp only[bR,hv];rfl)).down im uZ v rfl⟩
      | mp ag L =>
        obtain ⟨b,f,h1,h2,h3,h4⟩:=cj
        refine⟨b,f,hb.trans h1,?_,fun p hp=>h3 (p.1,aX ρ p.2) (D0 (f:=fun p:List Int × AV=>(p.1,aX ρ p.2)) hp),fun j p hp=>(h4 j (p.1,aX ρ p.2) (by simp only[bR,hp];rfl)).down im uZ p.2 rfl⟩
        rw[HJ,eD] at h2;exact h2
      | arr sz rows =>
        obtain ⟨h0,hr,cj⟩:=cj
        refine⟨h0,fun row a6=>by simpa using hr (row.map (aX ρ)) (D0 a6),?_⟩
        rcases cj with ⟨h1,h2⟩ | ⟨b,o,cap,cur,t,h1,h2,h3,h4,h5,h6⟩
        · exact .inl ⟨hb.trans h1,by simpa using h2⟩
        · refine .inr ⟨b,o,cap,cur,t,hb.trans h1,h2,h3,by simpa using h4,h5,fun r c v hv=>(h6 r c (aX ρ v) ?_).down im uZ v rfl⟩
          simp only[cellAt,bR] at hv ⊢
          cases gH:rows[r]? with
          | none=>simp[gH] at hv
          | some row=>simp[gH] at hv ⊢;exact⟨v,hv,rfl⟩
    · intro i j b o c o' c' hi hj fX gA
      obtain ⟨h1,h2,_⟩:=tH i hi
      obtain ⟨h3,h4,_⟩:=tH j hj
      exact NV bC h2 h4 (h.inj _ _ b o c o' c' h1 h3 (qc i h2 ▸ fX) (qc j h4 ▸ gA))
    · rintro b ⟨i,o,c,hi,hb⟩ hz
      obtain ⟨h1,h2,h3,_⟩:=tH i hi
      rw[qc i h2] at hb
      rcases hz with hz | ⟨_,id,o',cap',cT,hl,da⟩
      · exact h.nz b ⟨_,o,c,h1,hb⟩ hz
      · have:=h.inj _ _ b o c o' cap' h1 hl hb da
        exact cT (this ▸ h3)
    · rintro b (hb | ⟨_,id,o,cap,_,hl,hb⟩)
      · exact h.iq b hb
      · exact h.blt hl hb
  refine⟨γc,rfl,rfl,HI,fun i hi=>qc i (by omega),im,?_,?_⟩
  · rintro b (hb | ⟨_,id,o,cap,_,hl,hb⟩)
    · exact .inl hb
    · exact .inr ⟨id,o,cap,hl,hb⟩
  · intro i hi
    obtain ⟨h1,h2,_,h4⟩:=tH i hi
    exact⟨h1,h4⟩
theorem Ob.aac {ρ:Nat→Nat} {x o:Ob} (h:x.dU (bD ρ o)):x.dU o:=by
  cases x<;>cases o<;>simp[Ob.dU,bD] at h ⊢<;>exact h
theorem Fr.select {os:List Ob} {γ0 γ aI:Cx} {σ:St} (hf:Fr os γ0 σ.aa γ) {an:List Nat} {bN:List Ob} (hn:os.length≤an.length) (bL:bN.length=an.length)
    (cT:∀ i,i<os.length→an.getD i 0=i) (hw:aI.w=γ.w)
    (h:(∀ i,i<bN.length→aI.blk i=γ.blk (an.getD i 0))∧(∀ b,γ.Z b→aI.Z b)∧(∀ b,aI.Z b→γ.Z b∨oD σ.aa γ.blk b) ∧
      ∀ i,Live bN i→Live σ.aa (an.getD i 0)∧∃ o,bN[i]?=some o∧σ.aa[an.getD i 0]?=some (bD (a9 σ.aa.length an) o)):Fr os γ0 bN aI:=by
  obtain ⟨h1,h2,h3,h4⟩:=h
  refine⟨by rw[hw];exact hf.m5,by rw[hw];exact hf.tape,by rw[hw];exact hf.output,by rw[hw];exact hf.size,by rw[hw];exact hf.fV,fun b hb=>h2 b (hf.z0 b hb),?_,?_,by omega,?_⟩
  · intro b hb
    rcases h3 b hb with h | h
    · exact hf.z1 b h
    · rcases hf.own b h with h | h
      · exact .inr (.inl h)
      · exact .inr (.inr h)
  · rintro b ⟨i,o,c,hi,hb⟩
    have aT:=hi.lt
    rw[h1 i aT] at hb
    exact hf.own b ⟨_,o,c,(h4 i hi).1,hb⟩
  · intro i hi hl
    obtain ⟨h5,o,ho,cp⟩:=h4 i hl
    rw[cT i hi] at h5 cp
    obtain ⟨h6,x,x',hx,cP,hk⟩:=hf.kz i hi h5
    refine⟨by rw[h1 i hl.lt,cT i hi];exact h6,x,o,hx,ho,?_⟩
    rw[cp] at cP
    simp only[dw.injEq] at cP
    rw[← cP] at hk
    exact Ob.aac hk
def gF (N:Nat) (os:List Ob) (γ0:Cx) (σ:St) (a:Act) (w:World):Prop :=
  a.defers=[]∧a.tmps.size=N∧∃ γ,γ.w=w∧γ.tmps=a.tmps∧bj σ γ∧Fr os γ0 σ.aa γ
def W (P:Program) (N n0:Nat) (c:Code) (Q:Exit→St→Prop) (σ:St):Prop :=
  ∀ (os:List Ob) (γ0:Cx) (a:Act) (w:World),os.length=n0→gF N os γ0 σ a w→c.wp P (fun e a' w'=>∃ σ',Q e σ'∧gF N os γ0 σ' a' w') a w
def p7 (P:Program) (g:FuncId) (args:List AV) (dst:Option Tmp) (K:St→Prop) (σ:St):Prop:=Ew P g args σ fun v σ'=>K (σ'.put dst v)
def v7 (P:Program) (t:TypeId) (m:String):Option (FuncId × Option TypeId) :=
  match P.info? t with
  | none=>none
  | some i =>
    match i.methods.find? (·.name == m) with
    | none=>none
    | some r =>
      match r.path.isEmpty,r.func,P.underlying t with
      | true,some (g,pr),some (.pointer e)=>some (g,if pr then none else some e)
      | _,_,_=>none
def ov (P:Program) (σ:St) (v:AV) (K:FuncId→AV→Prop):Option (FuncId × Option TypeId)→Prop
  | some (g,none)=>K g v
  | some (g,some e) =>
    (ty P e).kind≠99 ∧
    match v with
    | .ptr id r c =>
      match rowOf σ id r with
      | some row=>l6 (ty P e) row c fun x=>K g x
      | none=>False
    | _=>False
  | none=>False
def bb (P:Program) (o:Oper) (σ:St) (K:St→Prop):Prop :=
  match o.op with
  | .call { callee:=.value f,args,.. } =>
    match ev σ f with
    | .fn g bJ=>p7 P g (args.toList.map (ev σ)++bJ) o.dst K σ
    | _=>False
  | .call { callee:=.invoke r m,args,.. } =>
    match ev σ r with
    | .er t v=>ov P σ v (fun g x=>p7 P g (x::args.toList.map (ev σ)) o.dst K σ) (v7 P t m)
    | _=>False
  | _=>cg P o σ K
def nN (P:Program) (o:Oper) (K:St→Prop) (b want:Bool) (σ:St):Prop:=(b=want→bb P o σ K)∧(b≠want→K (σ.put o.dst (.lit (.tuple #[]))))
def opsL (P:Program) (ops:Array Oper):List Oper→(St→Prop)→St→Prop
  | [],K,σ=>K σ
  | o::r,K,σ =>
    match o.guard with
    | none=>bb P o σ (opsL P ops r K)
    | some (j,want) =>
      match (ops[j]?).bind (·.dst) with
      | none=>False
      | some d =>
        match σ.env d with
        | .lit (.bool b)=>nN P o (opsL P ops r K) b want σ
        | .lit (.tuple vs)=>vs = #[]∧opsL P ops r K (σ.put o.dst (.lit (.tuple #[])))
        | _=>False
theorem tC (a:Act) (d:Option Tmp) (v:Value):(a.put d v).tmps.size=a.tmps.size:=by cases d<;>simp[Act.put]
theorem put_defers (a:Act) (d:Option Tmp) (v:Value):(a.put d v).defers=a.defers:=by cases d<;>rfl
theorem aad (xt:TypeId) (a:Addr) (x y:String):Builtin.ssaWrapNilChk_ #[xt] xt #[.pointer (some a),strVal x,strVal y]=pure (.pointer (some a)):=rfl
theorem N2 {w:World} {t:TypeId} {i:TypeInfo} (h:P.info? t=some i):(typeInfo t).run P w=.ok i w:=by
  simp[typeInfo,h]
theorem ext1 (x:Value) (A:Array Value):(#[x]++A).extract 1 (#[x]++A).size=A:=by
  apply Array.ext'
  simp only[Array.toList_extract,List.extract,zF,Array.size_append]
  simp[List.take_of_length_le]
theorem aae {σ:St} {γ:Cx} (hs:bj σ γ) {t:TypeId} {m:String} {v:AV} {cv:Value} (hv:aB σ.aa γ.w γ.Z γ.blk v cv) {K:FuncId→AV→Prop} (h:ov P σ v K (v7 P t m)) :
    ∃ g x cx,(Go.method (P.types.size+Made.depth) t cv m).run P γ.w=.ok (g,cx) γ.w∧aB σ.aa γ.w γ.Z γ.blk x cx∧K g x:=by
  obtain ⟨fu,yj⟩ :∃fu,P.types.size+Made.depth=fu+1:=Nat.exists_eq_succ_of_ne_zero (by unfold Made.depth;omega)
  rw[yj]
  unfold Go.method
  unfold v7 at h
  cases hi:P.info? t with
  | none=>simp[hi,ov] at h
  | some i =>
    simp only[hi] at h
    cases hf:i.methods.find? (·.name == m) with
    | none=>simp[hf,ov] at h
    | some r =>
      simp only[hf] at h
      split at h
      · rename_i g pr e hp hr hu
        have sr:r.path = #[]:=Array.isEmpty_iff.1 hp
        cases pr with
        | true =>
          simp only[if_pos,ov] at h
          refine⟨g,v,cv,?_,hv,h⟩
          simp[N2 hi,hf,sr,follow,hr,receiverAt,run_underlying hu,Place.get]
        | false =>
          simp only[if_neg,Bool.false_eq_true,not_false_eq_true,ov] at h
          obtain ⟨hk,h⟩:=h
          cases v with
          | ptr id rr c =>
            simp only at h
            cases a6:rowOf σ id rr with
            | none=>simp[a6] at h
            | some row =>
              simp only[a6] at h
              obtain ⟨x,cx,h1,h2,h3⟩:=HN hs hk hv a6 h
              refine⟨g,x,cx,?_,h2,h3⟩
              obtain ⟨b,base,cap,cur,tt,o,rfl,_⟩:=EB hs hv a6
              simp only[Instr.loadAt,Instr.sureAddr,Sem.run_bind,Sem.run_pure,Result.andThen_ok] at h1
              simp[N2 hi,hf,sr,follow,hr,receiverAt,run_underlying hu,Place.get,aad,asAddr,h1]
          | _=>exact h.elim
      · exact h.elim
theorem xX {N:Nat} {os:List Ob} {γ0:Cx} {o:Oper} {σ:St} {K:St→Prop} (h:bb P o σ K) {a:Act} {w:World} (aC:gF N os γ0 σ a w) (hd:∀ d,o.dst=some d→d<N)
    {Q:Exit→Act→World→Prop} {next:Act→World→Prop} (hn:∀ σ' a' w',K σ'→gF N os γ0 σ' a' w'→next a' w'):o.wp P a w next Q:=by
  obtain ⟨iB,a5,γ,rfl,ha,hs,hf⟩:=aC
  have ss:∀ d,o.dst=some d→d<a.tmps.size:=fun d h=>by rw[a5];exact hd d h
  have aaf:cg P o σ K→o.wp P a γ.w next Q:=by
    intro h
    obtain ⟨n,x,w',σ',aI,hr,HO,hK,jV,gl,yk,jU⟩:=aag h hs ha ss
    unfold Oper.wp
    rw[hr]
    have e7:gF N os γ0 σ' (a.put o.dst x) w':=⟨by rw[put_defers];exact iB,by rw[tC];exact a5,aI,yk,jU,jV,hf.trans gl⟩
    rcases HO with rfl | ⟨rfl,rfl⟩
    · exact hn _ _ _ hK e7
    · exact hn _ _ _ hK e7
  unfold bb at h
  split at h
  · rename_i f args fD cO
    split at h
    · rename_i g bJ he
      have eE:=tI hs ha f
      rw[he] at eE
      obtain ⟨a8,aZ,eZ,oE⟩:=eE.N3
      have m4:∀ (j:Nat) d,(args.toList.map (ev σ)++bJ)[j]?=some d→aB σ.aa γ.w γ.Z γ.blk d (((args.map a.eval)++a8).getD j Go.undef):=by
        intro j d hj
        simp only[eY]
        rcases dG j args.size with aT | l9
        · rw[dH (by simpa using aT)] at hj
          rw[D1 (by simpa using aT)]
          simp only[bR,BC,Array.getElem?_map] at hj ⊢
          cases hx:args[j]? with
          | none=>simp[hx] at hj
          | some y=>simp[hx] at hj ⊢;subst hj;exact tI hs ha y
        · rw[fA (by simpa using l9)] at hj
          rw[Array.getElem?_append_right (by simpa using l9)]
          simp only[eD,Array.length_toList,Array.size_map] at hj ⊢
          have:=oE _ d hj
          simpa [eY] using this
      unfold p7 at h
      have fe:=N1 hs (argv:=(args.map a.eval)++a8) (by simp[eZ]) m4 h
      obtain ⟨an,snap,cU,bN,res,cA,⟨⟨fn,u3,qf,wx⟩,_⟩,_⟩:=h
      unfold Oper.wp
      have hr:(execOp a.eval o).run P γ.w=.ok (.enter g ((args.map a.eval)++a8)) γ.w:=by
        have eh : ¬ fn.name = "runtime.NumGoroutine" := by simpa using qf
        have oF:¬ fn.body=none:=by intro e;rw[e] at wx;simp at wx
        simp[execOp,cO,resolve,aZ,Deferred.ofValue,invoke,callFunc,u3,eh,oF]
      rw[hr]
      show Calls P g _ _ _
      refine fe.mono ?_
      rintro e w' ⟨cv,v,σ',aI,rfl,rfl,jU,jV,gl,hv,hK,wy⟩
      refine hn _ _ _ hK ⟨by rw[put_defers];exact iB,by rw[tC];exact a5,{ aI with tmps:=(a.put o.dst cv).tmps },rfl,rfl,qM jV (by rw[jU,ha]) ss hv,?_⟩
      rw[qN]
      exact (hf.trans gl).put _
    · exact h.elim
  · rename_i r m args fD cO
    split at h
    · rename_i t v he
      have eE:=tI hs ha r
      rw[he] at eE
      obtain ⟨EC,aZ,oE⟩:=eE.N4
      obtain ⟨g,x,cx,hm,hx,h⟩:=aae hs oE h
      have m4:∀ (j:Nat) d,(x::args.toList.map (ev σ))[j]?=some d→aB σ.aa γ.w γ.Z γ.blk d ((#[cx]++args.map a.eval).getD j Go.undef):=by
        intro j d hj
        simp only[eY]
        cases j with
        | zero =>
          simp only[uK,dw.injEq] at hj
          subst hj
          rw[D1 (by simp)]
          simpa using hx
        | succ j =>
          simp only[uL,bR,BC] at hj
          rw[Array.getElem?_append_right (by simp)]
          simp only[List.size_toArray,dI,List.length_nil,Nat.zero_add,Nat.add_sub_cancel,Array.getElem?_map]
          cases hy:args[j]? with
          | none=>simp[hy] at hj
          | some y=>simp[hy] at hj ⊢;subst hj;exact tI hs ha y
      unfold p7 at h
      have fe:=N1 hs (argv:=#[cx]++args.map a.eval) (by simp;omega) m4 h
      obtain ⟨an,snap,cU,bN,res,cA,⟨⟨fn,u3,qf,wx⟩,_⟩,_⟩:=h
      unfold Oper.wp
      have hr:(execOp a.eval o).run P γ.w=.ok (.enter g (#[cx]++args.map a.eval)) γ.w:=by
        have eh : ¬ fn.name = "runtime.NumGoroutine" := by simpa using qf
        have oF:¬ fn.body=none:=by intro e;rw[e] at wx;simp at wx
        have e0:(#[Value.iface t EC]++args.map a.eval)[0]?=some (.iface t EC):=by rw[D1 (by simp)];simp
        have e1:=ext1 (.iface t EC) (args.map a.eval)
        have e2:(callMethod (.iface t EC) m (args.map a.eval)).run P γ.w=.ok (.enter g (#[cx]++args.map a.eval)) γ.w:=by
          unfold callMethod
          simp only[Sem.run_bind,run_program,Result.andThen_ok,hm]
          simp[callFunc,u3,eh,oF]
        simp only[execOp,cO,resolve,aZ,pure_bind,invoke,e0,e1]
        exact e2
      rw[hr]
      show Calls P g _ _ _
      refine fe.mono ?_
      rintro e w' ⟨cv,v,σ',aI,rfl,rfl,jU,jV,gl,hv,hK,wy⟩
      refine hn _ _ _ hK ⟨by rw[put_defers];exact iB,by rw[tC];exact a5,{ aI with tmps:=(a.put o.dst cv).tmps },rfl,rfl,qM jV (by rw[jU,ha]) ss hv,?_⟩
      rw[qN]
      exact (hf.trans gl).put _
    · exact h.elim
  · exact aaf h
theorem BX {N:Nat} {os:List Ob} {γ0:Cx} {ops:Array Oper} (hd:∀ o∈ops.toList,∀ d,o.dst=some d→d<N) {K:St→Prop} {Q:Exit→Act→World→Prop}
    (hQ:∀ σ' a' w',K σ'→gF N os γ0 σ' a' w'→Q .normal a' w'):∀ (l:List Oper) (i:Nat) (σ:St) (a:Act) (w:World),ops.toList.drop i=l→opsL P ops l K σ→gF N os γ0 σ a w →
      wpOps P ops Q (List.range' i l.length) a w
  | [],i,σ,a,w,_,h,aC=>by simpa [wpOps] using hQ _ _ _ h aC
  | o::r,i,σ,a,w,hl,h,aC=>by
    have hi:ops[i]?=some o:=by
      have:(ops.toList.drop i)[0]?=some o:=by rw[hl];rfl
      simpa using this
    have hr:ops.toList.drop (i+1)=r:=by
      have:=congrArg List.tail hl
      simpa [List.tail_drop] using this
    have cd:o∈ops.toList:=iy (by simpa using hi)
    rw[dI,List.range'_succ,wpOps_cons]
    unfold wpOp
    simp only[hi]
    unfold opsL at h
    cases hg:o.guard with
    | none =>
      simp only[hg] at h
      have hw:Region.wanted o (yielded ops a.tmps)=true:=by simp[Region.wanted,hg]
      rw[if_pos hw]
      left
      exact xX h aC (hd o cd) (fun σ' a' w' hK e7=>BX hd hQ r (i+1) σ' a' w' hr hK e7)
    | some jw =>
      obtain ⟨j,want⟩:=jw
      simp only[hg] at h
      cases eu:(ops[j]?).bind (·.dst) with
      | none=>simp[eu] at h
      | some d =>
        simp only[eu] at h
        split at h
        · rename_i b he
          obtain ⟨iB,a5,γ,rfl,ha,hs,hf⟩:=aC
          have jW:=hs.aw d
          rw[he,ha] at jW
          have hv:=jW.cH
          have hy:yielded ops a.tmps j=some b:=by
            unfold yielded
            rw[eu]
            have:a.tmps[d]?=some (.bool b):=by
              rw[eY] at hv
              cases hx:a.tmps[d]? with
              | none=>rw[hx] at hv;simp[Go.undef] at hv
              | some y=>rw[hx] at hv;simp at hv;rw[hv]
            simp[this]
          by_cases ij:b=want
          · have hw:Region.wanted o (yielded ops a.tmps)=true:=by simp[Region.wanted,hg,hy,ij]
            rw[if_pos hw]
            left
            exact xX (h.1 ij) ⟨iB,a5,γ,rfl,ha,hs,hf⟩ (hd o cd) (fun σ' a' w' hK e7=>BX hd hQ r (i+1) σ' a' w' hr hK e7)
          · have hw:Region.wanted o (yielded ops a.tmps)=false:=by simp[Region.wanted,hg,hy,ij]
            rw[if_neg (by rw[hw];simp)]
            refine BX hd hQ r (i+1) _ _ _ hr (h.2 ij) ⟨by rw[put_defers];exact iB,by rw[tC];exact a5,{ γ with tmps:=(a.put o.dst Go.undef).tmps },rfl,rfl,qM hs ha (fun d h=>by rw[a5];exact hd o cd d h) (.lit _),?_⟩
            rw[qN];exact hf.put _
        · rename_i vs he
          obtain ⟨iB,a5,γ,rfl,ha,hs,hf⟩:=aC
          have jW:=hs.aw d
          rw[he,ha] at jW
          have hv:=jW.cH
          have hy:yielded ops a.tmps j=none:=by
            unfold yielded
            rw[eu]
            rw[eY] at hv
            cases hx:a.tmps[d]? with
            | none=>simp[hx]
            | some y=>rw[hx] at hv;simp at hv;subst hv;simp[hx]
          have hw:Region.wanted o (yielded ops a.tmps)=false:=by simp[Region.wanted,hg,hy]
          rw[if_neg (by rw[hw];simp)]
          refine BX hd hQ r (i+1) _ _ _ hr h.2 ⟨by rw[put_defers];exact iB,by rw[tC];exact a5,{ γ with tmps:=(a.put o.dst Go.undef).tmps },rfl,rfl,qM hs ha (fun d h=>by rw[a5];exact hd o cd d h) (.lit _),?_⟩
          rw[qN];exact hf.put _
        · exact h.elim
end Go.Am
namespace Go.Am
variable {P:Program} {N n0:Nat} {Q:Exit→St→Prop} {σ:St}
theorem N5 {c:Code} {Q':Exit→St→Prop} (h:W P N n0 c Q σ) (hq:∀ e s,Q e s→Q' e s):W P N n0 c Q' σ :=
  fun os γ0 a w hn aC=>wp_mono (h os γ0 a w hn aC) (fun _ _ _ ⟨σ',h1,h2⟩=>⟨σ',hq _ _ h1,h2⟩)
theorem N6 (h:Q .normal σ):W P N n0 .skip Q σ:=fun _ _ _ _ _ aC=>wp_skip ⟨σ,h,aC⟩
theorem aah {l:Nat} (h:Q .normal σ):W P N n0 (.label l) Q σ:=fun _ _ _ _ _ aC=>wp_label ⟨σ,h,aC⟩
theorem aai {id:Nat} (h:Q (.exit id) σ):W P N n0 (.exit id) Q σ:=fun _ _ _ _ _ aC=>wp_exit ⟨σ,h,aC⟩
theorem aaj (h:Q .ret σ):W P N n0 .ret Q σ:=fun _ _ _ _ _ aC=>wp_ret ⟨σ,h,aC⟩
def aak (P:Program) (N n0:Nat) (y:Code) (Q:Exit→St→Prop):Exit→St→Prop
  | .normal,s=>W P N n0 y Q s
  | e,s=>Q e s
theorem HA {x y:Code} (h:W P N n0 x (aak P N n0 y Q) σ):W P N n0 (.seq x y) Q σ:=by
  intro os γ0 a w hn aC
  refine wp_seq (wp_mono (h os γ0 a w hn aC) ?_)
  rintro e a' w' ⟨σ',h1,h2⟩
  cases e with
  | normal=>exact h1 os γ0 a' w' hn h2
  | exit id=>exact⟨σ',h1,h2⟩
  | goto l=>exact⟨σ',h1,h2⟩
  | ret=>exact⟨σ',h1,h2⟩
  | panic c=>exact⟨σ',h1,h2⟩
  | outgrown=>exact⟨σ',h1,h2⟩
theorem N7 {c:Operand} {x y:Code} {t:Bool} (hc:ev σ c=.lit (.bool t)) (ht:t=true→W P N n0 x Q σ) (hf:t=false→W P N n0 y Q σ):W P N n0 (.cond c x y) Q σ:=by
  intro os γ0 a w hn aC
  have aZ:a.eval c=.bool t:=by
    obtain ⟨_,_,γ,rfl,ha,hs,_⟩:=aC
    have:=tI hs ha c
    rw[hc] at this
    exact this.cH
  exact wp_cond_split aZ (fun h=>ht h os γ0 a w hn aC) (fun h=>hf h os γ0 a w hn aC)
def Es (id:Nat) (Q:Exit→St→Prop):Exit→St→Prop
  | .exit yd,s=>if yd=id then Q .normal s else Q (.exit yd) s
  | e,s=>Q e s
theorem ZV {id:Nat} {c:Code} (h:W P N n0 c (Es id Q) σ):W P N n0 (.block id c) Q σ:=by
  intro os γ0 a w hn aC
  refine wp_block (wp_mono (h os γ0 a w hn aC) ?_)
  rintro e a' w' ⟨σ',h1,h2⟩
  cases e with
  | exit yd =>
    simp only[Es] at h1
    simp only[Exit.inBlock]
    split
    · rename_i he;rw[if_pos he] at h1;exact⟨σ',h1,h2⟩
    · rename_i he;rw[if_neg he] at h1;exact⟨σ',h1,h2⟩
  | normal=>exact⟨σ',h1,h2⟩
  | goto l=>exact⟨σ',h1,h2⟩
  | ret=>exact⟨σ',h1,h2⟩
  | panic c=>exact⟨σ',h1,h2⟩
  | outgrown=>exact⟨σ',h1,h2⟩
def gz (N:Nat) (ops:Array Oper):Bool:=ops.toList.all fun o=>match o.dst with | some d=>decide (d<N) | none=>true
theorem qP {ops:Array Oper} (h:gz N ops=true):∀ o∈ops.toList,∀ d,o.dst=some d→d<N:=by
  intro o ho d hd
  unfold gz at h
  rw[eW] at h
  have:=h o ho
  simp[hd] at this
  exact this
theorem NO {id:Nat} {ops:Array Oper} (hd:gz N ops=true) (h:opsL P ops ops.toList (Q .normal) σ):W P N n0 (.region id ops false) Q σ:=by
  intro os γ0 a w _ aC
  refine wp_region ?_
  have:=BX (P:=P) (N:=N) (os:=os) (γ0:=γ0) (ops:=ops) (qP hd) (K:=Q .normal) (Q:=fun e a' w'=>∃ σ',Q e σ'∧gF N os γ0 σ' a' w') (fun σ' a' w' hK e7=>⟨σ',hK,e7⟩)
    ops.toList 0 σ a w rfl h aC
  rw[List.range_eq_range']
  simpa using this
theorem gF.drawn {os:List Ob} {γ0:Cx} {a:Act} {w:World} (h:gF N os γ0 σ a w):gF N os γ0 σ a { w with drawn:=w.drawn+1 }:=by
  obtain ⟨h1,h2,γ,rfl,h3,h4,h5⟩:=h
  exact⟨h1,h2,{ γ with w:={ γ.w with drawn:=γ.w.drawn+1 } },rfl,h3,h4.HP rfl,h5.HP rfl rfl rfl rfl⟩
def aQ (n0:Nat) (σ σ':St):Prop:=∀ (os:List Ob) (γ0 γ:Cx),os.length=n0→bj σ γ→Fr os γ0 σ.aa γ→∃ aI,aI.w=γ.w∧aI.tmps=γ.tmps∧bj σ' aI∧Fr os γ0 σ'.aa aI
theorem dO {c:Code} {σ':St} (h:aQ n0 σ σ') (hw:W P N n0 c Q σ'):W P N n0 c Q σ:=by
  intro os γ0 a w hn aC
  obtain ⟨h1,h2,γ,rfl,h3,h4,h5⟩:=aC
  obtain ⟨aI,e1,e2,e3,e4⟩:=h os γ0 γ hn h4 h5
  exact hw os γ0 a γ.w hn ⟨h1,h2,aI,e1,e2.trans h3,e3,e4⟩
theorem aQ.forget {e:Nat→AV} (h:∀ k,e k=.undef∨e k=σ.env k):aQ n0 σ ⟨e,σ.aa⟩:=by
  intro os γ0 γ _ hs hf
  refine⟨γ,rfl,rfl,⟨fun k=>?_,hs.eN,hs.inj,hs.nz,hs.iq⟩,hf⟩
  rcases h k with h | h
  · show aB _ _ _ _ (e k) _
    rw[h];exact .undef _
  · show aB _ _ _ _ (e k) _
    rw[h];exact hs.aw k
theorem aQ.select (an:List Nat) (snap:Bool) (bN:List Ob) (e:Nat→AV) (bC:an.Nodup) (bL:bN.length=an.length)
    (nM:∀ (j:Nat) o,bN[j]?=some o→o=.gone∨σ.aa[an.getD j 0]?=some (bD (a9 σ.aa.length an) o)) (l8:∀ i∈an,i<σ.aa.length)
    (hn:n0≤an.length) (cT:∀ i,i<n0→an.getD i 0=i)
    (he:∀ k,e k=.undef∨aO σ (fun id=>∃ j,j<an.length∧an.getD j 0=id∧bN[j]?≠some .gone) (a9 σ.aa.length an) snap (e k) (σ.env k)):aQ n0 σ ⟨e,bN⟩:=by
  intro os γ0 γ u4 hs hf
  obtain ⟨aI,h1,h2,h3,h4⟩:=hs.select an snap bN bC bL nM l8 e γ.tmps (fun k=>(he k).imp id fun h=>⟨_,h,hs.aw k⟩)
  exact⟨aI,h1,h2,h3,hf.select (by omega) bL (fun i hi=>cT i (by omega)) h1 h4⟩
theorem aQ.trans {σ1 σ2:St} (h:aQ n0 σ σ1) (k:aQ n0 σ1 σ2):aQ n0 σ σ2:=by
  intro os γ0 γ u4 hs hf
  obtain ⟨γ1,a1,a2,a3,a4⟩:=h os γ0 γ u4 hs hf
  obtain ⟨γ2,b1,b2,b3,b4⟩:=k os γ0 γ1 u4 a3 a4
  exact⟨γ2,b1.trans a1,b2.trans a2,b3,b4⟩
theorem aQ.nil (d sz:Nat) (h:σ.env d=.lit (.slice none 0 0)) (h0:0<sz):aQ n0 σ ⟨jG σ.env d (.ref σ.aa.length sz 0 0),σ.aa++[.arr sz []]⟩:=by
  intro os γ0 γ _ hs hf
  have hp:=hs.yl h0
  refine⟨{ γ with blk:=cK γ.blk σ.aa.length none },rfl,rfl,⟨fun k=>?_,hp.eN,hp.inj,hp.nz,hp.iq⟩,hf.trans (Fr.yl _ _ _)⟩
  simp only[jG]
  by_cases hk:k=d
  · subst hk
    rw[if_pos rfl]
    have:=hs.aw k
    rw[h] at this
    rw[this.cH]
    exact .l7 _ _ (List.getElem?_concat_length ..) (by simp[cK])
  · rw[if_neg hk]
    exact hp.aw k
def fi (σ:St) (P:Program):List ResultVar→(List AV→Prop)→Prop
  | [],K=>K []
  | .tmp t::r,K=>fi σ P r fun vs=>K (σ.env t::vs)
  | .cell a t::r,K =>
    (ty P t).kind≠99 ∧
    match σ.env a with
    | .ptr id rr c =>
      match rowOf σ id rr with
      | some row=>l6 (ty P t) row c fun v=>fi σ P r fun vs=>K (v::vs)
      | none=>False
    | _=>False
def ew:List AV→AV
  | [v]=>v
  | vs=>.bM vs
theorem ED {γ:Cx} (hs:bj σ γ):∀ (rs:List ResultVar) (K:List AV→Prop),fi σ P rs K →
    ∃ vs a8,K vs∧(rs.mapM fun (r:ResultVar)=>match r with | .tmp t=>(pure (γ.tmps.getD t Go.undef):Sem Value) | .cell a t=>do loadVar t (← asAddr (γ.tmps.getD a Go.undef))).run P γ.w=.ok a8 γ.w ∧
      a8.length=vs.length∧vs.length=rs.length∧∀ (j:Nat) v,vs[j]?=some v→aB σ.aa γ.w γ.Z γ.blk v (a8.getD j Go.undef)
  | [],K,h=>⟨[],[],h,by simp,rfl,rfl,by simp⟩
  | .tmp t::r,K,h=>by
    obtain ⟨vs,a8,h1,h2,h3,h4,h5⟩:=ED hs r _ h
    refine⟨_,γ.tmps.getD t Go.undef::a8,h1,?_,by simp[h3],by simp[h4],?_⟩
    · simp only[List.mapM_cons,Sem.run_bind,Sem.run_pure,Result.andThen_ok,h2]
    · intro j v hj
      cases j with
      | zero=>simp at hj;subst hj;simpa using hs.aw t
      | succ j=>simpa using h5 j v (by simpa using hj)
  | .cell a t::r,K,h=>by
    obtain ⟨hk,h⟩:=h
    split at h
    · rename_i id rr c he
      have hv:=hs.aw a
      rw[he] at hv
      split at h
      · rename_i row a6
        obtain ⟨v,cv,l1,l2,l3⟩:=HN hs hk hv a6 h
        obtain ⟨vs,a8,h1,h2,h3,h4,h5⟩:=ED hs r _ l3
        obtain ⟨b,base,cap,cur,tt,o,hp,_⟩:=EB hs hv a6
        have eO:(do loadVar t (← asAddr (γ.tmps.getD a Go.undef)):Sem Value).run P γ.w=.ok cv γ.w:=by
          rw[hp] at l1 ⊢
          simp only[Instr.loadAt,Instr.sureAddr,Sem.run_bind,Sem.run_pure,Result.andThen_ok] at l1
          simp only[asAddr,Sem.run_bind,Sem.run_pure,Result.andThen_ok]
          exact l1
        refine⟨_,cv::a8,h1,?_,by simp[h3],by simp[h4],?_⟩
        · simp only[List.mapM_cons]
          rw[Sem.run_bind,eO]
          simp only[Result.andThen_ok,Sem.run_bind,h2,Sem.run_pure]
        · intro j x hj
          cases j with
          | zero=>simp at hj;subst hj;simpa using l2
          | succ j=>simpa using h5 j x (by simpa using hj)
      · exact h.elim
    · exact h.elim
def nK (n0:Nat) (σ:St) (v res:AV) (bh:List Ob):Prop :=
  ∃ (an:List Nat) (snap:Bool),an.Nodup∧bh.length=an.length∧(∀ (j:Nat) o,bh[j]?=some o→o=.gone∨σ.aa[an.getD j 0]?=some (bD (a9 σ.aa.length an) o))∧(∀ i∈an,i<σ.aa.length) ∧
    n0≤an.length∧(∀ i,i<n0→an.getD i 0=i)∧aO σ (fun id=>∃ j,j<an.length∧an.getD j 0=id∧bh[j]?≠some .gone) (a9 σ.aa.length an) snap res v
def z5 (P:Program) (n0:Nat) (rs:List ResultVar) (res:AV) (bh:List Ob):Exit→St→Prop
  | .normal,s=>fi s P rs fun vs=>nK n0 s (ew vs) res bh
  | .ret,s=>fi s P rs fun vs=>nK n0 s (ew vs) res bh
  | _,_=>False
theorem ao.HQ {f : FuncId} {fn : Func} {c : Code} {args : List AV} {aa : List Ob} {res : AV} {bh : List Ob} (hf : P.funcs[f]? = some fn) (hb : fn.body = some c) (qf : (fn.name == "runtime.NumGoroutine") = false)
    (hN:args.length≤fn.ntmps) (h:W P fn.ntmps aa.length c (z5 P aa.length fn.results.toList res bh) ⟨fun k=>args.getD k .undef,aa⟩):ao P f args aa res bh:=by
  refine⟨⟨fn,hf,qf,by rw[hb];rfl⟩,?_⟩
  intro γ a5 hs
  refine calls_of_wp hf hb ?_
  let tm:=γ.tmps++Array.replicate (fn.ntmps - γ.tmps.size) Go.undef
  have aC:gF fn.ntmps aa γ ⟨fun k=>args.getD k .undef,aa⟩ { tmps:=tm,defers:=[] } γ.w:=by
    refine⟨rfl,by simp[tm];omega,{ γ with tmps:=tm },rfl,rfl,⟨fun k=>?_,hs.eN,hs.inj,hs.nz,hs.iq⟩,(Fr.refl _ _).put _⟩
    rcases dG k args.length with hk | hk
    · have:=hs.aw k
      have e:tm.getD k Go.undef=γ.tmps.getD k Go.undef:=by
        simp only[tm,eY]
        rw[D1 (by omega)]
      show aB _ _ _ _ _ (tm.getD k Go.undef)
      rw[e];exact this
    · have e:args.getD k AV.undef=.undef:=by simp[hk]
      show aB _ _ _ _ (args.getD k .undef) _
      rw[e];exact .undef _
  refine wp_mono (h aa γ _ γ.w rfl aC) ?_
  rintro e a' w' ⟨σ',h1,iB,_,aI,rfl,ha,jV,gl⟩
  have fin:∀ (K:List AV→Prop),fi σ' P fn.results.toList K→(∀ vs,K vs→nK aa.length σ' (ew vs) res bh) →
      a'.defers=[]∧∃ v,(results fn a'.tmps).run P aI.w=.ok v aI.w∧∃ cv iM,Ending.returned v=.returned cv∧iM.w=aI.w∧iM.tmps = #[cv]∧bj ⟨fun k=>[res].getD k .undef,bh⟩ iM∧Fr aa γ bh iM:=by
    intro K hK HR
    obtain ⟨vs,a8,k1,k2,k3,k4,k5⟩:=ED jV _ _ hK
    obtain ⟨an,snap,r1,r2,r3,r4,r5,r6,r7⟩:=HR vs k1
    refine⟨iB,?_⟩
    have eO :∃v,(results fn a'.tmps).run P aI.w=.ok v aI.w∧aB σ'.aa aI.w aI.Z aI.blk (ew vs) v:=by
      have hm:(fn.results.mapM fun (r:ResultVar)=>match r with | .tmp t=>(pure (a'.tmps.getD t Go.undef):Sem Value) | .cell a t=>do loadVar t (← asAddr (a'.tmps.getD a Go.undef))).run P aI.w=.ok a8.toArray aI.w:=by
        rw[Array.mapM_eq_mapM_toList,Sem.run_map,← ha,k2]
        rfl
      have hr:(results fn a'.tmps).run P aI.w=.ok (if h:a8.toArray.size=1 then a8.toArray[0] else .tuple a8.toArray) aI.w:=by
        unfold results
        rw[Sem.run_bind]
        exact congrArg (fun r=>Result.andThen r fun (a:Array Value) w'=>(pure (if h:a.size=1 then a[0] else Value.tuple a):Sem Value).run P w') hm
      rw[hr]
      match vs,a8,k3,k5 with
      | [],[],_,k5=>exact⟨_,rfl,.bM _ _ rfl (fun j x hj=>by simp at hj)⟩
      | [v],[cv],_,k5=>exact⟨cv,by simp,by simpa [ew] using k5 0 v rfl⟩
      | v::v'::vs,cv::oG::a8,k3,k5 =>
        refine⟨.tuple (cv::oG::a8).toArray,by simp,.bM _ _ (by simpa using k3) (fun j x hj=>?_)⟩
        have:=k5 j x hj
        simpa [ay,eY] using this
    obtain ⟨v,qU,z6⟩:=eO
    obtain ⟨iM,e1,e2,e3,e4⟩:=jV.select an snap bh r1 r2 r3 r4 (fun k=>[res].getD k .undef) #[v] (fun k=>by
      cases k with
      | zero=>exact .inr ⟨_,r7,by simpa using z6⟩
      | succ k=>left;simp)
    exact⟨v,qU,v,iM,rfl,e1,e2,e3,gl.select r5 r2 r6 e1 e4⟩
  cases e with
  | normal=>exact fin _ h1 (fun _ h=>h)
  | ret=>exact fin _ h1 (fun _ h=>h)
  | exit id=>exact h1.elim
  | goto l=>exact h1.elim
  | panic c=>exact h1.elim
  | outgrown=>exact h1.elim
theorem ao.aD {f : FuncId} {fn : Func} {c : Code} {args : List AV} {aa : List Ob} {res : AV} {bh : List Ob} (N k : Nat) (rs : List ResultVar) (hf : P.funcs[f]? = some fn) (hb : fn.body = some c) (qf : (fn.name == "runtime.NumGoroutine") = false)
    (hN:fn.ntmps=N) (BY:fn.results.toList=rs) (hk:aa.length=k) (hl:args.length≤N) (h:W P N k c (z5 P k rs res bh) ⟨fun k=>args.getD k .undef,aa⟩):ao P f args aa res bh:=by
  subst hN;subst BY;subst hk
  exact ao.HQ hf hb qf hl h
theorem W_k {x y:Code} (h:∀ Q':Exit→St→Prop,(∀ s,W P N n0 y Q s→Q' .normal s)→(∀ e s,e≠.normal→Q e s→Q' e s)→W P N n0 x Q' σ):W P N n0 (.seq x y) Q σ :=
  HA (h _ (fun _ h=>h) (fun e s he hq=>by cases e<;>first|exact absurd rfl he|exact hq))
theorem HS {id:Nat} {ops:Array Oper} {y:Code} (hd:gz N ops=true) (h:∀ K:St→Prop,(∀ s,W P N n0 y Q s→K s)→opsL P ops ops.toList K σ):W P N n0 (.seq (.region id ops false) y) Q σ :=
  HA (NO hd (h _ (fun _ h=>h)))
theorem Na {ops:Array Oper} {K:St→Prop}:opsL P ops [] K σ=K σ:=rfl
theorem Nb {ops:Array Oper} {o:Oper} {r:List Oper} {K:St→Prop}:opsL P ops (o::r) K σ =
    match o.guard with
    | none=>bb P o σ (opsL P ops r K)
    | some (j,want) =>
      match (ops[j]?).bind (·.dst) with
      | none=>False
      | some d =>
        match σ.env d with
        | .lit (.bool b)=>nN P o (opsL P ops r K) b want σ
        | .lit (.tuple vs)=>vs = #[]∧opsL P ops r K (σ.put o.dst (.lit (.tuple #[])))
        | _=>False:=rfl
theorem Nf {o:Oper} {K:St→Prop}:nN P o K true true σ=bb P o σ K:=by simp[nN]
theorem Ni {o:Oper} {K:St→Prop}:nN P o K false false σ=bb P o σ K:=by simp[nN]
theorem Ng {o:Oper} {K:St→Prop}:nN P o K true false σ=K (σ.put o.dst (.lit (.tuple #[]))):=by simp[nN]
theorem Nh {o:Oper} {K:St→Prop}:nN P o K false true σ=K (σ.put o.dst (.lit (.tuple #[]))):=by simp[nN]
theorem aan {o:Oper} {K:St→Prop} {b want:Bool} (h1:b=true→nN P o K true want σ) (h2:b=false→nN P o K false want σ):nN P o K b want σ:=by
  cases b
  · exact h2 rfl
  · exact h1 rfl
def clr (ds:List Nat) (e:Nat→AV):Nat→AV:=fun k=>if ds.contains k then .undef else e k
theorem Ef {ds:List Nat} {e:Nat→AV} {k:Nat}:clr ds e k=if ds.contains k then .undef else e k:=rfl
theorem aap (e:Nat→AV) (d:Nat) (v:AV):jG e d v d=v:=by simp[jG]
mutual
def gy:AV→Bool
  | .ref ..=>false
  | .ptr ..=>false
  | .agg cs=>jl cs
  | .bM cs=>jl cs
  | .fn _ cs=>jl cs
  | .er _ v=>gy v
  | .fL _=>false
  | _=>true
def jl:List AV→Bool
  | []=>true
  | v::vs=>gy v && jl vs
end
mutual
theorem yb (ρ:Nat→Nat):∀ (v:AV),gy v=true→aX ρ v=v
  | .undef,_=>rfl
  | .lit _,_=>rfl
  | .tree ..,_=>rfl
  | .dz _,_=>rfl
  | .ref ..,h=>by simp[gy] at h
  | .ptr ..,h=>by simp[gy] at h
  | .agg cs,h=>by simp only[gy] at h;simp only[aX];rw[zX ρ cs h]
  | .bM cs,h=>by simp only[gy] at h;simp only[aX];rw[zX ρ cs h]
  | .fn f cs,h=>by simp only[gy] at h;simp only[aX];rw[zX ρ cs h]
  | .er t v,h=>by simp only[gy] at h;simp only[aX];rw[yb ρ v h]
  | .fL _,h=>by simp[gy] at h
theorem zX (ρ:Nat→Nat):∀ (l:List AV),jl l=true→m6 ρ l=l
  | [],_=>rfl
  | v::vs,h=>by
    simp only[jl,a7] at h
    simp only[m6]
    rw[yb ρ v h.1,zX ρ vs h.2]
end
theorem aaq {l:List AV} (h:jl l=true) {j:Nat} {x:AV} (hx:l[j]?=some x):gy x=true:=by
  induction l generalizing j with
  | nil=>simp at hx
  | cons v l ih =>
    simp only[jl,a7] at h
    cases j with
    | zero=>simp at hx;subst hx;exact h.1
    | succ j=>exact ih h.2 (by simpa using hx)
theorem bY {f:FuncId} {args:List AV} {dst:Option Tmp} {K:St→Prop} {res:AV} (h:ao P f args [] res []) (ha:jl args=true) (hr:gy res=true) (hK:K (σ.put dst res)):p7 P f args dst K σ:=by
  refine⟨[],false,args,[],res,[],h,⟨G4,rfl,by simp,rfl,?_,by simp⟩,?_⟩
  · intro j c d hc hd
    rw[hc] at hd
    simp at hd
    subst hd
    have:=aO.same (σ:=σ) (kp:=(·∈([]:List Nat))) (ρ:=a9 σ.aa.length []) (snap:=false) c
    rw[yb _ c (aaq ha hc)] at this
    exact this
  · rw[yb _ _ hr]
    simpa [dQ] using hK
theorem BO {v:AV} (hr:gy v=true):nK 0 σ v v []:=by
  refine⟨[],false,G4,rfl,by simp,by simp,aV _,by simp,?_⟩
  have:=aO.same (σ:=σ) (kp:=fun id=>∃ j,j<([]:List Nat).length∧([]:List Nat).getD j 0=id∧([]:List Ob)[j]?≠some .gone) (ρ:=a9 σ.aa.length []) (snap:=false) v
  rw[yb _ _ hr] at this
  exact this
end Go.Am
namespace Go.Am
variable {P:Program}
def cls:Op→Nat
  | .move _ | .assign _ | .pick .. | .convert .. | .binOp .. | .unOp .. | .makeFunc .. | .makeInterface .. | .typeAssert .. | .field .. | .extract .. | .build .. | .index ..=>0
  | .call { callee:=.builtin .min,.. } | .call { callee:=.builtin .max,.. }=>0
  | .nilCheck _ | .fieldAddr .. | .indexAddr .. | .slice ..=>1
  | .call { callee:=.builtin .len,.. }=>1
  | .load .. | .lookup ..=>2
  | .alloc _ | .box .. | .makeSlice .. | .buildSlice .. | .makeMap ..=>3
  | .store ..=>4
  | _=>5
def si:Ob→Ob→Prop
  | .var _,.var _=>True
  | .arr s _,.arr s' _=>s=s'
  | .mp a L,.mp b M=>a=b∧L=M
  | .gone,.gone=>True
  | _,_=>False
theorem x7 (o:Ob):si o o:=by cases o<;>simp[si]
def ku (c:Nat) (a b:List Ob):Prop :=
  if c≤2 then b=a
  else if c=3 then ∀ (id:Nat),id<a.length→b[id]?=a[id]?
  else if c=4 then b.length=a.length∧∀ (id:Nat) o o',a[id]?=some o→b[id]?=some o'→si o o'
  else True
theorem aar (c:Nat) (h:c≤2) (a:List Ob):ku c a a:=by simp[ku,h]
theorem EE (a:List Ob) (o:Ob):ku 3 a (a++[o]):=by
  simp only[ku];intro id h;exact dH h
theorem aas (σ:St) (id r:Nat) (row:List AV):ku 4 σ.aa (nG σ id r row).aa:=by
  simp only[ku]
  rw[if_neg (by decide),if_neg (by decide),if_pos trivial]
  have key:∀ (x y:Ob),σ.aa[id]?=some x→si x y→(σ.aa.set id y).length=σ.aa.length∧∀ (i:Nat) o o',σ.aa[i]?=some o→(σ.aa.set id y)[i]?=some o'→si o o':=by
    intro x y hx jZ
    refine⟨by simp,fun i o o' ho cp=>?_⟩
    rw[List.getElem?_set] at cp
    split at cp
    · rename_i e;subst e
      split at cp
      · simp at cp;subst cp;rw[hx] at ho;simp at ho;subst ho;exact jZ
      · simp at cp
    · rw[ho] at cp;simp at cp;subst cp;exact x7 o
  unfold nG
  split
  · rename_i cells h;exact key _ _ h trivial
  · rename_i sz rows h;exact key _ _ h rfl
  · exact⟨rfl,fun i o o' ho cp=>by rw[ho] at cp;simp at cp;subst cp;exact x7 o⟩
def su:AV→Option Nat
  | .ref id _ _ _=>some id
  | .ptr id _ _=>some id
  | .fL id=>some id
  | _=>none
def iR (c:Nat) (a b:Option Ob):Prop :=
  if c=0 then True else if c=1 then ∀ o,a=some o→∃ o',b=some o'∧si o o' else ∀ o,a=some o→b=some o
def qV (c:Nat) (l:List Operand) (σ:St) (e2:Nat→AV) (ob:List Ob):Prop :=
  (∀ x∈l,ev ⟨e2,ob⟩ x=ev σ x)∧(∀ x∈l,∀ id,su (ev σ x)=some id→iR c σ.aa[id]? ob[id]?)
def HT (P:Program) (o:Oper) (σ:St) (K:St→Prop) (c:Nat) (l:List Operand):Prop :=
  ∃ v os,ku c σ.aa os∧K ((⟨σ.env,os⟩:St).put o.dst v)∧∀ e2 ob fO (K2:St→Prop),qV c l σ e2 ob→(if c≤2 then fO=ob else ob=σ.aa∧fO=os)→K2 ((⟨e2,fO⟩:St).put o.dst v)→cg P o ⟨e2,ob⟩ K2
theorem dA {o:Oper} {σ:St} {K:St→Prop} {c:Nat} {l:List Operand} {v:AV} (hW:K (σ.put o.dst v))
    (h:∀ e2 ob (K2:St→Prop),qV c l σ e2 ob→K2 ((⟨e2,ob⟩:St).put o.dst v)→cg P o ⟨e2,ob⟩ K2) (hc:c≤2:=by simp[cls]):HT P o σ K c l :=
  ⟨v,σ.aa,aar _ hc _,hW,fun e2 ob fO K2 hx ho gm=>h e2 ob K2 hx (by rw[if_pos hc] at ho;subst ho;exact gm)⟩
theorem dB {o:Oper} {σ:St} {K:St→Prop} {c:Nat} {l:List Operand} {v:AV} {os:List Ob} (hc:3≤c) (he:ku c σ.aa os) (hW:K ((⟨σ.env,os⟩:St).put o.dst v))
    (h:∀ e2 (_:List Ob) (K2:St→Prop),qV 0 l σ e2 σ.aa→K2 ((⟨e2,os⟩:St).put o.dst v)→cg P o ⟨e2,σ.aa⟩ K2):HT P o σ K c l :=
  ⟨v,os,he,hW,fun e2 ob fO K2 hx ho gm=>by rw[if_neg (by omega)] at ho;obtain ⟨rfl,rfl⟩:=ho;exact h e2 σ.aa K2 ⟨hx.1,fun _ _ _ _=>by simp[iR]⟩ gm⟩
theorem parts_eq {parts:Array (Nat × Operand)} {σ τ:St} (h:∀ x∈parts.toList.map (·.2),ev τ x=ev σ x) :
    (parts.toList.map fun p=>(p.1,ev τ p.2))=(parts.toList.map fun p=>(p.1,ev σ p.2))∧(parts.toList.all fun p=>(cellsOf (ev τ p.2)).all cm)=(parts.toList.all fun p=>(cellsOf (ev σ p.2)).all cm):=by
  have hp:(parts.toList.map fun p=>(p.1,ev τ p.2))=(parts.toList.map fun p=>(p.1,ev σ p.2)):=qC fun p hp=>by rw[h _ (D0 hp)]
  exact⟨hp,by simpa [List.all_map,Function.comp_def] using congrArg (·.all fun q=>(cellsOf q.2).all cm) hp⟩
theorem NC {t:Ty} {cells:List AV} {c:Nat} {K:AV→Prop} (h:l6 t cells c K) :∃v,K v∧∀ K2:AV→Prop,K2 v→l6 t cells c K2:=by
  unfold l6 at h ⊢
  split at h
  · exact⟨_,h.2,fun K2 hK=>by simp_all⟩
  · split at h<;>first|exact h.elim|exact⟨_,h,fun K2 hK=>by simp_all⟩
theorem aat {op:BinOp} {k:IntKind} {p q:Int} {K:Value→Prop} (h:gj op k p q K) :∃v,K v∧∀ K2:Value→Prop,K2 v→gj op k p q K2:=by
  unfold gj at h ⊢
  split at h<;>first|exact⟨_,h.2,fun K2 h'=>⟨h.1,h'⟩⟩|exact⟨_,h,fun K2 h=>h⟩|exact h.elim
theorem aau {σ:St} {e:Nat→AV} {ob:List Ob} {id r:Nat} {row:List AV} (h:∀ o,σ.aa[id]?=some o→ob[id]?=some o) (hr:rowOf σ id r=some row):rowOf ⟨e,ob⟩ id r=some row:=by
  unfold rowOf at hr ⊢
  cases ho:σ.aa[id]?<;>simp_all
theorem aav {σ:St} {e:Nat→AV} {ob:List Ob} {v:AV} {q:Nat × Nat × List (List Int × AV)} (h:∀ id,v=.fL id→∀ o,σ.aa[id]?=some o→ob[id]?=some o) (hm:lC σ v=some q):lC ⟨e,ob⟩ v=some q:=by
  unfold lC at hm ⊢
  split at hm
  · rename_i id
    split at hm
    · rename_i ag L ho
      have:=h id rfl _ ho
      simp only[this]
      exact hm
    · cases hm
  · cases hm
theorem N8 {o:Oper} {σ:St} {K:St→Prop} (hW:cg P o σ K):HT P o σ K (cls o.op) o.op.operands.toList:=by
  obtain ⟨dst,op,type,pos,after,guard⟩:=o
  unfold cg at hW
  cases op
  case call c =>
    obtain ⟨callee,args,argTypes⟩:=c
    cases callee<;>try exact hW.elim
    rename_i b
    cases b<;>try exact hW.elim
    all_goals simp only at hW
    case append =>
      (repeat' split at hW)<;>try exact hW.elim
      rename_i s x t t' cP jU _ _ _ _ z pre σ1 sz src hk hz BZ sv
      have wy:σ1=⟨σ.env,σ1.aa⟩∧∀ e,p8 ⟨e,σ.aa⟩ (ty P (ty P t).elem).size (ev σ s)=some (pre,⟨e,σ1.aa⟩):=by
        unfold p8 at BZ ⊢
        (repeat' split at BZ)<;>simp_all
        all_goals obtain ⟨rfl,rfl⟩:=BZ;simp
      refine dB (os:=σ1.aa++[.arr sz (pre++src)]) (by simp[cls]) trivial (by have:=hW.2;rw[wy.1] at this;exact this) fun e2 ob K2 hx gm=>?_
      have m0:nJ ⟨e2,σ.aa⟩ (ev σ x)=some (sz,src):=sv
      unfold cg
      simp[qV,Op.operands,Call.operands,cP] at hx
      simp only[cP,jU,hx.1.1,hx.1.2,hk,hz,wy.2,m0]
      exact⟨hW.1,gm⟩
    case copy =>
      (repeat' split at hW)<;>try exact hW.elim
      rename_i cP jU _ _ id _ _ _ _ src he sv _ _ _ ho
      refine dB (by simp[cls]) trivial hW.2 fun e2 ob K2 hx gm=>?_
      have m0:nJ ⟨e2,σ.aa⟩ _=_:=sv
      unfold cg
      simp[qV,Op.operands,Call.operands,cP] at hx
      simp only[cP,jU,hx.1.1,hx.1.2,he,m0,ho]
      exact⟨hW.1,gm⟩
    case clear =>
      (repeat' split at hW)<;>try exact hW.elim
      rename_i cP jU _ _ id _ _ _ _ he hz _ _ _ ho
      refine dB (by simp[cls]) trivial hW.2 fun e2 ob K2 hx gm=>?_
      unfold cg
      simp[qV,Op.operands,Call.operands,cP] at hx
      simp only[cP,jU,hx,he,hz,ho]
      exact⟨hW.1,gm⟩
    all_goals (repeat' split at hW)<;>first|exact hW.elim|exact hW.2.elim|refine dA hW ?_|refine dA hW.2 ?_|refine dA hW.2.2 ?_
    all_goals
      intro e2 ob K2 hx gm
      unfold cg
      simp[qV,Op.operands,Call.operands,su,iR,cls, *] at hx ⊢
      first|done|(simp_all;done)|(obtain ⟨_,o',_,hk⟩:=hx;cases o'<;>simp_all [si];done)
  case load t x =>
    simp only at hW
    obtain ⟨hk,hW⟩:=hW
    (repeat' split at hW)<;>try exact hW.elim
    all_goals
      obtain ⟨v,hK,hl⟩:=NC hW
      refine dA hK fun e2 ob K2 hx gm=>?_
      unfold cg
      simp[qV,Op.operands,su,iR,cls, *] at hx
      first|simp only[hx.1,aau hx.2 ‹rowOf _ _ _=_›]|simp only[hx]
      exact⟨hk,hl _ gm⟩
  case store t x y =>
    simp only at hW
    obtain ⟨hk,hW⟩:=hW
    (repeat' split at hW)<;>try exact hW.elim
    rename_i id r c he _ row a6
    have wy:∀ row,nG σ id r row=⟨σ.env,(nG σ id r row).aa⟩∧∀ e,nG ⟨e,σ.aa⟩ id r row=⟨e,(nG σ id r row).aa⟩:=by
      intro row;unfold nG;simp only;split<;>simp_all
    refine dB (by simp[cls]) (aas _ _ _ _) (by have:=hW.2;rw[(wy _).1] at this;exact this) fun e2 ob K2 hx gm=>?_
    have fF:rowOf ⟨e2,σ.aa⟩ id r=some row:=a6
    unfold cg
    simp only[hx.1 x (by simp[Op.operands]),hx.1 y (by simp[Op.operands]),he,fF]
    rw[(wy _).2]
    exact⟨hk,hW.1,gm⟩
  case build t parts =>
    simp only at hW
    (repeat' split at hW)<;>first|exact hW.elim|refine dA hW.2 ?_
    all_goals
      intro e2 ob K2 hx gm
      obtain ⟨h1,h2⟩:=parts_eq (parts:=parts) (by simpa [Op.operands] using hx.1)
      unfold cg
      simp only[h1,h2, *]
      simp[hW.1]
  case buildSlice t _ parts =>
    simp only at hW
    (repeat' split at hW)<;>first|exact hW.elim|refine dB (aV 3) (EE _ _) hW.2 ?_
    intro e2 ob K2 hx gm
    obtain ⟨h1,h2⟩:=parts_eq (parts:=parts) (by simpa [Op.operands] using hx.1)
    unfold cg
    simp only[h1,h2, *]
    simp[hW.1]
  case makeFunc fn first captured =>
    simp only at hW
    split at hW<;>first|exact hW.elim|refine dA hW.2 fun e2 ob K2 hx gm=>?_
    unfold cg
    simp only[qC (l:=captured.toList) (f:=ev ⟨e2,ob⟩) (g:=ev σ) fun y hy=>hx.1 y (by simp only[Op.operands,zF,List.mem_append];exact .inr hy)]
    exact⟨hW.1,gm⟩
  case binOp op t x y yt =>
    simp only at hW
    split at hW
    · rename_i k p k' q he hf
      obtain ⟨hk,hW⟩:=hW
      obtain ⟨v,hK,hl⟩:=aat hW
      refine dA hK fun e2 ob K2 hx gm=>?_
      unfold cg
      simp[qV,Op.operands,he,hf] at hx
      simp only[hx.1.1,hx.1.2]
      exact⟨hk,hl _ gm⟩
    all_goals (repeat' split at hW)<;>first|exact hW.elim|exact hW.2.elim|refine dA hW.2 ?_
    all_goals
      intro e2 ob K2 hx gm
      unfold cg
      simp[qV,Op.operands, *] at hx ⊢
      first|done|(simp_all;done)
  case slice t x lo hi mx =>
    simp only at hW
    obtain ⟨hk,dT,rfl,hW⟩:=hW
    cases lo<;>cases hi<;>simp only[eC,Option.map_none] at hW
    all_goals (repeat' split at hW)<;>first|exact hW.elim|exact hW.2.elim|exact hW.2.2.elim|refine dA hW.2 ?_|refine dA hW.2.2 ?_|refine dA hW.2.2.2 ?_
    all_goals
      intro e2 ob K2 hx gm
      unfold cg
      simp only[dw.injEq] at *
      simp[qV,Op.operands,su,iR,cls, *] at hx ⊢
      first|done|(simp_all;done)|(obtain ⟨_,o',_,hk⟩:=hx;cases o'<;>simp_all [si];done)|(obtain ⟨_,⟨o',_,hk⟩,_⟩:=hx;cases o'<;>simp_all [si];done)|trace_state
  case makeMap t r =>
    simp only at hW
    obtain ⟨⟨rfl,hk⟩,hK⟩:=hW
    refine dB (aV 3) (EE _ _) hK fun e2 ob K2 hx gm=>?_
    unfold cg
    exact⟨⟨rfl,hk⟩,gm⟩
  case lookup t x i ok =>
    simp only at hW
    split at hW
    · rename_i ag l id iA L z ik ng nh
      refine dA hW.2 fun e2 ob K2 hx gm=>?_
      have h1:=hx.1 x (by simp[Op.operands])
      have h2:=hx.1 i (by simp[Op.operands])
      have h3:lC ⟨e2,ob⟩ (ev σ x)=some (id,iA,L):=aav (fun yd cT o ho=>by
        have:=hx.2 x (by simp[Op.operands]) yd (by rw[cT];rfl)
        unfold iR at this
        simp[cls] at this
        exact this o ho) ng
      unfold cg
      simp only[h1,h2,ik,h3,nh]
      exact⟨hW.1,gm⟩
    · exact hW.elim
  case mapUpdate t m k x =>
    simp only at hW
    split at hW
    · rename_i ik ng
      obtain ⟨lD,B0⟩:=hW
      refine dB (v:=.undef) (os:=_) (by simp[cls]) trivial B0 fun e2 ob K2 hx gm=>?_
      have h1:=hx.1 m (by simp[Op.operands])
      have h2:=hx.1 k (by simp[Op.operands])
      have h3:=hx.1 x (by simp[Op.operands])
      have h4:lC ⟨e2,σ.aa⟩ (ev σ m)=_:=ng
      unfold cg
      simp only[h1,h2,h3,ik,h4]
      exact⟨lD,gm⟩
    · exact hW.elim
  case mapEntry t m k =>
    simp only at hW
    split at hW
    · rename_i ik ng nh
      obtain ⟨lD,B0⟩:=hW
      refine dB (v:=_) (os:=_) (by simp[cls]) trivial B0 fun e2 ob K2 hx gm=>?_
      have h1:=hx.1 m (by simp[Op.operands])
      have h2:=hx.1 k (by simp[Op.operands])
      have h4:lC ⟨e2,σ.aa⟩ (ev σ m)=_:=ng
      unfold cg
      simp only[h1,h2,ik,h4,nh]
      exact⟨lD,gm⟩
    · exact hW.elim
  case entryStore t m s x =>
    simp only at hW
    split at hW
    · rename_i hs ng
      obtain ⟨lD,B0⟩:=hW
      refine dB (v:=.undef) (os:=_) (by simp[cls]) trivial B0 fun e2 ob K2 hx gm=>?_
      have h1:=hx.1 m (by simp[Op.operands])
      have h2:=hx.1 s (by simp[Op.operands])
      have h3:=hx.1 x (by simp[Op.operands])
      have h4:lC ⟨e2,σ.aa⟩ (ev σ m)=_:=ng
      unfold cg
      simp only[h1,h2,h3,hs,h4]
      exact⟨lD,gm⟩
    · exact hW.elim
  all_goals (try simp only at hW);(try exact hW.elim)
  all_goals (repeat' split at hW)<;>first|exact hW.elim|exact hW.2.elim|exact hW.2.2.elim|refine dA hW ?_|refine dA hW.2 ?_|refine dA hW.2.2 ?_|refine dA hW.2.2.2 ?_|refine dB (aV 3) (EE _ _) hW.2 ?_|refine dB (aV 3) (EE _ _) hW.2.1 ?_
  all_goals
    intro e2 ob K2 hx gm
    unfold cg
    simp[qV,Op.operands,su,iR,cls,-eW, *] at hx ⊢
    first|done|(simp_all;done)|(obtain ⟨_,rfl,_⟩:=hW;simp_all;done)|(obtain ⟨_,o',_,hk⟩:=hx;cases o'<;>simp_all [si];done)
theorem ZA {o:Oper} {σ:St} {K:St→Prop} (hW:cg P o σ K) :
    ∃ v os,ku (cls o.op) σ.aa os∧K ((⟨σ.env,os⟩:St).put o.dst v)∧∀ (e2:Nat→AV) (K2:St→Prop),(∀ x∈o.op.operands.toList,ev ⟨e2,σ.aa⟩ x=ev σ x)→K2 ((⟨e2,os⟩:St).put o.dst v)→cg P o ⟨e2,σ.aa⟩ K2:=by
  obtain ⟨v,os,h1,h2,h3⟩:=N8 hW
  refine⟨v,os,h1,h2,fun e2 K2 hx hK=>h3 e2 _ os K2 ⟨hx,fun _ _ _ _=>?_⟩ ?_ hK⟩
  · unfold iR
    (repeat' split)<;>first|trivial|exact fun o ho=>ho|exact fun o ho=>⟨o,ho,x7 o⟩
  · split
    · rename_i hc;simpa [ku,hc] using h1
    · exact⟨rfl,rfl⟩
theorem ND {o:Oper} {σ:St} {K:St→Prop} (hc:cls o.op≤2) (hW:cg P o σ K) :
    ∃ v,K (σ.put o.dst v)∧∀ (σ2:St) (K2:St→Prop),(∀ x∈o.op.operands.toList,ev σ2 x=ev σ x)→(∀ x∈o.op.operands.toList,∀ id,su (ev σ x)=some id→iR (cls o.op) σ.aa[id]? σ2.aa[id]?) →
      K2 (σ2.put o.dst v)→cg P o σ2 K2:=by
  obtain ⟨v,os,h1,h2,h3⟩:=N8 hW
  simp only[ku,hc,if_true] at h1 h3
  subst h1
  exact⟨v,h2,fun σ2 K2 hx ho hK=>h3 σ2.env σ2.aa _ K2 ⟨hx,ho⟩ rfl hK⟩
end Go.Am

