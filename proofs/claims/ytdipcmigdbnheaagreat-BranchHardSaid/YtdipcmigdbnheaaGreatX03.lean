import Derived.Test.YtdipcmigdbnheaaGreatX02
set_option linter.unusedVariables false
set_option linter.unusedSimpArgs false
set_option linter.unnecessarySimpa false
set_option linter.unusedSectionVars false
set_option maxHeartbeats 64000000
set_option maxRecDepth 20000
open Bool renaming and_eq_true→bh
open List renaming mem_cons→bZ,mem_of_getElem?→gw,getElem?_map→bN,getElem?_cons_zero→ss,getElem?_append_left→cj,getElem?_set_ne→bu,getElem?_cons_succ→tR,getElem?_append_right→eE,length_cons→dH,eq_nil_of_length_eq_zero→p7,getElem?_eq_some_iff→aS,getD_eq_getElem?_getD→ay,mem_map_of_mem→C7,length_map→dU,mem_map→b7,all_eq_true→fK,map_congr_left→lP
open Option renaming map_eq_some_iff→yv,some→da,map_some→ed
open Nat renaming lt_or_ge→eK,le_refl→aH
open Array renaming toList_append→yu,getD_eq_getD_getElem?→eQ,getElem?_append_left→C8,getElem?_toList→Ax
namespace Go.Am
variable {P:Program}
mutual
def aX (ρ:Nat→Nat):AV→AV
  | .ref id sz off len=>.ref (ρ id) sz off len
  | .ptr id r c=>.ptr (ρ id) r c
  | .agg cs=>.agg (m7 ρ cs)
  | .bL cs=>.bL (m7 ρ cs)
  | .fn f cs=>.fn f (m7 ρ cs)
  | .gz t v=>.gz t (aX ρ v)
  | .gl id=>.gl (ρ id)
  | v=>v
def m7 (ρ:Nat→Nat):List AV→List AV
  | []=>[]
  | v::vs=>aX ρ v::m7 ρ vs
end
theorem ue (ρ:Nat→Nat) (l:List AV):m7 ρ l=l.map (aX ρ):=by
  induction l with
  | nil=>simp[m7]
  | cons v l ih=>simp[m7,ih]
def bC (ρ:Nat→Nat):Ob→Ob
  | .gone=>.gone
  | .var cs=>.var (cs.map (aX ρ))
  | .arr sz rows=>.arr sz (rows.map (·.map (aX ρ)))
  | .mp ag L=>.mp ag (L.map fun p=>(p.1,aX ρ p.2))
mutual
def flat:AV→Bool
  | .tree ..=>false
  | .db _=>false
  | .agg cs=>yR cs
  | .bL cs=>yR cs
  | .fn _ cs=>yR cs
  | .gz _ v=>flat v
  | _=>true
def yR:List AV→Bool
  | []=>true
  | v::vs=>flat v && yR vs
end
theorem G1 {l:List AV} (h:yR l=true):∀ v∈l,flat v=true:=by
  induction l with
  | nil=>intro v hv;simp at hv
  | cons x l ih =>
    simp only[yR,bh] at h
    intro v hv
    rcases bZ.1 hv with rfl | hv
    · exact h.1
    · exact ih h.2 v hv
def tY:Ob→Prop
  | .gone=>True
  | .var cs=>∀ v∈cs,flat v=true
  | .arr _ rows=>∀ row∈rows,∀ v∈row,flat v=true
  | .mp _ L=>∀ p∈L,flat p.2=true
theorem aw.Yw {os:List Ob} {w:World} {Z Z':Nat→Prop} {blk:fU} {v:AV} {cv:Value} (h:aw os w Z blk v cv) (hf:flat v=true):aw os w Z' blk v cv:=by
  induction h with
  | undef cv=>exact .undef cv
  | cd v cv h=>cases h<;>first|exact .cd _ _ (.lit _)|simp[flat] at hf
  | db=>simp[flat] at hf
  | kc id sz off len cv h h1=>exact .kc id sz off len cv h h1
  | lU id r c cv h h1=>exact .lU id r c cv h h1
  | ref id sz off len b o cap cap' rows h hb hl hc j6=>exact .ref id sz off len b o cap cap' rows h hb hl hc j6
  | lC id sz h hb=>exact .lC id sz h hb
  | lV id sz off b x bo rows h hb hl=>exact .lV id sz off b x bo rows h hb hl
  | mF id c b cap cells h hb=>exact .mF id c b cap cells h hb
  | m9 id r c sz b o cap rows h hb=>exact .m9 id r c sz b o cap rows h hb
  | agg cs aY hs _ ih=>simp only[flat] at hf;exact .agg cs aY hs (fun j x hx=>ih j x hx (G1 hf x (gw hx)))
  | bL cs aY hs _ ih=>simp only[flat] at hf;exact .bL cs aY hs (fun j x hx=>ih j x hx (G1 hf x (gw hx)))
  | fn f cs aY hs _ ih=>simp only[flat] at hf;exact .fn f cs aY hs (fun j x hx=>ih j x hx (G1 hf x (gw hx)))
  | gz t v cv _ ih=>simp only[flat] at hf;exact .gz t v cv (ih hf)
  | gl id b ag L h hb=>exact .gl id b ag L h hb
  | pF id cv h h1=>exact .pF id cv h h1
theorem aw.up {os os':List Ob} {w:World} {Z Z':Nat→Prop} {blk jM:fU} {ρ:Nat→Nat} {v:AV} {cv:Value} (h:aw os w Z blk v cv) (hz:∀ b,Z b→Z' b)
    (ho:∀ j o,os[j]?=some o→os'[ρ j]?=some (bC ρ o)∧(o≠.gone→jM (ρ j)=blk j)):aw os' w Z' jM (aX ρ v) cv:=by
  induction h with
  | undef cv=>exact .undef cv
  | cd v cv h =>
    have h':aw os' w Z' jM v cv:=.cd _ _ (h.mono (fun b hb=>⟨hz b hb,rfl⟩))
    cases h<;>simpa [aX] using h'
  | db cells b o f uf hc ht=>exact .db cells b o f (hz b uf) hc (fun j x hx=>(ht j x hx).mono (fun b hb=>⟨hz b hb,rfl⟩))
  | kc id sz off len cv h h1=>exact .kc _ sz off len cv (ho id _ h).1 h1
  | lU id r c cv h h1=>exact .lU _ r c cv (ho id _ h).1 h1
  | ref id sz off len b o cap cap' rows h hb hl hc j6 =>
    obtain ⟨h1,h2⟩:=ho id _ h
    exact .ref _ sz off len b o cap cap' _ h1 ((h2 (by simp)).trans hb) (by simpa using hl) hc j6
  | lC id sz h hb =>
    obtain ⟨h1,h2⟩:=ho id _ h
    exact .lC _ sz h1 ((h2 (by simp)).trans hb)
  | lV id sz off b x bo rows h hb hl =>
    obtain ⟨h1,h2⟩:=ho id _ h
    exact .lV _ sz off b x bo _ h1 ((h2 (by simp)).trans hb) (by simpa using hl)
  | mF id c b cap cells h hb =>
    obtain ⟨h1,h2⟩:=ho id _ h
    exact .mF _ c b cap _ h1 ((h2 (by simp)).trans hb)
  | m9 id r c sz b o cap rows h hb =>
    obtain ⟨h1,h2⟩:=ho id _ h
    exact .m9 _ r c sz b o cap _ h1 ((h2 (by simp)).trans hb)
  | agg cs aY hs _ ih =>
    simp only[aX,ue]
    refine .agg _ aY (by simpa using hs) (fun j x hx=>?_)
    simp only[bN,yv] at hx
    obtain ⟨y,hy,rfl⟩:=hx
    exact ih j y hy
  | bL cs aY hs _ ih =>
    simp only[aX,ue]
    refine .bL _ aY (by simpa using hs) (fun j x hx=>?_)
    simp only[bN,yv] at hx
    obtain ⟨y,hy,rfl⟩:=hx
    exact ih j y hy
  | fn f cs aY hs _ ih =>
    simp only[aX,ue]
    refine .fn f _ aY (by simpa using hs) (fun j x hx=>?_)
    simp only[bN,yv] at hx
    obtain ⟨y,hy,rfl⟩:=hx
    exact ih j y hy
  | gz t v cv _ ih=>simp only[aX];exact .gz t _ cv ih
  | gl id b ag L h hb =>
    obtain ⟨h1,h2⟩:=ho id _ h
    exact .gl _ b ag _ h1 ((h2 (by simp)).trans hb)
  | pF id cv h h1=>exact .pF _ cv (ho id _ h).1 h1
theorem AP {ρ:Nat→Nat} {o:Ob}:bC ρ o=.gone↔o=.gone:=by cases o<;>simp[bC]
theorem Ob.Yx {ρ:Nat→Nat} {x y:Ob} (h:x.dX y):(bC ρ x).dX (bC ρ y):=by
  cases x<;>cases y<;>simp[Ob.dX,bC] at h ⊢<;>exact h
theorem aw.down {os os':List Ob} {w:World} {Z Z':Nat→Prop} {blk jM:fU} {ρ:Nat→Nat} {v:AV} {cv:Value} (h:aw os w Z blk v cv) (hz:∀ b,Z b→Z' b)
    (ho:∀ j x,os[ρ j]?=some x→∃ o,os'[j]?=some o∧(o=.gone∨(x=bC ρ o∧jM j=blk (ρ j)))):∀ v',v=aX ρ v'→aw os' w Z' jM v' cv:=by
  induction h with
  | undef cv=>intro v' hv;cases v'<;>simp[aX] at hv;exact .undef cv
  | cd v cv h =>
    intro v' hv
    have h':aw os' w Z' jM v cv:=.cd _ _ (h.mono (fun b hb=>⟨hz b hb,rfl⟩))
    cases h<;>cases v'<;>simp[aX] at hv<;>(first|(subst hv;exact h')|(obtain ⟨rfl,rfl⟩:=hv;exact h'))
  | db cells b o f uf hc ht =>
    intro v' hv
    cases v'<;>simp[aX] at hv
    subst hv
    exact .db _ b o f (hz b uf) hc (fun j x hx=>(ht j x hx).mono (fun b hb=>⟨hz b hb,rfl⟩))
  | kc id sz off len cv h h1 =>
    intro v' hv
    cases v'<;>simp[aX] at hv
    obtain ⟨rfl,rfl,rfl,rfl⟩:=hv
    obtain ⟨o,h2,rfl | ⟨h3,_⟩⟩:=ho _ _ h
    · exact .kc _ _ _ _ cv h2 h1
    · have:=AP.1 h3.symm
      subst this
      exact .kc _ _ _ _ cv h2 h1
  | lU id r c cv h h1 =>
    intro v' hv
    cases v'<;>simp[aX] at hv
    obtain ⟨rfl,rfl,rfl⟩:=hv
    obtain ⟨o,h2,rfl | ⟨h3,_⟩⟩:=ho _ _ h
    · exact .lU _ _ _ cv h2 h1
    · have:=AP.1 h3.symm
      subst this
      exact .lU _ _ _ cv h2 h1
  | ref id sz off len b o cap cap' rows h hb hl hc j6 =>
    intro v' hv
    cases v'<;>simp[aX] at hv
    obtain ⟨rfl,rfl,rfl,rfl⟩:=hv
    obtain ⟨x,h2,rfl | ⟨h3,h4⟩⟩:=ho _ _ h
    · exact .kc _ _ _ _ _ h2 rfl
    · cases x<;>simp[bC] at h3
      obtain ⟨rfl,rfl⟩:=h3
      exact .ref _ _ _ _ b o cap cap' _ h2 (h4.trans hb) (by simpa using hl) hc j6
  | lC id sz h hb =>
    intro v' hv
    cases v'<;>simp[aX] at hv
    obtain ⟨rfl,rfl,rfl,rfl⟩:=hv
    obtain ⟨x,h2,rfl | ⟨h3,h4⟩⟩:=ho _ _ h
    · exact .kc _ _ _ _ _ h2 rfl
    · cases x<;>simp[bC] at h3
      obtain ⟨rfl,h3⟩:=h3
      subst h3
      exact .lC _ _ h2 (h4.trans hb)
  | lV id sz off b x bo rows h hb hl =>
    intro v' hv
    cases v'<;>simp[aX] at hv
    obtain ⟨rfl,rfl,rfl,rfl⟩:=hv
    obtain ⟨y,h2,rfl | ⟨h3,h4⟩⟩:=ho _ _ h
    · exact .kc _ _ _ _ _ h2 rfl
    · cases y<;>simp[bC] at h3
      obtain ⟨rfl,rfl⟩:=h3
      exact .lV _ _ _ b x bo _ h2 (h4.trans hb) (by simpa using hl)
  | mF id c b cap cells h hb =>
    intro v' hv
    cases v'<;>simp[aX] at hv
    obtain ⟨rfl,rfl,rfl⟩:=hv
    obtain ⟨y,h2,rfl | ⟨h3,h4⟩⟩:=ho _ _ h
    · exact .lU _ _ _ _ h2 rfl
    · cases y<;>simp[bC] at h3
      exact .mF _ _ b cap _ h2 (h4.trans hb)
  | m9 id r c sz b o cap rows h hb =>
    intro v' hv
    cases v'<;>simp[aX] at hv
    obtain ⟨rfl,rfl,rfl⟩:=hv
    obtain ⟨y,h2,rfl | ⟨h3,h4⟩⟩:=ho _ _ h
    · exact .lU _ _ _ _ h2 rfl
    · cases y<;>simp[bC] at h3
      obtain ⟨rfl,rfl⟩:=h3
      exact .m9 _ _ _ _ b o cap _ h2 (h4.trans hb)
  | agg cs aY hs _ ih =>
    intro v' hv
    cases v'<;>simp[aX,ue] at hv
    rename_i pG
    subst hv
    exact .agg _ aY (by simpa using hs) (fun j x hx=>ih j (aX ρ x) (by simp[hx]) x rfl)
  | bL cs aY hs _ ih =>
    intro v' hv
    cases v'<;>simp[aX,ue] at hv
    rename_i pG
    subst hv
    exact .bL _ aY (by simpa using hs) (fun j x hx=>ih j (aX ρ x) (by simp[hx]) x rfl)
  | fn f cs aY hs _ ih =>
    intro v' hv
    cases v'<;>simp[aX,ue] at hv
    obtain ⟨rfl,hv⟩:=hv
    subst hv
    exact .fn _ _ aY (by simpa using hs) (fun j x hx=>ih j (aX ρ x) (by simp[hx]) x rfl)
  | gz t v cv _ ih =>
    intro v' hv
    cases v'<;>simp[aX] at hv
    obtain ⟨rfl,hv⟩:=hv
    exact .gz _ _ cv (ih _ hv)
  | gl id b ag L h hb =>
    intro v' hv
    cases v'<;>simp[aX] at hv
    subst hv
    obtain ⟨y,h2,rfl | ⟨h3,h4⟩⟩:=ho _ _ h
    · exact .pF _ _ h2 rfl
    · cases y<;>simp[bC] at h3
      obtain ⟨rfl,h3⟩:=h3
      exact .gl _ b _ _ h2 (h4.trans hb)
  | pF id cv h h1 =>
    intro v' hv
    cases v'<;>simp[aX] at hv
    subst hv
    obtain ⟨y,h2,rfl | ⟨h3,h4⟩⟩:=ho _ _ h
    · exact .pF _ _ h2 h1
    · exact .pF _ _ (by rw[h2,AP.1 h3.symm]) h1
def ML (P : Program) (f : FuncId) : Prop := ∃ fn, P.funcs[f]? = some fn ∧ (fn.name == "runtime.NumGoroutine") = false ∧ fn.body.isNone = false
def ao (P:Program) (f:FuncId) (args:List AV) (aa:List Ob) (res:AV) (ba:List Ob):Prop :=
  ML P f∧∀ γ:Cx,γ.tmps.size=args.length→br ⟨fun k=>args.getD k .undef,aa⟩ γ →
    Calls P f γ.tmps γ.w (fun e w'=>∃ cv aB,e=.returned cv∧aB.w=w'∧aB.tmps = #[cv]∧br ⟨fun k=>[res].getD k .undef,ba⟩ aB∧Fr aa γ ba aB)
inductive bV (σ:St) (kp:Nat→Prop):AV→AV→Prop
  | lit (x:Value):bV σ kp (.lit x) (.lit x)
  | tree (s:Nat) (r:List (List AV)):bV σ kp (.tree s r) (.tree s r)
  | nil (sz:Nat):bV σ kp (.tree sz []) (.lit (.slice none 0 0))
  | ref (id sz off len:Nat) (rows fT:List (List AV)) (g:Nat→Nat→AV) (ho:σ.aa[id]?=some (.arr sz rows)) (qj:¬ kp id) (hl:fT.length=((rows.drop off).take len).length) (hw:∀ row∈fT,row.length=sz)
      (h1:∀ r c v,cellAt fT r c=some v→cellAt ((rows.drop off).take len) r c=some (g r c)) (h2:∀ r c v,cellAt fT r c=some v→bV σ kp v (g r c)):bV σ kp (.tree sz fT) (.ref id sz off len)
inductive aN (σ:St) (kp:Nat→Prop) (ρ:Nat→Nat) (snap:Bool):AV→AV→Prop
  | same (v:AV):aN σ kp ρ snap v (aX ρ v)
  | snap (c d:AV) (hs:snap=true) (h:bV σ kp c d):aN σ kp ρ snap c d
  | agg (cs ds:List AV) (hl:cs.length=ds.length) (h:∀ (j:Nat) c d,cs[j]?=some c→ds[j]?=some d→aN σ kp ρ snap c d):aN σ kp ρ snap (.agg cs) (.agg ds)
  | bL (cs ds:List AV) (hl:cs.length=ds.length) (h:∀ (j:Nat) c d,cs[j]?=some c→ds[j]?=some d→aN σ kp ρ snap c d):aN σ kp ρ snap (.bL cs) (.bL ds)
def bd (n:Nat) (aj:List Nat) (j:Nat):Nat:=if j<aj.length then aj.getD j 0 else n+(j - aj.length)
def dM (aa:List Ob):List Nat→List Ob→List Ob
  | i::aj,o::new=>dM (aa.set i o) aj new
  | [],new=>aa++new
  | _::_,[]=>aa
theorem GV (aj:List Nat):∀ (aa new:List Ob),aj.length≤new.length→(dM aa aj new).length=aa.length+(new.length - aj.length):=by
  induction aj with
  | nil=>intro aa new _;simp[dM]
  | cons i aj ih =>
    intro aa new h
    cases new with
    | nil=>simp at h
    | cons o new=>simp only[dM];rw[ih _ _ (by simpa using h)];simp
theorem Dx (aj:List Nat):∀ (aa new:List Ob),aj.length≤new.length→aj.Nodup→(∀ i∈aj,i<aa.length)→∀ j,j<aj.length→(dM aa aj new)[aj.getD j 0]?=new[j]?:=by
  induction aj with
  | nil=>intro aa new _ _ _ j hj;simp at hj
  | cons i aj ih =>
    intro aa new h hn hl j hj
    cases new with
    | nil=>simp at h
    | cons o new =>
      simp only[dM]
      rw[List.nodup_cons] at hn
      have hi:=hl i (by simp)
      have h':aj.length≤new.length:=by simpa using h
      cases j with
      | zero =>
        simp only[List.getD_cons_zero,ss]
        have key:∀ (aj:List Nat) (aa new:List Ob),aj.length≤new.length→i ∉ aj→i<aa.length→(dM aa aj new)[i]?=aa[i]?:=by
          intro aj
          induction aj with
          | nil=>intro aa new _ _ hi;simp only[dM];rw[cj hi]
          | cons k aj Yy =>
            intro aa new h wX hi
            cases new with
            | nil=>simp at h
            | cons o new =>
              simp only[bZ,not_or] at wX
              simp only[dM]
              rw[Yy _ _ (by simpa using h) wX.2 (by simpa using hi),bu (Ne.symm wX.1)]
        rw[key aj _ _ h' hn.1 (by simpa using hi)]
        simp[hi]
      | succ j =>
        simp only[List.getD_cons_succ,tR]
        exact ih _ _ h' hn.2 (fun k hk=>by simpa using hl k (by simp[hk])) j (by simpa using hj)
theorem DD (aj:List Nat):∀ (aa new:List Ob),aj.length≤new.length→∀ i,i ∉ aj→i<aa.length→(dM aa aj new)[i]?=aa[i]?:=by
  induction aj with
  | nil=>intro aa new _ i _ hi;simp only[dM];rw[cj hi]
  | cons k aj ih =>
    intro aa new h i wX hi
    cases new with
    | nil=>simp at h
    | cons o new =>
      simp only[bZ,not_or] at wX
      simp only[dM]
      rw[ih _ _ (by simpa using h) i wX.2 (by simpa using hi),bu (Ne.symm wX.1)]
theorem Mu (aj:List Nat):∀ (aa new:List Ob),aj.length≤new.length→∀ m,(dM aa aj new)[aa.length+m]?=new[aj.length+m]?:=by
  induction aj with
  | nil=>intro aa new _ m;simp only[dM];rw[eE (by omega)];simp
  | cons k aj ih =>
    intro aa new h m
    cases new with
    | nil=>simp at h
    | cons o new =>
      simp only[dM]
      have:=ih (aa.set k o) new (by simpa using h) m
      simp only[List.length_set] at this
      rw[this]
      simp only[dH]
      have e:aj.length+1+m=(aj.length+m)+1:=by omega
      rw[e];simp
end Go.Am
namespace Go.Am
variable {P:Program}
def DE (P:Program) (f:FuncId) (args:List AV) (σ:St) (K:AV→St→Prop):Prop :=
  ∃ (aj:List Nat) (snap:Bool) (cW:List AV) (bM:List Ob) (res:AV) (cz:List Ob),ao P f cW bM res cz ∧
    (aj.Nodup∧bM.length=aj.length∧(∀ (j:Nat) o,bM[j]?=some o→σ.aa[aj.getD j 0]?=some (bC (bd σ.aa.length aj) o)) ∧
      cW.length=args.length∧(∀ (j:Nat) c d,cW[j]?=some c→args[j]?=some d→aN σ (·∈aj) (bd σ.aa.length aj) snap c d) ∧
      (snap=true→flat res=true∧∀ o∈cz,tY o)) ∧
    K (aX (bd σ.aa.length aj) res) { σ with aa:=dM σ.aa aj (cz.map (bC (bd σ.aa.length aj))) }
theorem bV.AQ {σ:St} {γ:Cx} (h:br σ γ) {kp:Nat→Prop} {γc:Cx}
    (hz:∀ b,γ.Z b→γc.Z b) (hw:γc.w=γ.w) (G2:∀ id b o cap,¬ kp id→Live σ.aa id→γ.blk id=some (b,o,cap)→γc.Z b)
    {c d:AV} (ha:bV σ kp c d):∀ cv,aw σ.aa γ.w γ.Z γ.blk d cv→gy γc.w γc.Z c cv:=by
  induction ha with
  | lit x=>intro cv hv;rw[hv.cH];exact .lit x
  | tree s r=>intro cv hv;exact hv.wY.mono (fun b hb=>⟨hz b hb,by rw[hw]⟩)
  | nil sz=>intro cv hv;rw[hv.cH];exact .nil sz 0 none
  | ref id sz off len rows fT g aZ qj hl0 Dm sI ql ih =>
    intro cv hv
    obtain ⟨h0,cK,Yz⟩:=h.er id _ aZ
    have cq:Live σ.aa id:=⟨_,aZ,by simp⟩
    cases hv with
    | cd _ _ h=>cases h
    | kc _ _ _ _ _ h=>rw[aZ] at h;simp at h
    | lC _ _ h' hb =>
      have:fT=[]:=p7 (by simpa using hl0)
      subst this;exact gy.nil sz 0 none
    | lV _ _ _ b x bo YA h' hb hl =>
      have:fT=[]:=p7 (by simpa using hl0)
      subst this;exact gy.nil sz 0 (some ⟨b,x,none⟩)
    | ref _ _ _ _ b o cap cap' YA h' hb hl hc j6 =>
      rw[aZ] at h';simp at h'
      subst h'
      rcases Yz with ⟨h1,_⟩ | ⟨b',o',AR,cur,t,h1,h2,h3,h4,h5,h6⟩
      · rw[hb] at h1;simp at h1
      · rw[hb] at h1;simp at h1
        obtain ⟨rfl,rfl,rfl⟩:=h1
        have hlen:((rows.drop off).take len).length=len:=by simp;omega
        have qf:∀ r c v,cellAt ((rows.drop off).take len) r c=some v→cellAt rows (off+r) c=some v∧r<len:=by
          intro r c v hv
          simp only[cellAt,List.getElem?_take,List.getElem?_drop] at hv
          split at hv
          · exact⟨hv,by assumption⟩
          · simp at hv
        have GG:γc.Z b:=G2 id b o cap qj cq hb
        have:=gy.tree (w:=γc.w) (Z:=γc.Z) sz fT b (o+off * sz) cap' (fun r c=>cur.getD (o+((off+r) * sz+c)) Go.undef) GG
          Dm (by rw[hl0,hlen];exact j6)
          (fun r c v hv=>by
            obtain ⟨oU,hr⟩:=qf r c _ (sI r c v hv)
            obtain ⟨rj,jA⟩:=AS cK oU
            have bj:=wZ (show off+r<cap by omega) jA
            rw[hw]
            have e:o+off * sz+(r * sz+c)=o+((off+r) * sz+c):=by rw[Nat.add_mul];omega
            rw[e]
            exact yS h2 (by omega))
          (fun r c v hv=>by
            obtain ⟨oU,_⟩:=qf r c _ (sI r c v hv)
            exact ih r c v hv _ (h6 _ _ _ oU))
        rw[hl0,hlen] at this
        exact this
theorem aN.rel {σ:St} {γ:Cx} (h:br σ γ) {kp:Nat→Prop} {ρ:Nat→Nat} {bM:List Ob} {snap:Bool} {γc:Cx}
    (hz:∀ b,γ.Z b→γc.Z b) (hw:γc.w=γ.w) (G2:snap=true→∀ id b o cap,¬ kp id→Live σ.aa id→γ.blk id=some (b,o,cap)→γc.Z b)
    (ho:∀ j x,σ.aa[ρ j]?=some x→∃ o,bM[j]?=some o∧(o=.gone∨(x=bC ρ o∧γc.blk j=γ.blk (ρ j))))
    {c d:AV} (ha:aN σ kp ρ snap c d):∀ cv,aw σ.aa γ.w γ.Z γ.blk d cv→aw bM γc.w γc.Z γc.blk c cv:=by
  induction ha with
  | same v =>
    intro cv hv
    rw[hw]
    exact hv.down hz ho v rfl
  | snap c d hs hf =>
    intro cv hv
    exact .cd _ _ (hf.AQ h hz hw (G2 hs) cv hv)
  | agg cs ds hl _ ih =>
    intro cv hv
    obtain ⟨aY,rfl,h1,h2⟩:=hv.MN
    refine .agg cs aY (by omega) (fun j x hx=>?_)
    have hj:j<ds.length:=by have:=(aS.1 hx).1;omega
    exact ih j x ds[j] hx (by simp[hj]) _ (h2 j _ (by simp[hj]))
  | bL cs ds hl _ ih =>
    intro cv hv
    obtain ⟨aY,rfl,h1,h2⟩:=hv.MO
    refine .bL cs aY (by omega) (fun j x hx=>?_)
    have hj:j<ds.length:=by have:=(aS.1 hx).1;omega
    exact ih j x ds[j] hx (by simp[hj]) _ (h2 j _ (by simp[hj]))
theorem MP {n:Nat} {aj:List Nat} (_hs:∀ i∈aj,i<n) {j:Nat} (h:bd n aj j<n):j<aj.length∧bd n aj j=aj.getD j 0:=by
  unfold bd at h ⊢
  split
  · exact⟨by assumption,rfl⟩
  · rename_i hj
    rw[if_neg hj] at h
    omega
theorem az {aj:List Nat} {j:Nat} (h:j<aj.length):aj.getD j 0∈aj:=by
  rw[ay];simp[h]
theorem MQ {aj:List Nat} (hn:aj.Nodup) {i j:Nat} (hi:i<aj.length) (hj:j<aj.length) (h:aj.getD i 0=aj.getD j 0):i=j:=by
  rw[ay,ay] at h
  simp[hi,hj] at h
  exact (List.getElem_inj hn).1 h
theorem DF {aj:List Nat} {i:Nat} (h:i∈aj) :∃j,j<aj.length∧aj.getD j 0=i:=by
  obtain ⟨j,hj⟩:=List.mem_iff_getElem?.1 h
  have:=(aS.1 hj).1
  exact⟨j,this,by rw[ay,hj];rfl⟩
def fF (P:Program) (f:FuncId) (args:List AV) (aa:List Ob) (ij:AV→List Ob→Prop):Prop :=
  ML P f∧∀ γ:Cx,γ.tmps.size=args.length→br ⟨fun k=>args.getD k .undef,aa⟩ γ →
    Calls P f γ.tmps γ.w (fun e w'=>∃ res ba cv aB,ij res ba∧e=.returned cv∧aB.w=w'∧aB.tmps = #[cv]∧br ⟨fun k=>[res].getD k .undef,ba⟩ aB∧Fr aa γ ba aB)
def G3 (P:Program) (f:FuncId) (args:List AV) (σ:St) (K:AV→St→Prop):Prop :=
  ∃ (aj:List Nat) (snap:Bool) (cW:List AV) (bM:List Ob) (ij:AV→List Ob→Prop),fF P f cW bM ij ∧
    (aj.Nodup∧bM.length=aj.length∧(∀ (j:Nat) o,bM[j]?=some o→σ.aa[aj.getD j 0]?=some (bC (bd σ.aa.length aj) o)) ∧
      cW.length=args.length∧(∀ (j:Nat) c d,cW[j]?=some c→args[j]?=some d→aN σ (·∈aj) (bd σ.aa.length aj) snap c d)) ∧
    ∀ res cz,ij res cz→(snap=true→flat res=true∧∀ o∈cz,tY o) ∧
      K (aX (bd σ.aa.length aj) res) { σ with aa:=dM σ.aa aj (cz.map (bC (bd σ.aa.length aj))) }
theorem MR {σ:St} {γ:Cx} (h:br σ γ) {f:FuncId} {args:List AV} {argv:Array Value} (aW:argv.size=args.length) (G4:∀ (j:Nat) d,args[j]?=some d→aw σ.aa γ.w γ.Z γ.blk d (argv.getD j Go.undef))
    {K:AV→St→Prop} (hc:G3 P f args σ K) :
    Calls P f argv γ.w (fun e w'=>∃ cv v σ' aB,e=.returned cv∧aB.w=w'∧aB.tmps=γ.tmps∧br σ' aB∧Fr σ.aa γ σ'.aa aB∧aw σ'.aa aB.w aB.Z aB.blk v cv∧K v σ'∧σ'.env=σ.env):=by
  obtain ⟨aj,snap,cW,bM,ij,hH,⟨bR,ca,kd,ik,mC⟩,YB⟩:=hc
  have fL:∀ i∈aj,i<σ.aa.length:=by
    intro i hi
    obtain ⟨j,hj,rfl⟩:=DF hi
    have:j<bM.length:=by omega
    exact (aS.1 (kd j bM[j] (by simp[this]))).1
  let ρ:=bd σ.aa.length aj
  let S:Nat→Prop:=fun b=>snap=true∧∃ id o cap,id ∉ aj∧Live σ.aa id∧γ.blk id=some (b,o,cap)
  let γc:Cx:={ w:=γ.w,tmps:=argv,Z:=fun b=>γ.Z b∨S b,blk:=fun j=>if j<aj.length then γ.blk (aj.getD j 0) else none }
  have ug:∀ j x,σ.aa[ρ j]?=some x→∃ o,bM[j]?=some o∧(o=.gone∨(x=bC ρ o∧γc.blk j=γ.blk (ρ j))):=by
    intro j x hx
    obtain ⟨hj,hr⟩:=MP fL (aS.1 hx).1
    have lD:j<bM.length:=by omega
    have:=kd j bM[j] (by simp[lD])
    refine⟨bM[j],by simp[lD],.inr ⟨?_,?_⟩⟩
    · have cX:σ.aa[bd σ.aa.length aj j]?=some x:=hx
      rw[hr,this] at cX
      simpa using cX.symm
    · show (if j<aj.length then γ.blk (aj.getD j 0) else none)=γ.blk (bd σ.aa.length aj j)
      rw[if_pos hj,hr]
  have je:∀ b,γ.Z b→γc.Z b:=fun b hb=>.inl hb
  have sM:∀ j,Live bM j→Live σ.aa (aj.getD j 0)∧j<aj.length:=by
    rintro j ⟨o,ho,hg⟩
    have hj:=(aS.1 ho).1
    exact⟨⟨_,kd j o ho,fun e=>hg (AP.1 e)⟩,by omega⟩
  have pH:=fun {i b o c}=>h.blt (i:=i) (b:=b) (o:=o) (c:=c)
  have G5:br ⟨fun k=>cW.getD k .undef,bM⟩ γc:=by
    refine⟨fun k=>?_,?_,?_,?_,?_⟩
    · rcases eK k cW.length with hk | hk
      · have e:cW.getD k .undef=cW[k]:=by simp[hk]
        show aw bM γc.w γc.Z γc.blk (cW.getD k .undef) _
        rw[e]
        have mG:k<args.length:=by omega
        exact (mC k cW[k] args[k] (by simp[hk]) (by simp[mG])).rel h je rfl (fun hs id b o cap cN hl hb=>.inr ⟨hs,id,o,cap,cN,hl,hb⟩) ug _ (G4 k _ (by simp[mG]))
      · have e:cW.getD k .undef=.undef:=by simp[hk]
        show aw bM γc.w γc.Z γc.blk (cW.getD k .undef) _
        rw[e]
        exact .undef _
    · intro j o ho
      have hj:=(aS.1 ho).1
      have AT:j<aj.length:=by rw[← ca];exact hj
      have aZ:=h.er _ _ (kd j o ho)
      have hb:γc.blk j=γ.blk (aj.getD j 0):=by show (if j<aj.length then _ else _)=_;rw[if_pos AT]
      cases o with
      | gone=>trivial
      | var cells =>
        obtain ⟨b,cap,cur,t,h1,h2,h3,h4⟩:=aZ
        exact⟨b,cap,cur,t,hb.trans h1,h2,by simpa using h3,fun c v hv=>(h4 c (aX ρ v) (by simp[hv];rfl)).down je ug v rfl⟩
      | mp ag L =>
        obtain ⟨b,f,h1,h2,h3,h4⟩:=aZ
        refine⟨b,f,hb.trans h1,?_,fun p hp=>h3 (p.1,aX ρ p.2) (C7 (f:=fun p:List Int × AV=>(p.1,aX ρ p.2)) hp),fun j p hp=>(h4 j (p.1,aX ρ p.2) (by simp only[bN,hp];rfl)).down je ug p.2 rfl⟩
        rw[G6,dU] at h2;exact h2
      | arr sz rows =>
        obtain ⟨h0,hr,aZ⟩:=aZ
        refine⟨h0,fun row a6=>by simpa using hr (row.map (aX ρ)) (C7 a6),?_⟩
        rcases aZ with ⟨h1,h2⟩ | ⟨b,o,cap,cur,t,h1,h2,h3,h4,h5,h6⟩
        · exact .inl ⟨hb.trans h1,by simpa using h2⟩
        · refine .inr ⟨b,o,cap,cur,t,hb.trans h1,h2,h3,by simpa using h4,h5,fun r c v hv=>(h6 r c (aX ρ v) ?_).down je ug v rfl⟩
          simp only[cellAt,bN] at hv ⊢
          cases eV:rows[r]? with
          | none=>simp[eV] at hv
          | some row=>simp[eV] at hv ⊢;exact⟨v,hv,rfl⟩
    · intro i j b o c o' c' hi hj fM gn
      obtain ⟨h1,h2⟩:=sM i hi
      obtain ⟨h3,h4⟩:=sM j hj
      have e1:γc.blk i=γ.blk (aj.getD i 0):=by show (if i<aj.length then _ else _)=_;rw[if_pos h2]
      have e2:γc.blk j=γ.blk (aj.getD j 0):=by show (if j<aj.length then _ else _)=_;rw[if_pos h4]
      exact MQ bR h2 h4 (h.inj _ _ b o c o' c' h1 h3 (e1 ▸ fM) (e2 ▸ gn))
    · rintro b ⟨i,o,c,hi,hb⟩ hz
      obtain ⟨h1,h2⟩:=sM i hi
      have e1:γc.blk i=γ.blk (aj.getD i 0):=by show (if i<aj.length then _ else _)=_;rw[if_pos h2]
      rw[e1] at hb
      rcases hz with hz | ⟨_,id,o',cap',cN,hl,cU⟩
      · exact h.nz b ⟨_,o,c,h1,hb⟩ hz
      · have:=h.inj _ _ b o c o' cap' h1 hl hb cU
        exact cN (this ▸ az h2)
    · rintro b (hb | ⟨_,id,o,cap,_,hl,hb⟩)
      · exact h.gB b hb
      · exact pH hl hb
  have nf:=hH.2 γc (by show argv.size=_;omega) G5
  refine nf.mono ?_
  rintro e w' ⟨res,cz,cv,aB,G7,rfl,rfl,vn,gX,fV⟩
  obtain ⟨MS,hK⟩:=YB res cz G7
  have YC:aj.length≤cz.length:=by have:=fV.len;omega
  let new:=cz.map (bC ρ)
  have ak:aj.length≤new.length:=by simpa [new] using YC
  let nT:=dM σ.aa aj new
  let iH:Cx:={ w:=aB.w,tmps:=γ.tmps,Z:=fun b=>aB.Z b∧¬ S b,blk:=fun i=>if i<σ.aa.length then γ.blk i else aB.blk (aj.length+(i - σ.aa.length)) }
  have AU:∀ j o,cz[j]?=some o→nT[ρ j]?=some (bC ρ o)∧(o≠.gone→iH.blk (ρ j)=aB.blk j):=by
    intro j o ho
    by_cases hj:j<aj.length
    · have e:ρ j=aj.getD j 0:=by show bd _ _ _=_;simp only[bd];rw[if_pos hj]
      have cp:=fL _ (az hj)
      refine⟨?_,fun hg=>?_⟩
      · rw[e]
        show (dM σ.aa aj new)[aj.getD j 0]?=_
        rw[Dx aj σ.aa new ak bR fL j hj]
        simp[new,ho]
      · rw[e]
        show (if aj.getD j 0<σ.aa.length then _ else _)=_
        rw[if_pos cp]
        have:=(fV.kG j (by omega) ⟨o,ho,hg⟩).1
        rw[this]
        show _=if j<aj.length then _ else _
        rw[if_pos hj]
    · have e:ρ j=σ.aa.length+(j - aj.length):=by show bd _ _ _=_;simp only[bd];rw[if_neg hj]
      have e2:aj.length+(j - aj.length)=j:=by omega
      refine⟨?_,fun hg=>?_⟩
      · rw[e]
        show (dM σ.aa aj new)[_]?=_
        rw[Mu aj σ.aa new ak,e2]
        simp[new,ho]
      · rw[e]
        show (if σ.aa.length+(j - aj.length)<σ.aa.length then _ else aB.blk (aj.length+(σ.aa.length+(j - aj.length) - σ.aa.length)))=_
        rw[if_neg (by omega)]
        congr 1;omega
  have MT:∀ b,S b→¬ γ.Z b:=by
    rintro b ⟨_,id,o,cap,_,hl,hb⟩
    exact h.nz b ⟨id,o,cap,hl,hb⟩
  have yT:∀ b,nU bM γc.blk b→∃ i∈aj,∃ o cap,Live σ.aa i∧γ.blk i=some (b,o,cap):=by
    rintro b ⟨j,o,c,hl,hb⟩
    obtain ⟨h1,h2⟩:=sM j hl
    have e1:γc.blk j=γ.blk (aj.getD j 0):=by show (if j<aj.length then _ else _)=_;rw[if_pos h2]
    exact⟨_,az h2,o,c,h1,e1 ▸ hb⟩
  have YD:∀ i,i ∉ aj→Live σ.aa i→∀ b o c,γ.blk i=some (b,o,c)→aB.w.heap[b]?=γ.w.heap[b]?:=by
    intro i hi hl b o c hb
    refine fV.fC b (pH hl hb) (fun ho=>?_)
    obtain ⟨i',hi',o',c',il,cU⟩:=yT b ho
    have:=h.inj _ _ b o c o' c' hl il hb cU
    exact hi (this ▸ hi')
  have MU:∀ v cv,aw σ.aa γ.w γ.Z γ.blk v cv→aw nT iH.w iH.Z iH.blk v cv:=by
    intro v cv hv
    refine hv.mono (fun b hb=>⟨⟨fV.z0 b (je b hb),fun hs=>MT b hs hb⟩,?_⟩) (fun i o ho=>?_)
    · refine fV.fC b (h.gB b hb) (fun ho=>?_)
      obtain ⟨i',_,o',c',il,cU⟩:=yT b ho
      exact h.nz b ⟨i',o',c',il,cU⟩ hb
    · have hi:=(aS.1 ho).1
      have fG:iH.blk i=γ.blk i:=by show (if i<σ.aa.length then _ else _)=_;rw[if_pos hi]
      by_cases mH:i∈aj
      · obtain ⟨j,hj,rfl⟩:=DF mH
        have lD:j<cz.length:=by omega
        have w0:nT[aj.getD j 0]?=some (bC ρ cz[j]):=by
          show (dM σ.aa aj new)[aj.getD j 0]?=_
          rw[Dx aj σ.aa new ak bR fL j hj]
          simp[new,lD]
        by_cases hg:cz[j]=.gone
        · left;rw[w0,hg];rfl
        · right
          refine⟨fG,_,w0,?_⟩
          obtain ⟨_,x,x',hx,cX,ke⟩:=fV.kG j (by omega) ⟨cz[j],by simp[lD],hg⟩
          have e1:cz[j]=x':=by simpa [lD] using cX
          have e2:=kd j x hx
          rw[ho] at e2
          simp at e2
          rw[e1,e2]
          exact Ob.Yx ke
      · have w0:nT[i]?=some o:=by
          show (dM σ.aa aj new)[i]?=_
          rw[DD aj σ.aa new ak i mH hi];exact ho
        by_cases hg:o=.gone
        · subst hg;exact .inl w0
        · exact .inr ⟨fG,o,w0,Ob.jB hg⟩
  have DG:∀ v cv,aw cz aB.w aB.Z aB.blk v cv→(snap=true→flat v=true)→aw nT iH.w iH.Z iH.blk (aX ρ v) cv:=by
    intro v cv hv eW
    by_cases mI:snap=true
    · exact (hv.Yw (Z':=iH.Z) (eW mI)).up (fun b hb=>hb) AU
    · exact hv.up (fun b hb=>⟨hb,fun hs=>mI hs.1⟩) AU
  have mJ:∀ i,Live nT i→(i<σ.aa.length∧i ∉ aj∧Live σ.aa i∧iH.blk i=γ.blk i)∨∃ j,Live cz j∧i=ρ j∧iH.blk i=aB.blk j:=by
    rintro i ⟨o,ho,hg⟩
    have hlen:=(aS.1 ho).1
    have Dy:nT.length=σ.aa.length+(new.length - aj.length):=GV aj σ.aa new ak
    have MV:new.length=cz.length:=by simp[new]
    rcases eK i σ.aa.length with hi | hi
    · by_cases mH:i∈aj
      · right
        obtain ⟨j,hj,rfl⟩:=DF mH
        have lD:j<cz.length:=by omega
        have e:ρ j=aj.getD j 0:=by show bd _ _ _=_;simp only[bd];rw[if_pos hj]
        have hx:=AU j cz[j] (by simp[lD])
        rw[e] at hx
        rw[ho] at hx
        simp only[da.injEq] at hx
        have qt:cz[j]≠.gone:=by intro h0;apply hg;rw[hx.1,h0];rfl
        exact⟨j,⟨_,by simp[lD],qt⟩,e.symm,hx.2 qt⟩
      · left
        have:nT[i]?=σ.aa[i]?:=DD aj σ.aa new ak i mH hi
        rw[this] at ho
        exact⟨hi,mH,⟨o,ho,hg⟩,by show (if i<σ.aa.length then _ else _)=_;rw[if_pos hi]⟩
    · right
      have lD:aj.length+(i - σ.aa.length)<cz.length:=by omega
      have e:ρ (aj.length+(i - σ.aa.length))=i:=by
        show bd _ _ _=_
        simp only[bd]
        rw[if_neg (by omega)];omega
      have hx:=AU _ _ (show cz[aj.length+(i - σ.aa.length)]?=some cz[aj.length+(i - σ.aa.length)] by simp[lD])
      rw[e] at hx
      rw[ho] at hx
      simp only[da.injEq] at hx
      have qt:cz[aj.length+(i - σ.aa.length)]≠.gone:=by intro h0;apply hg;rw[hx.1,h0];rfl
      exact⟨_,⟨_,by simp[lD],qt⟩,e.symm,hx.2 qt⟩
  have G8:∀ j b o c,Live cz j→aB.blk j=some (b,o,c)→(∃ i∈aj,∃ o cap,Live σ.aa i∧γ.blk i=some (b,o,cap))∨γ.w.heap.size≤b:=by
    intro j b o c hl hb
    rcases fV.own b ⟨j,o,c,hl,hb⟩ with h1 | h1
    · exact .inl (yT b h1)
    · exact .inr h1
  have YE:br ⟨σ.env,nT⟩ iH:=by
    refine⟨fun k=>MU _ _ (h.av k),?_,?_,?_,?_⟩
    · intro i o ho
      by_cases bD:o=.gone
      · subst bD;trivial
      rcases mJ i ⟨o,ho,bD⟩ with ⟨hi,mH,hl,fG⟩ | ⟨j,⟨x,hx,dD⟩,rfl,fG⟩
      · have he:nT[i]?=σ.aa[i]?:=DD aj σ.aa new ak i mH hi
        have cf:σ.aa[i]?=some o:=by rw[← he];exact ho
        exact (h.er i o cf).mono MU fG (fun b o c hb=>YD i mH hl b o c hb)
      · have YF:=(AU j x hx).1
        have e:o=bC ρ x:=by
          have:nT[ρ j]?=some o:=ho
          rw[YF] at this;simpa using this.symm
        subst e
        have aZ:=gX.er j x hx
        have eW:snap=true→tY x:=fun hs=>(MS hs).2 x (gw hx)
        cases x with
        | gone=>trivial
        | var cells =>
          obtain ⟨b,cap,cur,t,h1,h2,h3,h4⟩:=aZ
          refine⟨b,cap,cur,t,fG.trans h1,h2,by simpa using h3,fun c v hv=>?_⟩
          simp only[bN,yv] at hv
          obtain ⟨y,hy,rfl⟩:=hv
          exact DG _ _ (h4 c y hy) (fun hs=>eW hs y (gw hy))
        | mp ag L =>
          obtain ⟨b,f,h1,h2,h3,h4⟩:=aZ
          refine⟨b,f,fG.trans h1,?_,fun p hp=>?_,fun j p hp=>?_⟩
          · rw[G6,dU];exact h2
          · obtain ⟨y,hy,rfl⟩:=b7.1 hp
            exact h3 y hy
          · simp only[bN,yv] at hp
            obtain ⟨y,hy,rfl⟩:=hp
            exact DG _ _ (h4 j y hy) (fun hs=>eW hs y (gw hy))
        | arr sz rows =>
          obtain ⟨h0,hr,aZ⟩:=aZ
          refine⟨h0,?_,?_⟩
          · intro row a6
            simp only[b7] at a6
            obtain ⟨y,hy,rfl⟩:=a6
            simpa using hr y hy
          · rcases aZ with ⟨h1,h2⟩ | ⟨b,o,cap,cur,t,h1,h2,h3,h4,h5,h6⟩
            · exact .inl ⟨fG.trans h1,by simpa using h2⟩
            · refine .inr ⟨b,o,cap,cur,t,fG.trans h1,h2,h3,by simpa using h4,h5,fun r c v hv=>?_⟩
              simp only[cellAt,bN] at hv
              cases eV:rows[r]? with
              | none=>simp[eV] at hv
              | some row =>
                simp only[eV,ed,Option.bind_some,bN,yv] at hv
                obtain ⟨y,hy,rfl⟩:=hv
                exact DG _ _ (h6 r c y (by simp[cellAt,eV,hy])) (fun hs=>eW hs row (gw eV) y (gw hy))
    · intro i j b o c o' c' hi hj fM gn
      rcases mJ i hi with ⟨fi,mH,rz,fG⟩ | ⟨ji,yU,rfl,fG⟩<;>rcases mJ j hj with ⟨kZ,AT,qu,AW⟩ | ⟨jj,MW,rfl,AW⟩
      · exact h.inj i j b o c o' c' rz qu (fG ▸ fM) (AW ▸ gn)
      · rw[fG] at fM
        rw[AW] at gn
        rcases G8 jj b o' c' MW gn with ⟨i',hi',o1,c1,il,cU⟩ | lE
        · exact absurd (h.inj i i' b o c o1 c1 rz il fM cU) (fun e=>mH (e ▸ hi'))
        · have:=pH rz fM;omega
      · rw[fG] at fM
        rw[AW] at gn
        rcases G8 ji b o c yU fM with ⟨i',hi',o1,c1,il,cU⟩ | lE
        · exact absurd (h.inj j i' b o' c' o1 c1 qu il gn cU) (fun e=>AT (e ▸ hi'))
        · have:=pH qu gn;omega
      · rw[fG] at fM
        rw[AW] at gn
        rw[gX.inj ji jj b o c o' c' yU MW fM gn]
    · rintro b ⟨i,o,c,hi,hb⟩ ⟨hz,yV⟩
      rcases mJ i hi with ⟨fi,mH,rz,fG⟩ | ⟨ji,yU,rfl,fG⟩
      · rw[fG] at hb
        rcases fV.z1 b hz with (h1 | h1) | h1 | h1
        · exact h.nz b ⟨i,o,c,rz,hb⟩ h1
        · exact yV h1
        · obtain ⟨i',hi',o1,c1,il,cU⟩:=yT b h1
          exact mH ((h.inj i i' b o c o1 c1 rz il hb cU) ▸ hi')
        · have:=pH rz hb
          have w5:γ.w.heap.size≤b:=h1
          omega
      · rw[fG] at hb
        exact gX.nz b ⟨ji,o,c,yU,hb⟩ hz
    · rintro b ⟨hz,_⟩
      exact gX.gB b hz
  refine⟨cv,aX ρ res,⟨σ.env,nT⟩,iH,rfl,rfl,rfl,YE,?_,?_,hK,rfl⟩
  · refine⟨fV.lT,fV.tape,fV.output,fV.size,?_,?_,?_,?_,?_,?_⟩
    · intro b hb lW
      refine fV.fC b hb (fun ho=>lW ?_)
      obtain ⟨i',_,o1,c1,il,cU⟩:=yT b ho
      exact⟨i',o1,c1,il,cU⟩
    · intro b hb
      exact⟨fV.z0 b (je b hb),fun hs=>MT b hs hb⟩
    · rintro b ⟨hz,yV⟩
      rcases fV.z1 b hz with (h1 | h1) | h1 | h1
      · exact .inl h1
      · exact absurd h1 yV
      · obtain ⟨i',_,o1,c1,il,cU⟩:=yT b h1
        exact .inr (.inl ⟨i',o1,c1,il,cU⟩)
      · exact .inr (.inr h1)
    · rintro b ⟨i,o,c,hi,hb⟩
      rcases mJ i hi with ⟨fi,mH,rz,fG⟩ | ⟨ji,yU,rfl,fG⟩
      · rw[fG] at hb;exact .inl ⟨i,o,c,rz,hb⟩
      · rw[fG] at hb
        rcases G8 ji b o c yU hb with ⟨i',_,o1,c1,il,cU⟩ | lE
        · exact .inl ⟨i',o1,c1,il,cU⟩
        · exact .inr lE
    · show σ.aa.length≤(dM σ.aa aj new).length
      rw[GV aj σ.aa new ak];omega
    · rintro i hi ⟨o,ho,hg⟩
      refine⟨by show (if i<σ.aa.length then _ else _)=_;rw[if_pos hi],?_⟩
      by_cases mH:i∈aj
      · obtain ⟨j,hj,rfl⟩:=DF mH
        have lD:j<cz.length:=by omega
        have w0:nT[aj.getD j 0]?=some (bC ρ cz[j]):=by
          show (dM σ.aa aj new)[aj.getD j 0]?=_
          rw[Dx aj σ.aa new ak bR fL j hj]
          simp[new,lD]
        have dO:nT[aj.getD j 0]?=some o:=ho
        rw[w0] at dO
        simp only[da.injEq] at dO
        have qt:cz[j]≠.gone:=by intro h0;apply hg;rw[← dO,h0];rfl
        obtain ⟨_,x,x',hx,cX,ke⟩:=fV.kG j (by omega) ⟨cz[j],by simp[lD],qt⟩
        have e1:cz[j]=x':=by simpa [lD] using cX
        refine⟨bC ρ x,o,kd j x hx,ho,?_⟩
        rw[← dO,e1]
        cases x<;>cases x'<;>simp_all [Ob.dX,bC]
      · have he:nT[i]?=σ.aa[i]?:=DD aj σ.aa new ak i mH hi
        have cf:σ.aa[i]?=some o:=by rw[← he];exact ho
        exact⟨o,o,cf,ho,Ob.jB hg⟩
  · have:=gX.av 0
    rw[vn] at this
    exact DG res cv (by simpa using this) (fun hs=>(MS hs).1)
theorem ao.r {f:FuncId} {args:List AV} {aa:List Ob} {res:AV} {ba:List Ob} (h:ao P f args aa res ba):fF P f args aa (fun r os=>r=res∧os=ba) :=
  ⟨h.1,fun γ aW hs=>(h.2 γ aW hs).mono fun _ _ ⟨cv,aB,h1,h2,h3,h4,h5⟩=>⟨res,ba,cv,aB,⟨rfl,rfl⟩,h1,h2,h3,h4,h5⟩⟩
theorem DE.r {f:FuncId} {args:List AV} {σ:St} {K:AV→St→Prop} (h:DE P f args σ K):G3 P f args σ K:=by
  obtain ⟨aj,snap,cW,bM,res,cz,h1,⟨h2,h3,h4,h5,h6,h7⟩,h8⟩:=h
  exact⟨aj,snap,cW,bM,_,h1.r,⟨h2,h3,h4,h5,h6⟩,fun r os ⟨e1,e2⟩=>by subst e1;subst e2;exact⟨h7,h8⟩⟩
theorem MX {σ:St} {γ:Cx} (h:br σ γ) {f:FuncId} {args:List AV} {argv:Array Value} (aW:argv.size=args.length) (G4:∀ (j:Nat) d,args[j]?=some d→aw σ.aa γ.w γ.Z γ.blk d (argv.getD j Go.undef))
    {K:AV→St→Prop} (hc:DE P f args σ K) :
    Calls P f argv γ.w (fun e w'=>∃ cv v σ' aB,e=.returned cv∧aB.w=w'∧aB.tmps=γ.tmps∧br σ' aB∧Fr σ.aa γ σ'.aa aB∧aw σ'.aa aB.w aB.Z aB.blk v cv∧K v σ'∧σ'.env=σ.env) :=
  MR h aW G4 hc.r
end Go.Am
namespace Go.Am
variable {P:Program}
theorem br.select {σ:St} {γ:Cx} (h:br σ γ) (aj:List Nat) (snap:Bool) (bM:List Ob) (bR:aj.Nodup) (ca:bM.length=aj.length)
    (kd:∀ (j:Nat) o,bM[j]?=some o→o=.gone∨σ.aa[aj.getD j 0]?=some (bC (bd σ.aa.length aj) o)) (fL:∀ i∈aj,i<σ.aa.length)
    (e:Nat→AV) (tm:Array Value)
    (he:∀ k,e k=.undef∨∃ d,aN σ (fun id=>∃ j,j<aj.length∧aj.getD j 0=id∧bM[j]?≠some .gone) (bd σ.aa.length aj) snap (e k) d∧aw σ.aa γ.w γ.Z γ.blk d (tm.getD k Go.undef)) :
    ∃ aB,aB.w=γ.w∧aB.tmps=tm∧br ⟨e,bM⟩ aB∧((∀ i,i<bM.length→aB.blk i=γ.blk (aj.getD i 0))∧(∀ b,γ.Z b→aB.Z b)∧(∀ b,aB.Z b→γ.Z b∨nU σ.aa γ.blk b) ∧
      ∀ i,Live bM i→Live σ.aa (aj.getD i 0)∧∃ o,bM[i]?=some o∧σ.aa[aj.getD i 0]?=some (bC (bd σ.aa.length aj) o)):=by
  let ρ:=bd σ.aa.length aj
  let kp:Nat→Prop:=fun id=>∃ j,j<aj.length∧aj.getD j 0=id∧bM[j]?≠some .gone
  let S:Nat→Prop:=fun b=>snap=true∧∃ id o cap,¬ kp id∧Live σ.aa id∧γ.blk id=some (b,o,cap)
  let γc:Cx:={ w:=γ.w,tmps:=tm,Z:=fun b=>γ.Z b∨S b,blk:=fun j=>if j<aj.length then γ.blk (aj.getD j 0) else none }
  have ug:∀ j x,σ.aa[ρ j]?=some x→∃ o,bM[j]?=some o∧(o=.gone∨(x=bC ρ o∧γc.blk j=γ.blk (ρ j))):=by
    intro j x hx
    obtain ⟨hj,hr⟩:=MP fL (aS.1 hx).1
    have lD:j<bM.length:=by omega
    refine⟨bM[j],by simp[lD],?_⟩
    rcases kd j bM[j] (by simp[lD]) with hg | this
    · exact .inl hg
    · right
      refine⟨?_,?_⟩
      · have cX:σ.aa[bd σ.aa.length aj j]?=some x:=hx
        rw[hr,this] at cX
        simpa using cX.symm
      · show (if j<aj.length then γ.blk (aj.getD j 0) else none)=γ.blk (bd σ.aa.length aj j)
        rw[if_pos hj,hr]
  have je:∀ b,γ.Z b→γc.Z b:=fun b hb=>.inl hb
  have sM:∀ j,Live bM j→Live σ.aa (aj.getD j 0)∧j<aj.length∧kp (aj.getD j 0)∧∃ o,bM[j]?=some o∧σ.aa[aj.getD j 0]?=some (bC ρ o):=by
    rintro j ⟨o,ho,hg⟩
    have hj:=(aS.1 ho).1
    rcases kd j o ho with h' | h'
    · exact absurd h' hg
    · exact⟨⟨_,h',fun e=>hg (AP.1 e)⟩,by omega,⟨j,by omega,rfl,by rw[ho];simpa using hg⟩,o,ho,h'⟩
  have pI:∀ j,j<aj.length→γc.blk j=γ.blk (aj.getD j 0):=fun j hj=>by show (if j<aj.length then _ else _)=_;rw[if_pos hj]
  have G5:br ⟨e,bM⟩ γc:=by
    refine⟨fun k=>?_,?_,?_,?_,?_⟩
    · rcases he k with h0 | ⟨d,hd,hr⟩
      · show aw bM γc.w γc.Z γc.blk (e k) _
        rw[h0];exact .undef _
      · exact hd.rel h je rfl (fun hs id b o cap cN hl hb=>.inr ⟨hs,id,o,cap,cN,hl,hb⟩) ug _ hr
    · intro j o ho
      by_cases bD:o=.gone
      · subst bD;trivial
      obtain ⟨_,AT,_,o',cf,YG⟩:=sM j ⟨o,ho,bD⟩
      have:o=o':=by
        have h1:bM[j]?=some o:=ho
        rw[cf] at h1;simpa using h1.symm
      subst this
      have aZ:=h.er _ _ YG
      have hb:=pI j AT
      cases o with
      | gone=>trivial
      | var cells =>
        obtain ⟨b,cap,cur,t,h1,h2,h3,h4⟩:=aZ
        exact⟨b,cap,cur,t,hb.trans h1,h2,by simpa using h3,fun c v hv=>(h4 c (aX ρ v) (by simp only[bN,hv];rfl)).down je ug v rfl⟩
      | mp ag L =>
        obtain ⟨b,f,h1,h2,h3,h4⟩:=aZ
        refine⟨b,f,hb.trans h1,?_,fun p hp=>h3 (p.1,aX ρ p.2) (C7 (f:=fun p:List Int × AV=>(p.1,aX ρ p.2)) hp),fun j p hp=>(h4 j (p.1,aX ρ p.2) (by simp only[bN,hp];rfl)).down je ug p.2 rfl⟩
        rw[G6,dU] at h2;exact h2
      | arr sz rows =>
        obtain ⟨h0,hr,aZ⟩:=aZ
        refine⟨h0,fun row a6=>by simpa using hr (row.map (aX ρ)) (C7 a6),?_⟩
        rcases aZ with ⟨h1,h2⟩ | ⟨b,o,cap,cur,t,h1,h2,h3,h4,h5,h6⟩
        · exact .inl ⟨hb.trans h1,by simpa using h2⟩
        · refine .inr ⟨b,o,cap,cur,t,hb.trans h1,h2,h3,by simpa using h4,h5,fun r c v hv=>(h6 r c (aX ρ v) ?_).down je ug v rfl⟩
          simp only[cellAt,bN] at hv ⊢
          cases eV:rows[r]? with
          | none=>simp[eV] at hv
          | some row=>simp[eV] at hv ⊢;exact⟨v,hv,rfl⟩
    · intro i j b o c o' c' hi hj fM gn
      obtain ⟨h1,h2,_⟩:=sM i hi
      obtain ⟨h3,h4,_⟩:=sM j hj
      exact MQ bR h2 h4 (h.inj _ _ b o c o' c' h1 h3 (pI i h2 ▸ fM) (pI j h4 ▸ gn))
    · rintro b ⟨i,o,c,hi,hb⟩ hz
      obtain ⟨h1,h2,h3,_⟩:=sM i hi
      rw[pI i h2] at hb
      rcases hz with hz | ⟨_,id,o',cap',cN,hl,cU⟩
      · exact h.nz b ⟨_,o,c,h1,hb⟩ hz
      · have:=h.inj _ _ b o c o' cap' h1 hl hb cU
        exact cN (this ▸ h3)
    · rintro b (hb | ⟨_,id,o,cap,_,hl,hb⟩)
      · exact h.gB b hb
      · exact h.blt hl hb
  refine⟨γc,rfl,rfl,G5,fun i hi=>pI i (by omega),je,?_,?_⟩
  · rintro b (hb | ⟨_,id,o,cap,_,hl,hb⟩)
    · exact .inl hb
    · exact .inr ⟨id,o,cap,hl,hb⟩
  · intro i hi
    obtain ⟨h1,h2,_,h4⟩:=sM i hi
    exact⟨h1,h4⟩
theorem Ob.YH {ρ:Nat→Nat} {x o:Ob} (h:x.dX (bC ρ o)):x.dX o:=by
  cases x<;>cases o<;>simp[Ob.dX,bC] at h ⊢<;>exact h
theorem Fr.select {os:List Ob} {γ0 γ aB:Cx} {σ:St} (hf:Fr os γ0 σ.aa γ) {aj:List Nat} {bM:List Ob} (hn:os.length≤aj.length) (ca:bM.length=aj.length)
    (cN:∀ i,i<os.length→aj.getD i 0=i) (hw:aB.w=γ.w)
    (h:(∀ i,i<bM.length→aB.blk i=γ.blk (aj.getD i 0))∧(∀ b,γ.Z b→aB.Z b)∧(∀ b,aB.Z b→γ.Z b∨nU σ.aa γ.blk b) ∧
      ∀ i,Live bM i→Live σ.aa (aj.getD i 0)∧∃ o,bM[i]?=some o∧σ.aa[aj.getD i 0]?=some (bC (bd σ.aa.length aj) o)):Fr os γ0 bM aB:=by
  obtain ⟨h1,h2,h3,h4⟩:=h
  refine⟨by rw[hw];exact hf.lT,by rw[hw];exact hf.tape,by rw[hw];exact hf.output,by rw[hw];exact hf.size,by rw[hw];exact hf.fC,fun b hb=>h2 b (hf.z0 b hb),?_,?_,by omega,?_⟩
  · intro b hb
    rcases h3 b hb with h | h
    · exact hf.z1 b h
    · rcases hf.own b h with h | h
      · exact .inr (.inl h)
      · exact .inr (.inr h)
  · rintro b ⟨i,o,c,hi,hb⟩
    have bj:=hi.lt
    rw[h1 i bj] at hb
    exact hf.own b ⟨_,o,c,(h4 i hi).1,hb⟩
  · intro i hi hl
    obtain ⟨h5,o,ho,cf⟩:=h4 i hl
    rw[cN i hi] at h5 cf
    obtain ⟨h6,x,x',hx,cX,hk⟩:=hf.kG i hi h5
    refine⟨by rw[h1 i hl.lt,cN i hi];exact h6,x,o,hx,ho,?_⟩
    rw[cf] at cX
    simp only[da.injEq] at cX
    rw[← cX] at hk
    exact Ob.YH hk
def gA (N:Nat) (os:List Ob) (γ0:Cx) (σ:St) (a:Act) (w:World):Prop :=
  a.defers=[]∧a.tmps.size=N∧∃ γ,γ.w=w∧γ.tmps=a.tmps∧br σ γ∧Fr os γ0 σ.aa γ
def W (P:Program) (N n0:Nat) (c:Code) (Q:Exit→St→Prop) (σ:St):Prop :=
  ∀ (os:List Ob) (γ0:Cx) (a:Act) (w:World),os.length=n0→gA N os γ0 σ a w→c.wp P (fun e a' w'=>∃ σ',Q e σ'∧gA N os γ0 σ' a' w') a w
def pD (P:Program) (g:FuncId) (args:List AV) (dst:Option Tmp) (K:St→Prop) (σ:St):Prop:=DE P g args σ fun v σ'=>K (σ'.put dst v)
def vp (P:Program) (t:TypeId) (m:String):Option (FuncId × Option TypeId) :=
  match P.info? t with
  | none=>none
  | some i =>
    match i.methods.find? (·.name == m) with
    | none=>none
    | some r =>
      match r.path.isEmpty,r.func,P.underlying t with
      | true,some (g,pr),some (.pointer e)=>some (g,if pr then none else some e)
      | _,_,_=>none
def nN (P:Program) (σ:St) (v:AV) (K:FuncId→AV→Prop):Option (FuncId × Option TypeId)→Prop
  | some (g,none)=>K g v
  | some (g,some e) =>
    (ty P e).kind≠99 ∧
    match v with
    | .ptr id r c =>
      match rowOf σ id r with
      | some row=>lB (ty P e) row c fun x=>K g x
      | none=>False
    | _=>False
  | none=>False
def bf (P:Program) (o:Oper) (σ:St) (K:St→Prop):Prop :=
  match o.op with
  | .call { callee:=.value f,args,.. } =>
    match ev σ f with
    | .fn g bk=>pD P g (args.toList.map (ev σ)++bk) o.dst K σ
    | _=>False
  | .call { callee:=.invoke r m,args,.. } =>
    match ev σ r with
    | .gz t v=>nN P σ v (fun g x=>pD P g (x::args.toList.map (ev σ)) o.dst K σ) (vp P t m)
    | _=>False
  | _=>b8 P o σ K
def ng (P:Program) (o:Oper) (K:St→Prop) (b want:Bool) (σ:St):Prop:=(b=want→bf P o σ K)∧(b≠want→K (σ.put o.dst (.lit (.tuple #[]))))
def opsL (P:Program) (ops:Array Oper):List Oper→(St→Prop)→St→Prop
  | [],K,σ=>K σ
  | o::r,K,σ =>
    match o.guard with
    | none=>bf P o σ (opsL P ops r K)
    | some (j,want) =>
      match (ops[j]?).bind (·.dst) with
      | none=>False
      | some d =>
        match σ.env d with
        | .lit (.bool b)=>ng P o (opsL P ops r K) b want σ
        | .lit (.tuple vs)=>vs = #[]∧opsL P ops r K (σ.put o.dst (.lit (.tuple #[])))
        | _=>False
theorem sH (a:Act) (d:Option Tmp) (v:Value):(a.put d v).tmps.size=a.tmps.size:=by cases d<;>simp[Act.put]
theorem put_defers (a:Act) (d:Option Tmp) (v:Value):(a.put d v).defers=a.defers:=by cases d<;>rfl
theorem YI (xt:TypeId) (a:Addr) (x y:String):Builtin.ssaWrapNilChk_ #[xt] xt #[.pointer (some a),strVal x,strVal y]=pure (.pointer (some a)):=rfl
theorem MY {w:World} {t:TypeId} {i:TypeInfo} (h:P.info? t=some i):(typeInfo t).run P w=.ok i w:=by
  simp[typeInfo,h]
theorem ext1 (x:Value) (A:Array Value):(#[x]++A).extract 1 (#[x]++A).size=A:=by
  apply Array.ext'
  simp only[Array.toList_extract,List.extract,yu,Array.size_append]
  simp[List.take_of_length_le]
theorem YJ {σ:St} {γ:Cx} (hs:br σ γ) {t:TypeId} {m:String} {v:AV} {cv:Value} (hv:aw σ.aa γ.w γ.Z γ.blk v cv) {K:FuncId→AV→Prop} (h:nN P σ v K (vp P t m)) :
    ∃ g x cx,(Go.method (P.types.size+Made.depth) t cv m).run P γ.w=.ok (g,cx) γ.w∧aw σ.aa γ.w γ.Z γ.blk x cx∧K g x:=by
  obtain ⟨fu,w6⟩ :∃fu,P.types.size+Made.depth=fu+1:=Nat.exists_eq_succ_of_ne_zero (by unfold Made.depth;omega)
  rw[w6]
  unfold Go.method
  unfold vp at h
  cases hi:P.info? t with
  | none=>simp[hi,nN] at h
  | some i =>
    simp only[hi] at h
    cases hf:i.methods.find? (·.name == m) with
    | none=>simp[hf,nN] at h
    | some r =>
      simp only[hf] at h
      split at h
      · rename_i g pr e hp hr hu
        have uh:r.path = #[]:=Array.isEmpty_iff.1 hp
        cases pr with
        | true =>
          simp only[if_pos,nN] at h
          refine⟨g,v,cv,?_,hv,h⟩
          simp[MY hi,hf,uh,follow,hr,receiverAt,run_underlying hu,Place.get]
        | false =>
          simp only[if_neg,Bool.false_eq_true,not_false_eq_true,nN] at h
          obtain ⟨hk,h⟩:=h
          cases v with
          | ptr id rr c =>
            simp only at h
            cases a6:rowOf σ id rr with
            | none=>simp[a6] at h
            | some row =>
              simp only[a6] at h
              obtain ⟨x,cx,h1,h2,h3⟩:=G9 hs hk hv a6 h
              refine⟨g,x,cx,?_,h2,h3⟩
              obtain ⟨b,base,cap,cur,tt,o,rfl,_⟩:=DH hs hv a6
              simp only[Instr.loadAt,Instr.sureAddr,Sem.run_bind,Sem.run_pure,Result.andThen_ok] at h1
              simp[MY hi,hf,uh,follow,hr,receiverAt,run_underlying hu,Place.get,YI,asAddr,h1]
          | _=>exact h.elim
      · exact h.elim
theorem wO {N:Nat} {os:List Ob} {γ0:Cx} {o:Oper} {σ:St} {K:St→Prop} (h:bf P o σ K) {a:Act} {w:World} (aQ:gA N os γ0 σ a w) (hd:∀ d,o.dst=some d→d<N)
    {Q:Exit→Act→World→Prop} {next:Act→World→Prop} (hn:∀ σ' a' w',K σ'→gA N os γ0 σ' a' w'→next a' w'):o.wp P a w next Q:=by
  obtain ⟨ig,aW,γ,rfl,ha,hs,hf⟩:=aQ
  have rA:∀ d,o.dst=some d→d<a.tmps.size:=fun d h=>by rw[aW];exact hd d h
  have YK:b8 P o σ K→o.wp P a γ.w next Q:=by
    intro h
    obtain ⟨n,x,w',σ',aB,hr,G',hK,gX,fV,rB,jK⟩:=YL h hs ha rA
    unfold Oper.wp
    rw[hr]
    have eU:gA N os γ0 σ' (a.put o.dst x) w':=⟨by rw[put_defers];exact ig,by rw[sH];exact aW,aB,rB,jK,gX,hf.trans fV⟩
    rcases G' with rfl | ⟨rfl,rfl⟩
    · exact hn _ _ _ hK eU
    · exact hn _ _ _ hK eU
  unfold bf at h
  split at h
  · rename_i f args fc cT
    split at h
    · rename_i g bk he
      have dE:=sN hs ha f
      rw[he] at dE
      obtain ⟨aY,a9,gk,qv⟩:=dE.MZ
      have mC:∀ (j:Nat) d,(args.toList.map (ev σ)++bk)[j]?=some d→aw σ.aa γ.w γ.Z γ.blk d (((args.map a.eval)++aY).getD j Go.undef):=by
        intro j d hj
        simp only[eQ]
        rcases eK j args.size with bj | lE
        · rw[cj (by simpa using bj)] at hj
          rw[C8 (by simpa using bj)]
          simp only[bN,Ax,Array.getElem?_map] at hj ⊢
          cases hx:args[j]? with
          | none=>simp[hx] at hj
          | some y=>simp[hx] at hj ⊢;subst hj;exact sN hs ha y
        · rw[eE (by simpa using lE)] at hj
          rw[Array.getElem?_append_right (by simpa using lE)]
          simp only[dU,Array.length_toList,Array.size_map] at hj ⊢
          have:=qv _ d hj
          simpa [eQ] using this
      unfold pD at h
      have nf:=MX hs (argv:=(args.map a.eval)++aY) (by simp[gk]) mC h
      obtain ⟨aj,snap,cW,bM,res,cz,⟨⟨fn,ui,pJ,vy⟩,_⟩,_⟩:=h
      unfold Oper.wp
      have hr:(execOp a.eval o).run P γ.w=.ok (.enter g ((args.map a.eval)++aY)) γ.w:=by
        have eM : ¬ fn.name = "runtime.NumGoroutine" := by simpa using pJ
        have nV:¬ fn.body=none:=by intro e;rw[e] at vy;simp at vy
        simp[execOp,cT,resolve,a9,Deferred.ofValue,invoke,callFunc,ui,eM,nV]
      rw[hr]
      show Calls P g _ _ _
      refine nf.mono ?_
      rintro e w' ⟨cv,v,σ',aB,rfl,rfl,jK,gX,fV,hv,hK,vz⟩
      refine hn _ _ _ hK ⟨by rw[put_defers];exact ig,by rw[sH];exact aW,{ aB with tmps:=(a.put o.dst cv).tmps },rfl,rfl,qg gX (by rw[jK,ha]) rA hv,?_⟩
      rw[qh]
      exact (hf.trans fV).put _
    · exact h.elim
  · rename_i r m args fc cT
    split at h
    · rename_i t v he
      have dE:=sN hs ha r
      rw[he] at dE
      obtain ⟨DI,a9,qv⟩:=dE.M0
      obtain ⟨g,x,cx,hm,hx,h⟩:=YJ hs qv h
      have mC:∀ (j:Nat) d,(x::args.toList.map (ev σ))[j]?=some d→aw σ.aa γ.w γ.Z γ.blk d ((#[cx]++args.map a.eval).getD j Go.undef):=by
        intro j d hj
        simp only[eQ]
        cases j with
        | zero =>
          simp only[ss,da.injEq] at hj
          subst hj
          rw[C8 (by simp)]
          simpa using hx
        | succ j =>
          simp only[tR,bN,Ax] at hj
          rw[Array.getElem?_append_right (by simp)]
          simp only[List.size_toArray,dH,List.length_nil,Nat.zero_add,Nat.add_sub_cancel,Array.getElem?_map]
          cases hy:args[j]? with
          | none=>simp[hy] at hj
          | some y=>simp[hy] at hj ⊢;subst hj;exact sN hs ha y
      unfold pD at h
      have nf:=MX hs (argv:=#[cx]++args.map a.eval) (by simp;omega) mC h
      obtain ⟨aj,snap,cW,bM,res,cz,⟨⟨fn,ui,pJ,vy⟩,_⟩,_⟩:=h
      unfold Oper.wp
      have hr:(execOp a.eval o).run P γ.w=.ok (.enter g (#[cx]++args.map a.eval)) γ.w:=by
        have eM : ¬ fn.name = "runtime.NumGoroutine" := by simpa using pJ
        have nV:¬ fn.body=none:=by intro e;rw[e] at vy;simp at vy
        have e0:(#[Value.iface t DI]++args.map a.eval)[0]?=some (.iface t DI):=by rw[C8 (by simp)];simp
        have e1:=ext1 (.iface t DI) (args.map a.eval)
        have e2:(callMethod (.iface t DI) m (args.map a.eval)).run P γ.w=.ok (.enter g (#[cx]++args.map a.eval)) γ.w:=by
          unfold callMethod
          simp only[Sem.run_bind,run_program,Result.andThen_ok,hm]
          simp[callFunc,ui,eM,nV]
        simp only[execOp,cT,resolve,a9,pure_bind,invoke,e0,e1]
        exact e2
      rw[hr]
      show Calls P g _ _ _
      refine nf.mono ?_
      rintro e w' ⟨cv,v,σ',aB,rfl,rfl,jK,gX,fV,hv,hK,vz⟩
      refine hn _ _ _ hK ⟨by rw[put_defers];exact ig,by rw[sH];exact aW,{ aB with tmps:=(a.put o.dst cv).tmps },rfl,rfl,qg gX (by rw[jK,ha]) rA hv,?_⟩
      rw[qh]
      exact (hf.trans fV).put _
    · exact h.elim
  · exact YK h
theorem AX {N:Nat} {os:List Ob} {γ0:Cx} {ops:Array Oper} (hd:∀ o∈ops.toList,∀ d,o.dst=some d→d<N) {K:St→Prop} {Q:Exit→Act→World→Prop}
    (hQ:∀ σ' a' w',K σ'→gA N os γ0 σ' a' w'→Q .normal a' w'):∀ (l:List Oper) (i:Nat) (σ:St) (a:Act) (w:World),ops.toList.drop i=l→opsL P ops l K σ→gA N os γ0 σ a w →
      wpOps P ops Q (List.range' i l.length) a w
  | [],i,σ,a,w,_,h,aQ=>by simpa [wpOps] using hQ _ _ _ h aQ
  | o::r,i,σ,a,w,hl,h,aQ=>by
    have hi:ops[i]?=some o:=by
      have:(ops.toList.drop i)[0]?=some o:=by rw[hl];rfl
      simpa using this
    have hr:ops.toList.drop (i+1)=r:=by
      have:=congrArg List.tail hl
      simpa [List.tail_drop] using this
    have cp:o∈ops.toList:=gw (by simpa using hi)
    rw[dH,List.range'_succ,wpOps_cons]
    unfold wpOp
    simp only[hi]
    unfold opsL at h
    cases hg:o.guard with
    | none =>
      simp only[hg] at h
      have hw:Region.wanted o (yielded ops a.tmps)=true:=by simp[Region.wanted,hg]
      rw[if_pos hw]
      left
      exact wO h aQ (hd o cp) (fun σ' a' w' hK eU=>AX hd hQ r (i+1) σ' a' w' hr hK eU)
    | some jw =>
      obtain ⟨j,want⟩:=jw
      simp only[hg] at h
      cases ep:(ops[j]?).bind (·.dst) with
      | none=>simp[ep] at h
      | some d =>
        simp only[ep] at h
        split at h
        · rename_i b he
          obtain ⟨ig,aW,γ,rfl,ha,hs,hf⟩:=aQ
          have jd:=hs.av d
          rw[he,ha] at jd
          have hv:=jd.cH
          have hy:yielded ops a.tmps j=some b:=by
            unfold yielded
            rw[ep]
            have:a.tmps[d]?=some (.bool b):=by
              rw[eQ] at hv
              cases hx:a.tmps[d]? with
              | none=>rw[hx] at hv;simp[Go.undef] at hv
              | some y=>rw[hx] at hv;simp at hv;rw[hv]
            simp[this]
          by_cases gY:b=want
          · have hw:Region.wanted o (yielded ops a.tmps)=true:=by simp[Region.wanted,hg,hy,gY]
            rw[if_pos hw]
            left
            exact wO (h.1 gY) ⟨ig,aW,γ,rfl,ha,hs,hf⟩ (hd o cp) (fun σ' a' w' hK eU=>AX hd hQ r (i+1) σ' a' w' hr hK eU)
          · have hw:Region.wanted o (yielded ops a.tmps)=false:=by simp[Region.wanted,hg,hy,gY]
            rw[if_neg (by rw[hw];simp)]
            refine AX hd hQ r (i+1) _ _ _ hr (h.2 gY) ⟨by rw[put_defers];exact ig,by rw[sH];exact aW,{ γ with tmps:=(a.put o.dst Go.undef).tmps },rfl,rfl,qg hs ha (fun d h=>by rw[aW];exact hd o cp d h) (.lit _),?_⟩
            rw[qh];exact hf.put _
        · rename_i vs he
          obtain ⟨ig,aW,γ,rfl,ha,hs,hf⟩:=aQ
          have jd:=hs.av d
          rw[he,ha] at jd
          have hv:=jd.cH
          have hy:yielded ops a.tmps j=none:=by
            unfold yielded
            rw[ep]
            rw[eQ] at hv
            cases hx:a.tmps[d]? with
            | none=>simp[hx]
            | some y=>rw[hx] at hv;simp at hv;subst hv;simp[hx]
          have hw:Region.wanted o (yielded ops a.tmps)=false:=by simp[Region.wanted,hg,hy]
          rw[if_neg (by rw[hw];simp)]
          refine AX hd hQ r (i+1) _ _ _ hr h.2 ⟨by rw[put_defers];exact ig,by rw[sH];exact aW,{ γ with tmps:=(a.put o.dst Go.undef).tmps },rfl,rfl,qg hs ha (fun d h=>by rw[aW];exact hd o cp d h) (.lit _),?_⟩
          rw[qh];exact hf.put _
        · exact h.elim
end Go.Am
namespace Go.Am
variable {P:Program} {N n0:Nat} {Q:Exit→St→Prop} {σ:St}
theorem M1 {c:Code} {Q':Exit→St→Prop} (h:W P N n0 c Q σ) (hq:∀ e s,Q e s→Q' e s):W P N n0 c Q' σ :=
  fun os γ0 a w hn aQ=>wp_mono (h os γ0 a w hn aQ) (fun _ _ _ ⟨σ',h1,h2⟩=>⟨σ',hq _ _ h1,h2⟩)
theorem DJ (h:Q .normal σ):W P N n0 .skip Q σ:=fun _ _ _ _ _ aQ=>wp_skip ⟨σ,h,aQ⟩
theorem YM {l:Nat} (h:Q .normal σ):W P N n0 (.label l) Q σ:=fun _ _ _ _ _ aQ=>wp_label ⟨σ,h,aQ⟩
theorem YN {id:Nat} (h:Q (.exit id) σ):W P N n0 (.exit id) Q σ:=fun _ _ _ _ _ aQ=>wp_exit ⟨σ,h,aQ⟩
theorem YO (h:Q .ret σ):W P N n0 .ret Q σ:=fun _ _ _ _ _ aQ=>wp_ret ⟨σ,h,aQ⟩
def YP (P:Program) (N n0:Nat) (y:Code) (Q:Exit→St→Prop):Exit→St→Prop
  | .normal,s=>W P N n0 y Q s
  | e,s=>Q e s
theorem GU {x y:Code} (h:W P N n0 x (YP P N n0 y Q) σ):W P N n0 (.seq x y) Q σ:=by
  intro os γ0 a w hn aQ
  refine wp_seq (wp_mono (h os γ0 a w hn aQ) ?_)
  rintro e a' w' ⟨σ',h1,h2⟩
  cases e with
  | normal=>exact h1 os γ0 a' w' hn h2
  | exit id=>exact⟨σ',h1,h2⟩
  | goto l=>exact⟨σ',h1,h2⟩
  | ret=>exact⟨σ',h1,h2⟩
  | panic c=>exact⟨σ',h1,h2⟩
  | outgrown=>exact⟨σ',h1,h2⟩
theorem DK {c:Operand} {x y:Code} {t:Bool} (hc:ev σ c=.lit (.bool t)) (ht:t=true→W P N n0 x Q σ) (hf:t=false→W P N n0 y Q σ):W P N n0 (.cond c x y) Q σ:=by
  intro os γ0 a w hn aQ
  have a9:a.eval c=.bool t:=by
    obtain ⟨_,_,γ,rfl,ha,hs,_⟩:=aQ
    have:=sN hs ha c
    rw[hc] at this
    exact this.cH
  exact wp_cond_split a9 (fun h=>ht h os γ0 a w hn aQ) (fun h=>hf h os γ0 a w hn aQ)
def Dv (id:Nat) (Q:Exit→St→Prop):Exit→St→Prop
  | .exit wU,s=>if wU=id then Q .normal s else Q (.exit wU) s
  | e,s=>Q e s
theorem Yp {id:Nat} {c:Code} (h:W P N n0 c (Dv id Q) σ):W P N n0 (.block id c) Q σ:=by
  intro os γ0 a w hn aQ
  refine wp_block (wp_mono (h os γ0 a w hn aQ) ?_)
  rintro e a' w' ⟨σ',h1,h2⟩
  cases e with
  | exit wU =>
    simp only[Dv] at h1
    simp only[Exit.inBlock]
    split
    · rename_i he;rw[if_pos he] at h1;exact⟨σ',h1,h2⟩
    · rename_i he;rw[if_neg he] at h1;exact⟨σ',h1,h2⟩
  | normal=>exact⟨σ',h1,h2⟩
  | goto l=>exact⟨σ',h1,h2⟩
  | ret=>exact⟨σ',h1,h2⟩
  | panic c=>exact⟨σ',h1,h2⟩
  | outgrown=>exact⟨σ',h1,h2⟩
def gm (N:Nat) (ops:Array Oper):Bool:=ops.toList.all fun o=>match o.dst with | some d=>decide (d<N) | none=>true
theorem qm {ops:Array Oper} (h:gm N ops=true):∀ o∈ops.toList,∀ d,o.dst=some d→d<N:=by
  intro o ho d hd
  unfold gm at h
  rw[fK] at h
  have:=h o ho
  simp[hd] at this
  exact this
theorem Mw {id:Nat} {ops:Array Oper} (hd:gm N ops=true) (h:opsL P ops ops.toList (Q .normal) σ):W P N n0 (.region id ops false) Q σ:=by
  intro os γ0 a w _ aQ
  refine wp_region ?_
  have:=AX (P:=P) (N:=N) (os:=os) (γ0:=γ0) (ops:=ops) (qm hd) (K:=Q .normal) (Q:=fun e a' w'=>∃ σ',Q e σ'∧gA N os γ0 σ' a' w') (fun σ' a' w' hK eU=>⟨σ',hK,eU⟩)
    ops.toList 0 σ a w rfl h aQ
  rw[List.range_eq_range']
  simpa using this
theorem gA.drawn {os:List Ob} {γ0:Cx} {a:Act} {w:World} (h:gA N os γ0 σ a w):gA N os γ0 σ a { w with drawn:=w.drawn+1 }:=by
  obtain ⟨h1,h2,γ,rfl,h3,h4,h5⟩:=h
  exact⟨h1,h2,{ γ with w:={ γ.w with drawn:=γ.w.drawn+1 } },rfl,h3,h4.Ha rfl,h5.Ha rfl rfl rfl rfl⟩
def aA (n0:Nat) (σ σ':St):Prop:=∀ (os:List Ob) (γ0 γ:Cx),os.length=n0→br σ γ→Fr os γ0 σ.aa γ→∃ aB,aB.w=γ.w∧aB.tmps=γ.tmps∧br σ' aB∧Fr os γ0 σ'.aa aB
theorem cA {c:Code} {σ':St} (h:aA n0 σ σ') (hw:W P N n0 c Q σ'):W P N n0 c Q σ:=by
  intro os γ0 a w hn aQ
  obtain ⟨h1,h2,γ,rfl,h3,h4,h5⟩:=aQ
  obtain ⟨aB,e1,e2,e3,e4⟩:=h os γ0 γ hn h4 h5
  exact hw os γ0 a γ.w hn ⟨h1,h2,aB,e1,e2.trans h3,e3,e4⟩
theorem aA.forget {e:Nat→AV} (h:∀ k,e k=.undef∨e k=σ.env k):aA n0 σ ⟨e,σ.aa⟩:=by
  intro os γ0 γ _ hs hf
  refine⟨γ,rfl,rfl,⟨fun k=>?_,hs.er,hs.inj,hs.nz,hs.gB⟩,hf⟩
  rcases h k with h | h
  · show aw _ _ _ _ (e k) _
    rw[h];exact .undef _
  · show aw _ _ _ _ (e k) _
    rw[h];exact hs.av k
theorem aA.select (aj:List Nat) (snap:Bool) (bM:List Ob) (e:Nat→AV) (bR:aj.Nodup) (ca:bM.length=aj.length)
    (kd:∀ (j:Nat) o,bM[j]?=some o→o=.gone∨σ.aa[aj.getD j 0]?=some (bC (bd σ.aa.length aj) o)) (fL:∀ i∈aj,i<σ.aa.length)
    (hn:n0≤aj.length) (cN:∀ i,i<n0→aj.getD i 0=i)
    (he:∀ k,e k=.undef∨aN σ (fun id=>∃ j,j<aj.length∧aj.getD j 0=id∧bM[j]?≠some .gone) (bd σ.aa.length aj) snap (e k) (σ.env k)):aA n0 σ ⟨e,bM⟩:=by
  intro os γ0 γ uj hs hf
  obtain ⟨aB,h1,h2,h3,h4⟩:=hs.select aj snap bM bR ca kd fL e γ.tmps (fun k=>(he k).imp id fun h=>⟨_,h,hs.av k⟩)
  exact⟨aB,h1,h2,h3,hf.select (by omega) ca (fun i hi=>cN i (by omega)) h1 h4⟩
theorem aA.trans {σ1 σ2:St} (h:aA n0 σ σ1) (k:aA n0 σ1 σ2):aA n0 σ σ2:=by
  intro os γ0 γ uj hs hf
  obtain ⟨γ1,a1,a2,a3,a4⟩:=h os γ0 γ uj hs hf
  obtain ⟨Hb,b1,b2,b3,b4⟩:=k os γ0 γ1 uj a3 a4
  exact⟨Hb,b1.trans a1,b2.trans a2,b3,b4⟩
theorem aA.nil (d sz:Nat) (h:σ.env d=.lit (.slice none 0 0)) (h0:0<sz):aA n0 σ ⟨iG σ.env d (.ref σ.aa.length sz 0 0),σ.aa++[.arr sz []]⟩:=by
  intro os γ0 γ _ hs hf
  have hp:=hs.w7 h0
  refine⟨{ γ with blk:=cL γ.blk σ.aa.length none },rfl,rfl,⟨fun k=>?_,hp.er,hp.inj,hp.nz,hp.gB⟩,hf.trans (Fr.w7 _ _ _)⟩
  simp only[iG]
  by_cases hk:k=d
  · subst hk
    rw[if_pos rfl]
    have:=hs.av k
    rw[h] at this
    rw[this.cH]
    exact .lC _ _ (List.getElem?_concat_length ..) (by simp[cL])
  · rw[if_neg hk]
    exact hp.av k
def ei (σ:St) (P:Program):List ResultVar→(List AV→Prop)→Prop
  | [],K=>K []
  | .tmp t::r,K=>ei σ P r fun vs=>K (σ.env t::vs)
  | .cell a t::r,K =>
    (ty P t).kind≠99 ∧
    match σ.env a with
    | .ptr id rr c =>
      match rowOf σ id rr with
      | some row=>lB (ty P t) row c fun v=>ei σ P r fun vs=>K (v::vs)
      | none=>False
    | _=>False
def ee:List AV→AV
  | [v]=>v
  | vs=>.bL vs
theorem DM {γ:Cx} (hs:br σ γ):∀ (rs:List ResultVar) (K:List AV→Prop),ei σ P rs K →
    ∃ vs aY,K vs∧(rs.mapM fun (r:ResultVar)=>match r with | .tmp t=>(pure (γ.tmps.getD t Go.undef):Sem Value) | .cell a t=>do loadVar t (← asAddr (γ.tmps.getD a Go.undef))).run P γ.w=.ok aY γ.w ∧
      aY.length=vs.length∧vs.length=rs.length∧∀ (j:Nat) v,vs[j]?=some v→aw σ.aa γ.w γ.Z γ.blk v (aY.getD j Go.undef)
  | [],K,h=>⟨[],[],h,by simp,rfl,rfl,by simp⟩
  | .tmp t::r,K,h=>by
    obtain ⟨vs,aY,h1,h2,h3,h4,h5⟩:=DM hs r _ h
    refine⟨_,γ.tmps.getD t Go.undef::aY,h1,?_,by simp[h3],by simp[h4],?_⟩
    · simp only[List.mapM_cons,Sem.run_bind,Sem.run_pure,Result.andThen_ok,h2]
    · intro j v hj
      cases j with
      | zero=>simp at hj;subst hj;simpa using hs.av t
      | succ j=>simpa using h5 j v (by simpa using hj)
  | .cell a t::r,K,h=>by
    obtain ⟨hk,h⟩:=h
    split at h
    · rename_i id rr c he
      have hv:=hs.av a
      rw[he] at hv
      split at h
      · rename_i row a6
        obtain ⟨v,cv,l1,l2,l3⟩:=G9 hs hk hv a6 h
        obtain ⟨vs,aY,h1,h2,h3,h4,h5⟩:=DM hs r _ l3
        obtain ⟨b,base,cap,cur,tt,o,hp,_⟩:=DH hs hv a6
        have eF:(do loadVar t (← asAddr (γ.tmps.getD a Go.undef)):Sem Value).run P γ.w=.ok cv γ.w:=by
          rw[hp] at l1 ⊢
          simp only[Instr.loadAt,Instr.sureAddr,Sem.run_bind,Sem.run_pure,Result.andThen_ok] at l1
          simp only[asAddr,Sem.run_bind,Sem.run_pure,Result.andThen_ok]
          exact l1
        refine⟨_,cv::aY,h1,?_,by simp[h3],by simp[h4],?_⟩
        · simp only[List.mapM_cons]
          rw[Sem.run_bind,eF]
          simp only[Result.andThen_ok,Sem.run_bind,h2,Sem.run_pure]
        · intro j x hj
          cases j with
          | zero=>simp at hj;subst hj;simpa using l2
          | succ j=>simpa using h5 j x (by simpa using hj)
      · exact h.elim
    · exact h.elim
def m5 (n0:Nat) (σ:St) (v res:AV) (ba:List Ob):Prop :=
  ∃ (aj:List Nat) (snap:Bool),aj.Nodup∧ba.length=aj.length∧(∀ (j:Nat) o,ba[j]?=some o→o=.gone∨σ.aa[aj.getD j 0]?=some (bC (bd σ.aa.length aj) o))∧(∀ i∈aj,i<σ.aa.length) ∧
    n0≤aj.length∧(∀ i,i<n0→aj.getD i 0=i)∧aN σ (fun id=>∃ j,j<aj.length∧aj.getD j 0=id∧ba[j]?≠some .gone) (bd σ.aa.length aj) snap res v
def yW (P:Program) (n0:Nat) (rs:List ResultVar) (res:AV) (ba:List Ob):Exit→St→Prop
  | .normal,s=>ei s P rs fun vs=>m5 n0 s (ee vs) res ba
  | .ret,s=>ei s P rs fun vs=>m5 n0 s (ee vs) res ba
  | _,_=>False
theorem ao.Hd {f : FuncId} {fn : Func} {c : Code} {args : List AV} {aa : List Ob} {res : AV} {ba : List Ob} (hf : P.funcs[f]? = some fn) (hb : fn.body = some c) (pJ : (fn.name == "runtime.NumGoroutine") = false)
    (hN:args.length≤fn.ntmps) (h:W P fn.ntmps aa.length c (yW P aa.length fn.results.toList res ba) ⟨fun k=>args.getD k .undef,aa⟩):ao P f args aa res ba:=by
  refine⟨⟨fn,hf,pJ,by rw[hb];rfl⟩,?_⟩
  intro γ aW hs
  refine calls_of_wp hf hb ?_
  let tm:=γ.tmps++Array.replicate (fn.ntmps - γ.tmps.size) Go.undef
  have aQ:gA fn.ntmps aa γ ⟨fun k=>args.getD k .undef,aa⟩ { tmps:=tm,defers:=[] } γ.w:=by
    refine⟨rfl,by simp[tm];omega,{ γ with tmps:=tm },rfl,rfl,⟨fun k=>?_,hs.er,hs.inj,hs.nz,hs.gB⟩,(Fr.refl _ _).put _⟩
    rcases eK k args.length with hk | hk
    · have:=hs.av k
      have e:tm.getD k Go.undef=γ.tmps.getD k Go.undef:=by
        simp only[tm,eQ]
        rw[C8 (by omega)]
      show aw _ _ _ _ _ (tm.getD k Go.undef)
      rw[e];exact this
    · have e:args.getD k AV.undef=.undef:=by simp[hk]
      show aw _ _ _ _ (args.getD k .undef) _
      rw[e];exact .undef _
  refine wp_mono (h aa γ _ γ.w rfl aQ) ?_
  rintro e a' w' ⟨σ',h1,ig,_,aB,rfl,ha,gX,fV⟩
  have fin:∀ (K:List AV→Prop),ei σ' P fn.results.toList K→(∀ vs,K vs→m5 aa.length σ' (ee vs) res ba) →
      a'.defers=[]∧∃ v,(results fn a'.tmps).run P aB.w=.ok v aB.w∧∃ cv iH,Ending.returned v=.returned cv∧iH.w=aB.w∧iH.tmps = #[cv]∧br ⟨fun k=>[res].getD k .undef,ba⟩ iH∧Fr aa γ ba iH:=by
    intro K hK He
    obtain ⟨vs,aY,k1,k2,k3,k4,k5⟩:=DM gX _ _ hK
    obtain ⟨aj,snap,r1,r2,r3,r4,r5,r6,r7⟩:=He vs k1
    refine⟨ig,?_⟩
    have eF :∃v,(results fn a'.tmps).run P aB.w=.ok v aB.w∧aw σ'.aa aB.w aB.Z aB.blk (ee vs) v:=by
      have hm:(fn.results.mapM fun (r:ResultVar)=>match r with | .tmp t=>(pure (a'.tmps.getD t Go.undef):Sem Value) | .cell a t=>do loadVar t (← asAddr (a'.tmps.getD a Go.undef))).run P aB.w=.ok aY.toArray aB.w:=by
        rw[Array.mapM_eq_mapM_toList,Sem.run_map,← ha,k2]
        rfl
      have hr:(results fn a'.tmps).run P aB.w=.ok (if h:aY.toArray.size=1 then aY.toArray[0] else .tuple aY.toArray) aB.w:=by
        unfold results
        rw[Sem.run_bind]
        exact congrArg (fun r=>Result.andThen r fun (a:Array Value) w'=>(pure (if h:a.size=1 then a[0] else Value.tuple a):Sem Value).run P w') hm
      rw[hr]
      match vs,aY,k3,k5 with
      | [],[],_,k5=>exact⟨_,rfl,.bL _ _ rfl (fun j x hj=>by simp at hj)⟩
      | [v],[cv],_,k5=>exact⟨cv,by simp,by simpa [ee] using k5 0 v rfl⟩
      | v::v'::vs,cv::nW::aY,k3,k5 =>
        refine⟨.tuple (cv::nW::aY).toArray,by simp,.bL _ _ (by simpa using k3) (fun j x hj=>?_)⟩
        have:=k5 j x hj
        simpa [ay,eQ] using this
    obtain ⟨v,qw,yX⟩:=eF
    obtain ⟨iH,e1,e2,e3,e4⟩:=gX.select aj snap ba r1 r2 r3 r4 (fun k=>[res].getD k .undef) #[v] (fun k=>by
      cases k with
      | zero=>exact .inr ⟨_,r7,by simpa using yX⟩
      | succ k=>left;simp)
    exact⟨v,qw,v,iH,rfl,e1,e2,e3,fV.select r5 r2 r6 e1 e4⟩
  cases e with
  | normal=>exact fin _ h1 (fun _ h=>h)
  | ret=>exact fin _ h1 (fun _ h=>h)
  | exit id=>exact h1.elim
  | goto l=>exact h1.elim
  | panic c=>exact h1.elim
  | outgrown=>exact h1.elim
theorem ao.aF {f : FuncId} {fn : Func} {c : Code} {args : List AV} {aa : List Ob} {res : AV} {ba : List Ob} (N k : Nat) (rs : List ResultVar) (hf : P.funcs[f]? = some fn) (hb : fn.body = some c) (pJ : (fn.name == "runtime.NumGoroutine") = false)
    (hN:fn.ntmps=N) (AY:fn.results.toList=rs) (hk:aa.length=k) (hl:args.length≤N) (h:W P N k c (yW P k rs res ba) ⟨fun k=>args.getD k .undef,aa⟩):ao P f args aa res ba:=by
  subst hN;subst AY;subst hk
  exact ao.Hd hf hb pJ hl h
theorem YQ {x y:Code} (h:∀ Q':Exit→St→Prop,(∀ s,W P N n0 y Q s→Q' .normal s)→(∀ e s,e≠.normal→Q e s→Q' e s)→W P N n0 x Q' σ):W P N n0 (.seq x y) Q σ :=
  GU (h _ (fun _ h=>h) (fun e s he hq=>by cases e<;>first|exact absurd rfl he|exact hq))
theorem w8 {id:Nat} {ops:Array Oper} {y:Code} (hd:gm N ops=true) (h:∀ K:St→Prop,(∀ s,W P N n0 y Q s→K s)→opsL P ops ops.toList K σ):W P N n0 (.seq (.region id ops false) y) Q σ :=
  GU (Mw hd (h _ (fun _ h=>h)))
theorem M3 {ops:Array Oper} {K:St→Prop}:opsL P ops [] K σ=K σ:=rfl
theorem M4 {ops:Array Oper} {o:Oper} {r:List Oper} {K:St→Prop}:opsL P ops (o::r) K σ =
    match o.guard with
    | none=>bf P o σ (opsL P ops r K)
    | some (j,want) =>
      match (ops[j]?).bind (·.dst) with
      | none=>False
      | some d =>
        match σ.env d with
        | .lit (.bool b)=>ng P o (opsL P ops r K) b want σ
        | .lit (.tuple vs)=>vs = #[]∧opsL P ops r K (σ.put o.dst (.lit (.tuple #[])))
        | _=>False:=rfl
theorem M5 {o:Oper} {K:St→Prop}:ng P o K true true σ=bf P o σ K:=by simp[ng]
theorem M6 {o:Oper} {K:St→Prop}:ng P o K false false σ=bf P o σ K:=by simp[ng]
theorem M7 {o:Oper} {K:St→Prop}:ng P o K true false σ=K (σ.put o.dst (.lit (.tuple #[]))):=by simp[ng]
theorem M8 {o:Oper} {K:St→Prop}:ng P o K false true σ=K (σ.put o.dst (.lit (.tuple #[]))):=by simp[ng]
theorem YR {o:Oper} {K:St→Prop} {b want:Bool} (h1:b=true→ng P o K true want σ) (h2:b=false→ng P o K false want σ):ng P o K b want σ:=by
  cases b
  · exact h2 rfl
  · exact h1 rfl
def YS (ds:List Nat) (e:Nat→AV):Nat→AV:=fun k=>if ds.contains k then .undef else e k
theorem DN {ds:List Nat} {e:Nat→AV} {k:Nat}:YS ds e k=if ds.contains k then .undef else e k:=rfl
theorem YT (e:Nat→AV) (d:Nat) (v:AV):iG e d v d=v:=by simp[iG]
mutual
def gT:AV→Bool
  | .ref ..=>false
  | .ptr ..=>false
  | .agg cs=>iO cs
  | .bL cs=>iO cs
  | .fn _ cs=>iO cs
  | .gz _ v=>gT v
  | .gl _=>false
  | _=>true
def iO:List AV→Bool
  | []=>true
  | v::vs=>gT v && iO vs
end
mutual
theorem wT (ρ:Nat→Nat):∀ (v:AV),gT v=true→aX ρ v=v
  | .undef,_=>rfl
  | .lit _,_=>rfl
  | .tree ..,_=>rfl
  | .db _,_=>rfl
  | .ref ..,h=>by simp[gT] at h
  | .ptr ..,h=>by simp[gT] at h
  | .agg cs,h=>by simp only[gT] at h;simp only[aX];rw[yO ρ cs h]
  | .bL cs,h=>by simp only[gT] at h;simp only[aX];rw[yO ρ cs h]
  | .fn f cs,h=>by simp only[gT] at h;simp only[aX];rw[yO ρ cs h]
  | .gz t v,h=>by simp only[gT] at h;simp only[aX];rw[wT ρ v h]
  | .gl _,h=>by simp[gT] at h
theorem yO (ρ:Nat→Nat):∀ (l:List AV),iO l=true→m7 ρ l=l
  | [],_=>rfl
  | v::vs,h=>by
    simp only[iO,bh] at h
    simp only[m7]
    rw[wT ρ v h.1,yO ρ vs h.2]
end
theorem YU {l:List AV} (h:iO l=true) {j:Nat} {x:AV} (hx:l[j]?=some x):gT x=true:=by
  induction l generalizing j with
  | nil=>simp at hx
  | cons v l ih =>
    simp only[iO,bh] at h
    cases j with
    | zero=>simp at hx;subst hx;exact h.1
    | succ j=>exact ih h.2 (by simpa using hx)
theorem bW {f:FuncId} {args:List AV} {dst:Option Tmp} {K:St→Prop} {res:AV} (h:ao P f args [] res []) (ha:iO args=true) (hr:gT res=true) (hK:K (σ.put dst res)):pD P f args dst K σ:=by
  refine⟨[],false,args,[],res,[],h,⟨List.nodup_nil,rfl,by simp,rfl,?_,by simp⟩,?_⟩
  · intro j c d hc hd
    rw[hc] at hd
    simp at hd
    subst hd
    have:=aN.same (σ:=σ) (kp:=(·∈([]:List Nat))) (ρ:=bd σ.aa.length []) (snap:=false) c
    rw[wT _ c (YU ha hc)] at this
    exact this
  · rw[wT _ _ hr]
    simpa [dM] using hK
theorem GX {v:AV} (hr:gT v=true):m5 0 σ v v []:=by
  refine⟨[],false,List.nodup_nil,rfl,by simp,by simp,aH _,by simp,?_⟩
  have:=aN.same (σ:=σ) (kp:=fun id=>∃ j,j<([]:List Nat).length∧([]:List Nat).getD j 0=id∧([]:List Ob)[j]?≠some .gone) (ρ:=bd σ.aa.length []) (snap:=false) v
  rw[wT _ _ hr] at this
  exact this
end Go.Am
namespace Go.Am
variable {P:Program}
def cls:Op→Nat
  | .move _ | .assign _ | .pick .. | .convert .. | .binOp .. | .unOp .. | .makeFunc .. | .makeInterface .. | .typeAssert .. | .field .. | .extract .. | .build .. | .index ..=>0
  | .call { callee:=.builtin .min,.. } | .call { callee:=.builtin .max,.. }=>0
  | .nilCheck _ | .fieldAddr .. | .indexAddr .. | .slice ..=>1
  | .call { callee:=.builtin .len,.. }=>1
  | .load .. | .lookup ..=>2
  | .alloc _ | .box .. | .makeSlice .. | .buildSlice .. | .makeMap ..=>3
  | .store ..=>4
  | _=>5
def rq:Ob→Ob→Prop
  | .var _,.var _=>True
  | .arr s _,.arr s' _=>s=s'
  | .mp a L,.mp b M=>a=b∧L=M
  | .gone,.gone=>True
  | _,_=>False
theorem wP (o:Ob):rq o o:=by cases o<;>simp[rq]
def j' (c:Nat) (a b:List Ob):Prop :=
  if c≤2 then b=a
  else if c=3 then ∀ (id:Nat),id<a.length→b[id]?=a[id]?
  else if c=4 then b.length=a.length∧∀ (id:Nat) o o',a[id]?=some o→b[id]?=some o'→rq o o'
  else True
theorem YV (c:Nat) (h:c≤2) (a:List Ob):j' c a a:=by simp[j',h]
theorem DP (a:List Ob) (o:Ob):j' 3 a (a++[o]):=by
  simp only[j'];intro id h;exact cj h
theorem YW (σ:St) (id r:Nat) (row:List AV):j' 4 σ.aa (mZ σ id r row).aa:=by
  simp only[j']
  rw[if_neg (by decide),if_neg (by decide),if_pos trivial]
  have key:∀ (x y:Ob),σ.aa[id]?=some x→rq x y→(σ.aa.set id y).length=σ.aa.length∧∀ (i:Nat) o o',σ.aa[i]?=some o→(σ.aa.set id y)[i]?=some o'→rq o o':=by
    intro x y hx nX
    refine⟨by simp,fun i o o' ho cf=>?_⟩
    rw[List.getElem?_set] at cf
    split at cf
    · rename_i e;subst e
      split at cf
      · simp at cf;subst cf;rw[hx] at ho;simp at ho;subst ho;exact nX
      · simp at cf
    · rw[ho] at cf;simp at cf;subst cf;exact wP o
  unfold mZ
  split
  · rename_i cells h;exact key _ _ h trivial
  · rename_i sz rows h;exact key _ _ h rfl
  · exact⟨rfl,fun i o o' ho cf=>by rw[ho] at cf;simp at cf;subst cf;exact wP o⟩
def rC:AV→Option Nat
  | .ref id _ _ _=>some id
  | .ptr id _ _=>some id
  | .gl id=>some id
  | _=>none
def iP (c:Nat) (a b:Option Ob):Prop :=
  if c=0 then True else if c=1 then ∀ o,a=some o→∃ o',b=some o'∧rq o o' else ∀ o,a=some o→b=some o
def qx (c:Nat) (l:List Operand) (σ:St) (e2:Nat→AV) (ob:List Ob):Prop :=
  (∀ x∈l,ev ⟨e2,ob⟩ x=ev σ x)∧(∀ x∈l,∀ id,rC (ev σ x)=some id→iP c σ.aa[id]? ob[id]?)
def Hf (P:Program) (o:Oper) (σ:St) (K:St→Prop) (c:Nat) (l:List Operand):Prop :=
  ∃ v os,j' c σ.aa os∧K ((⟨σ.env,os⟩:St).put o.dst v)∧∀ e2 ob dT (K2:St→Prop),qx c l σ e2 ob→(if c≤2 then dT=ob else ob=σ.aa∧dT=os)→K2 ((⟨e2,dT⟩:St).put o.dst v)→b8 P o ⟨e2,ob⟩ K2
theorem dA {o:Oper} {σ:St} {K:St→Prop} {c:Nat} {l:List Operand} {v:AV} (hW:K (σ.put o.dst v))
    (h:∀ e2 ob (K2:St→Prop),qx c l σ e2 ob→K2 ((⟨e2,ob⟩:St).put o.dst v)→b8 P o ⟨e2,ob⟩ K2) (hc:c≤2:=by simp[cls]):Hf P o σ K c l :=
  ⟨v,σ.aa,YV _ hc _,hW,fun e2 ob dT K2 hx ho fW=>h e2 ob K2 hx (by rw[if_pos hc] at ho;subst ho;exact fW)⟩
theorem dB {o:Oper} {σ:St} {K:St→Prop} {c:Nat} {l:List Operand} {v:AV} {os:List Ob} (hc:3≤c) (he:j' c σ.aa os) (hW:K ((⟨σ.env,os⟩:St).put o.dst v))
    (h:∀ e2 (_:List Ob) (K2:St→Prop),qx 0 l σ e2 σ.aa→K2 ((⟨e2,os⟩:St).put o.dst v)→b8 P o ⟨e2,σ.aa⟩ K2):Hf P o σ K c l :=
  ⟨v,os,he,hW,fun e2 ob dT K2 hx ho fW=>by rw[if_neg (by omega)] at ho;obtain ⟨rfl,rfl⟩:=ho;exact h e2 σ.aa K2 ⟨hx.1,fun _ _ _ _=>by simp[iP]⟩ fW⟩
theorem parts_eq {parts:Array (Nat × Operand)} {σ τ:St} (h:∀ x∈parts.toList.map (·.2),ev τ x=ev σ x) :
    (parts.toList.map fun p=>(p.1,ev τ p.2))=(parts.toList.map fun p=>(p.1,ev σ p.2))∧(parts.toList.all fun p=>(cellsOf (ev τ p.2)).all cm)=(parts.toList.all fun p=>(cellsOf (ev σ p.2)).all cm):=by
  have hp:(parts.toList.map fun p=>(p.1,ev τ p.2))=(parts.toList.map fun p=>(p.1,ev σ p.2)):=lP fun p hp=>by rw[h _ (C7 hp)]
  exact⟨hp,by simpa [List.all_map,Function.comp_def] using congrArg (·.all fun q=>(cellsOf q.2).all cm) hp⟩
theorem Mg {t:Ty} {cells:List AV} {c:Nat} {K:AV→Prop} (h:lB t cells c K) :∃v,K v∧∀ K2:AV→Prop,K2 v→lB t cells c K2:=by
  unfold lB at h ⊢
  split at h
  · exact⟨_,h.2,fun K2 hK=>by simp_all⟩
  · split at h<;>first|exact h.elim|exact⟨_,h,fun K2 hK=>by simp_all⟩
theorem YX {op:BinOp} {k:IntKind} {p q:Int} {K:Value→Prop} (h:fS op k p q K) :∃v,K v∧∀ K2:Value→Prop,K2 v→fS op k p q K2:=by
  unfold fS at h ⊢
  split at h<;>first|exact⟨_,h.2,fun K2 h'=>⟨h.1,h'⟩⟩|exact⟨_,h,fun K2 h=>h⟩|exact h.elim
theorem YY {σ:St} {e:Nat→AV} {ob:List Ob} {id r:Nat} {row:List AV} (h:∀ o,σ.aa[id]?=some o→ob[id]?=some o) (hr:rowOf σ id r=some row):rowOf ⟨e,ob⟩ id r=some row:=by
  unfold rowOf at hr ⊢
  cases ho:σ.aa[id]?<;>simp_all
theorem YZ {σ:St} {e:Nat→AV} {ob:List Ob} {v:AV} {q:Nat × Nat × List (List Int × AV)} (h:∀ id,v=.gl id→∀ o,σ.aa[id]?=some o→ob[id]?=some o) (hm:kY σ v=some q):kY ⟨e,ob⟩ v=some q:=by
  unfold kY at hm ⊢
  split at hm
  · rename_i id
    split at hm
    · rename_i ag L ho
      have:=h id rfl _ ho
      simp only[this]
      exact hm
    · cases hm
  · cases hm
theorem M9 {o:Oper} {σ:St} {K:St→Prop} (hW:b8 P o σ K):Hf P o σ K (cls o.op) o.op.operands.toList:=by
  obtain ⟨dst,op,type,pos,after,guard⟩:=o
  unfold b8 at hW
  cases op
  case call c =>
    obtain ⟨callee,args,argTypes⟩:=c
    cases callee<;>try exact hW.elim
    rename_i b
    cases b<;>try exact hW.elim
    all_goals simp only at hW
    case append =>
      (repeat' split at hW)<;>try exact hW.elim
      rename_i s x t t' cX jK _ _ _ _ z pre σ1 sz src hk hz AZ rF
      have vz:σ1=⟨σ.env,σ1.aa⟩∧∀ e,pE ⟨e,σ.aa⟩ (ty P (ty P t).elem).size (ev σ s)=some (pre,⟨e,σ1.aa⟩):=by
        unfold pE at AZ ⊢
        (repeat' split at AZ)<;>simp_all
        all_goals obtain ⟨rfl,rfl⟩:=AZ;simp
      refine dB (os:=σ1.aa++[.arr sz (pre++src)]) (by simp[cls]) trivial (by have:=hW.2;rw[vz.1] at this;exact this) fun e2 ob K2 hx fW=>?_
      have iD:m4 ⟨e2,σ.aa⟩ (ev σ x)=some (sz,src):=rF
      unfold b8
      simp[qx,Op.operands,Call.operands,cX] at hx
      simp only[cX,jK,hx.1.1,hx.1.2,hk,hz,vz.2,iD]
      exact⟨hW.1,fW⟩
    case copy =>
      (repeat' split at hW)<;>try exact hW.elim
      rename_i cX jK _ _ id _ _ _ _ src he rF _ _ _ ho
      refine dB (by simp[cls]) trivial hW.2 fun e2 ob K2 hx fW=>?_
      have iD:m4 ⟨e2,σ.aa⟩ _=_:=rF
      unfold b8
      simp[qx,Op.operands,Call.operands,cX] at hx
      simp only[cX,jK,hx.1.1,hx.1.2,he,iD,ho]
      exact⟨hW.1,fW⟩
    case clear =>
      (repeat' split at hW)<;>try exact hW.elim
      rename_i cX jK _ _ id _ _ _ _ he hz _ _ _ ho
      refine dB (by simp[cls]) trivial hW.2 fun e2 ob K2 hx fW=>?_
      unfold b8
      simp[qx,Op.operands,Call.operands,cX] at hx
      simp only[cX,jK,hx,he,hz,ho]
      exact⟨hW.1,fW⟩
    all_goals (repeat' split at hW)<;>first|exact hW.elim|exact hW.2.elim|refine dA hW ?_|refine dA hW.2 ?_|refine dA hW.2.2 ?_
    all_goals
      intro e2 ob K2 hx fW
      unfold b8
      simp[qx,Op.operands,Call.operands,rC,iP,cls, *] at hx ⊢
      first|done|(simp_all;done)|(obtain ⟨_,o',_,hk⟩:=hx;cases o'<;>simp_all [rq];done)
  case load t x =>
    simp only at hW
    obtain ⟨hk,hW⟩:=hW
    (repeat' split at hW)<;>try exact hW.elim
    all_goals
      obtain ⟨v,hK,hl⟩:=Mg hW
      refine dA hK fun e2 ob K2 hx fW=>?_
      unfold b8
      simp[qx,Op.operands,rC,iP,cls, *] at hx
      first|simp only[hx.1,YY hx.2 ‹rowOf _ _ _=_›]|simp only[hx]
      exact⟨hk,hl _ fW⟩
  case store t x y =>
    simp only at hW
    obtain ⟨hk,hW⟩:=hW
    (repeat' split at hW)<;>try exact hW.elim
    rename_i id r c he _ row a6
    have vz:∀ row,mZ σ id r row=⟨σ.env,(mZ σ id r row).aa⟩∧∀ e,mZ ⟨e,σ.aa⟩ id r row=⟨e,(mZ σ id r row).aa⟩:=by
      intro row;unfold mZ;simp only;split<;>simp_all
    refine dB (by simp[cls]) (YW _ _ _ _) (by have:=hW.2;rw[(vz _).1] at this;exact this) fun e2 ob K2 hx fW=>?_
    have gD:rowOf ⟨e2,σ.aa⟩ id r=some row:=a6
    unfold b8
    simp only[hx.1 x (by simp[Op.operands]),hx.1 y (by simp[Op.operands]),he,gD]
    rw[(vz _).2]
    exact⟨hk,hW.1,fW⟩
  case build t parts =>
    simp only at hW
    (repeat' split at hW)<;>first|exact hW.elim|refine dA hW.2 ?_
    all_goals
      intro e2 ob K2 hx fW
      obtain ⟨h1,h2⟩:=parts_eq (parts:=parts) (by simpa [Op.operands] using hx.1)
      unfold b8
      simp only[h1,h2, *]
      simp[hW.1]
  case buildSlice t _ parts =>
    simp only at hW
    (repeat' split at hW)<;>first|exact hW.elim|refine dB (aH 3) (DP _ _) hW.2 ?_
    intro e2 ob K2 hx fW
    obtain ⟨h1,h2⟩:=parts_eq (parts:=parts) (by simpa [Op.operands] using hx.1)
    unfold b8
    simp only[h1,h2, *]
    simp[hW.1]
  case makeFunc fn first captured =>
    simp only at hW
    split at hW<;>first|exact hW.elim|refine dA hW.2 fun e2 ob K2 hx fW=>?_
    unfold b8
    simp only[lP (l:=captured.toList) (f:=ev ⟨e2,ob⟩) (g:=ev σ) fun y hy=>hx.1 y (by simp only[Op.operands,yu,List.mem_append];exact .inr hy)]
    exact⟨hW.1,fW⟩
  case binOp op t x y yt =>
    simp only at hW
    split at hW
    · rename_i k p k' q he hf
      obtain ⟨hk,hW⟩:=hW
      obtain ⟨v,hK,hl⟩:=YX hW
      refine dA hK fun e2 ob K2 hx fW=>?_
      unfold b8
      simp[qx,Op.operands,he,hf] at hx
      simp only[hx.1.1,hx.1.2]
      exact⟨hk,hl _ fW⟩
    all_goals (repeat' split at hW)<;>first|exact hW.elim|exact hW.2.elim|refine dA hW.2 ?_
    all_goals
      intro e2 ob K2 hx fW
      unfold b8
      simp[qx,Op.operands, *] at hx ⊢
      first|done|(simp_all;done)
  case slice t x lo hi mx =>
    simp only at hW
    obtain ⟨hk,dW,rfl,hW⟩:=hW
    cases lo<;>cases hi<;>simp only[ed,Option.map_none] at hW
    all_goals (repeat' split at hW)<;>first|exact hW.elim|exact hW.2.elim|exact hW.2.2.elim|refine dA hW.2 ?_|refine dA hW.2.2 ?_|refine dA hW.2.2.2 ?_
    all_goals
      intro e2 ob K2 hx fW
      unfold b8
      simp only[da.injEq] at *
      simp[qx,Op.operands,rC,iP,cls, *] at hx ⊢
      first|done|(simp_all;done)|(obtain ⟨_,o',_,hk⟩:=hx;cases o'<;>simp_all [rq];done)|(obtain ⟨_,⟨o',_,hk⟩,_⟩:=hx;cases o'<;>simp_all [rq];done)|trace_state
  case makeMap t r =>
    simp only at hW
    obtain ⟨⟨rfl,hk⟩,hK⟩:=hW
    refine dB (aH 3) (DP _ _) hK fun e2 ob K2 hx fW=>?_
    unfold b8
    exact⟨⟨rfl,hk⟩,fW⟩
  case lookup t x i ok =>
    simp only at hW
    split at hW
    · rename_i ag l id hJ L z gZ mK mL
      refine dA hW.2 fun e2 ob K2 hx fW=>?_
      have h1:=hx.1 x (by simp[Op.operands])
      have h2:=hx.1 i (by simp[Op.operands])
      have h3:kY ⟨e2,ob⟩ (ev σ x)=some (id,hJ,L):=YZ (fun wU cN o ho=>by
        have:=hx.2 x (by simp[Op.operands]) wU (by rw[cN];rfl)
        unfold iP at this
        simp[cls] at this
        exact this o ho) mK
      unfold b8
      simp only[h1,h2,gZ,h3,mL]
      exact⟨hW.1,fW⟩
    · exact hW.elim
  case mapUpdate t m k x =>
    simp only at hW
    split at hW
    · rename_i gZ mK
      obtain ⟨mM,A0⟩:=hW
      refine dB (v:=.undef) (os:=_) (by simp[cls]) trivial A0 fun e2 ob K2 hx fW=>?_
      have h1:=hx.1 m (by simp[Op.operands])
      have h2:=hx.1 k (by simp[Op.operands])
      have h3:=hx.1 x (by simp[Op.operands])
      have h4:kY ⟨e2,σ.aa⟩ (ev σ m)=_:=mK
      unfold b8
      simp only[h1,h2,h3,gZ,h4]
      exact⟨mM,fW⟩
    · exact hW.elim
  case mapEntry t m k =>
    simp only at hW
    split at hW
    · rename_i gZ mK mL
      obtain ⟨mM,A0⟩:=hW
      refine dB (v:=_) (os:=_) (by simp[cls]) trivial A0 fun e2 ob K2 hx fW=>?_
      have h1:=hx.1 m (by simp[Op.operands])
      have h2:=hx.1 k (by simp[Op.operands])
      have h4:kY ⟨e2,σ.aa⟩ (ev σ m)=_:=mK
      unfold b8
      simp only[h1,h2,gZ,h4,mL]
      exact⟨mM,fW⟩
    · exact hW.elim
  case entryStore t m s x =>
    simp only at hW
    split at hW
    · rename_i hs mK
      obtain ⟨mM,A0⟩:=hW
      refine dB (v:=.undef) (os:=_) (by simp[cls]) trivial A0 fun e2 ob K2 hx fW=>?_
      have h1:=hx.1 m (by simp[Op.operands])
      have h2:=hx.1 s (by simp[Op.operands])
      have h3:=hx.1 x (by simp[Op.operands])
      have h4:kY ⟨e2,σ.aa⟩ (ev σ m)=_:=mK
      unfold b8
      simp only[h1,h2,h3,hs,h4]
      exact⟨mM,fW⟩
    · exact hW.elim
  all_goals (try simp only at hW);(try exact hW.elim)
  all_goals (repeat' split at hW)<;>first|exact hW.elim|exact hW.2.elim|exact hW.2.2.elim|refine dA hW ?_|refine dA hW.2 ?_|refine dA hW.2.2 ?_|refine dA hW.2.2.2 ?_|refine dB (aH 3) (DP _ _) hW.2 ?_|refine dB (aH 3) (DP _ _) hW.2.1 ?_
  all_goals
    intro e2 ob K2 hx fW
    unfold b8
    simp[qx,Op.operands,rC,iP,cls,-fK, *] at hx ⊢
    first|done|(simp_all;done)|(obtain ⟨_,rfl,_⟩:=hW;simp_all;done)|(obtain ⟨_,o',_,hk⟩:=hx;cases o'<;>simp_all [rq];done)
theorem XZ {o:Oper} {σ:St} {K:St→Prop} (hW:b8 P o σ K) :
    ∃ v os,j' (cls o.op) σ.aa os∧K ((⟨σ.env,os⟩:St).put o.dst v)∧∀ (e2:Nat→AV) (K2:St→Prop),(∀ x∈o.op.operands.toList,ev ⟨e2,σ.aa⟩ x=ev σ x)→K2 ((⟨e2,os⟩:St).put o.dst v)→b8 P o ⟨e2,σ.aa⟩ K2:=by
  obtain ⟨v,os,h1,h2,h3⟩:=M9 hW
  refine⟨v,os,h1,h2,fun e2 K2 hx hK=>h3 e2 _ os K2 ⟨hx,fun _ _ _ _=>?_⟩ ?_ hK⟩
  · unfold iP
    (repeat' split)<;>first|trivial|exact fun o ho=>ho|exact fun o ho=>⟨o,ho,wP o⟩
  · split
    · rename_i hc;simpa [j',hc] using h1
    · exact⟨rfl,rfl⟩
theorem Mh {o:Oper} {σ:St} {K:St→Prop} (hc:cls o.op≤2) (hW:b8 P o σ K) :
    ∃ v,K (σ.put o.dst v)∧∀ (σ2:St) (K2:St→Prop),(∀ x∈o.op.operands.toList,ev σ2 x=ev σ x)→(∀ x∈o.op.operands.toList,∀ id,rC (ev σ x)=some id→iP (cls o.op) σ.aa[id]? σ2.aa[id]?) →
      K2 (σ2.put o.dst v)→b8 P o σ2 K2:=by
  obtain ⟨v,os,h1,h2,h3⟩:=M9 hW
  simp only[j',hc,if_true] at h1 h3
  subst h1
  exact⟨v,h2,fun σ2 K2 hx ho hK=>h3 σ2.env σ2.aa _ K2 ⟨hx,ho⟩ rfl hK⟩
end Go.Am

