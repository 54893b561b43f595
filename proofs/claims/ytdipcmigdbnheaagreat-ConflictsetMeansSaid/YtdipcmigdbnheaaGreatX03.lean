import Derived.Test.YtdipcmigdbnheaaGreatX02
set_option linter.unusedVariables false
set_option linter.unusedSimpArgs false
set_option linter.unnecessarySimpa false
set_option linter.unusedSectionVars false
set_option maxHeartbeats 64000000
set_option maxRecDepth 20000
open Bool renaming and_eq_true→bk
open List renaming mem_cons→cu,mem_of_getElem?→gB,getElem?_map→cm,getElem?_cons_zero→sk,getElem?_append_left→cn,getElem?_set_ne→bm,getElem?_cons_succ→v7,getElem?_append_right→eK,length_cons→dH,eq_nil_of_length_eq_zero→ph,getElem?_eq_some_iff→aQ,getD_eq_getElem?_getD→aA,mem_map_of_mem→B3,length_map→ey,mem_map→ca,all_eq_true→gU,map_congr_left→kU
open Option renaming map_eq_some_iff→xK,some→cY,map_some→gf
open Nat renaming lt_or_ge→eF,le_refl→aG
open Array renaming toList_append→xJ,getD_eq_getD_getElem?→eY,getElem?_append_left→B4,getElem?_toList→zA
namespace Go.Am
variable {P:Program}
mutual
def a6 (ρ:Nat→Nat):AV→AV
  | .ref id sz off len=>.ref (ρ id) sz off len
  | .ptr id r c=>.ptr (ρ id) r c
  | .agg cs=>.agg (nF ρ cs)
  | .bG cs=>.bG (nF ρ cs)
  | .fn f cs=>.fn f (nF ρ cs)
  | .gJ t v=>.gJ t (a6 ρ v)
  | .gk id=>.gk (ρ id)
  | v=>v
def nF (ρ:Nat→Nat):List AV→List AV
  | []=>[]
  | v::vs=>a6 ρ v::nF ρ vs
end
theorem tM (ρ:Nat→Nat) (l:List AV):nF ρ l=l.map (a6 ρ):=by
  induction l with
  | nil=>simp[nF]
  | cons v l ih=>simp[nF,ih]
def bO (ρ:Nat→Nat):Ob→Ob
  | .gone=>.gone
  | .var cs=>.var (cs.map (a6 ρ))
  | .arr sz rows=>.arr sz (rows.map (·.map (a6 ρ)))
  | .mp ag L=>.mp ag (L.map fun p=>(p.1,a6 ρ p.2))
mutual
def flat:AV→Bool
  | .tree ..=>false
  | .b7 _=>false
  | .agg cs=>ya cs
  | .bG cs=>ya cs
  | .fn _ cs=>ya cs
  | .gJ _ v=>flat v
  | _=>true
def ya:List AV→Bool
  | []=>true
  | v::vs=>flat v && ya vs
end
theorem FT {l:List AV} (h:ya l=true):∀ v∈l,flat v=true:=by
  induction l with
  | nil=>intro v hv;simp at hv
  | cons x l ih =>
    simp only[ya,bk] at h
    intro v hv
    rcases cu.1 hv with rfl | hv
    · exact h.1
    · exact ih h.2 v hv
def tP:Ob→Prop
  | .gone=>True
  | .var cs=>∀ v∈cs,flat v=true
  | .arr _ rows=>∀ row∈rows,∀ v∈row,flat v=true
  | .mp _ L=>∀ p∈L,flat p.2=true
theorem ay.Xj {os:List Ob} {w:World} {Z Z':Nat→Prop} {blk:fQ} {v:AV} {cv:Value} (h:ay os w Z blk v cv) (hf:flat v=true):ay os w Z' blk v cv:=by
  induction h with
  | undef cv=>exact .undef cv
  | bW v cv h=>cases h<;>first|exact .bW _ _ (.lit _)|simp[flat] at hf
  | b7=>simp[flat] at hf
  | kh id sz off len cv h h1=>exact .kh id sz off len cv h h1
  | lU id r c cv h h1=>exact .lU id r c cv h h1
  | ref id sz off len b o cap cap' rows h hb hl hc kX=>exact .ref id sz off len b o cap cap' rows h hb hl hc kX
  | lE id sz h hb=>exact .lE id sz h hb
  | lV id sz off b x bo rows h hb hl=>exact .lV id sz off b x bo rows h hb hl
  | mu id c b cap cells h hb=>exact .mu id c b cap cells h hb
  | mY id r c sz b o cap rows h hb=>exact .mY id r c sz b o cap rows h hb
  | agg cs aZ hs _ ih=>simp only[flat] at hf;exact .agg cs aZ hs (fun j x hx=>ih j x hx (FT hf x (gB hx)))
  | bG cs aZ hs _ ih=>simp only[flat] at hf;exact .bG cs aZ hs (fun j x hx=>ih j x hx (FT hf x (gB hx)))
  | fn f cs aZ hs _ ih=>simp only[flat] at hf;exact .fn f cs aZ hs (fun j x hx=>ih j x hx (FT hf x (gB hx)))
  | gJ t v cv _ ih=>simp only[flat] at hf;exact .gJ t v cv (ih hf)
  | gk id b ag L h hb=>exact .gk id b ag L h hb
  | pz id cv h h1=>exact .pz id cv h h1
theorem ay.up {os os':List Ob} {w:World} {Z Z':Nat→Prop} {blk jU:fQ} {ρ:Nat→Nat} {v:AV} {cv:Value} (h:ay os w Z blk v cv) (hz:∀ b,Z b→Z' b)
    (ho:∀ j o,os[j]?=some o→os'[ρ j]?=some (bO ρ o)∧(o≠.gone→jU (ρ j)=blk j)):ay os' w Z' jU (a6 ρ v) cv:=by
  induction h with
  | undef cv=>exact .undef cv
  | bW v cv h =>
    have h':ay os' w Z' jU v cv:=.bW _ _ (h.mono (fun b hb=>⟨hz b hb,rfl⟩))
    cases h<;>simpa [a6] using h'
  | b7 cells b o f tQ hc ht=>exact .b7 cells b o f (hz b tQ) hc (fun j x hx=>(ht j x hx).mono (fun b hb=>⟨hz b hb,rfl⟩))
  | kh id sz off len cv h h1=>exact .kh _ sz off len cv (ho id _ h).1 h1
  | lU id r c cv h h1=>exact .lU _ r c cv (ho id _ h).1 h1
  | ref id sz off len b o cap cap' rows h hb hl hc kX =>
    obtain ⟨h1,h2⟩:=ho id _ h
    exact .ref _ sz off len b o cap cap' _ h1 ((h2 (by simp)).trans hb) (by simpa using hl) hc kX
  | lE id sz h hb =>
    obtain ⟨h1,h2⟩:=ho id _ h
    exact .lE _ sz h1 ((h2 (by simp)).trans hb)
  | lV id sz off b x bo rows h hb hl =>
    obtain ⟨h1,h2⟩:=ho id _ h
    exact .lV _ sz off b x bo _ h1 ((h2 (by simp)).trans hb) (by simpa using hl)
  | mu id c b cap cells h hb =>
    obtain ⟨h1,h2⟩:=ho id _ h
    exact .mu _ c b cap _ h1 ((h2 (by simp)).trans hb)
  | mY id r c sz b o cap rows h hb =>
    obtain ⟨h1,h2⟩:=ho id _ h
    exact .mY _ r c sz b o cap _ h1 ((h2 (by simp)).trans hb)
  | agg cs aZ hs _ ih =>
    simp only[a6,tM]
    refine .agg _ aZ (by simpa using hs) (fun j x hx=>?_)
    simp only[cm,xK] at hx
    obtain ⟨y,hy,rfl⟩:=hx
    exact ih j y hy
  | bG cs aZ hs _ ih =>
    simp only[a6,tM]
    refine .bG _ aZ (by simpa using hs) (fun j x hx=>?_)
    simp only[cm,xK] at hx
    obtain ⟨y,hy,rfl⟩:=hx
    exact ih j y hy
  | fn f cs aZ hs _ ih =>
    simp only[a6,tM]
    refine .fn f _ aZ (by simpa using hs) (fun j x hx=>?_)
    simp only[cm,xK] at hx
    obtain ⟨y,hy,rfl⟩:=hx
    exact ih j y hy
  | gJ t v cv _ ih=>simp only[a6];exact .gJ t _ cv ih
  | gk id b ag L h hb =>
    obtain ⟨h1,h2⟩:=ho id _ h
    exact .gk _ b ag _ h1 ((h2 (by simp)).trans hb)
  | pz id cv h h1=>exact .pz _ cv (ho id _ h).1 h1
theorem zT {ρ:Nat→Nat} {o:Ob}:bO ρ o=.gone↔o=.gone:=by cases o<;>simp[bO]
theorem Ob.Xm {ρ:Nat→Nat} {x y:Ob} (h:x.dW y):(bO ρ x).dW (bO ρ y):=by
  cases x<;>cases y<;>simp[Ob.dW,bO] at h ⊢<;>exact h
theorem ay.down {os os':List Ob} {w:World} {Z Z':Nat→Prop} {blk jU:fQ} {ρ:Nat→Nat} {v:AV} {cv:Value} (h:ay os w Z blk v cv) (hz:∀ b,Z b→Z' b)
    (ho:∀ j x,os[ρ j]?=some x→∃ o,os'[j]?=some o∧(o=.gone∨(x=bO ρ o∧jU j=blk (ρ j)))):∀ v',v=a6 ρ v'→ay os' w Z' jU v' cv:=by
  induction h with
  | undef cv=>intro v' hv;cases v'<;>simp[a6] at hv;exact .undef cv
  | bW v cv h =>
    intro v' hv
    have h':ay os' w Z' jU v cv:=.bW _ _ (h.mono (fun b hb=>⟨hz b hb,rfl⟩))
    cases h<;>cases v'<;>simp[a6] at hv<;>(first|(subst hv;exact h')|(obtain ⟨rfl,rfl⟩:=hv;exact h'))
  | b7 cells b o f tQ hc ht =>
    intro v' hv
    cases v'<;>simp[a6] at hv
    subst hv
    exact .b7 _ b o f (hz b tQ) hc (fun j x hx=>(ht j x hx).mono (fun b hb=>⟨hz b hb,rfl⟩))
  | kh id sz off len cv h h1 =>
    intro v' hv
    cases v'<;>simp[a6] at hv
    obtain ⟨rfl,rfl,rfl,rfl⟩:=hv
    obtain ⟨o,h2,rfl | ⟨h3,_⟩⟩:=ho _ _ h
    · exact .kh _ _ _ _ cv h2 h1
    · have:=zT.1 h3.symm
      subst this
      exact .kh _ _ _ _ cv h2 h1
  | lU id r c cv h h1 =>
    intro v' hv
    cases v'<;>simp[a6] at hv
    obtain ⟨rfl,rfl,rfl⟩:=hv
    obtain ⟨o,h2,rfl | ⟨h3,_⟩⟩:=ho _ _ h
    · exact .lU _ _ _ cv h2 h1
    · have:=zT.1 h3.symm
      subst this
      exact .lU _ _ _ cv h2 h1
  | ref id sz off len b o cap cap' rows h hb hl hc kX =>
    intro v' hv
    cases v'<;>simp[a6] at hv
    obtain ⟨rfl,rfl,rfl,rfl⟩:=hv
    obtain ⟨x,h2,rfl | ⟨h3,h4⟩⟩:=ho _ _ h
    · exact .kh _ _ _ _ _ h2 rfl
    · cases x<;>simp[bO] at h3
      obtain ⟨rfl,rfl⟩:=h3
      exact .ref _ _ _ _ b o cap cap' _ h2 (h4.trans hb) (by simpa using hl) hc kX
  | lE id sz h hb =>
    intro v' hv
    cases v'<;>simp[a6] at hv
    obtain ⟨rfl,rfl,rfl,rfl⟩:=hv
    obtain ⟨x,h2,rfl | ⟨h3,h4⟩⟩:=ho _ _ h
    · exact .kh _ _ _ _ _ h2 rfl
    · cases x<;>simp[bO] at h3
      obtain ⟨rfl,h3⟩:=h3
      subst h3
      exact .lE _ _ h2 (h4.trans hb)
  | lV id sz off b x bo rows h hb hl =>
    intro v' hv
    cases v'<;>simp[a6] at hv
    obtain ⟨rfl,rfl,rfl,rfl⟩:=hv
    obtain ⟨y,h2,rfl | ⟨h3,h4⟩⟩:=ho _ _ h
    · exact .kh _ _ _ _ _ h2 rfl
    · cases y<;>simp[bO] at h3
      obtain ⟨rfl,rfl⟩:=h3
      exact .lV _ _ _ b x bo _ h2 (h4.trans hb) (by simpa using hl)
  | mu id c b cap cells h hb =>
    intro v' hv
    cases v'<;>simp[a6] at hv
    obtain ⟨rfl,rfl,rfl⟩:=hv
    obtain ⟨y,h2,rfl | ⟨h3,h4⟩⟩:=ho _ _ h
    · exact .lU _ _ _ _ h2 rfl
    · cases y<;>simp[bO] at h3
      exact .mu _ _ b cap _ h2 (h4.trans hb)
  | mY id r c sz b o cap rows h hb =>
    intro v' hv
    cases v'<;>simp[a6] at hv
    obtain ⟨rfl,rfl,rfl⟩:=hv
    obtain ⟨y,h2,rfl | ⟨h3,h4⟩⟩:=ho _ _ h
    · exact .lU _ _ _ _ h2 rfl
    · cases y<;>simp[bO] at h3
      obtain ⟨rfl,rfl⟩:=h3
      exact .mY _ _ _ _ b o cap _ h2 (h4.trans hb)
  | agg cs aZ hs _ ih =>
    intro v' hv
    cases v'<;>simp[a6,tM] at hv
    rename_i pA
    subst hv
    exact .agg _ aZ (by simpa using hs) (fun j x hx=>ih j (a6 ρ x) (by simp[hx]) x rfl)
  | bG cs aZ hs _ ih =>
    intro v' hv
    cases v'<;>simp[a6,tM] at hv
    rename_i pA
    subst hv
    exact .bG _ aZ (by simpa using hs) (fun j x hx=>ih j (a6 ρ x) (by simp[hx]) x rfl)
  | fn f cs aZ hs _ ih =>
    intro v' hv
    cases v'<;>simp[a6,tM] at hv
    obtain ⟨rfl,hv⟩:=hv
    subst hv
    exact .fn _ _ aZ (by simpa using hs) (fun j x hx=>ih j (a6 ρ x) (by simp[hx]) x rfl)
  | gJ t v cv _ ih =>
    intro v' hv
    cases v'<;>simp[a6] at hv
    obtain ⟨rfl,hv⟩:=hv
    exact .gJ _ _ cv (ih _ hv)
  | gk id b ag L h hb =>
    intro v' hv
    cases v'<;>simp[a6] at hv
    subst hv
    obtain ⟨y,h2,rfl | ⟨h3,h4⟩⟩:=ho _ _ h
    · exact .pz _ _ h2 rfl
    · cases y<;>simp[bO] at h3
      obtain ⟨rfl,h3⟩:=h3
      exact .gk _ b _ _ h2 (h4.trans hb)
  | pz id cv h h1 =>
    intro v' hv
    cases v'<;>simp[a6] at hv
    subst hv
    obtain ⟨y,h2,rfl | ⟨h3,h4⟩⟩:=ho _ _ h
    · exact .pz _ _ h2 h1
    · exact .pz _ _ (by rw[h2,zT.1 h3.symm]) h1
def Lu (P : Program) (f : FuncId) : Prop := ∃ fn, P.funcs[f]? = some fn ∧ (fn.name == "runtime.NumGoroutine") = false ∧ fn.body.isNone = false
def an (P:Program) (f:FuncId) (args:List AV) (aa:List Ob) (res:AV) (a8:List Ob):Prop :=
  Lu P f∧∀ γ:Cx,γ.tmps.size=args.length→bq ⟨fun k=>args.getD k .undef,aa⟩ γ →
    Calls P f γ.tmps γ.w (fun e w'=>∃ cv aF,e=.returned cv∧aF.w=w'∧aF.tmps = #[cv]∧bq ⟨fun k=>[res].getD k .undef,a8⟩ aF∧Fr aa γ a8 aF)
inductive cg (σ:St) (kp:Nat→Prop):AV→AV→Prop
  | lit (x:Value):cg σ kp (.lit x) (.lit x)
  | tree (s:Nat) (r:List (List AV)):cg σ kp (.tree s r) (.tree s r)
  | nil (sz:Nat):cg σ kp (.tree sz []) (.lit (.slice none 0 0))
  | ref (id sz off len:Nat) (rows fO:List (List AV)) (g:Nat→Nat→AV) (ho:σ.aa[id]?=some (.arr sz rows)) (qc:¬ kp id) (hl:fO.length=((rows.drop off).take len).length) (hw:∀ row∈fO,row.length=sz)
      (h1:∀ r c v,cellAt fO r c=some v→cellAt ((rows.drop off).take len) r c=some (g r c)) (h2:∀ r c v,cellAt fO r c=some v→cg σ kp v (g r c)):cg σ kp (.tree sz fO) (.ref id sz off len)
inductive aE (σ:St) (kp:Nat→Prop) (ρ:Nat→Nat) (snap:Bool):AV→AV→Prop
  | same (v:AV):aE σ kp ρ snap v (a6 ρ v)
  | snap (c d:AV) (hs:snap=true) (h:cg σ kp c d):aE σ kp ρ snap c d
  | agg (cs ds:List AV) (hl:cs.length=ds.length) (h:∀ (j:Nat) c d,cs[j]?=some c→ds[j]?=some d→aE σ kp ρ snap c d):aE σ kp ρ snap (.agg cs) (.agg ds)
  | bG (cs ds:List AV) (hl:cs.length=ds.length) (h:∀ (j:Nat) c d,cs[j]?=some c→ds[j]?=some d→aE σ kp ρ snap c d):aE σ kp ρ snap (.bG cs) (.bG ds)
def br (n:Nat) (ak:List Nat) (j:Nat):Nat:=if j<ak.length then ak.getD j 0 else n+(j - ak.length)
def dV (aa:List Ob):List Nat→List Ob→List Ob
  | i::ak,o::new=>dV (aa.set i o) ak new
  | [],new=>aa++new
  | _::_,[]=>aa
theorem FH (ak:List Nat):∀ (aa new:List Ob),ak.length≤new.length→(dV aa ak new).length=aa.length+(new.length - ak.length):=by
  induction ak with
  | nil=>intro aa new _;simp[dV]
  | cons i ak ih =>
    intro aa new h
    cases new with
    | nil=>simp at h
    | cons o new=>simp only[dV];rw[ih _ _ (by simpa using h)];simp
theorem Cs (ak:List Nat):∀ (aa new:List Ob),ak.length≤new.length→ak.Nodup→(∀ i∈ak,i<aa.length)→∀ j,j<ak.length→(dV aa ak new)[ak.getD j 0]?=new[j]?:=by
  induction ak with
  | nil=>intro aa new _ _ _ j hj;simp at hj
  | cons i ak ih =>
    intro aa new h hn hl j hj
    cases new with
    | nil=>simp at h
    | cons o new =>
      simp only[dV]
      rw[List.nodup_cons] at hn
      have hi:=hl i (by simp)
      have h':ak.length≤new.length:=by simpa using h
      cases j with
      | zero =>
        simp only[List.getD_cons_zero,sk]
        have key:∀ (ak:List Nat) (aa new:List Ob),ak.length≤new.length→i ∉ ak→i<aa.length→(dV aa ak new)[i]?=aa[i]?:=by
          intro ak
          induction ak with
          | nil=>intro aa new _ _ hi;simp only[dV];rw[cn hi]
          | cons k ak Xp =>
            intro aa new h wE hi
            cases new with
            | nil=>simp at h
            | cons o new =>
              simp only[cu,not_or] at wE
              simp only[dV]
              rw[Xp _ _ (by simpa using h) wE.2 (by simpa using hi),bm (Ne.symm wE.1)]
        rw[key ak _ _ h' hn.1 (by simpa using hi)]
        simp[hi]
      | succ j =>
        simp only[List.getD_cons_succ,v7]
        exact ih _ _ h' hn.2 (fun k hk=>by simpa using hl k (by simp[hk])) j (by simpa using hj)
theorem CE (ak:List Nat):∀ (aa new:List Ob),ak.length≤new.length→∀ i,i ∉ ak→i<aa.length→(dV aa ak new)[i]?=aa[i]?:=by
  induction ak with
  | nil=>intro aa new _ i _ hi;simp only[dV];rw[cn hi]
  | cons k ak ih =>
    intro aa new h i wE hi
    cases new with
    | nil=>simp at h
    | cons o new =>
      simp only[cu,not_or] at wE
      simp only[dV]
      rw[ih _ _ (by simpa using h) i wE.2 (by simpa using hi),bm (Ne.symm wE.1)]
theorem Ki (ak:List Nat):∀ (aa new:List Ob),ak.length≤new.length→∀ m,(dV aa ak new)[aa.length+m]?=new[ak.length+m]?:=by
  induction ak with
  | nil=>intro aa new _ m;simp only[dV];rw[eK (by omega)];simp
  | cons k ak ih =>
    intro aa new h m
    cases new with
    | nil=>simp at h
    | cons o new =>
      simp only[dV]
      have:=ih (aa.set k o) new (by simpa using h) m
      simp only[List.length_set] at this
      rw[this]
      simp only[dH]
      have e:ak.length+1+m=(ak.length+m)+1:=by omega
      rw[e];simp
end Go.Am
namespace Go.Am
variable {P:Program}
def CF (P:Program) (f:FuncId) (args:List AV) (σ:St) (K:AV→St→Prop):Prop :=
  ∃ (ak:List Nat) (snap:Bool) (cZ:List AV) (bR:List Ob) (res:AV) (cG:List Ob),an P f cZ bR res cG ∧
    (ak.Nodup∧bR.length=ak.length∧(∀ (j:Nat) o,bR[j]?=some o→σ.aa[ak.getD j 0]?=some (bO (br σ.aa.length ak) o)) ∧
      cZ.length=args.length∧(∀ (j:Nat) c d,cZ[j]?=some c→args[j]?=some d→aE σ (·∈ak) (br σ.aa.length ak) snap c d) ∧
      (snap=true→flat res=true∧∀ o∈cG,tP o)) ∧
    K (a6 (br σ.aa.length ak) res) { σ with aa:=dV σ.aa ak (cG.map (bO (br σ.aa.length ak))) }
theorem cg.zI {σ:St} {γ:Cx} (h:bq σ γ) {kp:Nat→Prop} {γc:Cx}
    (hz:∀ b,γ.Z b→γc.Z b) (hw:γc.w=γ.w) (FU:∀ id b o cap,¬ kp id→Live σ.aa id→γ.blk id=some (b,o,cap)→γc.Z b)
    {c d:AV} (ha:cg σ kp c d):∀ cv,ay σ.aa γ.w γ.Z γ.blk d cv→gF γc.w γc.Z c cv:=by
  induction ha with
  | lit x=>intro cv hv;rw[hv.cM];exact .lit x
  | tree s r=>intro cv hv;exact hv.wF.mono (fun b hb=>⟨hz b hb,by rw[hw]⟩)
  | nil sz=>intro cv hv;rw[hv.cM];exact .nil sz 0 none
  | ref id sz off len rows fO g aT qc hl0 Ci sA p9 ih =>
    intro cv hv
    obtain ⟨h0,cF,Xt⟩:=h.ez id _ aT
    have cz:Live σ.aa id:=⟨_,aT,by simp⟩
    cases hv with
    | bW _ _ h=>cases h
    | kh _ _ _ _ _ h=>rw[aT] at h;simp at h
    | lE _ _ h' hb =>
      have:fO=[]:=ph (by simpa using hl0)
      subst this;exact gF.nil sz 0 none
    | lV _ _ _ b x bo XA h' hb hl =>
      have:fO=[]:=ph (by simpa using hl0)
      subst this;exact gF.nil sz 0 (some ⟨b,x,none⟩)
    | ref _ _ _ _ b o cap cap' XA h' hb hl hc kX =>
      rw[aT] at h';simp at h'
      subst h'
      rcases Xt with ⟨h1,_⟩ | ⟨b',o',zU,cur,t,h1,h2,h3,h4,h5,h6⟩
      · rw[hb] at h1;simp at h1
      · rw[hb] at h1;simp at h1
        obtain ⟨rfl,rfl,rfl⟩:=h1
        have hlen:((rows.drop off).take len).length=len:=by simp;omega
        have nA:∀ r c v,cellAt ((rows.drop off).take len) r c=some v→cellAt rows (off+r) c=some v∧r<len:=by
          intro r c v hv
          simp only[cellAt,List.getElem?_take,List.getElem?_drop] at hv
          split at hv
          · exact⟨hv,by assumption⟩
          · simp at hv
        have Fy:γc.Z b:=FU id b o cap qc cz hb
        have:=gF.tree (w:=γc.w) (Z:=γc.Z) sz fO b (o+off * sz) cap' (fun r c=>cur.getD (o+((off+r) * sz+c)) Go.undef) Fy
          Ci (by rw[hl0,hlen];exact kX)
          (fun r c v hv=>by
            obtain ⟨oG,hr⟩:=nA r c _ (sA r c v hv)
            obtain ⟨qY,ka⟩:=zV cF oG
            have bw:=wG (show off+r<cap by omega) ka
            rw[hw]
            have e:o+off * sz+(r * sz+c)=o+((off+r) * sz+c):=by rw[Nat.add_mul];omega
            rw[e]
            exact yb h2 (by omega))
          (fun r c v hv=>by
            obtain ⟨oG,_⟩:=nA r c _ (sA r c v hv)
            exact ih r c v hv _ (h6 _ _ _ oG))
        rw[hl0,hlen] at this
        exact this
theorem aE.rel {σ:St} {γ:Cx} (h:bq σ γ) {kp:Nat→Prop} {ρ:Nat→Nat} {bR:List Ob} {snap:Bool} {γc:Cx}
    (hz:∀ b,γ.Z b→γc.Z b) (hw:γc.w=γ.w) (FU:snap=true→∀ id b o cap,¬ kp id→Live σ.aa id→γ.blk id=some (b,o,cap)→γc.Z b)
    (ho:∀ j x,σ.aa[ρ j]?=some x→∃ o,bR[j]?=some o∧(o=.gone∨(x=bO ρ o∧γc.blk j=γ.blk (ρ j))))
    {c d:AV} (ha:aE σ kp ρ snap c d):∀ cv,ay σ.aa γ.w γ.Z γ.blk d cv→ay bR γc.w γc.Z γc.blk c cv:=by
  induction ha with
  | same v =>
    intro cv hv
    rw[hw]
    exact hv.down hz ho v rfl
  | snap c d hs hf =>
    intro cv hv
    exact .bW _ _ (hf.zI h hz hw (FU hs) cv hv)
  | agg cs ds hl _ ih =>
    intro cv hv
    obtain ⟨aZ,rfl,h1,h2⟩:=hv.Lv
    refine .agg cs aZ (by omega) (fun j x hx=>?_)
    have hj:j<ds.length:=by have:=(aQ.1 hx).1;omega
    exact ih j x ds[j] hx (by simp[hj]) _ (h2 j _ (by simp[hj]))
  | bG cs ds hl _ ih =>
    intro cv hv
    obtain ⟨aZ,rfl,h1,h2⟩:=hv.Lw
    refine .bG cs aZ (by omega) (fun j x hx=>?_)
    have hj:j<ds.length:=by have:=(aQ.1 hx).1;omega
    exact ih j x ds[j] hx (by simp[hj]) _ (h2 j _ (by simp[hj]))
theorem Lx {n:Nat} {ak:List Nat} (_hs:∀ i∈ak,i<n) {j:Nat} (h:br n ak j<n):j<ak.length∧br n ak j=ak.getD j 0:=by
  unfold br at h ⊢
  split
  · exact⟨by assumption,rfl⟩
  · rename_i hj
    rw[if_neg hj] at h
    omega
theorem aC {ak:List Nat} {j:Nat} (h:j<ak.length):ak.getD j 0∈ak:=by
  rw[aA];simp[h]
theorem Ly {ak:List Nat} (hn:ak.Nodup) {i j:Nat} (hi:i<ak.length) (hj:j<ak.length) (h:ak.getD i 0=ak.getD j 0):i=j:=by
  rw[aA,aA] at h
  simp[hi,hj] at h
  exact (List.getElem_inj hn).1 h
theorem CG {ak:List Nat} {i:Nat} (h:i∈ak) :∃j,j<ak.length∧ak.getD j 0=i:=by
  obtain ⟨j,hj⟩:=List.mem_iff_getElem?.1 h
  have:=(aQ.1 hj).1
  exact⟨j,this,by rw[aA,hj];rfl⟩
def eO (P:Program) (f:FuncId) (args:List AV) (aa:List Ob) (gH:AV→List Ob→Prop):Prop :=
  Lu P f∧∀ γ:Cx,γ.tmps.size=args.length→bq ⟨fun k=>args.getD k .undef,aa⟩ γ →
    Calls P f γ.tmps γ.w (fun e w'=>∃ res a8 cv aF,gH res a8∧e=.returned cv∧aF.w=w'∧aF.tmps = #[cv]∧bq ⟨fun k=>[res].getD k .undef,a8⟩ aF∧Fr aa γ a8 aF)
def FV (P:Program) (f:FuncId) (args:List AV) (σ:St) (K:AV→St→Prop):Prop :=
  ∃ (ak:List Nat) (snap:Bool) (cZ:List AV) (bR:List Ob) (gH:AV→List Ob→Prop),eO P f cZ bR gH ∧
    (ak.Nodup∧bR.length=ak.length∧(∀ (j:Nat) o,bR[j]?=some o→σ.aa[ak.getD j 0]?=some (bO (br σ.aa.length ak) o)) ∧
      cZ.length=args.length∧(∀ (j:Nat) c d,cZ[j]?=some c→args[j]?=some d→aE σ (·∈ak) (br σ.aa.length ak) snap c d)) ∧
    ∀ res cG,gH res cG→(snap=true→flat res=true∧∀ o∈cG,tP o) ∧
      K (a6 (br σ.aa.length ak) res) { σ with aa:=dV σ.aa ak (cG.map (bO (br σ.aa.length ak))) }
theorem Lz {σ:St} {γ:Cx} (h:bq σ γ) {f:FuncId} {args:List AV} {argv:Array Value} (a9:argv.size=args.length) (FX:∀ (j:Nat) d,args[j]?=some d→ay σ.aa γ.w γ.Z γ.blk d (argv.getD j Go.undef))
    {K:AV→St→Prop} (hc:FV P f args σ K) :
    Calls P f argv γ.w (fun e w'=>∃ cv v σ' aF,e=.returned cv∧aF.w=w'∧aF.tmps=γ.tmps∧bq σ' aF∧Fr σ.aa γ σ'.aa aF∧ay σ'.aa aF.w aF.Z aF.blk v cv∧K v σ'∧σ'.env=σ.env):=by
  obtain ⟨ak,snap,cZ,bR,gH,hH,⟨cC,cE,kC,fK,mr⟩,XB⟩:=hc
  have fF:∀ i∈ak,i<σ.aa.length:=by
    intro i hi
    obtain ⟨j,hj,rfl⟩:=CG hi
    have:j<bR.length:=by omega
    exact (aQ.1 (kC j bR[j] (by simp[this]))).1
  let ρ:=br σ.aa.length ak
  let S:Nat→Prop:=fun b=>snap=true∧∃ id o cap,id ∉ ak∧Live σ.aa id∧γ.blk id=some (b,o,cap)
  let γc:Cx:={ w:=γ.w,tmps:=argv,Z:=fun b=>γ.Z b∨S b,blk:=fun j=>if j<ak.length then γ.blk (ak.getD j 0) else none }
  have tR:∀ j x,σ.aa[ρ j]?=some x→∃ o,bR[j]?=some o∧(o=.gone∨(x=bO ρ o∧γc.blk j=γ.blk (ρ j))):=by
    intro j x hx
    obtain ⟨hj,hr⟩:=Lx fF (aQ.1 hx).1
    have lF:j<bR.length:=by omega
    have:=kC j bR[j] (by simp[lF])
    refine⟨bR[j],by simp[lF],.inr ⟨?_,?_⟩⟩
    · have df:σ.aa[br σ.aa.length ak j]?=some x:=hx
      rw[hr,this] at df
      simpa using df.symm
    · show (if j<ak.length then γ.blk (ak.getD j 0) else none)=γ.blk (br σ.aa.length ak j)
      rw[if_pos hj,hr]
  have ju:∀ b,γ.Z b→γc.Z b:=fun b hb=>.inl hb
  have sF:∀ j,Live bR j→Live σ.aa (ak.getD j 0)∧j<ak.length:=by
    rintro j ⟨o,ho,hg⟩
    have hj:=(aQ.1 ho).1
    exact⟨⟨_,kC j o ho,fun e=>hg (zT.1 e)⟩,by omega⟩
  have nJ:=fun {i b o c}=>h.blt (i:=i) (b:=b) (o:=o) (c:=c)
  have FY:bq ⟨fun k=>cZ.getD k .undef,bR⟩ γc:=by
    refine⟨fun k=>?_,?_,?_,?_,?_⟩
    · rcases eF k cZ.length with hk | hk
      · have e:cZ.getD k .undef=cZ[k]:=by simp[hk]
        show ay bR γc.w γc.Z γc.blk (cZ.getD k .undef) _
        rw[e]
        have LA:k<args.length:=by omega
        exact (mr k cZ[k] args[k] (by simp[hk]) (by simp[LA])).rel h ju rfl (fun hs id b o cap cV hl hb=>.inr ⟨hs,id,o,cap,cV,hl,hb⟩) tR _ (FX k _ (by simp[LA]))
      · have e:cZ.getD k .undef=.undef:=by simp[hk]
        show ay bR γc.w γc.Z γc.blk (cZ.getD k .undef) _
        rw[e]
        exact .undef _
    · intro j o ho
      have hj:=(aQ.1 ho).1
      have zW:j<ak.length:=by rw[← cE];exact hj
      have aT:=h.ez _ _ (kC j o ho)
      have hb:γc.blk j=γ.blk (ak.getD j 0):=by show (if j<ak.length then _ else _)=_;rw[if_pos zW]
      cases o with
      | gone=>trivial
      | var cells =>
        obtain ⟨b,cap,cur,t,h1,h2,h3,h4⟩:=aT
        exact⟨b,cap,cur,t,hb.trans h1,h2,by simpa using h3,fun c v hv=>(h4 c (a6 ρ v) (by simp[hv];rfl)).down ju tR v rfl⟩
      | mp ag L =>
        obtain ⟨b,f,h1,h2,h3,h4⟩:=aT
        refine⟨b,f,hb.trans h1,?_,fun p hp=>h3 (p.1,a6 ρ p.2) (B3 (f:=fun p:List Int × AV=>(p.1,a6 ρ p.2)) hp),fun j p hp=>(h4 j (p.1,a6 ρ p.2) (by simp only[cm,hp];rfl)).down ju tR p.2 rfl⟩
        rw[FZ,ey] at h2;exact h2
      | arr sz rows =>
        obtain ⟨h0,hr,aT⟩:=aT
        refine⟨h0,fun row a7=>by simpa using hr (row.map (a6 ρ)) (B3 a7),?_⟩
        rcases aT with ⟨h1,h2⟩ | ⟨b,o,cap,cur,t,h1,h2,h3,h4,h5,h6⟩
        · exact .inl ⟨hb.trans h1,by simpa using h2⟩
        · refine .inr ⟨b,o,cap,cur,t,hb.trans h1,h2,h3,by simpa using h4,h5,fun r c v hv=>(h6 r c (a6 ρ v) ?_).down ju tR v rfl⟩
          simp only[cellAt,cm] at hv ⊢
          cases cd:rows[r]? with
          | none=>simp[cd] at hv
          | some row=>simp[cd] at hv ⊢;exact⟨v,hv,rfl⟩
    · intro i j b o c o' c' hi hj fL gl
      obtain ⟨h1,h2⟩:=sF i hi
      obtain ⟨h3,h4⟩:=sF j hj
      have e1:γc.blk i=γ.blk (ak.getD i 0):=by show (if i<ak.length then _ else _)=_;rw[if_pos h2]
      have e2:γc.blk j=γ.blk (ak.getD j 0):=by show (if j<ak.length then _ else _)=_;rw[if_pos h4]
      exact Ly cC h2 h4 (h.inj _ _ b o c o' c' h1 h3 (e1 ▸ fL) (e2 ▸ gl))
    · rintro b ⟨i,o,c,hi,hb⟩ hz
      obtain ⟨h1,h2⟩:=sF i hi
      have e1:γc.blk i=γ.blk (ak.getD i 0):=by show (if i<ak.length then _ else _)=_;rw[if_pos h2]
      rw[e1] at hb
      rcases hz with hz | ⟨_,id,o',cap',cV,hl,db⟩
      · exact h.nz b ⟨_,o,c,h1,hb⟩ hz
      · have:=h.inj _ _ b o c o' cap' h1 hl hb db
        exact cV (this ▸ aC h2)
    · rintro b (hb | ⟨_,id,o,cap,_,hl,hb⟩)
      · exact h.gG b hb
      · exact nJ hl hb
  have jv:=hH.2 γc (by show argv.size=_;omega) FY
  refine jv.mono ?_
  rintro e w' ⟨res,cG,cv,aF,F0,rfl,rfl,uS,iL,gY⟩
  obtain ⟨LB,hK⟩:=XB res cG F0
  have XC:ak.length≤cG.length:=by have:=gY.len;omega
  let new:=cG.map (bO ρ)
  have aq:ak.length≤new.length:=by simpa [new] using XC
  let nK:=dV σ.aa ak new
  let iN:Cx:={ w:=aF.w,tmps:=γ.tmps,Z:=fun b=>aF.Z b∧¬ S b,blk:=fun i=>if i<σ.aa.length then γ.blk i else aF.blk (ak.length+(i - σ.aa.length)) }
  have zX:∀ j o,cG[j]?=some o→nK[ρ j]?=some (bO ρ o)∧(o≠.gone→iN.blk (ρ j)=aF.blk j):=by
    intro j o ho
    by_cases hj:j<ak.length
    · have e:ρ j=ak.getD j 0:=by show br _ _ _=_;simp only[br];rw[if_pos hj]
      have cX:=fF _ (aC hj)
      refine⟨?_,fun hg=>?_⟩
      · rw[e]
        show (dV σ.aa ak new)[ak.getD j 0]?=_
        rw[Cs ak σ.aa new aq cC fF j hj]
        simp[new,ho]
      · rw[e]
        show (if ak.getD j 0<σ.aa.length then _ else _)=_
        rw[if_pos cX]
        have:=(gY.kA j (by omega) ⟨o,ho,hg⟩).1
        rw[this]
        show _=if j<ak.length then _ else _
        rw[if_pos hj]
    · have e:ρ j=σ.aa.length+(j - ak.length):=by show br _ _ _=_;simp only[br];rw[if_neg hj]
      have e2:ak.length+(j - ak.length)=j:=by omega
      refine⟨?_,fun hg=>?_⟩
      · rw[e]
        show (dV σ.aa ak new)[_]?=_
        rw[Ki ak σ.aa new aq,e2]
        simp[new,ho]
      · rw[e]
        show (if σ.aa.length+(j - ak.length)<σ.aa.length then _ else aF.blk (ak.length+(σ.aa.length+(j - ak.length) - σ.aa.length)))=_
        rw[if_neg (by omega)]
        congr 1;omega
  have LC:∀ b,S b→¬ γ.Z b:=by
    rintro b ⟨_,id,o,cap,_,hl,hb⟩
    exact h.nz b ⟨id,o,cap,hl,hb⟩
  have yc:∀ b,nL bR γc.blk b→∃ i∈ak,∃ o cap,Live σ.aa i∧γ.blk i=some (b,o,cap):=by
    rintro b ⟨j,o,c,hl,hb⟩
    obtain ⟨h1,h2⟩:=sF j hl
    have e1:γc.blk j=γ.blk (ak.getD j 0):=by show (if j<ak.length then _ else _)=_;rw[if_pos h2]
    exact⟨_,aC h2,o,c,h1,e1 ▸ hb⟩
  have XD:∀ i,i ∉ ak→Live σ.aa i→∀ b o c,γ.blk i=some (b,o,c)→aF.w.heap[b]?=γ.w.heap[b]?:=by
    intro i hi hl b o c hb
    refine gY.ax b (nJ hl hb) (fun ho=>?_)
    obtain ⟨i',hi',o',c',ix,db⟩:=yc b ho
    have:=h.inj _ _ b o c o' c' hl ix hb db
    exact hi (this ▸ hi')
  have LD:∀ v cv,ay σ.aa γ.w γ.Z γ.blk v cv→ay nK iN.w iN.Z iN.blk v cv:=by
    intro v cv hv
    refine hv.mono (fun b hb=>⟨⟨gY.z0 b (ju b hb),fun hs=>LC b hs hb⟩,?_⟩) (fun i o ho=>?_)
    · refine gY.ax b (h.gG b hb) (fun ho=>?_)
      obtain ⟨i',_,o',c',ix,db⟩:=yc b ho
      exact h.nz b ⟨i',o',c',ix,db⟩ hb
    · have hi:=(aQ.1 ho).1
      have fG:iN.blk i=γ.blk i:=by show (if i<σ.aa.length then _ else _)=_;rw[if_pos hi]
      by_cases my:i∈ak
      · obtain ⟨j,hj,rfl⟩:=CG my
        have lF:j<cG.length:=by omega
        have wH:nK[ak.getD j 0]?=some (bO ρ cG[j]):=by
          show (dV σ.aa ak new)[ak.getD j 0]?=_
          rw[Cs ak σ.aa new aq cC fF j hj]
          simp[new,lF]
        by_cases hg:cG[j]=.gone
        · left;rw[wH,hg];rfl
        · right
          refine⟨fG,_,wH,?_⟩
          obtain ⟨_,x,x',hx,df,q9⟩:=gY.kA j (by omega) ⟨cG[j],by simp[lF],hg⟩
          have e1:cG[j]=x':=by simpa [lF] using df
          have e2:=kC j x hx
          rw[ho] at e2
          simp at e2
          rw[e1,e2]
          exact Ob.Xm q9
      · have wH:nK[i]?=some o:=by
          show (dV σ.aa ak new)[i]?=_
          rw[CE ak σ.aa new aq i my hi];exact ho
        by_cases hg:o=.gone
        · subst hg;exact .inl wH
        · exact .inr ⟨fG,o,wH,Ob.jG hg⟩
  have CH:∀ v cv,ay cG aF.w aF.Z aF.blk v cv→(snap=true→flat v=true)→ay nK iN.w iN.Z iN.blk (a6 ρ v) cv:=by
    intro v cv hv eP
    by_cases oH:snap=true
    · exact (hv.Xj (Z':=iN.Z) (eP oH)).up (fun b hb=>hb) zX
    · exact hv.up (fun b hb=>⟨hb,fun hs=>oH hs.1⟩) zX
  have k7:∀ i,Live nK i→(i<σ.aa.length∧i ∉ ak∧Live σ.aa i∧iN.blk i=γ.blk i)∨∃ j,Live cG j∧i=ρ j∧iN.blk i=aF.blk j:=by
    rintro i ⟨o,ho,hg⟩
    have hlen:=(aQ.1 ho).1
    have Kh:nK.length=σ.aa.length+(new.length - ak.length):=FH ak σ.aa new aq
    have CJ:new.length=cG.length:=by simp[new]
    rcases eF i σ.aa.length with hi | hi
    · by_cases my:i∈ak
      · right
        obtain ⟨j,hj,rfl⟩:=CG my
        have lF:j<cG.length:=by omega
        have e:ρ j=ak.getD j 0:=by show br _ _ _=_;simp only[br];rw[if_pos hj]
        have hx:=zX j cG[j] (by simp[lF])
        rw[e] at hx
        rw[ho] at hx
        simp only[cY.injEq] at hx
        have qj:cG[j]≠.gone:=by intro h0;apply hg;rw[hx.1,h0];rfl
        exact⟨j,⟨_,by simp[lF],qj⟩,e.symm,hx.2 qj⟩
      · left
        have:nK[i]?=σ.aa[i]?:=CE ak σ.aa new aq i my hi
        rw[this] at ho
        exact⟨hi,my,⟨o,ho,hg⟩,by show (if i<σ.aa.length then _ else _)=_;rw[if_pos hi]⟩
    · right
      have lF:ak.length+(i - σ.aa.length)<cG.length:=by omega
      have e:ρ (ak.length+(i - σ.aa.length))=i:=by
        show br _ _ _=_
        simp only[br]
        rw[if_neg (by omega)];omega
      have hx:=zX _ _ (show cG[ak.length+(i - σ.aa.length)]?=some cG[ak.length+(i - σ.aa.length)] by simp[lF])
      rw[e] at hx
      rw[ho] at hx
      simp only[cY.injEq] at hx
      have qj:cG[ak.length+(i - σ.aa.length)]≠.gone:=by intro h0;apply hg;rw[hx.1,h0];rfl
      exact⟨_,⟨_,by simp[lF],qj⟩,e.symm,hx.2 qj⟩
  have F1:∀ j b o c,Live cG j→aF.blk j=some (b,o,c)→(∃ i∈ak,∃ o cap,Live σ.aa i∧γ.blk i=some (b,o,cap))∨γ.w.heap.size≤b:=by
    intro j b o c hl hb
    rcases gY.own b ⟨j,o,c,hl,hb⟩ with h1 | h1
    · exact .inl (yc b h1)
    · exact .inr h1
  have XE:bq ⟨σ.env,nK⟩ iN:=by
    refine⟨fun k=>LD _ _ (h.aw k),?_,?_,?_,?_⟩
    · intro i o ho
      by_cases cQ:o=.gone
      · subst cQ;trivial
      rcases k7 i ⟨o,ho,cQ⟩ with ⟨hi,my,hl,fG⟩ | ⟨j,⟨x,hx,dy⟩,rfl,fG⟩
      · have he:nK[i]?=σ.aa[i]?:=CE ak σ.aa new aq i my hi
        have cR:σ.aa[i]?=some o:=by rw[← he];exact ho
        exact (h.ez i o cR).mono LD fG (fun b o c hb=>XD i my hl b o c hb)
      · have XF:=(zX j x hx).1
        have e:o=bO ρ x:=by
          have:nK[ρ j]?=some o:=ho
          rw[XF] at this;simpa using this.symm
        subst e
        have aT:=iL.ez j x hx
        have eP:snap=true→tP x:=fun hs=>(LB hs).2 x (gB hx)
        cases x with
        | gone=>trivial
        | var cells =>
          obtain ⟨b,cap,cur,t,h1,h2,h3,h4⟩:=aT
          refine⟨b,cap,cur,t,fG.trans h1,h2,by simpa using h3,fun c v hv=>?_⟩
          simp only[cm,xK] at hv
          obtain ⟨y,hy,rfl⟩:=hv
          exact CH _ _ (h4 c y hy) (fun hs=>eP hs y (gB hy))
        | mp ag L =>
          obtain ⟨b,f,h1,h2,h3,h4⟩:=aT
          refine⟨b,f,fG.trans h1,?_,fun p hp=>?_,fun j p hp=>?_⟩
          · rw[FZ,ey];exact h2
          · obtain ⟨y,hy,rfl⟩:=ca.1 hp
            exact h3 y hy
          · simp only[cm,xK] at hp
            obtain ⟨y,hy,rfl⟩:=hp
            exact CH _ _ (h4 j y hy) (fun hs=>eP hs y (gB hy))
        | arr sz rows =>
          obtain ⟨h0,hr,aT⟩:=aT
          refine⟨h0,?_,?_⟩
          · intro row a7
            simp only[ca] at a7
            obtain ⟨y,hy,rfl⟩:=a7
            simpa using hr y hy
          · rcases aT with ⟨h1,h2⟩ | ⟨b,o,cap,cur,t,h1,h2,h3,h4,h5,h6⟩
            · exact .inl ⟨fG.trans h1,by simpa using h2⟩
            · refine .inr ⟨b,o,cap,cur,t,fG.trans h1,h2,h3,by simpa using h4,h5,fun r c v hv=>?_⟩
              simp only[cellAt,cm] at hv
              cases cd:rows[r]? with
              | none=>simp[cd] at hv
              | some row =>
                simp only[cd,gf,Option.bind_some,cm,xK] at hv
                obtain ⟨y,hy,rfl⟩:=hv
                exact CH _ _ (h6 r c y (by simp[cellAt,cd,hy])) (fun hs=>eP hs row (gB cd) y (gB hy))
    · intro i j b o c o' c' hi hj fL gl
      rcases k7 i hi with ⟨jc,my,re,fG⟩ | ⟨ji,yd,rfl,fG⟩<;>rcases k7 j hj with ⟨k8,zW,CK,zY⟩ | ⟨jj,LF,rfl,zY⟩
      · exact h.inj i j b o c o' c' re CK (fG ▸ fL) (zY ▸ gl)
      · rw[fG] at fL
        rw[zY] at gl
        rcases F1 jj b o' c' LF gl with ⟨i',hi',o1,c1,ix,db⟩ | lW
        · exact absurd (h.inj i i' b o c o1 c1 re ix fL db) (fun e=>my (e ▸ hi'))
        · have:=nJ re fL;omega
      · rw[fG] at fL
        rw[zY] at gl
        rcases F1 ji b o c yd fL with ⟨i',hi',o1,c1,ix,db⟩ | lW
        · exact absurd (h.inj j i' b o' c' o1 c1 CK ix gl db) (fun e=>zW (e ▸ hi'))
        · have:=nJ CK gl;omega
      · rw[fG] at fL
        rw[zY] at gl
        rw[iL.inj ji jj b o c o' c' yd LF fL gl]
    · rintro b ⟨i,o,c,hi,hb⟩ ⟨hz,F2⟩
      rcases k7 i hi with ⟨jc,my,re,fG⟩ | ⟨ji,yd,rfl,fG⟩
      · rw[fG] at hb
        rcases gY.z1 b hz with (h1 | h1) | h1 | h1
        · exact h.nz b ⟨i,o,c,re,hb⟩ h1
        · exact F2 h1
        · obtain ⟨i',hi',o1,c1,ix,db⟩:=yc b h1
          exact my ((h.inj i i' b o c o1 c1 re ix hb db) ▸ hi')
        · have:=nJ re hb
          have wI:γ.w.heap.size≤b:=h1
          omega
      · rw[fG] at hb
        exact iL.nz b ⟨ji,o,c,yd,hb⟩ hz
    · rintro b ⟨hz,_⟩
      exact iL.gG b hz
  refine⟨cv,a6 ρ res,⟨σ.env,nK⟩,iN,rfl,rfl,rfl,XE,?_,?_,hK,rfl⟩
  · refine⟨gY.lS,gY.tape,gY.output,gY.size,?_,?_,?_,?_,?_,?_⟩
    · intro b hb u5
      refine gY.ax b hb (fun ho=>u5 ?_)
      obtain ⟨i',_,o1,c1,ix,db⟩:=yc b ho
      exact⟨i',o1,c1,ix,db⟩
    · intro b hb
      exact⟨gY.z0 b (ju b hb),fun hs=>LC b hs hb⟩
    · rintro b ⟨hz,F2⟩
      rcases gY.z1 b hz with (h1 | h1) | h1 | h1
      · exact .inl h1
      · exact absurd h1 F2
      · obtain ⟨i',_,o1,c1,ix,db⟩:=yc b h1
        exact .inr (.inl ⟨i',o1,c1,ix,db⟩)
      · exact .inr (.inr h1)
    · rintro b ⟨i,o,c,hi,hb⟩
      rcases k7 i hi with ⟨jc,my,re,fG⟩ | ⟨ji,yd,rfl,fG⟩
      · rw[fG] at hb;exact .inl ⟨i,o,c,re,hb⟩
      · rw[fG] at hb
        rcases F1 ji b o c yd hb with ⟨i',_,o1,c1,ix,db⟩ | lW
        · exact .inl ⟨i',o1,c1,ix,db⟩
        · exact .inr lW
    · show σ.aa.length≤(dV σ.aa ak new).length
      rw[FH ak σ.aa new aq];omega
    · rintro i hi ⟨o,ho,hg⟩
      refine⟨by show (if i<σ.aa.length then _ else _)=_;rw[if_pos hi],?_⟩
      by_cases my:i∈ak
      · obtain ⟨j,hj,rfl⟩:=CG my
        have lF:j<cG.length:=by omega
        have wH:nK[ak.getD j 0]?=some (bO ρ cG[j]):=by
          show (dV σ.aa ak new)[ak.getD j 0]?=_
          rw[Cs ak σ.aa new aq cC fF j hj]
          simp[new,lF]
        have dL:nK[ak.getD j 0]?=some o:=ho
        rw[wH] at dL
        simp only[cY.injEq] at dL
        have qj:cG[j]≠.gone:=by intro h0;apply hg;rw[← dL,h0];rfl
        obtain ⟨_,x,x',hx,df,q9⟩:=gY.kA j (by omega) ⟨cG[j],by simp[lF],qj⟩
        have e1:cG[j]=x':=by simpa [lF] using df
        refine⟨bO ρ x,o,kC j x hx,ho,?_⟩
        rw[← dL,e1]
        cases x<;>cases x'<;>simp_all [Ob.dW,bO]
      · have he:nK[i]?=σ.aa[i]?:=CE ak σ.aa new aq i my hi
        have cR:σ.aa[i]?=some o:=by rw[← he];exact ho
        exact⟨o,o,cR,ho,Ob.jG hg⟩
  · have:=iL.aw 0
    rw[uS] at this
    exact CH res cv (by simpa using this) (fun hs=>(LB hs).1)
theorem an.r {f:FuncId} {args:List AV} {aa:List Ob} {res:AV} {a8:List Ob} (h:an P f args aa res a8):eO P f args aa (fun r os=>r=res∧os=a8) :=
  ⟨h.1,fun γ a9 hs=>(h.2 γ a9 hs).mono fun _ _ ⟨cv,aF,h1,h2,h3,h4,h5⟩=>⟨res,a8,cv,aF,⟨rfl,rfl⟩,h1,h2,h3,h4,h5⟩⟩
theorem CF.r {f:FuncId} {args:List AV} {σ:St} {K:AV→St→Prop} (h:CF P f args σ K):FV P f args σ K:=by
  obtain ⟨ak,snap,cZ,bR,res,cG,h1,⟨h2,h3,h4,h5,h6,h7⟩,h8⟩:=h
  exact⟨ak,snap,cZ,bR,_,h1.r,⟨h2,h3,h4,h5,h6⟩,fun r os ⟨e1,e2⟩=>by subst e1;subst e2;exact⟨h7,h8⟩⟩
theorem LH {σ:St} {γ:Cx} (h:bq σ γ) {f:FuncId} {args:List AV} {argv:Array Value} (a9:argv.size=args.length) (FX:∀ (j:Nat) d,args[j]?=some d→ay σ.aa γ.w γ.Z γ.blk d (argv.getD j Go.undef))
    {K:AV→St→Prop} (hc:CF P f args σ K) :
    Calls P f argv γ.w (fun e w'=>∃ cv v σ' aF,e=.returned cv∧aF.w=w'∧aF.tmps=γ.tmps∧bq σ' aF∧Fr σ.aa γ σ'.aa aF∧ay σ'.aa aF.w aF.Z aF.blk v cv∧K v σ'∧σ'.env=σ.env) :=
  Lz h a9 FX hc.r
end Go.Am
namespace Go.Am
variable {P:Program}
theorem bq.select {σ:St} {γ:Cx} (h:bq σ γ) (ak:List Nat) (snap:Bool) (bR:List Ob) (cC:ak.Nodup) (cE:bR.length=ak.length)
    (kC:∀ (j:Nat) o,bR[j]?=some o→o=.gone∨σ.aa[ak.getD j 0]?=some (bO (br σ.aa.length ak) o)) (fF:∀ i∈ak,i<σ.aa.length)
    (e:Nat→AV) (tm:Array Value)
    (he:∀ k,e k=.undef∨∃ d,aE σ (fun id=>∃ j,j<ak.length∧ak.getD j 0=id∧bR[j]?≠some .gone) (br σ.aa.length ak) snap (e k) d∧ay σ.aa γ.w γ.Z γ.blk d (tm.getD k Go.undef)) :
    ∃ aF,aF.w=γ.w∧aF.tmps=tm∧bq ⟨e,bR⟩ aF∧((∀ i,i<bR.length→aF.blk i=γ.blk (ak.getD i 0))∧(∀ b,γ.Z b→aF.Z b)∧(∀ b,aF.Z b→γ.Z b∨nL σ.aa γ.blk b) ∧
      ∀ i,Live bR i→Live σ.aa (ak.getD i 0)∧∃ o,bR[i]?=some o∧σ.aa[ak.getD i 0]?=some (bO (br σ.aa.length ak) o)):=by
  let ρ:=br σ.aa.length ak
  let kp:Nat→Prop:=fun id=>∃ j,j<ak.length∧ak.getD j 0=id∧bR[j]?≠some .gone
  let S:Nat→Prop:=fun b=>snap=true∧∃ id o cap,¬ kp id∧Live σ.aa id∧γ.blk id=some (b,o,cap)
  let γc:Cx:={ w:=γ.w,tmps:=tm,Z:=fun b=>γ.Z b∨S b,blk:=fun j=>if j<ak.length then γ.blk (ak.getD j 0) else none }
  have tR:∀ j x,σ.aa[ρ j]?=some x→∃ o,bR[j]?=some o∧(o=.gone∨(x=bO ρ o∧γc.blk j=γ.blk (ρ j))):=by
    intro j x hx
    obtain ⟨hj,hr⟩:=Lx fF (aQ.1 hx).1
    have lF:j<bR.length:=by omega
    refine⟨bR[j],by simp[lF],?_⟩
    rcases kC j bR[j] (by simp[lF]) with hg | this
    · exact .inl hg
    · right
      refine⟨?_,?_⟩
      · have df:σ.aa[br σ.aa.length ak j]?=some x:=hx
        rw[hr,this] at df
        simpa using df.symm
      · show (if j<ak.length then γ.blk (ak.getD j 0) else none)=γ.blk (br σ.aa.length ak j)
        rw[if_pos hj,hr]
  have ju:∀ b,γ.Z b→γc.Z b:=fun b hb=>.inl hb
  have sF:∀ j,Live bR j→Live σ.aa (ak.getD j 0)∧j<ak.length∧kp (ak.getD j 0)∧∃ o,bR[j]?=some o∧σ.aa[ak.getD j 0]?=some (bO ρ o):=by
    rintro j ⟨o,ho,hg⟩
    have hj:=(aQ.1 ho).1
    rcases kC j o ho with h' | h'
    · exact absurd h' hg
    · exact⟨⟨_,h',fun e=>hg (zT.1 e)⟩,by omega,⟨j,by omega,rfl,by rw[ho];simpa using hg⟩,o,ho,h'⟩
  have pB:∀ j,j<ak.length→γc.blk j=γ.blk (ak.getD j 0):=fun j hj=>by show (if j<ak.length then _ else _)=_;rw[if_pos hj]
  have FY:bq ⟨e,bR⟩ γc:=by
    refine⟨fun k=>?_,?_,?_,?_,?_⟩
    · rcases he k with h0 | ⟨d,hd,hr⟩
      · show ay bR γc.w γc.Z γc.blk (e k) _
        rw[h0];exact .undef _
      · exact hd.rel h ju rfl (fun hs id b o cap cV hl hb=>.inr ⟨hs,id,o,cap,cV,hl,hb⟩) tR _ hr
    · intro j o ho
      by_cases cQ:o=.gone
      · subst cQ;trivial
      obtain ⟨_,zW,_,o',cR,XG⟩:=sF j ⟨o,ho,cQ⟩
      have:o=o':=by
        have h1:bR[j]?=some o:=ho
        rw[cR] at h1;simpa using h1.symm
      subst this
      have aT:=h.ez _ _ XG
      have hb:=pB j zW
      cases o with
      | gone=>trivial
      | var cells =>
        obtain ⟨b,cap,cur,t,h1,h2,h3,h4⟩:=aT
        exact⟨b,cap,cur,t,hb.trans h1,h2,by simpa using h3,fun c v hv=>(h4 c (a6 ρ v) (by simp only[cm,hv];rfl)).down ju tR v rfl⟩
      | mp ag L =>
        obtain ⟨b,f,h1,h2,h3,h4⟩:=aT
        refine⟨b,f,hb.trans h1,?_,fun p hp=>h3 (p.1,a6 ρ p.2) (B3 (f:=fun p:List Int × AV=>(p.1,a6 ρ p.2)) hp),fun j p hp=>(h4 j (p.1,a6 ρ p.2) (by simp only[cm,hp];rfl)).down ju tR p.2 rfl⟩
        rw[FZ,ey] at h2;exact h2
      | arr sz rows =>
        obtain ⟨h0,hr,aT⟩:=aT
        refine⟨h0,fun row a7=>by simpa using hr (row.map (a6 ρ)) (B3 a7),?_⟩
        rcases aT with ⟨h1,h2⟩ | ⟨b,o,cap,cur,t,h1,h2,h3,h4,h5,h6⟩
        · exact .inl ⟨hb.trans h1,by simpa using h2⟩
        · refine .inr ⟨b,o,cap,cur,t,hb.trans h1,h2,h3,by simpa using h4,h5,fun r c v hv=>(h6 r c (a6 ρ v) ?_).down ju tR v rfl⟩
          simp only[cellAt,cm] at hv ⊢
          cases cd:rows[r]? with
          | none=>simp[cd] at hv
          | some row=>simp[cd] at hv ⊢;exact⟨v,hv,rfl⟩
    · intro i j b o c o' c' hi hj fL gl
      obtain ⟨h1,h2,_⟩:=sF i hi
      obtain ⟨h3,h4,_⟩:=sF j hj
      exact Ly cC h2 h4 (h.inj _ _ b o c o' c' h1 h3 (pB i h2 ▸ fL) (pB j h4 ▸ gl))
    · rintro b ⟨i,o,c,hi,hb⟩ hz
      obtain ⟨h1,h2,h3,_⟩:=sF i hi
      rw[pB i h2] at hb
      rcases hz with hz | ⟨_,id,o',cap',cV,hl,db⟩
      · exact h.nz b ⟨_,o,c,h1,hb⟩ hz
      · have:=h.inj _ _ b o c o' cap' h1 hl hb db
        exact cV (this ▸ h3)
    · rintro b (hb | ⟨_,id,o,cap,_,hl,hb⟩)
      · exact h.gG b hb
      · exact h.blt hl hb
  refine⟨γc,rfl,rfl,FY,fun i hi=>pB i (by omega),ju,?_,?_⟩
  · rintro b (hb | ⟨_,id,o,cap,_,hl,hb⟩)
    · exact .inl hb
    · exact .inr ⟨id,o,cap,hl,hb⟩
  · intro i hi
    obtain ⟨h1,h2,_,h4⟩:=sF i hi
    exact⟨h1,h4⟩
theorem Ob.XH {ρ:Nat→Nat} {x o:Ob} (h:x.dW (bO ρ o)):x.dW o:=by
  cases x<;>cases o<;>simp[Ob.dW,bO] at h ⊢<;>exact h
theorem Fr.select {os:List Ob} {γ0 γ aF:Cx} {σ:St} (hf:Fr os γ0 σ.aa γ) {ak:List Nat} {bR:List Ob} (hn:os.length≤ak.length) (cE:bR.length=ak.length)
    (cV:∀ i,i<os.length→ak.getD i 0=i) (hw:aF.w=γ.w)
    (h:(∀ i,i<bR.length→aF.blk i=γ.blk (ak.getD i 0))∧(∀ b,γ.Z b→aF.Z b)∧(∀ b,aF.Z b→γ.Z b∨nL σ.aa γ.blk b) ∧
      ∀ i,Live bR i→Live σ.aa (ak.getD i 0)∧∃ o,bR[i]?=some o∧σ.aa[ak.getD i 0]?=some (bO (br σ.aa.length ak) o)):Fr os γ0 bR aF:=by
  obtain ⟨h1,h2,h3,h4⟩:=h
  refine⟨by rw[hw];exact hf.lS,by rw[hw];exact hf.tape,by rw[hw];exact hf.output,by rw[hw];exact hf.size,by rw[hw];exact hf.ax,fun b hb=>h2 b (hf.z0 b hb),?_,?_,by omega,?_⟩
  · intro b hb
    rcases h3 b hb with h | h
    · exact hf.z1 b h
    · rcases hf.own b h with h | h
      · exact .inr (.inl h)
      · exact .inr (.inr h)
  · rintro b ⟨i,o,c,hi,hb⟩
    have bw:=hi.lt
    rw[h1 i bw] at hb
    exact hf.own b ⟨_,o,c,(h4 i hi).1,hb⟩
  · intro i hi hl
    obtain ⟨h5,o,ho,cR⟩:=h4 i hl
    rw[cV i hi] at h5 cR
    obtain ⟨h6,x,x',hx,df,hk⟩:=hf.kA i hi h5
    refine⟨by rw[h1 i hl.lt,cV i hi];exact h6,x,o,hx,ho,?_⟩
    rw[cR] at df
    simp only[cY.injEq] at df
    rw[← df] at hk
    exact Ob.XH hk
def gI (N:Nat) (os:List Ob) (γ0:Cx) (σ:St) (a:Act) (w:World):Prop :=
  a.defers=[]∧a.tmps.size=N∧∃ γ,γ.w=w∧γ.tmps=a.tmps∧bq σ γ∧Fr os γ0 σ.aa γ
def W (P:Program) (N n0:Nat) (c:Code) (Q:Exit→St→Prop) (σ:St):Prop :=
  ∀ (os:List Ob) (γ0:Cx) (a:Act) (w:World),os.length=n0→gI N os γ0 σ a w→c.wp P (fun e a' w'=>∃ σ',Q e σ'∧gI N os γ0 σ' a' w') a w
def pt (P:Program) (g:FuncId) (args:List AV) (dst:Option Tmp) (K:St→Prop) (σ:St):Prop:=CF P g args σ fun v σ'=>K (σ'.put dst v)
def u3 (P:Program) (t:TypeId) (m:String):Option (FuncId × Option TypeId) :=
  match P.info? t with
  | none=>none
  | some i =>
    match i.methods.find? (·.name == m) with
    | none=>none
    | some r =>
      match r.path.isEmpty,r.func,P.underlying t with
      | true,some (g,pr),some (.pointer e)=>some (g,if pr then none else some e)
      | _,_,_=>none
def nD (P:Program) (σ:St) (v:AV) (K:FuncId→AV→Prop):Option (FuncId × Option TypeId)→Prop
  | some (g,none)=>K g v
  | some (g,some e) =>
    (ty P e).kind≠99 ∧
    match v with
    | .ptr id r c =>
      match rowOf σ id r with
      | some row=>lA (ty P e) row c fun x=>K g x
      | none=>False
    | _=>False
  | none=>False
def ba (P:Program) (o:Oper) (σ:St) (K:St→Prop):Prop :=
  match o.op with
  | .call { callee:=.value f,args,.. } =>
    match ev σ f with
    | .fn g aW=>pt P g (args.toList.map (ev σ)++aW) o.dst K σ
    | _=>False
  | .call { callee:=.invoke r m,args,.. } =>
    match ev σ r with
    | .gJ t v=>nD P σ v (fun g x=>pt P g (x::args.toList.map (ev σ)) o.dst K σ) (u3 P t m)
    | _=>False
  | _=>cp P o σ K
def mZ (P:Program) (o:Oper) (K:St→Prop) (b want:Bool) (σ:St):Prop:=(b=want→ba P o σ K)∧(b≠want→K (σ.put o.dst (.lit (.tuple #[]))))
def opsL (P:Program) (ops:Array Oper):List Oper→(St→Prop)→St→Prop
  | [],K,σ=>K σ
  | o::r,K,σ =>
    match o.guard with
    | none=>ba P o σ (opsL P ops r K)
    | some (j,want) =>
      match (ops[j]?).bind (·.dst) with
      | none=>False
      | some d =>
        match σ.env d with
        | .lit (.bool b)=>mZ P o (opsL P ops r K) b want σ
        | .lit (.tuple vs)=>vs = #[]∧opsL P ops r K (σ.put o.dst (.lit (.tuple #[])))
        | _=>False
theorem sy (a:Act) (d:Option Tmp) (v:Value):(a.put d v).tmps.size=a.tmps.size:=by cases d<;>simp[Act.put]
theorem put_defers (a:Act) (d:Option Tmp) (v:Value):(a.put d v).defers=a.defers:=by cases d<;>rfl
theorem XI (xt:TypeId) (a:Addr) (x y:String):Builtin.ssaWrapNilChk_ #[xt] xt #[.pointer (some a),strVal x,strVal y]=pure (.pointer (some a)):=rfl
theorem LI {w:World} {t:TypeId} {i:TypeInfo} (h:P.info? t=some i):(typeInfo t).run P w=.ok i w:=by
  simp[typeInfo,h]
theorem ext1 (x:Value) (A:Array Value):(#[x]++A).extract 1 (#[x]++A).size=A:=by
  apply Array.ext'
  simp only[Array.toList_extract,List.extract,xJ,Array.size_append]
  simp[List.take_of_length_le]
theorem XJ {σ:St} {γ:Cx} (hs:bq σ γ) {t:TypeId} {m:String} {v:AV} {cv:Value} (hv:ay σ.aa γ.w γ.Z γ.blk v cv) {K:FuncId→AV→Prop} (h:nD P σ v K (u3 P t m)) :
    ∃ g x cx,(Go.method (P.types.size+Made.depth) t cv m).run P γ.w=.ok (g,cx) γ.w∧ay σ.aa γ.w γ.Z γ.blk x cx∧K g x:=by
  obtain ⟨fu,XK⟩ :∃fu,P.types.size+Made.depth=fu+1:=Nat.exists_eq_succ_of_ne_zero (by unfold Made.depth;omega)
  rw[XK]
  unfold Go.method
  unfold u3 at h
  cases hi:P.info? t with
  | none=>simp[hi,nD] at h
  | some i =>
    simp only[hi] at h
    cases hf:i.methods.find? (·.name == m) with
    | none=>simp[hf,nD] at h
    | some r =>
      simp only[hf] at h
      split at h
      · rename_i g pr e hp hr hu
        have rf:r.path = #[]:=Array.isEmpty_iff.1 hp
        cases pr with
        | true =>
          simp only[if_pos,nD] at h
          refine⟨g,v,cv,?_,hv,h⟩
          simp[LI hi,hf,rf,follow,hr,receiverAt,run_underlying hu,Place.get]
        | false =>
          simp only[if_neg,Bool.false_eq_true,not_false_eq_true,nD] at h
          obtain ⟨hk,h⟩:=h
          cases v with
          | ptr id rr c =>
            simp only at h
            cases a7:rowOf σ id rr with
            | none=>simp[a7] at h
            | some row =>
              simp only[a7] at h
              obtain ⟨x,cx,h1,h2,h3⟩:=F3 hs hk hv a7 h
              refine⟨g,x,cx,?_,h2,h3⟩
              obtain ⟨b,base,cap,cur,tt,o,rfl,_⟩:=CL hs hv a7
              simp only[Instr.loadAt,Instr.sureAddr,Sem.run_bind,Sem.run_pure,Result.andThen_ok] at h1
              simp[LI hi,hf,rf,follow,hr,receiverAt,run_underlying hu,Place.get,XI,asAddr,h1]
          | _=>exact h.elim
      · exact h.elim
theorem wo {N:Nat} {os:List Ob} {γ0:Cx} {o:Oper} {σ:St} {K:St→Prop} (h:ba P o σ K) {a:Act} {w:World} (aJ:gI N os γ0 σ a w) (hd:∀ d,o.dst=some d→d<N)
    {Q:Exit→Act→World→Prop} {next:Act→World→Prop} (hn:∀ σ' a' w',K σ'→gI N os γ0 σ' a' w'→next a' w'):o.wp P a w next Q:=by
  obtain ⟨iY,a9,γ,rfl,ha,hs,hf⟩:=aJ
  have rh:∀ d,o.dst=some d→d<a.tmps.size:=fun d h=>by rw[a9];exact hd d h
  have XL:cp P o σ K→o.wp P a γ.w next Q:=by
    intro h
    obtain ⟨n,x,w',σ',aF,hr,F4,hK,iL,gY,nM,jR⟩:=XM h hs ha rh
    unfold Oper.wp
    rw[hr]
    have e7:gI N os γ0 σ' (a.put o.dst x) w':=⟨by rw[put_defers];exact iY,by rw[sy];exact a9,aF,nM,jR,iL,hf.trans gY⟩
    rcases F4 with rfl | ⟨rfl,rfl⟩
    · exact hn _ _ _ hK e7
    · exact hn _ _ _ hK e7
  unfold ba at h
  split at h
  · rename_i f args fl dP
    split at h
    · rename_i g aW he
      have dK:=sG hs ha f
      rw[he] at dK
      obtain ⟨aZ,bd,j9,pC⟩:=dK.LJ
      have mr:∀ (j:Nat) d,(args.toList.map (ev σ)++aW)[j]?=some d→ay σ.aa γ.w γ.Z γ.blk d (((args.map a.eval)++aZ).getD j Go.undef):=by
        intro j d hj
        simp only[eY]
        rcases eF j args.size with bw | lW
        · rw[cn (by simpa using bw)] at hj
          rw[B4 (by simpa using bw)]
          simp only[cm,zA,Array.getElem?_map] at hj ⊢
          cases hx:args[j]? with
          | none=>simp[hx] at hj
          | some y=>simp[hx] at hj ⊢;subst hj;exact sG hs ha y
        · rw[eK (by simpa using lW)] at hj
          rw[Array.getElem?_append_right (by simpa using lW)]
          simp only[ey,Array.length_toList,Array.size_map] at hj ⊢
          have:=pC _ d hj
          simpa [eY] using this
      unfold pt at h
      have jv:=LH hs (argv:=(args.map a.eval)++aZ) (by simp[j9]) mr h
      obtain ⟨ak,snap,cZ,bR,res,cG,⟨⟨fn,tS,pD,u6⟩,_⟩,_⟩:=h
      unfold Oper.wp
      have hr:(execOp a.eval o).run P γ.w=.ok (.enter g ((args.map a.eval)++aZ)) γ.w:=by
        have e9 : ¬ fn.name = "runtime.NumGoroutine" := by simpa using pD
        have nN:¬ fn.body=none:=by intro e;rw[e] at u6;simp at u6
        simp[execOp,dP,resolve,bd,Deferred.ofValue,invoke,callFunc,tS,e9,nN]
      rw[hr]
      show Calls P g _ _ _
      refine jv.mono ?_
      rintro e w' ⟨cv,v,σ',aF,rfl,rfl,jR,iL,gY,hv,hK,u7⟩
      refine hn _ _ _ hK ⟨by rw[put_defers];exact iY,by rw[sy];exact a9,{ aF with tmps:=(a.put o.dst cv).tmps },rfl,rfl,qa iL (by rw[jR,ha]) rh hv,?_⟩
      rw[qb]
      exact (hf.trans gY).put _
    · exact h.elim
  · rename_i r m args fl dP
    split at h
    · rename_i t v he
      have dK:=sG hs ha r
      rw[he] at dK
      obtain ⟨CM,bd,pC⟩:=dK.LK
      obtain ⟨g,x,cx,hm,hx,h⟩:=XJ hs pC h
      have mr:∀ (j:Nat) d,(x::args.toList.map (ev σ))[j]?=some d→ay σ.aa γ.w γ.Z γ.blk d ((#[cx]++args.map a.eval).getD j Go.undef):=by
        intro j d hj
        simp only[eY]
        cases j with
        | zero =>
          simp only[sk,cY.injEq] at hj
          subst hj
          rw[B4 (by simp)]
          simpa using hx
        | succ j =>
          simp only[v7,cm,zA] at hj
          rw[Array.getElem?_append_right (by simp)]
          simp only[List.size_toArray,dH,List.length_nil,Nat.zero_add,Nat.add_sub_cancel,Array.getElem?_map]
          cases hy:args[j]? with
          | none=>simp[hy] at hj
          | some y=>simp[hy] at hj ⊢;subst hj;exact sG hs ha y
      unfold pt at h
      have jv:=LH hs (argv:=#[cx]++args.map a.eval) (by simp;omega) mr h
      obtain ⟨ak,snap,cZ,bR,res,cG,⟨⟨fn,tS,pD,u6⟩,_⟩,_⟩:=h
      unfold Oper.wp
      have hr:(execOp a.eval o).run P γ.w=.ok (.enter g (#[cx]++args.map a.eval)) γ.w:=by
        have e9 : ¬ fn.name = "runtime.NumGoroutine" := by simpa using pD
        have nN:¬ fn.body=none:=by intro e;rw[e] at u6;simp at u6
        have e0:(#[Value.iface t CM]++args.map a.eval)[0]?=some (.iface t CM):=by rw[B4 (by simp)];simp
        have e1:=ext1 (.iface t CM) (args.map a.eval)
        have e2:(callMethod (.iface t CM) m (args.map a.eval)).run P γ.w=.ok (.enter g (#[cx]++args.map a.eval)) γ.w:=by
          unfold callMethod
          simp only[Sem.run_bind,run_program,Result.andThen_ok,hm]
          simp[callFunc,tS,e9,nN]
        simp only[execOp,dP,resolve,bd,pure_bind,invoke,e0,e1]
        exact e2
      rw[hr]
      show Calls P g _ _ _
      refine jv.mono ?_
      rintro e w' ⟨cv,v,σ',aF,rfl,rfl,jR,iL,gY,hv,hK,u7⟩
      refine hn _ _ _ hK ⟨by rw[put_defers];exact iY,by rw[sy];exact a9,{ aF with tmps:=(a.put o.dst cv).tmps },rfl,rfl,qa iL (by rw[jR,ha]) rh hv,?_⟩
      rw[qb]
      exact (hf.trans gY).put _
    · exact h.elim
  · exact XL h
theorem zZ {N:Nat} {os:List Ob} {γ0:Cx} {ops:Array Oper} (hd:∀ o∈ops.toList,∀ d,o.dst=some d→d<N) {K:St→Prop} {Q:Exit→Act→World→Prop}
    (hQ:∀ σ' a' w',K σ'→gI N os γ0 σ' a' w'→Q .normal a' w'):∀ (l:List Oper) (i:Nat) (σ:St) (a:Act) (w:World),ops.toList.drop i=l→opsL P ops l K σ→gI N os γ0 σ a w →
      wpOps P ops Q (List.range' i l.length) a w
  | [],i,σ,a,w,_,h,aJ=>by simpa [wpOps] using hQ _ _ _ h aJ
  | o::r,i,σ,a,w,hl,h,aJ=>by
    have hi:ops[i]?=some o:=by
      have:(ops.toList.drop i)[0]?=some o:=by rw[hl];rfl
      simpa using this
    have hr:ops.toList.drop (i+1)=r:=by
      have:=congrArg List.tail hl
      simpa [List.tail_drop] using this
    have cX:o∈ops.toList:=gB (by simpa using hi)
    rw[dH,List.range'_succ,wpOps_cons]
    unfold wpOp
    simp only[hi]
    unfold opsL at h
    cases hg:o.guard with
    | none =>
      simp only[hg] at h
      have hw:Region.wanted o (yielded ops a.tmps)=true:=by simp[Region.wanted,hg]
      rw[if_pos hw]
      left
      exact wo h aJ (hd o cX) (fun σ' a' w' hK e7=>zZ hd hQ r (i+1) σ' a' w' hr hK e7)
    | some jw =>
      obtain ⟨j,want⟩:=jw
      simp only[hg] at h
      cases eA:(ops[j]?).bind (·.dst) with
      | none=>simp[eA] at h
      | some d =>
        simp only[eA] at h
        split at h
        · rename_i b he
          obtain ⟨iY,a9,γ,rfl,ha,hs,hf⟩:=aJ
          have jt:=hs.aw d
          rw[he,ha] at jt
          have hv:=jt.cM
          have hy:yielded ops a.tmps j=some b:=by
            unfold yielded
            rw[eA]
            have:a.tmps[d]?=some (.bool b):=by
              rw[eY] at hv
              cases hx:a.tmps[d]? with
              | none=>rw[hx] at hv;simp[Go.undef] at hv
              | some y=>rw[hx] at hv;simp at hv;rw[hv]
            simp[this]
          by_cases ig:b=want
          · have hw:Region.wanted o (yielded ops a.tmps)=true:=by simp[Region.wanted,hg,hy,ig]
            rw[if_pos hw]
            left
            exact wo (h.1 ig) ⟨iY,a9,γ,rfl,ha,hs,hf⟩ (hd o cX) (fun σ' a' w' hK e7=>zZ hd hQ r (i+1) σ' a' w' hr hK e7)
          · have hw:Region.wanted o (yielded ops a.tmps)=false:=by simp[Region.wanted,hg,hy,ig]
            rw[if_neg (by rw[hw];simp)]
            refine zZ hd hQ r (i+1) _ _ _ hr (h.2 ig) ⟨by rw[put_defers];exact iY,by rw[sy];exact a9,{ γ with tmps:=(a.put o.dst Go.undef).tmps },rfl,rfl,qa hs ha (fun d h=>by rw[a9];exact hd o cX d h) (.lit _),?_⟩
            rw[qb];exact hf.put _
        · rename_i vs he
          obtain ⟨iY,a9,γ,rfl,ha,hs,hf⟩:=aJ
          have jt:=hs.aw d
          rw[he,ha] at jt
          have hv:=jt.cM
          have hy:yielded ops a.tmps j=none:=by
            unfold yielded
            rw[eA]
            rw[eY] at hv
            cases hx:a.tmps[d]? with
            | none=>simp[hx]
            | some y=>rw[hx] at hv;simp at hv;subst hv;simp[hx]
          have hw:Region.wanted o (yielded ops a.tmps)=false:=by simp[Region.wanted,hg,hy]
          rw[if_neg (by rw[hw];simp)]
          refine zZ hd hQ r (i+1) _ _ _ hr h.2 ⟨by rw[put_defers];exact iY,by rw[sy];exact a9,{ γ with tmps:=(a.put o.dst Go.undef).tmps },rfl,rfl,qa hs ha (fun d h=>by rw[a9];exact hd o cX d h) (.lit _),?_⟩
          rw[qb];exact hf.put _
        · exact h.elim
end Go.Am
namespace Go.Am
variable {P:Program} {N n0:Nat} {Q:Exit→St→Prop} {σ:St}
theorem LL {c:Code} {Q':Exit→St→Prop} (h:W P N n0 c Q σ) (hq:∀ e s,Q e s→Q' e s):W P N n0 c Q' σ :=
  fun os γ0 a w hn aJ=>wp_mono (h os γ0 a w hn aJ) (fun _ _ _ ⟨σ',h1,h2⟩=>⟨σ',hq _ _ h1,h2⟩)
theorem z4 (h:Q .normal σ):W P N n0 .skip Q σ:=fun _ _ _ _ _ aJ=>wp_skip ⟨σ,h,aJ⟩
theorem XN {l:Nat} (h:Q .normal σ):W P N n0 (.label l) Q σ:=fun _ _ _ _ _ aJ=>wp_label ⟨σ,h,aJ⟩
theorem XO {id:Nat} (h:Q (.exit id) σ):W P N n0 (.exit id) Q σ:=fun _ _ _ _ _ aJ=>wp_exit ⟨σ,h,aJ⟩
theorem XP (h:Q .ret σ):W P N n0 .ret Q σ:=fun _ _ _ _ _ aJ=>wp_ret ⟨σ,h,aJ⟩
def XQ (P:Program) (N n0:Nat) (y:Code) (Q:Exit→St→Prop):Exit→St→Prop
  | .normal,s=>W P N n0 y Q s
  | e,s=>Q e s
theorem FG {x y:Code} (h:W P N n0 x (XQ P N n0 y Q) σ):W P N n0 (.seq x y) Q σ:=by
  intro os γ0 a w hn aJ
  refine wp_seq (wp_mono (h os γ0 a w hn aJ) ?_)
  rintro e a' w' ⟨σ',h1,h2⟩
  cases e with
  | normal=>exact h1 os γ0 a' w' hn h2
  | exit id=>exact⟨σ',h1,h2⟩
  | goto l=>exact⟨σ',h1,h2⟩
  | ret=>exact⟨σ',h1,h2⟩
  | panic c=>exact⟨σ',h1,h2⟩
  | outgrown=>exact⟨σ',h1,h2⟩
theorem z5 {c:Operand} {x y:Code} {t:Bool} (hc:ev σ c=.lit (.bool t)) (ht:t=true→W P N n0 x Q σ) (hf:t=false→W P N n0 y Q σ):W P N n0 (.cond c x y) Q σ:=by
  intro os γ0 a w hn aJ
  have bd:a.eval c=.bool t:=by
    obtain ⟨_,_,γ,rfl,ha,hs,_⟩:=aJ
    have:=sG hs ha c
    rw[hc] at this
    exact this.cM
  exact wp_cond_split bd (fun h=>ht h os γ0 a w hn aJ) (fun h=>hf h os γ0 a w hn aJ)
def Cq (id:Nat) (Q:Exit→St→Prop):Exit→St→Prop
  | .exit wz,s=>if wz=id then Q .normal s else Q (.exit wz) s
  | e,s=>Q e s
theorem W4 {id:Nat} {c:Code} (h:W P N n0 c (Cq id Q) σ):W P N n0 (.block id c) Q σ:=by
  intro os γ0 a w hn aJ
  refine wp_block (wp_mono (h os γ0 a w hn aJ) ?_)
  rintro e a' w' ⟨σ',h1,h2⟩
  cases e with
  | exit wz =>
    simp only[Cq] at h1
    simp only[Exit.inBlock]
    split
    · rename_i he;rw[if_pos he] at h1;exact⟨σ',h1,h2⟩
    · rename_i he;rw[if_neg he] at h1;exact⟨σ',h1,h2⟩
  | normal=>exact⟨σ',h1,h2⟩
  | goto l=>exact⟨σ',h1,h2⟩
  | ret=>exact⟨σ',h1,h2⟩
  | panic c=>exact⟨σ',h1,h2⟩
  | outgrown=>exact⟨σ',h1,h2⟩
def gj (N:Nat) (ops:Array Oper):Bool:=ops.toList.all fun o=>match o.dst with | some d=>decide (d<N) | none=>true
theorem qd {ops:Array Oper} (h:gj N ops=true):∀ o∈ops.toList,∀ d,o.dst=some d→d<N:=by
  intro o ho d hd
  unfold gj at h
  rw[gU] at h
  have:=h o ho
  simp[hd] at this
  exact this
theorem Kj {id:Nat} {ops:Array Oper} (hd:gj N ops=true) (h:opsL P ops ops.toList (Q .normal) σ):W P N n0 (.region id ops false) Q σ:=by
  intro os γ0 a w _ aJ
  refine wp_region ?_
  have:=zZ (P:=P) (N:=N) (os:=os) (γ0:=γ0) (ops:=ops) (qd hd) (K:=Q .normal) (Q:=fun e a' w'=>∃ σ',Q e σ'∧gI N os γ0 σ' a' w') (fun σ' a' w' hK e7=>⟨σ',hK,e7⟩)
    ops.toList 0 σ a w rfl h aJ
  rw[List.range_eq_range']
  simpa using this
theorem gI.drawn {os:List Ob} {γ0:Cx} {a:Act} {w:World} (h:gI N os γ0 σ a w):gI N os γ0 σ a { w with drawn:=w.drawn+1 }:=by
  obtain ⟨h1,h2,γ,rfl,h3,h4,h5⟩:=h
  exact⟨h1,h2,{ γ with w:={ γ.w with drawn:=γ.w.drawn+1 } },rfl,h3,h4.F5 rfl,h5.F5 rfl rfl rfl rfl⟩
def aB (n0:Nat) (σ σ':St):Prop:=∀ (os:List Ob) (γ0 γ:Cx),os.length=n0→bq σ γ→Fr os γ0 σ.aa γ→∃ aF,aF.w=γ.w∧aF.tmps=γ.tmps∧bq σ' aF∧Fr os γ0 σ'.aa aF
theorem bJ {c:Code} {σ':St} (h:aB n0 σ σ') (hw:W P N n0 c Q σ'):W P N n0 c Q σ:=by
  intro os γ0 a w hn aJ
  obtain ⟨h1,h2,γ,rfl,h3,h4,h5⟩:=aJ
  obtain ⟨aF,e1,e2,e3,e4⟩:=h os γ0 γ hn h4 h5
  exact hw os γ0 a γ.w hn ⟨h1,h2,aF,e1,e2.trans h3,e3,e4⟩
theorem aB.forget {e:Nat→AV} (h:∀ k,e k=.undef∨e k=σ.env k):aB n0 σ ⟨e,σ.aa⟩:=by
  intro os γ0 γ _ hs hf
  refine⟨γ,rfl,rfl,⟨fun k=>?_,hs.ez,hs.inj,hs.nz,hs.gG⟩,hf⟩
  rcases h k with h | h
  · show ay _ _ _ _ (e k) _
    rw[h];exact .undef _
  · show ay _ _ _ _ (e k) _
    rw[h];exact hs.aw k
theorem aB.select (ak:List Nat) (snap:Bool) (bR:List Ob) (e:Nat→AV) (cC:ak.Nodup) (cE:bR.length=ak.length)
    (kC:∀ (j:Nat) o,bR[j]?=some o→o=.gone∨σ.aa[ak.getD j 0]?=some (bO (br σ.aa.length ak) o)) (fF:∀ i∈ak,i<σ.aa.length)
    (hn:n0≤ak.length) (cV:∀ i,i<n0→ak.getD i 0=i)
    (he:∀ k,e k=.undef∨aE σ (fun id=>∃ j,j<ak.length∧ak.getD j 0=id∧bR[j]?≠some .gone) (br σ.aa.length ak) snap (e k) (σ.env k)):aB n0 σ ⟨e,bR⟩:=by
  intro os γ0 γ tT hs hf
  obtain ⟨aF,h1,h2,h3,h4⟩:=hs.select ak snap bR cC cE kC fF e γ.tmps (fun k=>(he k).imp id fun h=>⟨_,h,hs.aw k⟩)
  exact⟨aF,h1,h2,h3,hf.select (by omega) cE (fun i hi=>cV i (by omega)) h1 h4⟩
theorem aB.trans {σ1 σ2:St} (h:aB n0 σ σ1) (k:aB n0 σ1 σ2):aB n0 σ σ2:=by
  intro os γ0 γ tT hs hf
  obtain ⟨γ1,a1,a2,a3,a4⟩:=h os γ0 γ tT hs hf
  obtain ⟨z6,b1,b2,b3,b4⟩:=k os γ0 γ1 tT a3 a4
  exact⟨z6,b1.trans a1,b2.trans a2,b3,b4⟩
theorem aB.nil (d sz:Nat) (h:σ.env d=.lit (.slice none 0 0)) (h0:0<sz):aB n0 σ ⟨iM σ.env d (.ref σ.aa.length sz 0 0),σ.aa++[.arr sz []]⟩:=by
  intro os γ0 γ _ hs hf
  have hp:=hs.wJ h0
  refine⟨{ γ with blk:=cS γ.blk σ.aa.length none },rfl,rfl,⟨fun k=>?_,hp.ez,hp.inj,hp.nz,hp.gG⟩,hf.trans (Fr.wJ _ _ _)⟩
  simp only[iM]
  by_cases hk:k=d
  · subst hk
    rw[if_pos rfl]
    have:=hs.aw k
    rw[h] at this
    rw[this.cM]
    exact .lE _ _ (List.getElem?_concat_length ..) (by simp[cS])
  · rw[if_neg hk]
    exact hp.aw k
def dX (σ:St) (P:Program):List ResultVar→(List AV→Prop)→Prop
  | [],K=>K []
  | .tmp t::r,K=>dX σ P r fun vs=>K (σ.env t::vs)
  | .cell a t::r,K =>
    (ty P t).kind≠99 ∧
    match σ.env a with
    | .ptr id rr c =>
      match rowOf σ id rr with
      | some row=>lA (ty P t) row c fun v=>dX σ P r fun vs=>K (v::vs)
      | none=>False
    | _=>False
def dQ:List AV→AV
  | [v]=>v
  | vs=>.bG vs
theorem CN {γ:Cx} (hs:bq σ γ):∀ (rs:List ResultVar) (K:List AV→Prop),dX σ P rs K →
    ∃ vs aZ,K vs∧(rs.mapM fun (r:ResultVar)=>match r with | .tmp t=>(pure (γ.tmps.getD t Go.undef):Sem Value) | .cell a t=>do loadVar t (← asAddr (γ.tmps.getD a Go.undef))).run P γ.w=.ok aZ γ.w ∧
      aZ.length=vs.length∧vs.length=rs.length∧∀ (j:Nat) v,vs[j]?=some v→ay σ.aa γ.w γ.Z γ.blk v (aZ.getD j Go.undef)
  | [],K,h=>⟨[],[],h,by simp,rfl,rfl,by simp⟩
  | .tmp t::r,K,h=>by
    obtain ⟨vs,aZ,h1,h2,h3,h4,h5⟩:=CN hs r _ h
    refine⟨_,γ.tmps.getD t Go.undef::aZ,h1,?_,by simp[h3],by simp[h4],?_⟩
    · simp only[List.mapM_cons,Sem.run_bind,Sem.run_pure,Result.andThen_ok,h2]
    · intro j v hj
      cases j with
      | zero=>simp at hj;subst hj;simpa using hs.aw t
      | succ j=>simpa using h5 j v (by simpa using hj)
  | .cell a t::r,K,h=>by
    obtain ⟨hk,h⟩:=h
    split at h
    · rename_i id rr c he
      have hv:=hs.aw a
      rw[he] at hv
      split at h
      · rename_i row a7
        obtain ⟨v,cv,l1,l2,l3⟩:=F3 hs hk hv a7 h
        obtain ⟨vs,aZ,h1,h2,h3,h4,h5⟩:=CN hs r _ l3
        obtain ⟨b,base,cap,cur,tt,o,hp,_⟩:=CL hs hv a7
        have eQ:(do loadVar t (← asAddr (γ.tmps.getD a Go.undef)):Sem Value).run P γ.w=.ok cv γ.w:=by
          rw[hp] at l1 ⊢
          simp only[Instr.loadAt,Instr.sureAddr,Sem.run_bind,Sem.run_pure,Result.andThen_ok] at l1
          simp only[asAddr,Sem.run_bind,Sem.run_pure,Result.andThen_ok]
          exact l1
        refine⟨_,cv::aZ,h1,?_,by simp[h3],by simp[h4],?_⟩
        · simp only[List.mapM_cons]
          rw[Sem.run_bind,eQ]
          simp only[Result.andThen_ok,Sem.run_bind,h2,Sem.run_pure]
        · intro j x hj
          cases j with
          | zero=>simp at hj;subst hj;simpa using l2
          | succ j=>simpa using h5 j x (by simpa using hj)
      · exact h.elim
    · exact h.elim
def mT (n0:Nat) (σ:St) (v res:AV) (a8:List Ob):Prop :=
  ∃ (ak:List Nat) (snap:Bool),ak.Nodup∧a8.length=ak.length∧(∀ (j:Nat) o,a8[j]?=some o→o=.gone∨σ.aa[ak.getD j 0]?=some (bO (br σ.aa.length ak) o))∧(∀ i∈ak,i<σ.aa.length) ∧
    n0≤ak.length∧(∀ i,i<n0→ak.getD i 0=i)∧aE σ (fun id=>∃ j,j<ak.length∧ak.getD j 0=id∧a8[j]?≠some .gone) (br σ.aa.length ak) snap res v
def ye (P:Program) (n0:Nat) (rs:List ResultVar) (res:AV) (a8:List Ob):Exit→St→Prop
  | .normal,s=>dX s P rs fun vs=>mT n0 s (dQ vs) res a8
  | .ret,s=>dX s P rs fun vs=>mT n0 s (dQ vs) res a8
  | _,_=>False
theorem an.F6 {f : FuncId} {fn : Func} {c : Code} {args : List AV} {aa : List Ob} {res : AV} {a8 : List Ob} (hf : P.funcs[f]? = some fn) (hb : fn.body = some c) (pD : (fn.name == "runtime.NumGoroutine") = false)
    (hN:args.length≤fn.ntmps) (h:W P fn.ntmps aa.length c (ye P aa.length fn.results.toList res a8) ⟨fun k=>args.getD k .undef,aa⟩):an P f args aa res a8:=by
  refine⟨⟨fn,hf,pD,by rw[hb];rfl⟩,?_⟩
  intro γ a9 hs
  refine calls_of_wp hf hb ?_
  let tm:=γ.tmps++Array.replicate (fn.ntmps - γ.tmps.size) Go.undef
  have aJ:gI fn.ntmps aa γ ⟨fun k=>args.getD k .undef,aa⟩ { tmps:=tm,defers:=[] } γ.w:=by
    refine⟨rfl,by simp[tm];omega,{ γ with tmps:=tm },rfl,rfl,⟨fun k=>?_,hs.ez,hs.inj,hs.nz,hs.gG⟩,(Fr.refl _ _).put _⟩
    rcases eF k args.length with hk | hk
    · have:=hs.aw k
      have e:tm.getD k Go.undef=γ.tmps.getD k Go.undef:=by
        simp only[tm,eY]
        rw[B4 (by omega)]
      show ay _ _ _ _ _ (tm.getD k Go.undef)
      rw[e];exact this
    · have e:args.getD k AV.undef=.undef:=by simp[hk]
      show ay _ _ _ _ (args.getD k .undef) _
      rw[e];exact .undef _
  refine wp_mono (h aa γ _ γ.w rfl aJ) ?_
  rintro e a' w' ⟨σ',h1,iY,_,aF,rfl,ha,iL,gY⟩
  have fin:∀ (K:List AV→Prop),dX σ' P fn.results.toList K→(∀ vs,K vs→mT aa.length σ' (dQ vs) res a8) →
      a'.defers=[]∧∃ v,(results fn a'.tmps).run P aF.w=.ok v aF.w∧∃ cv iN,Ending.returned v=.returned cv∧iN.w=aF.w∧iN.tmps = #[cv]∧bq ⟨fun k=>[res].getD k .undef,a8⟩ iN∧Fr aa γ a8 iN:=by
    intro K hK F7
    obtain ⟨vs,aZ,k1,k2,k3,k4,k5⟩:=CN iL _ _ hK
    obtain ⟨ak,snap,r1,r2,r3,r4,r5,r6,r7⟩:=F7 vs k1
    refine⟨iY,?_⟩
    have eQ :∃v,(results fn a'.tmps).run P aF.w=.ok v aF.w∧ay σ'.aa aF.w aF.Z aF.blk (dQ vs) v:=by
      have hm:(fn.results.mapM fun (r:ResultVar)=>match r with | .tmp t=>(pure (a'.tmps.getD t Go.undef):Sem Value) | .cell a t=>do loadVar t (← asAddr (a'.tmps.getD a Go.undef))).run P aF.w=.ok aZ.toArray aF.w:=by
        rw[Array.mapM_eq_mapM_toList,Sem.run_map,← ha,k2]
        rfl
      have hr:(results fn a'.tmps).run P aF.w=.ok (if h:aZ.toArray.size=1 then aZ.toArray[0] else .tuple aZ.toArray) aF.w:=by
        unfold results
        rw[Sem.run_bind]
        exact congrArg (fun r=>Result.andThen r fun (a:Array Value) w'=>(pure (if h:a.size=1 then a[0] else Value.tuple a):Sem Value).run P w') hm
      rw[hr]
      match vs,aZ,k3,k5 with
      | [],[],_,k5=>exact⟨_,rfl,.bG _ _ rfl (fun j x hj=>by simp at hj)⟩
      | [v],[cv],_,k5=>exact⟨cv,by simp,by simpa [dQ] using k5 0 v rfl⟩
      | v::v'::vs,cv::nO::aZ,k3,k5 =>
        refine⟨.tuple (cv::nO::aZ).toArray,by simp,.bG _ _ (by simpa using k3) (fun j x hj=>?_)⟩
        have:=k5 j x hj
        simpa [aA,eY] using this
    obtain ⟨v,sH,ri⟩:=eQ
    obtain ⟨iN,e1,e2,e3,e4⟩:=iL.select ak snap a8 r1 r2 r3 r4 (fun k=>[res].getD k .undef) #[v] (fun k=>by
      cases k with
      | zero=>exact .inr ⟨_,r7,by simpa using ri⟩
      | succ k=>left;simp)
    exact⟨v,sH,v,iN,rfl,e1,e2,e3,gY.select r5 r2 r6 e1 e4⟩
  cases e with
  | normal=>exact fin _ h1 (fun _ h=>h)
  | ret=>exact fin _ h1 (fun _ h=>h)
  | exit id=>exact h1.elim
  | goto l=>exact h1.elim
  | panic c=>exact h1.elim
  | outgrown=>exact h1.elim
theorem an.aD {f : FuncId} {fn : Func} {c : Code} {args : List AV} {aa : List Ob} {res : AV} {a8 : List Ob} (N k : Nat) (rs : List ResultVar) (hf : P.funcs[f]? = some fn) (hb : fn.body = some c) (pD : (fn.name == "runtime.NumGoroutine") = false)
    (hN:fn.ntmps=N) (oI:fn.results.toList=rs) (hk:aa.length=k) (hl:args.length≤N) (h:W P N k c (ye P k rs res a8) ⟨fun k=>args.getD k .undef,aa⟩):an P f args aa res a8:=by
  subst hN;subst oI;subst hk
  exact an.F6 hf hb pD hl h
theorem XR {x y:Code} (h:∀ Q':Exit→St→Prop,(∀ s,W P N n0 y Q s→Q' .normal s)→(∀ e s,e≠.normal→Q e s→Q' e s)→W P N n0 x Q' σ):W P N n0 (.seq x y) Q σ :=
  FG (h _ (fun _ h=>h) (fun e s he hq=>by cases e<;>first|exact absurd rfl he|exact hq))
theorem tU {id:Nat} {ops:Array Oper} {y:Code} (hd:gj N ops=true) (h:∀ K:St→Prop,(∀ s,W P N n0 y Q s→K s)→opsL P ops ops.toList K σ):W P N n0 (.seq (.region id ops false) y) Q σ :=
  FG (Kj hd (h _ (fun _ h=>h)))
theorem LM {ops:Array Oper} {K:St→Prop}:opsL P ops [] K σ=K σ:=rfl
theorem LN {ops:Array Oper} {o:Oper} {r:List Oper} {K:St→Prop}:opsL P ops (o::r) K σ =
    match o.guard with
    | none=>ba P o σ (opsL P ops r K)
    | some (j,want) =>
      match (ops[j]?).bind (·.dst) with
      | none=>False
      | some d =>
        match σ.env d with
        | .lit (.bool b)=>mZ P o (opsL P ops r K) b want σ
        | .lit (.tuple vs)=>vs = #[]∧opsL P ops r K (σ.put o.dst (.lit (.tuple #[])))
        | _=>False:=rfl
theorem LP {o:Oper} {K:St→Prop}:mZ P o K true true σ=ba P o σ K:=by simp[mZ]
theorem LQ {o:Oper} {K:St→Prop}:mZ P o K false false σ=ba P o σ K:=by simp[mZ]
theorem LR {o:Oper} {K:St→Prop}:mZ P o K true false σ=K (σ.put o.dst (.lit (.tuple #[]))):=by simp[mZ]
theorem LS {o:Oper} {K:St→Prop}:mZ P o K false true σ=K (σ.put o.dst (.lit (.tuple #[]))):=by simp[mZ]
theorem XS {o:Oper} {K:St→Prop} {b want:Bool} (h1:b=true→mZ P o K true want σ) (h2:b=false→mZ P o K false want σ):mZ P o K b want σ:=by
  cases b
  · exact h2 rfl
  · exact h1 rfl
def XT (ds:List Nat) (e:Nat→AV):Nat→AV:=fun k=>if ds.contains k then .undef else e k
theorem CO {ds:List Nat} {e:Nat→AV} {k:Nat}:XT ds e k=if ds.contains k then .undef else e k:=rfl
theorem XU (e:Nat→AV) (d:Nat) (v:AV):iM e d v d=v:=by simp[iM]
mutual
def eZ:AV→Bool
  | .ref ..=>false
  | .ptr ..=>false
  | .agg cs=>gX cs
  | .bG cs=>gX cs
  | .fn _ cs=>gX cs
  | .gJ _ v=>eZ v
  | .gk _=>false
  | _=>true
def gX:List AV→Bool
  | []=>true
  | v::vs=>eZ v && gX vs
end
mutual
theorem wy (ρ:Nat→Nat):∀ (v:AV),eZ v=true→a6 ρ v=v
  | .undef,_=>rfl
  | .lit _,_=>rfl
  | .tree ..,_=>rfl
  | .b7 _,_=>rfl
  | .ref ..,h=>by simp[eZ] at h
  | .ptr ..,h=>by simp[eZ] at h
  | .agg cs,h=>by simp only[eZ] at h;simp only[a6];rw[xX ρ cs h]
  | .bG cs,h=>by simp only[eZ] at h;simp only[a6];rw[xX ρ cs h]
  | .fn f cs,h=>by simp only[eZ] at h;simp only[a6];rw[xX ρ cs h]
  | .gJ t v,h=>by simp only[eZ] at h;simp only[a6];rw[wy ρ v h]
  | .gk _,h=>by simp[eZ] at h
theorem xX (ρ:Nat→Nat):∀ (l:List AV),gX l=true→nF ρ l=l
  | [],_=>rfl
  | v::vs,h=>by
    simp only[gX,bk] at h
    simp only[nF]
    rw[wy ρ v h.1,xX ρ vs h.2]
end
theorem XV {l:List AV} (h:gX l=true) {j:Nat} {x:AV} (hx:l[j]?=some x):eZ x=true:=by
  induction l generalizing j with
  | nil=>simp at hx
  | cons v l ih =>
    simp only[gX,bk] at h
    cases j with
    | zero=>simp at hx;subst hx;exact h.1
    | succ j=>exact ih h.2 (by simpa using hx)
theorem bZ {f:FuncId} {args:List AV} {dst:Option Tmp} {K:St→Prop} {res:AV} (h:an P f args [] res []) (ha:gX args=true) (hr:eZ res=true) (hK:K (σ.put dst res)):pt P f args dst K σ:=by
  refine⟨[],false,args,[],res,[],h,⟨List.nodup_nil,rfl,by simp,rfl,?_,by simp⟩,?_⟩
  · intro j c d hc hd
    rw[hc] at hd
    simp at hd
    subst hd
    have:=aE.same (σ:=σ) (kp:=(·∈([]:List Nat))) (ρ:=br σ.aa.length []) (snap:=false) c
    rw[wy _ c (XV ha hc)] at this
    exact this
  · rw[wy _ _ hr]
    simpa [dV] using hK
theorem Cu {v:AV} (hr:eZ v=true):mT 0 σ v v []:=by
  refine⟨[],false,List.nodup_nil,rfl,by simp,by simp,aG _,by simp,?_⟩
  have:=aE.same (σ:=σ) (kp:=fun id=>∃ j,j<([]:List Nat).length∧([]:List Nat).getD j 0=id∧([]:List Ob)[j]?≠some .gone) (ρ:=br σ.aa.length []) (snap:=false) v
  rw[wy _ _ hr] at this
  exact this
end Go.Am
namespace Go.Am
variable {P:Program}
def cls:Op→Nat
  | .move _ | .assign _ | .pick .. | .convert .. | .binOp .. | .unOp .. | .makeFunc .. | .makeInterface .. | .typeAssert .. | .field .. | .extract .. | .build .. | .index ..=>0
  | .call { callee:=.builtin .min,.. } | .call { callee:=.builtin .max,.. }=>0
  | .nilCheck _ | .fieldAddr .. | .indexAddr .. | .slice ..=>1
  | .call { callee:=.builtin .len,.. }=>1
  | .load .. | .lookup ..=>2
  | .alloc _ | .box .. | .makeSlice .. | .buildSlice .. | .makeMap ..=>3
  | .store ..=>4
  | _=>5
def q6:Ob→Ob→Prop
  | .var _,.var _=>True
  | .arr s _,.arr s' _=>s=s'
  | .mp a L,.mp b M=>a=b∧L=M
  | .gone,.gone=>True
  | _,_=>False
theorem wq (o:Ob):q6 o o:=by cases o<;>simp[q6]
def j' (c:Nat) (a b:List Ob):Prop :=
  if c≤2 then b=a
  else if c=3 then ∀ (id:Nat),id<a.length→b[id]?=a[id]?
  else if c=4 then b.length=a.length∧∀ (id:Nat) o o',a[id]?=some o→b[id]?=some o'→q6 o o'
  else True
theorem XW (c:Nat) (h:c≤2) (a:List Ob):j' c a a:=by simp[j',h]
theorem CP (a:List Ob) (o:Ob):j' 3 a (a++[o]):=by
  simp only[j'];intro id h;exact cn h
theorem XX (σ:St) (id r:Nat) (row:List AV):j' 4 σ.aa (mU σ id r row).aa:=by
  simp only[j']
  rw[if_neg (by decide),if_neg (by decide),if_pos trivial]
  have key:∀ (x y:Ob),σ.aa[id]?=some x→q6 x y→(σ.aa.set id y).length=σ.aa.length∧∀ (i:Nat) o o',σ.aa[i]?=some o→(σ.aa.set id y)[i]?=some o'→q6 o o':=by
    intro x y hx mz
    refine⟨by simp,fun i o o' ho cR=>?_⟩
    rw[List.getElem?_set] at cR
    split at cR
    · rename_i e;subst e
      split at cR
      · simp at cR;subst cR;rw[hx] at ho;simp at ho;subst ho;exact mz
      · simp at cR
    · rw[ho] at cR;simp at cR;subst cR;exact wq o
  unfold mU
  split
  · rename_i cells h;exact key _ _ h trivial
  · rename_i sz rows h;exact key _ _ h rfl
  · exact⟨rfl,fun i o o' ho cR=>by rw[ho] at cR;simp at cR;subst cR;exact wq o⟩
def rj:AV→Option Nat
  | .ref id _ _ _=>some id
  | .ptr id _ _=>some id
  | .gk id=>some id
  | _=>none
def iZ (c:Nat) (a b:Option Ob):Prop :=
  if c=0 then True else if c=1 then ∀ o,a=some o→∃ o',b=some o'∧q6 o o' else ∀ o,a=some o→b=some o
def ql (c:Nat) (l:List Operand) (σ:St) (e2:Nat→AV) (ob:List Ob):Prop :=
  (∀ x∈l,ev ⟨e2,ob⟩ x=ev σ x)∧(∀ x∈l,∀ id,rj (ev σ x)=some id→iZ c σ.aa[id]? ob[id]?)
def F8 (P:Program) (o:Oper) (σ:St) (K:St→Prop) (c:Nat) (l:List Operand):Prop :=
  ∃ v os,j' c σ.aa os∧K ((⟨σ.env,os⟩:St).put o.dst v)∧∀ e2 ob dJ (K2:St→Prop),ql c l σ e2 ob→(if c≤2 then dJ=ob else ob=σ.aa∧dJ=os)→K2 ((⟨e2,dJ⟩:St).put o.dst v)→cp P o ⟨e2,ob⟩ K2
theorem dA {o:Oper} {σ:St} {K:St→Prop} {c:Nat} {l:List Operand} {v:AV} (hW:K (σ.put o.dst v))
    (h:∀ e2 ob (K2:St→Prop),ql c l σ e2 ob→K2 ((⟨e2,ob⟩:St).put o.dst v)→cp P o ⟨e2,ob⟩ K2) (hc:c≤2:=by simp[cls]):F8 P o σ K c l :=
  ⟨v,σ.aa,XW _ hc _,hW,fun e2 ob dJ K2 hx ho fR=>h e2 ob K2 hx (by rw[if_pos hc] at ho;subst ho;exact fR)⟩
theorem dB {o:Oper} {σ:St} {K:St→Prop} {c:Nat} {l:List Operand} {v:AV} {os:List Ob} (hc:3≤c) (he:j' c σ.aa os) (hW:K ((⟨σ.env,os⟩:St).put o.dst v))
    (h:∀ e2 (_:List Ob) (K2:St→Prop),ql 0 l σ e2 σ.aa→K2 ((⟨e2,os⟩:St).put o.dst v)→cp P o ⟨e2,σ.aa⟩ K2):F8 P o σ K c l :=
  ⟨v,os,he,hW,fun e2 ob dJ K2 hx ho fR=>by rw[if_neg (by omega)] at ho;obtain ⟨rfl,rfl⟩:=ho;exact h e2 σ.aa K2 ⟨hx.1,fun _ _ _ _=>by simp[iZ]⟩ fR⟩
theorem parts_eq {parts:Array (Nat × Operand)} {σ τ:St} (h:∀ x∈parts.toList.map (·.2),ev τ x=ev σ x) :
    (parts.toList.map fun p=>(p.1,ev τ p.2))=(parts.toList.map fun p=>(p.1,ev σ p.2))∧(parts.toList.all fun p=>(cellsOf (ev τ p.2)).all cf)=(parts.toList.all fun p=>(cellsOf (ev σ p.2)).all cf):=by
  have hp:(parts.toList.map fun p=>(p.1,ev τ p.2))=(parts.toList.map fun p=>(p.1,ev σ p.2)):=kU fun p hp=>by rw[h _ (B3 hp)]
  exact⟨hp,by simpa [List.all_map,Function.comp_def] using congrArg (·.all fun q=>(cellsOf q.2).all cf) hp⟩
theorem J3 {t:Ty} {cells:List AV} {c:Nat} {K:AV→Prop} (h:lA t cells c K) :∃v,K v∧∀ K2:AV→Prop,K2 v→lA t cells c K2:=by
  unfold lA at h ⊢
  split at h
  · exact⟨_,h.2,fun K2 hK=>by simp_all⟩
  · split at h<;>first|exact h.elim|exact⟨_,h,fun K2 hK=>by simp_all⟩
theorem XZ {op:BinOp} {k:IntKind} {p q:Int} {K:Value→Prop} (h:fP op k p q K) :∃v,K v∧∀ K2:Value→Prop,K2 v→fP op k p q K2:=by
  unfold fP at h ⊢
  split at h<;>first|exact⟨_,h.2,fun K2 h'=>⟨h.1,h'⟩⟩|exact⟨_,h,fun K2 h=>h⟩|exact h.elim
theorem X1 {σ:St} {e:Nat→AV} {ob:List Ob} {id r:Nat} {row:List AV} (h:∀ o,σ.aa[id]?=some o→ob[id]?=some o) (hr:rowOf σ id r=some row):rowOf ⟨e,ob⟩ id r=some row:=by
  unfold rowOf at hr ⊢
  cases ho:σ.aa[id]?<;>simp_all
theorem X6 {σ:St} {e:Nat→AV} {ob:List Ob} {v:AV} {q:Nat × Nat × List (List Int × AV)} (h:∀ id,v=.gk id→∀ o,σ.aa[id]?=some o→ob[id]?=some o) (hm:kZ σ v=some q):kZ ⟨e,ob⟩ v=some q:=by
  unfold kZ at hm ⊢
  split at hm
  · rename_i id
    split at hm
    · rename_i ag L ho
      have:=h id rfl _ ho
      simp only[this]
      exact hm
    · cases hm
  · cases hm
theorem LU {o:Oper} {σ:St} {K:St→Prop} (hW:cp P o σ K):F8 P o σ K (cls o.op) o.op.operands.toList:=by
  obtain ⟨dst,op,type,pos,after,guard⟩:=o
  unfold cp at hW
  cases op
  case call c =>
    obtain ⟨callee,args,argTypes⟩:=c
    cases callee<;>try exact hW.elim
    rename_i b
    cases b<;>try exact hW.elim
    all_goals simp only at hW
    case append =>
      (repeat' split at hW)<;>try exact hW.elim
      rename_i s x t t' df jR _ _ _ _ z pre σ1 sz src hk hz z7 rm
      have u7:σ1=⟨σ.env,σ1.aa⟩∧∀ e,py ⟨e,σ.aa⟩ (ty P (ty P t).elem).size (ev σ s)=some (pre,⟨e,σ1.aa⟩):=by
        unfold py at z7 ⊢
        (repeat' split at z7)<;>simp_all
        all_goals obtain ⟨rfl,rfl⟩:=z7;simp
      refine dB (os:=σ1.aa++[.arr sz (pre++src)]) (by simp[cls]) trivial (by have:=hW.2;rw[u7.1] at this;exact this) fun e2 ob K2 hx fR=>?_
      have iK:mW ⟨e2,σ.aa⟩ (ev σ x)=some (sz,src):=rm
      unfold cp
      simp[ql,Op.operands,Call.operands,df] at hx
      simp only[df,jR,hx.1.1,hx.1.2,hk,hz,u7.2,iK]
      exact⟨hW.1,fR⟩
    case copy =>
      (repeat' split at hW)<;>try exact hW.elim
      rename_i df jR _ _ id _ _ _ _ src he rm _ _ _ ho
      refine dB (by simp[cls]) trivial hW.2 fun e2 ob K2 hx fR=>?_
      have iK:mW ⟨e2,σ.aa⟩ _=_:=rm
      unfold cp
      simp[ql,Op.operands,Call.operands,df] at hx
      simp only[df,jR,hx.1.1,hx.1.2,he,iK,ho]
      exact⟨hW.1,fR⟩
    case clear =>
      (repeat' split at hW)<;>try exact hW.elim
      rename_i df jR _ _ id _ _ _ _ he hz _ _ _ ho
      refine dB (by simp[cls]) trivial hW.2 fun e2 ob K2 hx fR=>?_
      unfold cp
      simp[ql,Op.operands,Call.operands,df] at hx
      simp only[df,jR,hx,he,hz,ho]
      exact⟨hW.1,fR⟩
    all_goals (repeat' split at hW)<;>first|exact hW.elim|exact hW.2.elim|refine dA hW ?_|refine dA hW.2 ?_|refine dA hW.2.2 ?_
    all_goals
      intro e2 ob K2 hx fR
      unfold cp
      simp[ql,Op.operands,Call.operands,rj,iZ,cls, *] at hx ⊢
      first|done|(simp_all;done)|(obtain ⟨_,o',_,hk⟩:=hx;cases o'<;>simp_all [q6];done)
  case load t x =>
    simp only at hW
    obtain ⟨hk,hW⟩:=hW
    (repeat' split at hW)<;>try exact hW.elim
    all_goals
      obtain ⟨v,hK,hl⟩:=J3 hW
      refine dA hK fun e2 ob K2 hx fR=>?_
      unfold cp
      simp[ql,Op.operands,rj,iZ,cls, *] at hx
      first|simp only[hx.1,X1 hx.2 ‹rowOf _ _ _=_›]|simp only[hx]
      exact⟨hk,hl _ fR⟩
  case store t x y =>
    simp only at hW
    obtain ⟨hk,hW⟩:=hW
    (repeat' split at hW)<;>try exact hW.elim
    rename_i id r c he _ row a7
    have u7:∀ row,mU σ id r row=⟨σ.env,(mU σ id r row).aa⟩∧∀ e,mU ⟨e,σ.aa⟩ id r row=⟨e,(mU σ id r row).aa⟩:=by
      intro row;unfold mU;simp only;split<;>simp_all
    refine dB (by simp[cls]) (XX _ _ _ _) (by have:=hW.2;rw[(u7 _).1] at this;exact this) fun e2 ob K2 hx fR=>?_
    have iA:rowOf ⟨e2,σ.aa⟩ id r=some row:=a7
    unfold cp
    simp only[hx.1 x (by simp[Op.operands]),hx.1 y (by simp[Op.operands]),he,iA]
    rw[(u7 _).2]
    exact⟨hk,hW.1,fR⟩
  case build t parts =>
    simp only at hW
    (repeat' split at hW)<;>first|exact hW.elim|refine dA hW.2 ?_
    all_goals
      intro e2 ob K2 hx fR
      obtain ⟨h1,h2⟩:=parts_eq (parts:=parts) (by simpa [Op.operands] using hx.1)
      unfold cp
      simp only[h1,h2, *]
      simp[hW.1]
  case buildSlice t _ parts =>
    simp only at hW
    (repeat' split at hW)<;>first|exact hW.elim|refine dB (aG 3) (CP _ _) hW.2 ?_
    intro e2 ob K2 hx fR
    obtain ⟨h1,h2⟩:=parts_eq (parts:=parts) (by simpa [Op.operands] using hx.1)
    unfold cp
    simp only[h1,h2, *]
    simp[hW.1]
  case makeFunc fn first captured =>
    simp only at hW
    split at hW<;>first|exact hW.elim|refine dA hW.2 fun e2 ob K2 hx fR=>?_
    unfold cp
    simp only[kU (l:=captured.toList) (f:=ev ⟨e2,ob⟩) (g:=ev σ) fun y hy=>hx.1 y (by simp only[Op.operands,xJ,List.mem_append];exact .inr hy)]
    exact⟨hW.1,fR⟩
  case binOp op t x y yt =>
    simp only at hW
    split at hW
    · rename_i k p k' q he hf
      obtain ⟨hk,hW⟩:=hW
      obtain ⟨v,hK,hl⟩:=XZ hW
      refine dA hK fun e2 ob K2 hx fR=>?_
      unfold cp
      simp[ql,Op.operands,he,hf] at hx
      simp only[hx.1.1,hx.1.2]
      exact⟨hk,hl _ fR⟩
    all_goals (repeat' split at hW)<;>first|exact hW.elim|exact hW.2.elim|refine dA hW.2 ?_
    all_goals
      intro e2 ob K2 hx fR
      unfold cp
      simp[ql,Op.operands, *] at hx ⊢
      first|done|(simp_all;done)
  case slice t x lo hi mx =>
    simp only at hW
    obtain ⟨hk,dU,rfl,hW⟩:=hW
    cases lo<;>cases hi<;>simp only[gf,Option.map_none] at hW
    all_goals (repeat' split at hW)<;>first|exact hW.elim|exact hW.2.elim|exact hW.2.2.elim|refine dA hW.2 ?_|refine dA hW.2.2 ?_|refine dA hW.2.2.2 ?_
    all_goals
      intro e2 ob K2 hx fR
      unfold cp
      simp only[cY.injEq] at *
      simp[ql,Op.operands,rj,iZ,cls, *] at hx ⊢
      first|done|(simp_all;done)|(obtain ⟨_,o',_,hk⟩:=hx;cases o'<;>simp_all [q6];done)|(obtain ⟨_,⟨o',_,hk⟩,_⟩:=hx;cases o'<;>simp_all [q6];done)|trace_state
  case makeMap t r =>
    simp only at hW
    obtain ⟨⟨rfl,hk⟩,hK⟩:=hW
    refine dB (aG 3) (CP _ _) hK fun e2 ob K2 hx fR=>?_
    unfold cp
    exact⟨⟨rfl,hk⟩,fR⟩
  case lookup t x i ok =>
    simp only at hW
    split at hW
    · rename_i ag l id iy L z ij nP mA
      refine dA hW.2 fun e2 ob K2 hx fR=>?_
      have h1:=hx.1 x (by simp[Op.operands])
      have h2:=hx.1 i (by simp[Op.operands])
      have h3:kZ ⟨e2,ob⟩ (ev σ x)=some (id,iy,L):=X6 (fun wz cV o ho=>by
        have:=hx.2 x (by simp[Op.operands]) wz (by rw[cV];rfl)
        unfold iZ at this
        simp[cls] at this
        exact this o ho) nP
      unfold cp
      simp only[h1,h2,ij,h3,mA]
      exact⟨hW.1,fR⟩
    · exact hW.elim
  case mapUpdate t m k x =>
    simp only at hW
    split at hW
    · rename_i ij nP
      obtain ⟨nQ,z8⟩:=hW
      refine dB (v:=.undef) (os:=_) (by simp[cls]) trivial z8 fun e2 ob K2 hx fR=>?_
      have h1:=hx.1 m (by simp[Op.operands])
      have h2:=hx.1 k (by simp[Op.operands])
      have h3:=hx.1 x (by simp[Op.operands])
      have h4:kZ ⟨e2,σ.aa⟩ (ev σ m)=_:=nP
      unfold cp
      simp only[h1,h2,h3,ij,h4]
      exact⟨nQ,fR⟩
    · exact hW.elim
  case mapEntry t m k =>
    simp only at hW
    split at hW
    · rename_i ij nP mA
      obtain ⟨nQ,z8⟩:=hW
      refine dB (v:=_) (os:=_) (by simp[cls]) trivial z8 fun e2 ob K2 hx fR=>?_
      have h1:=hx.1 m (by simp[Op.operands])
      have h2:=hx.1 k (by simp[Op.operands])
      have h4:kZ ⟨e2,σ.aa⟩ (ev σ m)=_:=nP
      unfold cp
      simp only[h1,h2,ij,h4,mA]
      exact⟨nQ,fR⟩
    · exact hW.elim
  case entryStore t m s x =>
    simp only at hW
    split at hW
    · rename_i hs nP
      obtain ⟨nQ,z8⟩:=hW
      refine dB (v:=.undef) (os:=_) (by simp[cls]) trivial z8 fun e2 ob K2 hx fR=>?_
      have h1:=hx.1 m (by simp[Op.operands])
      have h2:=hx.1 s (by simp[Op.operands])
      have h3:=hx.1 x (by simp[Op.operands])
      have h4:kZ ⟨e2,σ.aa⟩ (ev σ m)=_:=nP
      unfold cp
      simp only[h1,h2,h3,hs,h4]
      exact⟨nQ,fR⟩
    · exact hW.elim
  all_goals (try simp only at hW);(try exact hW.elim)
  all_goals (repeat' split at hW)<;>first|exact hW.elim|exact hW.2.elim|exact hW.2.2.elim|refine dA hW ?_|refine dA hW.2 ?_|refine dA hW.2.2 ?_|refine dA hW.2.2.2 ?_|refine dB (aG 3) (CP _ _) hW.2 ?_|refine dB (aG 3) (CP _ _) hW.2.1 ?_
  all_goals
    intro e2 ob K2 hx fR
    unfold cp
    simp[ql,Op.operands,rj,iZ,cls,-gU, *] at hx ⊢
    first|done|(simp_all;done)|(obtain ⟨_,rfl,_⟩:=hW;simp_all;done)|(obtain ⟨_,o',_,hk⟩:=hx;cases o'<;>simp_all [q6];done)
theorem WI {o:Oper} {σ:St} {K:St→Prop} (hW:cp P o σ K) :
    ∃ v os,j' (cls o.op) σ.aa os∧K ((⟨σ.env,os⟩:St).put o.dst v)∧∀ (e2:Nat→AV) (K2:St→Prop),(∀ x∈o.op.operands.toList,ev ⟨e2,σ.aa⟩ x=ev σ x)→K2 ((⟨e2,os⟩:St).put o.dst v)→cp P o ⟨e2,σ.aa⟩ K2:=by
  obtain ⟨v,os,h1,h2,h3⟩:=LU hW
  refine⟨v,os,h1,h2,fun e2 K2 hx hK=>h3 e2 _ os K2 ⟨hx,fun _ _ _ _=>?_⟩ ?_ hK⟩
  · unfold iZ
    (repeat' split)<;>first|trivial|exact fun o ho=>ho|exact fun o ho=>⟨o,ho,wq o⟩
  · split
    · rename_i hc;simpa [j',hc] using h1
    · exact⟨rfl,rfl⟩
theorem J4 {o:Oper} {σ:St} {K:St→Prop} (hc:cls o.op≤2) (hW:cp P o σ K) :
    ∃ v,K (σ.put o.dst v)∧∀ (σ2:St) (K2:St→Prop),(∀ x∈o.op.operands.toList,ev σ2 x=ev σ x)→(∀ x∈o.op.operands.toList,∀ id,rj (ev σ x)=some id→iZ (cls o.op) σ.aa[id]? σ2.aa[id]?) →
      K2 (σ2.put o.dst v)→cp P o σ2 K2:=by
  obtain ⟨v,os,h1,h2,h3⟩:=LU hW
  simp only[j',hc,if_true] at h1 h3
  subst h1
  exact⟨v,h2,fun σ2 K2 hx ho hK=>h3 σ2.env σ2.aa _ K2 ⟨hx,ho⟩ rfl hK⟩
end Go.Am

