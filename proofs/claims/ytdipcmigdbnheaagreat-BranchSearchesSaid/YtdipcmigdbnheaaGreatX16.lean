import Derived.Test.YtdipcmigdbnheaaGreatX12
import Derived.Test.YtdipcmigdbnheaaGreatX07
set_option linter.unusedVariables false
set_option linter.unusedSimpArgs false
set_option linter.unnecessarySimpa false
set_option linter.unusedSectionVars false
set_option maxHeartbeats 64000000
set_option maxRecDepth 20000
open List renaming mapIdx_cons→L9,all_cons→DW
open Option renaming map_some→eC
open Bool renaming and_eq_true→a7
namespace Go.Am
variable {P:Program} {N n0:Nat} {σ:St} {Q:Exit→St→Prop}
end Go.Am
namespace Go.Am
end Go.Am
namespace Go.Am
variable {P:Program} {N n0:Nat} {σ:St}
theorem JP (ag:Nat) (f:Nat→Value) (p:List Int × AV) (r:List (List Int × AV)):dC ag f (p::r)=(kV ag p.1,f 0)::dC ag (fun j=>f (j+1)) r:=by
  unfold dC;simp[L9]
theorem SZ (x:Int):∀ (L:List (List Int × AV)) (f:Nat→Value) (g:Nat→Nat) (i:Nat),(∀ p∈L,p.1.length=1) →
    Instr.findNow (.int .i64) (.int .i64 x) ((dC 0 f L).mapIdx fun j p=>(⟨p.1,p.2,g j⟩:MapEntry)) i=some ((gI [x] L i).map fun q=>(q,f (q - i)))
  | [],_,_,_,_=>rfl
  | p::r,f,g,i,h=>by
    have hp:=h p (by simp)
    obtain ⟨l,v⟩:=p
    obtain ⟨y,rfl⟩ :∃y,l=[y]:=List.length_eq_one_iff.1 hp
    rw[JP]
    simp only[L9,Instr.findNow,kV,if_true,List.headD_cons,Instr.sameNow,gI]
    by_cases jZ:y=x
    · subst jZ
      simp
    · rw[if_neg (fun e=>jZ (by simpa using e))]
      have:(x == y)=false:=by simpa using fun e=>jZ e.symm
      rw[this]
      have ih:=SZ x r (fun j=>f (j+1)) (fun j=>g (j+1)) (i+1) (fun q hq=>h q (by simp[hq]))
      simp only[ih]
      cases hf:gI [x] r (i+1) with
      | none=>rfl
      | some q =>
        have:=(u5 hf).1
        simp only[eC]
        rw[show q - (i+1)+1=q - i by omega]
theorem ko.int {t kt et:TypeId} (h1:P.underlying t=some (.map kt et)) (h2:P.underlying kt=some (.int .i64)):ko P t 0:=by
  refine⟨kt,et,h1,fun l hl=>?_⟩
  obtain ⟨x,rfl⟩ :∃x,l=[x]:=List.length_eq_one_iff.1 hl
  refine⟨fun e w=>?_,fun w=>?_,fun f L w hL=>?_⟩
  · exact run_checkKey h2 e x w
  · have JQ:Instr.sameBits 10000 (.int .i64 x) (.int .i64 x)=true:=by simp[Instr.sameBits]
    show (Instr.keyThatStays (.int .i64 x) (.int .i64 x)).run P w=_
    simp[Instr.keyThatStays,JQ,kV]
  · have h:=SZ x L f id 0 hL
    simp only[id] at h
    show (Instr.findKey kt (.int .i64 x) (gn (dC 0 f L)).toList).run P w=_
    simp[Instr.findKey,run_underlying h2,z8,h]
end Go.Am
namespace Go.Am
variable {P:Program} {N n0:Nat} {σ:St}
theorem C2 {n:Nat} (hn:n≠0) (l:List Int):kV n l=.agg (l.map (Value.int .i64)).toArray:=by unfold kV;rw[if_neg hn]
theorem adH {t:TypeId} {n:Nat} (h:v8 P t n) (hn:n≠0) (w:World) {as bs:List Int} (ha:as.length=n) (hb:bs.length=n):(Op.equal t (kV n as) (kV n bs)).run P w=.ok (decide (as=bs)) w:=by
  rw[C2 hn,C2 hn]
  exact h w as bs ha hb
theorem S1 {t:TypeId} {n:Nat} (h:v8 P t n) (hn:n≠0) {l:List Int} (hl:l.length=n) (w:World):∀ (L:List (List Int × AV)) (f:Nat→Value) (g:Nat→Nat) (i:Nat),(∀ p∈L,p.1.length=n) →
    (Instr.findAsking t (kV n l) ((dC n f L).mapIdx fun j p=>(⟨p.1,p.2,g j⟩:MapEntry)) i).run P w=.ok ((gI l L i).map fun q=>(q,f (q - i))) w
  | [],_,_,_,_=>rfl
  | p::r,f,g,i,hL=>by
    have hp:=hL p (by simp)
    rw[JP]
    have he:=adH h hn w hl hp
    simp only[L9,Instr.findAsking,Sem.run_bind,he,Result.andThen_ok,Sem.run_ite,gI]
    by_cases jZ:p.1=l
    · rw[if_pos jZ]
      simp[jZ.symm]
    · rw[if_neg jZ,if_neg (by simpa using fun e=>jZ e.symm)]
      have ih:=S1 h hn hl w r (fun j=>f (j+1)) (fun j=>g (j+1)) (i+1) (fun q hq=>hL q (by simp[hq]))
      rw[ih]
      cases hf:gI l r (i+1) with
      | none=>rfl
      | some q =>
        have:=(u5 hf).1
        simp only[eC]
        rw[show q - (i+1)+1=q - i by omega]
theorem S2 (k:Nat):∀ (l:List Int),((l.map (Value.int .i64)).zip (l.map (Value.int .i64))).all (fun (x,y)=>Instr.sameBits k x y)=true
  | []=>rfl
  | x::r=>by
    simp only[List.map_cons,List.zip_cons_cons,DW,S2 k r,Bool.and_true]
    cases k<;>simp[Instr.sameBits]
theorem adI (w:World) {ft:TypeId} (hf:P.underlying ft=some (.int .i64)) {l:List Int} {o:Nat} (ho:o<l.length):(part ft (l.map (Value.int .i64)).toArray o).run P w=.ok (.int .i64 (l.getD o 0)) w:=by
  have hx:((l.map (Value.int .i64)).toArray)[o]?=some (.int .i64 (l.getD o 0)):=by simp[ho]
  simp only[part,isAgg,Sem.run_bind,run_underlying hf,Result.andThen_ok,Sem.run_pure,Bool.false_eq_true,if_false,Sem.run_ite,hx]
theorem adJ {ft:TypeId} (hf:P.underlying ft=some (.int .i64)) (e:Bool) (x:Int) (k:Nat) (w:World):(Instr.checkKey e (k+1) ft (.int .i64 x)).run P w=.ok () w:=by
  simp[Instr.checkKey,run_underlying hf]
def JR (P : Program) (n : Nat) (fs : List Field) : Bool := fs.all fun f => f.name != "_" && decide (f.offset < n) && (match P.underlying f.type with | some (.int .i64) => true | _ => false)
theorem adK {P : Program} {n : Nat} {f : Field} (h : (f.name != "_" && decide (f.offset < n) && (match P.underlying f.type with | some (.int .i64) => true | _ => false)) = true) : f.name ≠ "_" ∧ f.offset < n ∧ P.underlying f.type = some (.int .i64) := by
  simp only[a7,bne_iff_ne,decide_eq_true_eq] at h
  refine⟨h.1.1,h.1.2,?_⟩
  have h2:=h.2
  split at h2
  · assumption
  · cases h2
theorem adL {kt:TypeId} {n:Nat} {fs:Array Field} (h2:P.underlying kt=some (.struct fs)) (hn:n≠0) (u6:JR P n fs.toList=true) (l:List Int) (hl:l.length=n) (e:Bool) (w:World):(Instr.checkKey e 10000 kt (kV n l)).run P w=.ok () w:=by
  rw[C2 hn,show (10000:Nat)=9999+1 from rfl,Instr.checkKey]
  simp only[Sem.run_bind,run_underlying h2,Result.andThen_ok]
  rw[← Array.forIn_toList]
  generalize fs.toList=L at u6
  induction L with
  | nil=>simp
  | cons f r ih =>
    unfold JR at u6
    rw[DW,a7] at u6
    obtain ⟨a1,a2,a3⟩:=adK u6.1
    have p1:=adI (P:=P) w a3 (l:=l) (o:=f.offset) (by omega)
    have p2:=adJ a3 e (l.getD f.offset 0) 9998 w
    simp only[List.forIn_cons,Sem.run_bind,a1,ne_eq,not_false_eq_true,if_true,Result.andThen_ok,p1,p2,Sem.run_pure]
    exact ih u6.2
theorem ko.agg {t kt et:TypeId} {n:Nat} {fs:Array Field} (h1:P.underlying t=some (.map kt et)) (h2:P.underlying kt=some (.struct fs)) (h3:v8 P kt n) (hn:n≠0)
    (h4:∀ (l:List Int),l.length=n→∀ e w,(Instr.checkKey e 10000 kt (kV n l)).run P w=.ok () w):ko P t n:=by
  have hk:jF n=n:=by unfold jF;rw[if_neg hn]
  refine⟨kt,et,h1,fun l hl=>?_⟩
  rw[hk] at hl
  refine⟨h4 l hl,fun w=>?_,fun f L w hL=>?_⟩
  · have JQ:Instr.sameBits 10000 (kV n l) (kV n l)=true:=by
      rw[C2 hn]
      simp only[Instr.sameBits,beq_self_eq_true,Bool.true_and]
      exact S2 9999 l
    simp[Instr.keyThatStays,JQ]
  · rw[hk] at hL
    have h:=S1 h3 hn hl w L f id 0 hL
    simp only[id] at h
    cases L with
    | nil=>simp[Instr.findKey,run_underlying h2,z8,dC,Instr.findNow,gI]
    | cons p r =>
      have adM:Instr.findNow (.struct fs) (kV n l) (gn (dC n f (p::r))).toList 0=none:=by
        rw[z8,JP]
        simp only[L9,Instr.findNow,C2 hn,Instr.sameNow]
      simp only[Instr.findKey,Sem.run_bind,run_underlying h2,Result.andThen_ok,adM]
      rw[z8]
      exact h
theorem ko.struct {t kt et:TypeId} {n:Nat} {fs:Array Field} (h1:P.underlying t=some (.map kt et)) (h2:P.underlying kt=some (.struct fs)) (hn:n≠0) (h3:Ir P 2 kt n=true) (h4:JR P n fs.toList=true):ko P t n :=
  ko.agg h1 h2 (v8.of 2 h3) hn (adL h2 hn h4)
end Go.Am

