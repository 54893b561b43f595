import Derived.Test.YtmhloinjpcabcaaGreatX16
import Derived.Test.YtmhloinjpcabcaaGreatX17
import Derived.Test.YtmhloinjpcabcaaGreatX10
set_option linter.unusedVariables false
set_option linter.unusedSimpArgs false
set_option linter.unnecessarySimpa false
set_option linter.unusedSectionVars false
set_option maxHeartbeats 64000000
set_option maxRecDepth 20000
namespace Go.Am
variable {P:Program} {N n0:Nat} {σ:St} {Q:Exit→St→Prop}
end Go.Am
namespace Go.Am
variable {P:Program} {N n0:Nat} {σ:St}
theorem mpE_cons (ag:Nat) (f:Nat→Value) (p:List Int × AV) (r:List (List Int × AV)):mpE ag f (p::r)=(kV ag p.1,f 0)::mpE ag (fun j=>f (j+1)) r:=by
  unfold mpE;simp[List.mapIdx_cons]
theorem findNow_mp (x:Int):∀ (L:List (List Int × AV)) (f:Nat→Value) (g:Nat→Nat) (i:Nat),(∀ p∈L,p.1.length=1) →
    Instr.findNow (.int .i64) (.int .i64 x) ((mpE 0 f L).mapIdx fun j p=>(⟨p.1,p.2,g j⟩:MapEntry)) i=some ((findA [x] L i).map fun q=>(q,f (q - i)))
  | [],_,_,_,_=>rfl
  | p::r,f,g,i,h=>by
    have hp:=h p (by simp)
    obtain ⟨l,v⟩:=p
    obtain ⟨y,rfl⟩ :∃y,l=[y]:=List.length_eq_one_iff.1 hp
    rw[mpE_cons]
    simp only[List.mapIdx_cons,Instr.findNow,kV,if_true,List.headD_cons,Instr.sameNow,findA]
    by_cases hxy:y=x
    · subst hxy
      simp
    · rw[if_neg (fun e=>hxy (by simpa using e))]
      have:(x == y)=false:=by simpa using fun e=>hxy e.symm
      rw[this]
      have ih:=findNow_mp x r (fun j=>f (j+1)) (fun j=>g (j+1)) (i+1) (fun q hq=>h q (by simp[hq]))
      simp only[ih]
      cases hf:findA [x] r (i+1) with
      | none=>rfl
      | some q =>
        have:=(findA_some hf).1
        simp only[Option.map_some]
        rw[show q - (i+1)+1=q - i by omega]
theorem KeyM.int {t kt et:TypeId} (h1:P.underlying t=some (.map kt et)) (h2:P.underlying kt=some (.int .i64)):KeyM P t 0:=by
  refine⟨kt,et,h1,fun l hl=>?_⟩
  obtain ⟨x,rfl⟩ :∃x,l=[x]:=List.length_eq_one_iff.1 hl
  refine⟨fun e w=>?_,fun w=>?_,fun f L w hL=>?_⟩
  · exact run_checkKey h2 e x w
  · have hsame:Instr.sameBits 10000 (.int .i64 x) (.int .i64 x)=true:=by simp[Instr.sameBits]
    show (Instr.keyThatStays (.int .i64 x) (.int .i64 x)).run P w=_
    simp[Instr.keyThatStays,hsame,kV]
  · have h:=findNow_mp x L f id 0 hL
    simp only[id] at h
    show (Instr.findKey kt (.int .i64 x) (mkEs (mpE 0 f L)).toList).run P w=_
    simp[Instr.findKey,run_underlying h2,mkEs_toList,h]
end Go.Am
namespace Go.Am
variable {P:Program} {N n0:Nat} {σ:St}
theorem kV_agg {n:Nat} (hn:n≠0) (l:List Int):kV n l=.agg (l.map (Value.int .i64)).toArray:=by unfold kV;rw[if_neg hn]
theorem run_equalA {t:TypeId} {n:Nat} (h:EqT P t n) (hn:n≠0) (w:World) {as bs:List Int} (ha:as.length=n) (hb:bs.length=n):(Op.equal t (kV n as) (kV n bs)).run P w=.ok (decide (as=bs)) w:=by
  rw[kV_agg hn,kV_agg hn]
  exact h w as bs ha hb
theorem findAsking_mp {t:TypeId} {n:Nat} (h:EqT P t n) (hn:n≠0) {l:List Int} (hl:l.length=n) (w:World):∀ (L:List (List Int × AV)) (f:Nat→Value) (g:Nat→Nat) (i:Nat),(∀ p∈L,p.1.length=n) →
    (Instr.findAsking t (kV n l) ((mpE n f L).mapIdx fun j p=>(⟨p.1,p.2,g j⟩:MapEntry)) i).run P w=.ok ((findA l L i).map fun q=>(q,f (q - i))) w
  | [],_,_,_,_=>rfl
  | p::r,f,g,i,hL=>by
    have hp:=hL p (by simp)
    rw[mpE_cons]
    have he:=run_equalA h hn w hl hp
    simp only[List.mapIdx_cons,Instr.findAsking,Sem.run_bind,he,Result.andThen_ok,Sem.run_ite,findA]
    by_cases hxy:p.1=l
    · rw[if_pos hxy]
      simp[hxy.symm]
    · rw[if_neg hxy,if_neg (by simpa using fun e=>hxy e.symm)]
      have ih:=findAsking_mp h hn hl w r (fun j=>f (j+1)) (fun j=>g (j+1)) (i+1) (fun q hq=>hL q (by simp[hq]))
      rw[ih]
      cases hf:findA l r (i+1) with
      | none=>rfl
      | some q =>
        have:=(findA_some hf).1
        simp only[Option.map_some]
        rw[show q - (i+1)+1=q - i by omega]
theorem sameBits_ints (k:Nat):∀ (l:List Int),((l.map (Value.int .i64)).zip (l.map (Value.int .i64))).all (fun (x,y)=>Instr.sameBits k x y)=true
  | []=>rfl
  | x::r=>by
    simp only[List.map_cons,List.zip_cons_cons,List.all_cons,sameBits_ints k r,Bool.and_true]
    cases k<;>simp[Instr.sameBits]
theorem run_part_int (w:World) {ft:TypeId} (hf:P.underlying ft=some (.int .i64)) {l:List Int} {o:Nat} (ho:o<l.length):(part ft (l.map (Value.int .i64)).toArray o).run P w=.ok (.int .i64 (l.getD o 0)) w:=by
  have hx:((l.map (Value.int .i64)).toArray)[o]?=some (.int .i64 (l.getD o 0)):=by simp[ho]
  simp only[part,isAgg,Sem.run_bind,run_underlying hf,Result.andThen_ok,Sem.run_pure,Bool.false_eq_true,if_false,Sem.run_ite,hx]
theorem run_checkInt {ft:TypeId} (hf:P.underlying ft=some (.int .i64)) (e:Bool) (x:Int) (k:Nat) (w:World):(Instr.checkKey e (k+1) ft (.int .i64 x)).run P w=.ok () w:=by
  simp[Instr.checkKey,run_underlying hf]
def fldsI (P : Program) (n : Nat) (fs : List Field) : Bool := fs.all fun f => f.name != "_" && decide (f.offset < n) && (match P.underlying f.type with | some (.int .i64) => true | _ => false)
theorem fldI {P : Program} {n : Nat} {f : Field} (h : (f.name != "_" && decide (f.offset < n) && (match P.underlying f.type with | some (.int .i64) => true | _ => false)) = true) : f.name ≠ "_" ∧ f.offset < n ∧ P.underlying f.type = some (.int .i64) := by
  simp only[Bool.and_eq_true,bne_iff_ne,decide_eq_true_eq] at h
  refine⟨h.1.1,h.1.2,?_⟩
  have h2:=h.2
  split at h2
  · assumption
  · cases h2
theorem check_struct {kt:TypeId} {n:Nat} {fs:Array Field} (h2:P.underlying kt=some (.struct fs)) (hn:n≠0) (hfs:fldsI P n fs.toList=true) (l:List Int) (hl:l.length=n) (e:Bool) (w:World):(Instr.checkKey e 10000 kt (kV n l)).run P w=.ok () w:=by
  rw[kV_agg hn,show (10000:Nat)=9999+1 from rfl,Instr.checkKey]
  simp only[Sem.run_bind,run_underlying h2,Result.andThen_ok]
  rw[← Array.forIn_toList]
  generalize fs.toList=L at hfs
  induction L with
  | nil=>simp
  | cons f r ih =>
    unfold fldsI at hfs
    rw[List.all_cons,Bool.and_eq_true] at hfs
    obtain ⟨a1,a2,a3⟩:=fldI hfs.1
    have p1:=run_part_int (P:=P) w a3 (l:=l) (o:=f.offset) (by omega)
    have p2:=run_checkInt a3 e (l.getD f.offset 0) 9998 w
    simp only[List.forIn_cons,Sem.run_bind,a1,ne_eq,not_false_eq_true,if_true,Result.andThen_ok,p1,p2,Sem.run_pure]
    exact ih hfs.2
theorem KeyM.agg {t kt et:TypeId} {n:Nat} {fs:Array Field} (h1:P.underlying t=some (.map kt et)) (h2:P.underlying kt=some (.struct fs)) (h3:EqT P kt n) (hn:n≠0)
    (h4:∀ (l:List Int),l.length=n→∀ e w,(Instr.checkKey e 10000 kt (kV n l)).run P w=.ok () w):KeyM P t n:=by
  have hk:kLen n=n:=by unfold kLen;rw[if_neg hn]
  refine⟨kt,et,h1,fun l hl=>?_⟩
  rw[hk] at hl
  refine⟨h4 l hl,fun w=>?_,fun f L w hL=>?_⟩
  · have hsame:Instr.sameBits 10000 (kV n l) (kV n l)=true:=by
      rw[kV_agg hn]
      simp only[Instr.sameBits,beq_self_eq_true,Bool.true_and]
      exact sameBits_ints 9999 l
    simp[Instr.keyThatStays,hsame]
  · rw[hk] at hL
    have h:=findAsking_mp h3 hn hl w L f id 0 hL
    simp only[id] at h
    cases L with
    | nil=>simp[Instr.findKey,run_underlying h2,mkEs_toList,mpE,Instr.findNow,findA]
    | cons p r =>
      have hnow:Instr.findNow (.struct fs) (kV n l) (mkEs (mpE n f (p::r))).toList 0=none:=by
        rw[mkEs_toList,mpE_cons]
        simp only[List.mapIdx_cons,Instr.findNow,kV_agg hn,Instr.sameNow]
      simp only[Instr.findKey,Sem.run_bind,run_underlying h2,Result.andThen_ok,hnow]
      rw[mkEs_toList]
      exact h
theorem KeyM.struct {t kt et:TypeId} {n:Nat} {fs:Array Field} (h1:P.underlying t=some (.map kt et)) (h2:P.underlying kt=some (.struct fs)) (hn:n≠0) (h3:eqTest P 2 kt n=true) (h4:fldsI P n fs.toList=true):KeyM P t n :=
  KeyM.agg h1 h2 (EqT.of 2 h3) hn (check_struct h2 hn h4)
def structI (P:Program) (kt:TypeId) (n:Nat):Bool:=match P.underlying kt with
  | some (.struct fs)=>fldsI P n fs.toList
  | _=>false
theorem KeyM.structB {t kt et:TypeId} {n:Nat} (h1:P.underlying t=some (.map kt et)) (h2:structI P kt n=true) (hn:n≠0) (h3:eqTest P 2 kt n=true):KeyM P t n:=by
  unfold structI at h2
  split at h2
  · rename_i fs hfs
    exact KeyM.struct h1 hfs hn h3 h2
  · cases h2
end Go.Am

