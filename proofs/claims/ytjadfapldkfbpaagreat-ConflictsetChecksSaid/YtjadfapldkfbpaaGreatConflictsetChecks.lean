/- ConflictsetChecks: the law returns true for every input,and leaves its arguments as they were. No condition. -/
import Derived.Test.YtjadfapldkfbpaaGreatRows
import Derived.Test.YtjadfapldkfbpaaGreatX09
import Derived.Test.YtjadfapldkfbpaaGreatX51
import Derived.Test.YtjadfapldkfbpaaGreatX52
namespace Go.Proofs.YtjadfapldkfbpaaGreat.conflictsetChecks
open Go.ChangeShapes Go.WideShapes Go.ChangeAt Go.RowKit Go.Am
set_option linter.unusedVariables false

theorem own:ownKnob Tryz.prog.godebug=none:=by kernel_rfl
theorem laidOut:laidOutB Tryz.prog=true:=by kernel_rfl
theorem und3:Tryz.prog.underlying 3=some (.int .i64):=by kernel_rfl
theorem und4:Tryz.prog.underlying 4=some (.bool):=by kernel_rfl
theorem und22:Tryz.prog.underlying 22=some (.slice 3):=by kernel_rfl
theorem cells3:Tryz.prog.cellsOf 3=1:=by kernel_rfl
theorem cells4:Tryz.prog.cellsOf 4=1:=by kernel_rfl
theorem cells22:Tryz.prog.cellsOf 22=1:=by kernel_rfl
theorem prms:Tryz.f3.params.toList=[22,28,3,3]:=by kernel_rfl

set_option maxRecDepth 100000 in
theorem contract (H:Type) (enc:TypeId × Value→H) (W:World) (base:Nat) (args:Array Value) (ds gs:List (DataW H)) (before:List MemPlace)
    (hval:∀ (j:Nat) t v,Tryz.f3.params[j]?=some t→args[j]?=some v→Value.okWide Tryz.prog W .any base t v)
    (hW:DataW.Whole enc Tryz.prog Tryz.f3.params.toList Rows.conflictsetChecksSpec.vars false W args.toList ds gs before) :
    Calls Tryz.prog 3 args W fun e W'=>∃ v,e=.returned v∧Rows.conflictsetChecksSpec.post enc Tryz.prog Tryz.f3 false true false false W args v W':=by
  have hW':=hW
  obtain ⟨p,q,hA,hV,rfl,_,_⟩:=hW
  obtain ⟨rfl,rfl⟩:=trodVars_none hV
  rw[prms] at hA
  obtain ⟨v0,vs0,d0,ds0,p0,q0,hargs0,rfl,rfl,h0,r0⟩:=trodAll_cons hA
  obtain ⟨v1,vs1,d1,ds1,p1,q1,hargs1,rfl,rfl,h1,r1⟩:=trodAll_cons r0
  subst hargs1
  obtain ⟨v2,vs2,d2,ds2,p2,q2,hargs2,rfl,rfl,h2,r2⟩:=trodAll_cons r1
  subst hargs2
  obtain ⟨v3,vs3,d3,ds3,p3,q3,hargs3,rfl,rfl,h3,r3⟩:=trodAll_cons r2
  subst hargs3
  obtain ⟨rfl,rfl,rfl⟩:=trodAll_nil r3
  obtain rfl:args = #[v0,v1,v2,v3]:=by cases args;simp_all
  obtain ⟨fuel0,hf0⟩:=Trod.slice und22 (hval 0 22 v0 rfl rfl) h0
  obtain ⟨a0,u0,e0,hx0,hl0,ht0⟩:=anD und22 und3 cells3 hf0
  obtain rfl:v0=u0:=by simpa using e0
  obtain ⟨cs1,fuel1,e1,hf1⟩:=Trod.anF (by rw[T.Mg]) (hval 1 28 v1 rfl rfl) h1
  obtain ⟨a1,hx1,ht1⟩:=T.anM _ _ _ hf1
  subst e1
  obtain ⟨a2,rfl,rfl,rfl,w2⟩:=open_int und3 (hval 2 3 v2 rfl rfl) h2
  obtain ⟨a3,rfl,rfl,rfl,w3⟩:=open_int und3 (hval 3 3 v3 rfl rfl) h3
  refine (anE (T.aoM a0 a1 a2 a3 hx1 (wf_i64 w2) (wf_i64 w3)) rfl (fun j v hv=>?_)).mono fun e W' ⟨he,hq⟩=>⟨_,he,anC laidOut hW' rfl (by kernel_rfl) hq rfl und4 rfl rfl rfl⟩
  match j,hv with
  | 0,hv=>simp at hv;subst hv;exact .inl ht0
  | 1,hv=>simp at hv;subst hv;exact .inr ⟨_,_,rfl,rfl,ht1⟩
  | 2,hv=>simp at hv;subst hv;exact .inl (.lit _)
  | 3,hv=>simp at hv;subst hv;exact .inl (.lit _)

set_option maxRecDepth 100000 in
theorem lifted (os:Os) (started:os.Started) (H:Type) (enc:TypeId × Value→H) :
    ReturnsInHanded {} Tryz.checked os 3 .any (Rows.conflictsetChecksSpec.pre6 enc Tryz.prog Tryz.f3 Rows.conflictsetChecksRow.domain false) (Rows.conflictsetChecksSpec.post enc Tryz.prog Tryz.f3 false true false false):=by
  refine returnsInHanded_of_change (C:=Tryz.checked) own started (by kernel_rfl) Tryz.func3
    (ChangeSpec.witness6 (enc:=enc) (C:=Tryz.checked) false ⟨#[],#[.slice none 0 0,.agg #[.slice none 0 0,.slice none 0 0,.slice none 0 0],.int .i64 0,.int .i64 0],[]⟩ 8 (by kernel_rfl) (by kernel_rfl) (by kernel_rfl) (by kernel_rfl)) ?_
  intro W base args ds gs before hval hW _ _
  exact contract H enc W base args ds gs before hval hW

theorem proved:Rows.ConflictsetChecksSaid :=
  OpenClaim.holds_of_wide 3 Tryz.f3 rfl rfl rfl rfl rfl rfl rfl ⟨rfl,rfl,rfl,rfl,rfl⟩ rfl rfl rfl rfl rfl (by kernel_rfl) Tryz.func3 (by kernel_rfl)
    (of_decide_eq_true (by kernel_rfl)) (by unfold Func.isWrapper;first|(rw[if_pos (by decide +kernel)];kernel_rfl)|(rw[if_neg (by decide +kernel)];exact⟨rfl,rfl⟩))
    (fun os started H enc _=>lifted os started H enc)
end Go.Proofs.YtjadfapldkfbpaaGreat.conflictsetChecks
