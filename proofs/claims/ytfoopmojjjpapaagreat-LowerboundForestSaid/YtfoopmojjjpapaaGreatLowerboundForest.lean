/- LowerboundForest: the law returns true for every input,and leaves its arguments as they were. No condition. -/
import Derived.Test.YtfoopmojjjpapaaGreatRows
import Derived.Test.YtfoopmojjjpapaaGreatX09
import Derived.Test.YtfoopmojjjpapaaGreatX52
namespace Go.Proofs.YtfoopmojjjpapaaGreat.lowerboundForest
open Go.ChangeShapes Go.WideShapes Go.ChangeAt Go.RowKit Go.Am
set_option linter.unusedVariables false

theorem own:ownKnob Tryz.prog.godebug=none:=by kernel_rfl
theorem laidOut:laidOutB Tryz.prog=true:=by kernel_rfl
theorem und5:Tryz.prog.underlying 5=some (.int .u8):=by kernel_rfl
theorem und3:Tryz.prog.underlying 3=some (.int .i64):=by kernel_rfl
theorem und4:Tryz.prog.underlying 4=some (.bool):=by kernel_rfl
theorem und22:Tryz.prog.underlying 22=some (.slice 3):=by kernel_rfl
theorem cells3:Tryz.prog.cellsOf 3=1:=by kernel_rfl
theorem cells4:Tryz.prog.cellsOf 4=1:=by kernel_rfl
theorem cells5:Tryz.prog.cellsOf 5=1:=by kernel_rfl
theorem cells22:Tryz.prog.cellsOf 22=1:=by kernel_rfl
theorem prms:Tryz.f4.params.toList=[22,5]:=by kernel_rfl

set_option maxRecDepth 100000 in
theorem contract (H:Type) (enc:TypeId × Value→H) (W:World) (base:Nat) (args:Array Value) (ds gs:List (DataW H)) (before:List MemPlace)
    (hval:∀ (j:Nat) t v,Tryz.f4.params[j]?=some t→args[j]?=some v→Value.okWide Tryz.prog W .any base t v)
    (hW:DataW.Whole enc Tryz.prog Tryz.f4.params.toList Rows.lowerboundForestSpec.vars false W args.toList ds gs before) :
    Calls Tryz.prog 4 args W fun e W'=>∃ v,e=.returned v∧Rows.lowerboundForestSpec.post enc Tryz.prog Tryz.f4 false true false false W args v W':=by
  have hW':=hW
  obtain ⟨p,q,hA,hV,rfl,_,_⟩:=hW
  obtain ⟨rfl,rfl⟩:=trodVars_none hV
  rw[prms] at hA
  obtain ⟨v0,vs0,d0,ds0,p0,q0,hargs0,rfl,rfl,h0,r0⟩:=trodAll_cons hA
  obtain ⟨v1,vs1,d1,ds1,p1,q1,hargs1,rfl,rfl,h1,r1⟩:=trodAll_cons r0
  subst hargs1
  obtain ⟨rfl,rfl,rfl⟩:=trodAll_nil r1
  obtain rfl:args = #[v0,v1]:=by cases args;simp_all
  obtain ⟨fuel0,hf0⟩:=Trod.slice und22 (hval 0 22 v0 rfl rfl) h0
  obtain ⟨a0,u0,e0,hx0,hl0,ht0⟩:=anj und22 und3 cells3 hf0
  obtain rfl:v0=u0:=by simpa using e0
  obtain ⟨a1,rfl,rfl,rfl,w1⟩:=open_int und5 (hval 1 5 v1 rfl rfl) h1
  refine (ank (T.ans a0 a1 (T.anr w1)) rfl (fun j v hv=>?_)).mono fun e W' ⟨he,hq⟩=>⟨_,he,ani laidOut hW' rfl (by kernel_rfl) hq rfl und4 rfl rfl rfl⟩
  match j,hv with
  | 0,hv=>simp at hv;subst hv;exact .inl ht0
  | 1,hv=>simp at hv;subst hv;exact .inl (.lit _)

set_option maxRecDepth 100000 in
theorem lifted (os:Os) (started:os.Started) (H:Type) (enc:TypeId × Value→H) :
    ReturnsInHanded {} Tryz.checked os 4 .any (Rows.lowerboundForestSpec.pre6 enc Tryz.prog Tryz.f4 Rows.lowerboundForestRow.domain false) (Rows.lowerboundForestSpec.post enc Tryz.prog Tryz.f4 false true false false):=by
  refine returnsInHanded_of_change (C:=Tryz.checked) own started (by kernel_rfl) Tryz.func4
    (ChangeSpec.witness6 (enc:=enc) (C:=Tryz.checked) false ⟨#[],#[.slice none 0 0,.int .u8 0],[]⟩ 8 (by kernel_rfl) (by kernel_rfl) (by kernel_rfl) (by kernel_rfl)) ?_
  intro W base args ds gs before hval hW _ _
  exact contract H enc W base args ds gs before hval hW

theorem proved:Rows.LowerboundForestSaid :=
  OpenClaim.holds_of_wide 4 Tryz.f4 rfl rfl rfl rfl rfl rfl rfl ⟨rfl,rfl,rfl,rfl,rfl⟩ rfl rfl rfl rfl rfl (by kernel_rfl) Tryz.func4 (by kernel_rfl)
    (of_decide_eq_true (by kernel_rfl)) (by unfold Func.isWrapper;first|(rw[if_pos (by decide +kernel)];kernel_rfl)|(rw[if_neg (by decide +kernel)];exact⟨rfl,rfl⟩))
    (fun os started H enc _=>lifted os started H enc)
end Go.Proofs.YtfoopmojjjpapaaGreat.lowerboundForest
