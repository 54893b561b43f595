/- LowerboundExact: the law returns true for every input,and leaves its arguments as they were. No condition. -/
import Derived.Test.YtfoopmojjjpapaaGreatRows
import Derived.Test.YtfoopmojjjpapaaGreatX08
import Derived.Test.YtfoopmojjjpapaaGreatX52
namespace Go.Proofs.YtfoopmojjjpapaaGreat.lowerboundExact
open Go.ChangeShapes Go.WideShapes Go.ChangeAt Go.RowKit Go.Am
set_option linter.unusedVariables false

theorem own:ownKnob Tryz.prog.godebug=none:=by kernel_rfl
theorem laidOut:laidOutB Tryz.prog=true:=by kernel_rfl
theorem und5:Tryz.prog.underlying 5=some (.int .u8):=by kernel_rfl
theorem und3:Tryz.prog.underlying 3=some (.int .i64):=by kernel_rfl
theorem und4:Tryz.prog.underlying 4=some (.bool):=by kernel_rfl
theorem und22:Tryz.prog.underlying 22=some (.slice 3):=by kernel_rfl
theorem cells3:Tryz.prog.cellsOf 3=1:=by kernel_rfl
theorem cells4:Tryz.prog.cellsOf 4=1:=by kernel_rfl
theorem cells5:Tryz.prog.cellsOf 5=1:=by kernel_rfl
theorem cells22:Tryz.prog.cellsOf 22=1:=by kernel_rfl
theorem prms:Tryz.f7.params.toList=[22,5,4]:=by kernel_rfl

set_option maxRecDepth 100000 in
theorem contract (H:Type) (enc:TypeId × Value→H) (W:World) (base:Nat) (args:Array Value) (ds gs:List (DataW H)) (before:List MemPlace)
    (hval:∀ (j:Nat) t v,Tryz.f7.params[j]?=some t→args[j]?=some v→Value.okWide Tryz.prog W .any base t v)
    (hW:DataW.Whole enc Tryz.prog Tryz.f7.params.toList Rows.lowerboundExactSpec.vars false W args.toList ds gs before) :
    Calls Tryz.prog 7 args W fun e W'=>∃ v,e=.returned v∧Rows.lowerboundExactSpec.post enc Tryz.prog Tryz.f7 false true false false W args v W':=by
  have hW':=hW
  obtain ⟨p,q,hA,hV,rfl,_,_⟩:=hW
  obtain ⟨rfl,rfl⟩:=trodVars_none hV
  rw[prms] at hA
  obtain ⟨v0,vs0,d0,ds0,p0,q0,hargs0,rfl,rfl,h0,r0⟩:=trodAll_cons hA
  obtain ⟨v1,vs1,d1,ds1,p1,q1,hargs1,rfl,rfl,h1,r1⟩:=trodAll_cons r0
  subst hargs1
  obtain ⟨v2,vs2,d2,ds2,p2,q2,hargs2,rfl,rfl,h2,r2⟩:=trodAll_cons r1
  subst hargs2
  obtain ⟨rfl,rfl,rfl⟩:=trodAll_nil r2
  obtain rfl:args = #[v0,v1,v2]:=by cases args;simp_all
  obtain ⟨fuel0,hf0⟩:=Trod.slice und22 (hval 0 22 v0 rfl rfl) h0
  obtain ⟨a0,u0,e0,hx0,hl0,ht0⟩:=aml und22 und3 cells3 hf0
  obtain rfl:v0=u0:=by simpa using e0
  obtain ⟨a1,rfl,rfl,rfl,w1⟩:=open_int und5 (hval 1 5 v1 rfl rfl) h1
  obtain ⟨a2,rfl,rfl,rfl⟩:=open_bool und4 (hval 2 4 v2 rfl rfl) h2
  refine (amm (T.amv a0 a1 (T.amu w1) a2) rfl (fun j v hv=>?_)).mono fun e W' ⟨he,hq⟩=>⟨_,he,amk laidOut hW' rfl (by kernel_rfl) hq rfl und4 rfl rfl rfl⟩
  match j,hv with
  | 0,hv=>simp at hv;subst hv;exact .inl ht0
  | 1,hv=>simp at hv;subst hv;exact .inl (.lit _)
  | 2,hv=>simp at hv;subst hv;exact .inl (.lit _)

set_option maxRecDepth 100000 in
theorem lifted (os:Os) (started:os.Started) (H:Type) (enc:TypeId × Value→H) :
    ReturnsInHanded {} Tryz.checked os 7 .any (Rows.lowerboundExactSpec.pre6 enc Tryz.prog Tryz.f7 Rows.lowerboundExactRow.domain false) (Rows.lowerboundExactSpec.post enc Tryz.prog Tryz.f7 false true false false):=by
  refine returnsInHanded_of_change (C:=Tryz.checked) own started (by kernel_rfl) Tryz.func7
    (ChangeSpec.witness6 (enc:=enc) (C:=Tryz.checked) false ⟨#[],#[.slice none 0 0,.int .u8 0,.bool false],[]⟩ 8 (by kernel_rfl) (by kernel_rfl) (by kernel_rfl) (by kernel_rfl)) ?_
  intro W base args ds gs before hval hW _ _
  exact contract H enc W base args ds gs before hval hW

theorem proved:Rows.LowerboundExactSaid :=
  OpenClaim.holds_of_wide 7 Tryz.f7 rfl rfl rfl rfl rfl rfl rfl ⟨rfl,rfl,rfl,rfl,rfl⟩ rfl rfl rfl rfl rfl (by kernel_rfl) Tryz.func7 (by kernel_rfl)
    (of_decide_eq_true (by kernel_rfl)) (by unfold Func.isWrapper;first|(rw[if_pos (by decide +kernel)];kernel_rfl)|(rw[if_neg (by decide +kernel)];exact⟨rfl,rfl⟩))
    (fun os started H enc _=>lifted os started H enc)
end Go.Proofs.YtfoopmojjjpapaaGreat.lowerboundExact
