/- ConflictsetExplains: the law returns true for every input,and leaves its arguments as they were. No condition. -/
import Derived.Test.YtdipcmigdbnheaaGreatRows
import Derived.Test.YtdipcmigdbnheaaGreatX08
import Derived.Test.YtdipcmigdbnheaaGreatX39
namespace Go.Proofs.YtdipcmigdbnheaaGreat.conflictsetExplains
open Go.ChangeShapes Go.WideShapes Go.ChangeAt Go.RowKit Go.Am
set_option linter.unusedVariables false
theorem own:ownKnob Tryz.prog.godebug=none:=by kernel_rfl
theorem laidOut:laidOutB Tryz.prog=true:=by kernel_rfl
theorem und3:Tryz.prog.underlying 3=some (.int .i64):=by kernel_rfl
theorem und4:Tryz.prog.underlying 4=some (.bool):=by kernel_rfl
theorem und22:Tryz.prog.underlying 22=some (.slice 3):=by kernel_rfl
theorem cells3:Tryz.prog.cellsOf 3=1:=by kernel_rfl
theorem cells4:Tryz.prog.cellsOf 4=1:=by kernel_rfl
theorem cells22:Tryz.prog.cellsOf 22=1:=by kernel_rfl
theorem prms:Tryz.f7.params.toList=[22]:=by kernel_rfl
set_option maxRecDepth 100000 in
theorem contract (H:Type) (enc:TypeId × Value→H) (W:World) (base:Nat) (args:Array Value) (ds gs:List (DataW H)) (bf:List MemPlace)
  (hv0:∀ (j:Nat) t v,Tryz.f7.params[j]?=some t→args[j]?=some v→Value.okWide Tryz.prog W .any base t v)
  (hW:DataW.Whole enc Tryz.prog Tryz.f7.params.toList Rows.conflictsetExplainsSpec.vars false W args.toList ds gs bf) :
  Calls Tryz.prog 7 args W fun e W'=>∃ v,e=.returned v∧Rows.conflictsetExplainsSpec.post enc Tryz.prog Tryz.f7 false true false false W args v W':=by
 have hW':=hW
 obtain ⟨p,q,hA,hV,rfl,_,_⟩:=hW
 obtain ⟨rfl,rfl⟩:=trodVars_none hV
 rw[prms] at hA
 obtain ⟨v0,vs0,d0,ds0,p0,q0,g0,rfl,rfl,h0,r0⟩:=trodAll_cons hA
 obtain ⟨rfl,rfl,rfl⟩:=trodAll_nil r0
 obtain rfl:args = #[v0]:=by cases args;simp_all
 obtain ⟨f0,hf0⟩:=Trod.slice und22 (hv0 0 22 v0 rfl rfl) h0
 obtain ⟨a0,u0,e0,hx0,hl0,ht0⟩:=anq und22 und3 cells3 hf0
 obtain rfl:v0=u0:=by simpa using e0
 refine (anr (T.anE a0) rfl (fun j v hv=>?_)).mono fun e W' ⟨he,hq⟩=>⟨_,he,anp laidOut hW' rfl (by kernel_rfl) hq rfl und4 rfl rfl rfl⟩
 match j,hv with
 | 0,hv=>simp at hv;subst hv;exact .inl ht0
set_option maxRecDepth 100000 in
theorem lifted (os:Os) (st:os.Started) (H:Type) (enc:TypeId × Value→H) :
  ReturnsInHanded {} Tryz.checked os 7 .any (Rows.conflictsetExplainsSpec.pre6 enc Tryz.prog Tryz.f7 Rows.conflictsetExplainsRow.domain false) (Rows.conflictsetExplainsSpec.post enc Tryz.prog Tryz.f7 false true false false):=by
 refine returnsInHanded_of_change (C:=Tryz.checked) own st (by kernel_rfl) Tryz.func7
  (ChangeSpec.witness6 (enc:=enc) (C:=Tryz.checked) false ⟨#[],#[.slice none 0 0],[]⟩ 8 (by kernel_rfl) (by kernel_rfl) (by kernel_rfl) (by kernel_rfl)) ?_
 intro W base args ds gs bf hv0 hW _ _
 exact contract H enc W base args ds gs bf hv0 hW
theorem proved:Rows.ConflictsetExplainsSaid :=
 OpenClaim.holds_of_wide 7 Tryz.f7 rfl rfl rfl rfl rfl rfl rfl ⟨rfl,rfl,rfl,rfl,rfl⟩ rfl rfl rfl rfl rfl (by kernel_rfl) Tryz.func7 (by kernel_rfl)
  (of_decide_eq_true (by kernel_rfl)) (by unfold Func.isWrapper;first|(rw[if_pos (by decide +kernel)];kernel_rfl)|(rw[if_neg (by decide +kernel)];exact⟨rfl,rfl⟩))
  (fun os st H enc _=>lifted os st H enc)
end Go.Proofs.YtdipcmigdbnheaaGreat.conflictsetExplains
