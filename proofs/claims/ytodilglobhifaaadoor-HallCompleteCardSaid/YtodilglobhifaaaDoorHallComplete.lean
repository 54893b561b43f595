/- HallComplete: the law returns true for every input,and leaves its arguments as they were,where the two tables of math/bits start as the program lays them (the card ties them). No other condition. -/
import Derived.Test.YtodilglobhifaaaDoorCards
import Derived.Test.YtodilglobhifaaaDoorTie
import Derived.LaidMore
import Derived.SevenTiedAt
import Derived.Lib.LaidTab
import Derived.Stop.LaidErr
import Derived.MakeChecks
import Derived.OpenShut
import Derived.Test.YtodilglobhifaaaDoorX20
import Derived.Test.YtodilglobhifaaaDoorX47
namespace Go.Proofs.YtodilglobhifaaaDoor.hallComplete
open Go.ChangeShapes Go.WideShapes Go.ChangeAt Go.RowKit Go.Am
set_option linter.unusedVariables false

theorem own:ownKnob Tryd.prog.godebug=none:=by kernel_rfl
theorem laidOut:laidOutB Tryd.prog=true:=by kernel_rfl
theorem und3:Tryd.prog.underlying 3=some (.int .i64):=by kernel_rfl
theorem und4:Tryd.prog.underlying 4=some (.bool):=by kernel_rfl
theorem und22:Tryd.prog.underlying 22=some (.slice 3):=by kernel_rfl
theorem cells3:Tryd.prog.cellsOf 3=1:=by kernel_rfl
theorem cells4:Tryd.prog.cellsOf 4=1:=by kernel_rfl
theorem cells22:Tryd.prog.cellsOf 22=1:=by kernel_rfl
theorem prms:Tryd.f3.params.toList=[22]:=by kernel_rfl

theorem gTab : Tryd.prog.globalNamed "math/bits.deBruijn64tab" = some 1 := by kernel_rfl
theorem glob_of {W : World} (h : laidMetH Tryd.prog [("math/bits.deBruijn32tab", Rows.laid_math_bits_deBruijn32tab), ("math/bits.deBruijn64tab", Rows.laid_math_bits_deBruijn64tab)] W) : xn W := by
  rw[MakeChecks.laidMetH_plain _ _ _ (by kernel_rfl)] at h
  have hT:=Lib.tabIs_of_head (k:=.u8) (zs:=T.uJ) gTab (t:=136) (e:=5) (n:=64) (by kernel_rfl) (by kernel_rfl) (by kernel_rfl) (by kernel_rfl) (by kernel_rfl) h.tail
  exact T.TW (fun i hi=>hT.cell gTab i hi)
theorem door_met (os : Os) (args : Array Value) : laidMetH Tryd.prog [("math/bits.deBruijn32tab", Rows.laid_math_bits_deBruijn32tab), ("math/bits.deBruijn64tab", Rows.laid_math_bits_deBruijn64tab)] ((World.doorLaid Tryd.prog 19 os).forCall (fun _ _ => 0) ⟨#[], args, []⟩).memory :=
  laidMetH_of_parts3 (fuel:=8) (laidMet_of_run' 8 (by kernel_rfl) (by kernel_rfl)) (by kernel_rfl) (by kernel_rfl)

set_option maxRecDepth 100000 in
theorem contract (H:Type) (enc:TypeId × Value→H) (W:World) (base:Nat) (args:Array Value) (ds gs:List (DataW H)) (before:List MemPlace)
    (hval:∀ (j:Nat) t v,Tryd.f3.params[j]?=some t→args[j]?=some v→Value.okWide Tryd.prog W .any base t v)
    (hW:DataW.Whole enc Tryd.prog Tryd.f3.params.toList Rows.hallCompleteSpec.vars false W args.toList ds gs before) (hG:xn W) :
    Calls Tryd.prog 3 args W fun e W'=>∃ v,e=.returned v∧Rows.hallCompleteSpec.post enc Tryd.prog Tryd.f3 false true false false W args v W':=by
  have hW':=hW
  obtain ⟨p,q,hA,hV,rfl,_,_⟩:=hW
  obtain ⟨rfl,rfl⟩:=trodVars_none hV
  rw[prms] at hA
  obtain ⟨v0,vs0,d0,ds0,p0,q0,hargs0,rfl,rfl,h0,r0⟩:=trodAll_cons hA
  obtain ⟨rfl,rfl,rfl⟩:=trodAll_nil r0
  obtain rfl:args = #[v0]:=by cases args;simp_all
  obtain ⟨fuel0,hf0⟩:=Trod.slice und22 (hval 0 22 v0 rfl rfl) h0
  obtain ⟨a0,u0,e0,hx0,hl0,ht0⟩:=Ug und22 und3 cells3 hf0
  obtain rfl:v0=u0:=by simpa using e0
  refine (Uh (T.Uj a0) rfl (fun j v hv=>?_) hG).mono fun e W' ⟨he,hq⟩=>⟨_,he,Uf laidOut hW' rfl (by kernel_rfl) hq rfl und4 rfl rfl rfl⟩
  match j,hv with
  | 0,hv=>simp at hv;subst hv;exact .inl ht0

set_option maxRecDepth 100000 in
theorem lifted (os:Os) (started:os.Started) (H:Type) (enc:TypeId × Value→H) :
    ReturnsInHanded {} Tryd.checked os 3 .any (fun w args => (Rows.hallCompleteSpec.pre enc Tryd.prog Tryd.f3 [] false w args ∧ laidMetH Tryd.prog [("math/bits.deBruijn32tab", Rows.laid_math_bits_deBruijn32tab), ("math/bits.deBruijn64tab", Rows.laid_math_bits_deBruijn64tab)] w) ∧ sizedMet enc Tryd.prog Tryd.f3 (OpenSpec.ofChange Rows.hallCompleteSpec) false w args)
      (Rows.hallCompleteSpec.post enc Tryd.prog Tryd.f3 false true false false):=by
  refine returnsInHanded_of_change_and (C := Tryd.checked) (X := fun w _ => laidMetH Tryd.prog [("math/bits.deBruijn32tab", Rows.laid_math_bits_deBruijn32tab), ("math/bits.deBruijn64tab", Rows.laid_math_bits_deBruijn64tab)] w) (fun _ _ _ hh h => h.of_heap hh) own started (by kernel_rfl) Tryd.func3
    (ChangeSpec.witness_shaped (enc := enc) (C := Tryd.checked) (os := os) (X := fun w _ => laidMetH Tryd.prog [("math/bits.deBruijn32tab", Rows.laid_math_bits_deBruijn32tab), ("math/bits.deBruijn64tab", Rows.laid_math_bits_deBruijn64tab)] w) false (World.doorLaid Tryd.prog 19 os) #[.slice none 0 0] 8 rfl (World.shaped_of_RefB (by kernel_rfl) (by kernel_rfl)) (by kernel_rfl) (by kernel_rfl) (by kernel_rfl) (door_met os _)) ?_
  intro W base args ds gs before hval hW _ _ hL _
  exact contract H enc W base args ds gs before hval hW (glob_of hL)

theorem row_holds:Rows.HallCompleteSaid :=
  OpenClaim.holds_of_wide 3 Tryd.f3 rfl rfl rfl rfl rfl rfl rfl ⟨rfl,rfl,rfl,rfl,rfl⟩ rfl rfl rfl rfl rfl (by kernel_rfl) Tryd.func3 (by kernel_rfl)
    (of_decide_eq_true (by kernel_rfl)) (by unfold Func.isWrapper;first|(rw[if_pos (by decide +kernel)];kernel_rfl)|(rw[if_neg (by decide +kernel)];exact⟨rfl,rfl⟩))
    (fun os started H enc _=>lifted os started H enc)

theorem proved:Rows.HallCompleteCardSaid :=
  Claim7.holds_tied_plain_at .later [] [.data, .data] true (true, "090c995ef22b5cd5e3b05d2746a9883c69f824fdbfb176612282b29310c3bfb6") false
    row_holds (fun _ h=>by cases h) (by kernel_rfl) (fun _ h=>by cases h) hallComplete_row_tie rfl ⟨rfl,rfl⟩ (by kernel_rfl) rfl
    (fun f fn hf hfn=>by
      obtain rfl : f = 3 := Option.some.inj ((show Tryd.prog.funcNamed "timetable/timetablelaw23.HallComplete" = some 3 by kernel_rfl).symm.trans hf) |>.symm
      obtain rfl:fn=Tryd.f3:=(Option.some.inj (Tryd.func3.symm.trans hfn)).symm
      exact⟨by kernel_rfl,fun j t ht=>by
        have hm:t∈Tryd.f3.params.toList:=by simpa using Array.mem_of_getElem? ht
        rw[prms] at hm
        have hall:([22].all fun u=>!Tryd.prog.wantsStandIn u)=true:=by kernel_rfl
        exact (show Tryd.prog.wantsStandIn t=false by simpa using List.all_eq_true.1 hall t hm)⟩)
    (by kernel_rfl)
end Go.Proofs.YtodilglobhifaaaDoor.hallComplete
