/- HallFinds: the law returns true for every input,and leaves its arguments as they were,where the two tables of math/bits start as the program lays them (the card ties them). No other condition. -/
import Derived.Test.YtodilglobhifaaaGreatDoorCards
import Derived.Test.YtodilglobhifaaaGreatDoorTie
import Derived.LaidMore
import Derived.SevenTiedAt
import Derived.Lib.LaidTab
import Derived.Stop.LaidErr
import Derived.MakeChecks
import Derived.OpenShut
import Derived.Test.YtodilglobhifaaaGreatDoorX26
import Derived.Test.YtodilglobhifaaaGreatDoorX47
namespace Go.Proofs.YtodilglobhifaaaGreatDoor.hallFinds
open Go.ChangeShapes Go.WideShapes Go.ChangeAt Go.RowKit Go.Am
set_option linter.unusedVariables false

theorem own:ownKnob Tryz.prog.godebug=none:=by kernel_rfl
theorem laidOut:laidOutB Tryz.prog=true:=by kernel_rfl
theorem und3:Tryz.prog.underlying 3=some (.int .i64):=by kernel_rfl
theorem und4:Tryz.prog.underlying 4=some (.bool):=by kernel_rfl
theorem und22:Tryz.prog.underlying 22=some (.slice 3):=by kernel_rfl
theorem und23:Tryz.prog.underlying 23=some (.slice 82):=by kernel_rfl
theorem cells3:Tryz.prog.cellsOf 3=1:=by kernel_rfl
theorem cells4:Tryz.prog.cellsOf 4=1:=by kernel_rfl
theorem cells22:Tryz.prog.cellsOf 22=1:=by kernel_rfl
theorem cells23:Tryz.prog.cellsOf 23=1:=by kernel_rfl
theorem prms:Tryz.f3.params.toList=[22,23]:=by kernel_rfl

theorem gTab : Tryz.prog.globalNamed "math/bits.deBruijn64tab" = some 1 := by kernel_rfl
theorem glob_of {W : World} (h : laidMetH Tryz.prog [("math/bits.deBruijn32tab", Rows.laid_math_bits_deBruijn32tab), ("math/bits.deBruijn64tab", Rows.laid_math_bits_deBruijn64tab)] W) : AI W := by
  rw[MakeChecks.laidMetH_plain _ _ _ (by kernel_rfl)] at h
  have hT:=Lib.tabIs_of_head (k:=.u8) (zs:=T.x5) gTab (t:=195) (e:=5) (n:=64) (by kernel_rfl) (by kernel_rfl) (by kernel_rfl) (by kernel_rfl) (by kernel_rfl) h.tail
  exact T.ZV (fun i hi=>hT.cell gTab i hi)
theorem door_met (os : Os) (args : Array Value) : laidMetH Tryz.prog [("math/bits.deBruijn32tab", Rows.laid_math_bits_deBruijn32tab), ("math/bits.deBruijn64tab", Rows.laid_math_bits_deBruijn64tab)] ((World.doorLaid Tryz.prog 19 os).forCall (fun _ _ => 0) ⟨#[], args, []⟩).memory :=
  laidMetH_of_parts3 (fuel:=8) (laidMet_of_run' 8 (by kernel_rfl) (by kernel_rfl)) (by kernel_rfl) (by kernel_rfl)

set_option maxRecDepth 100000 in
theorem contract (H:Type) (enc:TypeId × Value→H) (W:World) (base:Nat) (args:Array Value) (ds gs:List (DataW H)) (before:List MemPlace)
    (hval:∀ (j:Nat) t v,Tryz.f3.params[j]?=some t→args[j]?=some v→Value.okWide Tryz.prog W .any base t v)
    (hW:DataW.Whole enc Tryz.prog Tryz.f3.params.toList Rows.hallFindsSpec.vars false W args.toList ds gs before) (hG:AI W) :
    Calls Tryz.prog 3 args W fun e W'=>∃ v,e=.returned v∧Rows.hallFindsSpec.post enc Tryz.prog Tryz.f3 false true false false W args v W':=by
  have hW':=hW
  obtain ⟨p,q,hA,hV,rfl,_,_⟩:=hW
  obtain ⟨rfl,rfl⟩:=trodVars_none hV
  rw[prms] at hA
  obtain ⟨v0,vs0,d0,ds0,p0,q0,hargs0,rfl,rfl,h0,r0⟩:=trodAll_cons hA
  obtain ⟨v1,vs1,d1,ds1,p1,q1,hargs1,rfl,rfl,h1,r1⟩:=trodAll_cons r0
  subst hargs1
  obtain ⟨rfl,rfl,rfl⟩:=trodAll_nil r1
  obtain rfl:args = #[v0,v1]:=by cases args;simp_all
  obtain ⟨fuel0,hf0⟩:=Trod.slice und22 (hval 0 22 v0 rfl rfl) h0
  obtain ⟨a0,u0,e0,hx0,hl0,ht0⟩:=aad und22 und3 cells3 hf0
  obtain rfl:v0=u0:=by simpa using e0
  obtain ⟨fuel1,hf1⟩:=Trod.slice und23 (hval 1 23 v1 rfl rfl) h1
  obtain ⟨a1,u1,e1,hx1,hl1,ht1⟩:=T.ZU hf1
  obtain rfl:v1=u1:=by simpa using e1
  refine (aae (T.aam a0 a1 ⟨(by unfold maxLen at hl1;omega),hx1⟩) rfl (fun j v hv=>?_) hG).mono fun e W' ⟨he,hq⟩=>⟨_,he,aac laidOut hW' rfl (by kernel_rfl) hq rfl und4 rfl rfl rfl⟩
  match j,hv with
  | 0,hv=>simp at hv;subst hv;exact .inl ht0
  | 1,hv=>simp at hv;subst hv;exact .inl ht1

set_option maxRecDepth 100000 in
theorem lifted (os:Os) (started:os.Started) (H:Type) (enc:TypeId × Value→H) :
    ReturnsInHanded {} Tryz.checked os 3 .any (fun w args => (Rows.hallFindsSpec.pre enc Tryz.prog Tryz.f3 [] false w args ∧ laidMetH Tryz.prog [("math/bits.deBruijn32tab", Rows.laid_math_bits_deBruijn32tab), ("math/bits.deBruijn64tab", Rows.laid_math_bits_deBruijn64tab)] w) ∧ sizedMet enc Tryz.prog Tryz.f3 (OpenSpec.ofChange Rows.hallFindsSpec) false w args)
      (Rows.hallFindsSpec.post enc Tryz.prog Tryz.f3 false true false false):=by
  refine returnsInHanded_of_change_and (C := Tryz.checked) (X := fun w _ => laidMetH Tryz.prog [("math/bits.deBruijn32tab", Rows.laid_math_bits_deBruijn32tab), ("math/bits.deBruijn64tab", Rows.laid_math_bits_deBruijn64tab)] w) (fun _ _ _ hh h => h.of_heap hh) own started (by kernel_rfl) Tryz.func3
    (ChangeSpec.witness_shaped (enc := enc) (C := Tryz.checked) (os := os) (X := fun w _ => laidMetH Tryz.prog [("math/bits.deBruijn32tab", Rows.laid_math_bits_deBruijn32tab), ("math/bits.deBruijn64tab", Rows.laid_math_bits_deBruijn64tab)] w) false (World.doorLaid Tryz.prog 19 os) #[.slice none 0 0, .slice none 0 0] 8 rfl (World.shaped_of_RefB (by kernel_rfl) (by kernel_rfl)) (by kernel_rfl) (by kernel_rfl) (by kernel_rfl) (door_met os _)) ?_
  intro W base args ds gs before hval hW _ _ hL _
  exact contract H enc W base args ds gs before hval hW (glob_of hL)

theorem row_holds:Rows.HallFindsSaid :=
  OpenClaim.holds_of_wide 3 Tryz.f3 rfl rfl rfl rfl rfl rfl rfl ⟨rfl,rfl,rfl,rfl,rfl⟩ rfl rfl rfl rfl rfl (by kernel_rfl) Tryz.func3 (by kernel_rfl)
    (of_decide_eq_true (by kernel_rfl)) (by unfold Func.isWrapper;first|(rw[if_pos (by decide +kernel)];kernel_rfl)|(rw[if_neg (by decide +kernel)];exact⟨rfl,rfl⟩))
    (fun os started H enc _=>lifted os started H enc)

theorem proved:Rows.HallFindsCardSaid :=
  Claim7.holds_tied_plain_at .later [] [.data, .data] true (true, "a36933b7d052cbfbe5baf51585a024f8b2500ece2773e023caae47c30ac2d696") false
    row_holds (fun _ h=>by cases h) (by kernel_rfl) (fun _ h=>by cases h) hallFinds_row_tie rfl ⟨rfl,rfl⟩ (by kernel_rfl) rfl
    (fun f fn hf hfn=>by
      obtain rfl : f = 3 := Option.some.inj ((show Tryz.prog.funcNamed "timetable/timetablelaw23.HallFinds" = some 3 by kernel_rfl).symm.trans hf) |>.symm
      obtain rfl:fn=Tryz.f3:=(Option.some.inj (Tryz.func3.symm.trans hfn)).symm
      exact⟨by kernel_rfl,fun j t ht=>by
        have hm:t∈Tryz.f3.params.toList:=by simpa using Array.mem_of_getElem? ht
        rw[prms] at hm
        have hall:([22,23].all fun u=>!Tryz.prog.wantsStandIn u)=true:=by kernel_rfl
        exact (show Tryz.prog.wantsStandIn t=false by simpa using List.all_eq_true.1 hall t hm)⟩)
    (by kernel_rfl)
end Go.Proofs.YtodilglobhifaaaGreatDoor.hallFinds
