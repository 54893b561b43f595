import Derived.Test.YtfoopmojjjpapaaGreatX06
set_option linter.all false
set_option maxHeartbeats 0
set_option maxRecDepth 20000
open List renaming contains_cons→P3,contains_nil→P4,getD_cons_zero→ik,getD_cons_succ→e7,getD_nil→Ki,size_toArray→DV,map_cons→ei,map_nil→nQ,cons_append→dx,nil_append→eC,append_nil→nL,getElem?_cons_zero→uY,getElem?_cons_succ→tJ,getElem?_toArray→Ke,length_cons→dq,length_nil→o8,all_cons→DP,drop_zero→Aw,take_zero→mD,set_cons_zero→u4,set_cons_succ→y8,flatMap_cons→tM,length_append→bO,length_set→bJ,length_replicate→lE
open Bool renaming or_self→P5,or_false→DX,false_or→pf,or_true→Cc,true_or→y7,false_eq_true→jo,and_true→GP,true_and→gK,not_true→iN,not_false→kB,not_eq_true'→kz,or_eq_true→lD,and_eq_true→bb
open Option renaming bind_some→tH,map_some→eH
open Nat renaming zero_add→gJ,add_zero→jq,zero_mul→GN,one_mul→wx
open Int renaming toNat_natCast→c7,ofNat_inj→P6
namespace Go.Am
def ui:=aaP @G9 @G4 @Hl @P3.{0} @P4.{0} @P5 @DX (aaP @pf @Cc @y7 @jo @if_false.{1} @if_true.{1} @ik.{0} (aac @e7.{0} @Ki.{0}))
def Bc:=aaP @G9 @G4 @Hl @P3.{0} @P4.{0} @P5 @DX (aaP @pf @Cc @y7 @jo @if_false.{1} @if_true.{1} @ik.{0} (aaP @e7.{0} @Ki.{0} @DV.{0} @Array.size_empty.{0} @RD @RE @eq_self.{1} (aaP @R6 @R7 @Qr @Qs @Qt @Qu @QA (aaP @QB @QC @QD @QF @QG @QH @QI (aaP @QJ @QK @QL @QM @QN @QO @QP (aaP @QZ @Q3 @Q4 @Q5 @Q6 @Q7 @Q8 (aaP @Q9 @Sv @Qw @Qz @Qp @Qq @true_and (aaP @and_true @and_self @ei.{0,0} @nQ.{0,0} @dx.{0} @eC.{0} @nL.{0} (aaP @ite_true.{1} @ite_false.{1} @Bool.true_eq_false @ne_eq.{1} @not_true_eq_false @not_false_eq_true @false_implies (aaP @true_implies @implies_true.{1} @tH.{0,0} @Option.bind_none.{0,0} @uY.{0} @tJ.{0} @Ke.{0} (aaP @dq.{0} @o8.{0} @gJ @jq @decide_true @decide_false @DP.{0} (aaP @List.all_nil.{0} @GP @gK @Int.toNat_zero @iN @kB @cond_true.{1} (aaP @cond_false.{1} @R8 @Sa @Sb @R9 @Rw @Ry (aaP @Rz @Rx @mJ @mI @c7 @Rf @Rg (aaP @Rh @Ri @Rj @Rk @GN @Nat.mul_one @wx (aaP @Rb @Re @Hb @AL @KU @eH.{0,0} @Aw.{0} (aaP @List.drop_succ_cons.{0} @List.take_succ_cons.{0} @mD.{0} @u4.{0} @y8.{0} @beq_self_eq_true.{0} @tM.{0,0} (aaP @List.flatMap_nil.{0,0} @List.getElem?_nil.{0} @bO.{0} @bJ.{0} @lE.{0} @x7 @AK (aaP @G' @RF @RG @RH @RJ @RK @KS (aaP @ints_set @q8 @RL @Cu @RM @Ea @KT (aae @Cv @Ha @RN @RO)))))))))))))))))))))
def iv:=aaP @eq_self.{1} @decide_eq_true_eq @decide_eq_false_iff_not @kz @Bool.not_eq_false' @beq_iff_eq.{0} @beq_eq_false_iff_ne.{0} (aaP @bne_iff_ne.{0} @bne_eq_false_iff_eq.{0} @ne_eq.{1} @Decidable.not_not @Int.not_lt @Int.not_le @not_true_eq_false (aaP @not_false_eq_true @lD @bb @Bool.or_eq_false_iff @Bool.and_eq_false_iff @gt_iff_lt.{0} @ge_iff_le.{0} (aaP @Int.ofNat_lt @Int.ofNat_le @P6 @Nat.not_lt @Nat.not_le @x7 @AK (aad @G' @cond_true.{1} @cond_false.{1}))))
end Go.Am

