import Derived.Test.YtfoopmojjjpapaaGreatX07
set_option linter.all false
set_option maxHeartbeats 0
set_option maxRecDepth 20000
open List renaming contains_cons→NQ,contains_nil→NR,getD_cons_zero→im,getD_cons_succ→fM,getD_nil→Iy,size_toArray→Cm,map_cons→fW,map_nil→nu,cons_append→dq,nil_append→ec,append_nil→pO,getElem?_cons_zero→uW,getElem?_cons_succ→rW,getElem?_toArray→It,length_cons→dw,length_nil→nR,all_cons→Ci,drop_zero→yU,take_zero→nU,set_cons_zero→tP,set_cons_succ→wB,flatMap_cons→xG,length_append→bE,length_set→bK,length_replicate→mL
open Bool renaming or_self→NS,or_false→Co,false_or→pR,or_true→AK,true_or→xF,false_eq_true→iS,and_true→E0,true_and→iu,not_true→lI,not_false→mK,not_eq_true'→kH,or_eq_true→kG,and_eq_true→aZ
open Option renaming bind_some→rU,map_some→gY
open Nat renaming zero_add→gn,add_zero→iq,zero_mul→EX,one_mul→wx
open Int renaming toNat_natCast→ep,ofNat_inj→NT
namespace Go.Am
def sL:=aaD @Fh @Fa @Fx @NQ.{0} @NR.{0} @NS @Co (aaD @pR @AK @xF @iS @if_false.{1} @if_true.{1} @im.{0} (NZ @fM.{0} @Iy.{0}))
def Bc:=aaD @Fh @Fa @Fx @NQ.{0} @NR.{0} @NS @Co (aaD @pR @AK @xF @iS @if_false.{1} @if_true.{1} @im.{0} (aaD @fM.{0} @Iy.{0} @Cm.{0} @Array.size_empty.{0} @Pn @Po @eq_self.{1} (aaD @PX @PY @Od @Oe @Of @Og @On (aaD @Oo @Oq @Ot @Ou @Ov @Ow @Ox (aaD @Oy @Oz @OA @OB @OC @OD @OE (aaD @OO @OP @OQ @OR @OS @OT @OU (aaD @OV @Qn @Oi @Om @N' @Oa @true_and (aaD @and_true @and_self @fW.{0,0} @nu.{0,0} @dq.{0} @ec.{0} @pO.{0} (aaD @ite_true.{1} @ite_false.{1} @Bool.true_eq_false @ne_eq.{1} @not_true_eq_false @not_false_eq_true @false_implies (aaD @true_implies @implies_true.{1} @rU.{0,0} @Option.bind_none.{0,0} @uW.{0} @rW.{0} @It.{0} (aaD @dw.{0} @nR.{0} @gn @iq @decide_true @decide_false @Ci.{0} (aaD @List.all_nil.{0} @E0 @iu @Int.toNat_zero @lI @mK @cond_true.{1} (aaD @cond_false.{1} @PZ @P2 @P3 @P1 @Pf @Ph (aaD @Pj @Pg @lQ @lP @ep @OY @OZ (aaD @O0 @O1 @O2 @O3 @EX @Nat.mul_one @wx (aaD @OW @OX @Fk @A5 @I7 @gY.{0,0} @yU.{0} (aaD @List.drop_succ_cons.{0} @List.take_succ_cons.{0} @nU.{0} @tP.{0} @wB.{0} @beq_self_eq_true.{0} @xG.{0,0} (aaD @List.flatMap_nil.{0,0} @List.getElem?_nil.{0} @bE.{0} @bK.{0} @mL.{0} @wJ @xR (aaD @Fi @Pp @Pq @Ps @Pt @Pu @I5 (aaD @ints_set @xS @Pv @CD @Px @CE @I6 (aak @A4 @Fj @Py @Pz)))))))))))))))))))))
def gN:=aaD @eq_self.{1} @decide_eq_true_eq @decide_eq_false_iff_not @kH @Bool.not_eq_false' @beq_iff_eq.{0} @beq_eq_false_iff_ne.{0} (aaD @bne_iff_ne.{0} @bne_eq_false_iff_eq.{0} @ne_eq.{1} @Decidable.not_not @Int.not_lt @Int.not_le @not_true_eq_false (aaD @not_false_eq_true @kG @aZ @Bool.or_eq_false_iff @Bool.and_eq_false_iff @gt_iff_lt.{0} @ge_iff_le.{0} (aaD @Int.ofNat_lt @Int.ofNat_le @NT @Nat.not_lt @Nat.not_le @wJ @xR (N0 @Fi @cond_true.{1} @cond_false.{1}))))
end Go.Am

