import Derived.Test.YtfoopmojjjpapaaGreatX07
set_option linter.all false
set_option maxHeartbeats 0
set_option maxRecDepth 20000
open List renaming contains_cons→NT,contains_nil→NU,getD_cons_zero→im,getD_cons_succ→fM,getD_nil→IA,size_toArray→Co,map_cons→fV,map_nil→nu,cons_append→dh,nil_append→ec,append_nil→pP,getElem?_cons_zero→uW,getElem?_cons_succ→rW,getElem?_toArray→Iv,length_cons→dt,length_nil→nR,all_cons→Ck,drop_zero→yW,take_zero→nU,set_cons_zero→tP,set_cons_succ→wD,flatMap_cons→xJ,length_append→bF,length_set→bK,length_replicate→mL
open Bool renaming or_self→NV,or_false→Cq,false_or→pS,or_true→AN,true_or→xI,false_eq_true→iS,and_true→E3,true_and→iu,not_true→lI,not_false→mK,not_eq_true'→kH,or_eq_true→kG,and_eq_true→aZ
open Option renaming bind_some→rU,map_some→gY
open Nat renaming zero_add→gm,add_zero→iq,zero_mul→E0,one_mul→wz
open Int renaming toNat_natCast→ep,ofNat_inj→NW
namespace Go.Am
def sM:=aaI @Fk @Fe @FA @NT.{0} @NU.{0} @NV @Cq (aaI @pS @AN @xI @iS @if_false.{1} @if_true.{1} @im.{0} (N2 @fM.{0} @IA.{0}))
def Bc:=aaI @Fk @Fe @FA @NT.{0} @NU.{0} @NV @Cq (aaI @pS @AN @xI @iS @if_false.{1} @if_true.{1} @im.{0} (aaI @fM.{0} @IA.{0} @Co.{0} @Array.size_empty.{0} @Pq @Ps @eq_self.{1} (aaI @P1 @P2 @Og @Oh @Oi @Oj @Ot (aaI @Ou @Ov @Ow @Ox @Oy @Oz @OA (aaI @OB @OC @OD @OE @OF @OG @OH (aaI @OR @OS @OT @OU @OV @OW @OX (aaI @OY @Qq @Om @Oq @Oe @Of @true_and (aaI @and_true @and_self @fV.{0,0} @nu.{0,0} @dh.{0} @ec.{0} @pP.{0} (aaI @ite_true.{1} @ite_false.{1} @Bool.true_eq_false @ne_eq.{1} @not_true_eq_false @not_false_eq_true @false_implies (aaI @true_implies @implies_true.{1} @rU.{0,0} @Option.bind_none.{0,0} @uW.{0} @rW.{0} @Iv.{0} (aaI @dt.{0} @nR.{0} @gm @iq @decide_true @decide_false @Ck.{0} (aaI @List.all_nil.{0} @E3 @iu @Int.toNat_zero @lI @mK @cond_true.{1} (aaI @cond_false.{1} @P3 @P5 @P6 @P4 @Pj @Pl (aaI @Pm @Pk @lQ @lP @ep @O1 @O2 (aaI @O3 @O4 @O5 @O6 @E0 @Nat.mul_one @wz (aaI @OZ @O0 @Fo @A8 @I9 @gY.{0,0} @yW.{0} (aaI @List.drop_succ_cons.{0} @List.take_succ_cons.{0} @nU.{0} @tP.{0} @wD.{0} @beq_self_eq_true.{0} @xJ.{0,0} (aaI @List.flatMap_nil.{0,0} @List.getElem?_nil.{0} @bF.{0} @bK.{0} @mL.{0} @wL @xU (aaI @Fl @Pt @Pu @Pv @Px @Py @I7 (aaI @ints_set @wM @Pz @CF @PA @CG @I8 (aap @A7 @Fm @PD @PE)))))))))))))))))))))
def gN:=aaI @eq_self.{1} @decide_eq_true_eq @decide_eq_false_iff_not @kH @Bool.not_eq_false' @beq_iff_eq.{0} @beq_eq_false_iff_ne.{0} (aaI @bne_iff_ne.{0} @bne_eq_false_iff_eq.{0} @ne_eq.{1} @Decidable.not_not @Int.not_lt @Int.not_le @not_true_eq_false (aaI @not_false_eq_true @kG @aZ @Bool.or_eq_false_iff @Bool.and_eq_false_iff @gt_iff_lt.{0} @ge_iff_le.{0} (aaI @Int.ofNat_lt @Int.ofNat_le @NW @Nat.not_lt @Nat.not_le @wL @xU (N3 @Fl @cond_true.{1} @cond_false.{1}))))
end Go.Am

