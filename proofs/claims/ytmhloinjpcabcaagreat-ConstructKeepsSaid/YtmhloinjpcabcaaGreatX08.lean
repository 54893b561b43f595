import Derived.Test.YtmhloinjpcabcaaGreatX07
set_option linter.unusedVariables false
set_option linter.unusedSimpArgs false
set_option linter.unnecessarySimpa false
set_option linter.unusedSectionVars false
set_option maxHeartbeats 64000000
set_option maxRecDepth 20000
namespace Go.Am
variable {P:Program} {N n0:Nat} {σ:St} {Q:Exit→St→Prop}
def nextQ (P:Program) (ops:Array Oper) (Q:Exit→Act→World→Prop) (js:List Nat):Exit→Act→World→Prop
  | .normal,a,w=>wpOps P ops Q js a w
  | e,a,w=>Q e a w
theorem Oper.wp_monoQ {o:Oper} {a:Act} {w:World} {K:Act→World→Prop} {Q Q':Exit→Act→World→Prop} (hq:∀ e a w,e≠.normal→Q e a w→Q' e a w) (hl:LetsOut Q→LetsOut Q')
    (hh:o.wp P a w K Q):o.wp P a w K Q':=by
  unfold Oper.wp at *
  generalize (execOp a.eval o).run P w=r at *
  cases r with
  | ok n w' =>
    cases n<;>simp only[Oper.upon] at hh⊢<;>
      first
        | exact hh
        | exact Calls.mono hh (fun e w'' he=>by
            cases e with
            | returned v=>exact he
            | panicked c=>exact hq _ _ _ (by simp) he
            | outgrown=>exact hl he)
  | halt x w'=>cases x<;>simp only[Oper.upon] at hh ⊢<;>first|exact hh|exact hq _ _ _ (by simp) hh
theorem wpOps_app {ops:Array Oper} {Q:Exit→Act→World→Prop} {js:List Nat}:∀ (is:List Nat) (a:Act) (w:World),wpOps P ops (nextQ P ops Q js) is a w→wpOps P ops Q (is++js) a w
  | [],a,w,h=>h
  | i::is,a,w,h=>by
    rw[List.cons_append,wpOps_cons]
    rw[wpOps_cons] at h
    have hl:LetsOut (nextQ P ops Q js)→LetsOut Q:=fun h=>h
    unfold wpOp at h ⊢
    cases ho:ops[i]? with
    | none=>simp only[ho] at h ⊢;exact wpOps_app is a w h
    | some o =>
      simp only[ho] at h ⊢
      by_cases hw:Region.wanted o (yielded ops a.tmps)=true
      · rw[if_pos hw] at h ⊢
        rcases h with h | ⟨h1,h2⟩
        · left
          exact Oper.wp_monoQ (fun e a w he hq=>by cases e<;>first|exact absurd rfl he|exact hq) hl (Oper.wp_mono (fun a w=>wpOps_app is a w) h)
        · exact .inr ⟨h1,hl h2⟩
      · rw[if_neg hw] at h ⊢
        exact wpOps_app is _ w h
theorem opsL_soundP {N:Nat} {os:List Ob} {γ0:Cx} {ops:Array Oper} (hd:∀ o∈ops.toList,∀ d,o.dst=some d→d<N) {K:St→Prop} {Q:Exit→Act→World→Prop}
    (hQ:∀ σ' a' w',K σ'→Okay N os γ0 σ' a' w'→Q .normal a' w'):∀ (l:List Oper) (i:Nat) (σ:St) (a:Act) (w:World),(∀ k,k<l.length→ops[i+k]?=l[k]?)→opsL P ops l K σ→Okay N os γ0 σ a w →
      wpOps P ops Q (List.range' i l.length) a w
  | [],i,σ,a,w,_,h,hok=>by simpa [wpOps] using hQ _ _ _ h hok
  | o::r,i,σ,a,w,hl,h,hok=>by
    have hi:ops[i]?=some o:=by simpa using hl 0 (by simp)
    have hr:∀ k,k<r.length→ops[i+1+k]?=r[k]?:=fun k hk=>by
      have:=hl (k+1) (by simpa using hk)
      rw[show i+1+k=i+(k+1) by omega,this];simp
    have hmem:o∈ops.toList:=List.mem_of_getElem? (by simpa using hi)
    rw[List.length_cons,List.range'_succ,wpOps_cons]
    unfold wpOp
    simp only[hi]
    unfold opsL at h
    cases hg:o.guard with
    | none =>
      simp only[hg] at h
      have hw:Region.wanted o (yielded ops a.tmps)=true:=by simp[Region.wanted,hg]
      rw[if_pos hw]
      left
      exact opG_sound h hok (hd o hmem) (fun σ' a' w' hK hok'=>opsL_soundP hd hQ r (i+1) σ' a' w' hr hK hok')
    | some jw =>
      obtain ⟨j,want⟩:=jw
      simp only[hg] at h
      cases hdj:(ops[j]?).bind (·.dst) with
      | none=>simp[hdj] at h
      | some d =>
        simp only[hdj] at h
        split at h
        · rename_i b he
          obtain ⟨hdf,hsz,γ,rfl,ha,hs,hf⟩:=hok
          have hslot:=hs.slots d
          rw[he,ha] at hslot
          have hv:=hslot.lit_inv
          have hy:yielded ops a.tmps j=some b:=by
            unfold yielded
            rw[hdj]
            have:a.tmps[d]?=some (.bool b):=by
              rw[Array.getD_eq_getD_getElem?] at hv
              cases hx:a.tmps[d]? with
              | none=>rw[hx] at hv;simp[Go.undef] at hv
              | some y=>rw[hx] at hv;simp at hv;rw[hv]
            simp[this]
          by_cases hbw:b=want
          · have hw:Region.wanted o (yielded ops a.tmps)=true:=by simp[Region.wanted,hg,hy,hbw]
            rw[if_pos hw]
            left
            exact opG_sound (h.1 hbw) ⟨hdf,hsz,γ,rfl,ha,hs,hf⟩ (hd o hmem) (fun σ' a' w' hK hok'=>opsL_soundP hd hQ r (i+1) σ' a' w' hr hK hok')
          · have hw:Region.wanted o (yielded ops a.tmps)=false:=by simp[Region.wanted,hg,hy,hbw]
            rw[if_neg (by rw[hw];simp)]
            refine opsL_soundP hd hQ r (i+1) _ _ _ hr (h.2 hbw) ⟨by rw[put_defers];exact hdf,by rw[put_size];exact hsz,{ γ with tmps:=(a.put o.dst Go.undef).tmps },rfl,rfl,put_sim hs ha (fun d h=>by rw[hsz];exact hd o hmem d h) (.lit _),?_⟩
            rw[objs_put];exact hf.put _
        · rename_i vs he
          obtain ⟨hdf,hsz,γ,rfl,ha,hs,hf⟩:=hok
          have hslot:=hs.slots d
          rw[he,ha] at hslot
          have hv:=hslot.lit_inv
          have hy:yielded ops a.tmps j=none:=by
            unfold yielded
            rw[hdj]
            rw[Array.getD_eq_getD_getElem?] at hv
            cases hx:a.tmps[d]? with
            | none=>simp[hx]
            | some y=>rw[hx] at hv;simp at hv;subst hv;simp[hx]
          have hw:Region.wanted o (yielded ops a.tmps)=false:=by simp[Region.wanted,hg,hy]
          rw[if_neg (by rw[hw];simp)]
          refine opsL_soundP hd hQ r (i+1) _ _ _ hr h.2 ⟨by rw[put_defers];exact hdf,by rw[put_size];exact hsz,{ γ with tmps:=(a.put o.dst Go.undef).tmps },rfl,rfl,put_sim hs ha (fun d h=>by rw[hsz];exact hd o hmem d h) (.lit _),?_⟩
          rw[objs_put];exact hf.put _
        · exact h.elim
theorem opsL_soundT {os:List Ob} {γ0:Cx} {ops:Array Oper} (hd:∀ o∈ops.toList,∀ d,o.dst=some d→d<N) {K K1:St→Prop} {Q:Exit→Act→World→Prop} (hn:os.length=n0)
    (hQ:∀ σ' a' w',K σ'→Okay N os γ0 σ' a' w'→Q .normal a' w') (n:Nat) (hK:∀ s,K1 s→∃ s1,Turns n0 s s1∧opsL P ops (ops.toList.drop n) K s1) (σ:St) (a:Act) (w:World)
    (h:opsL P ops (ops.toList.take n) K1 σ) (hok:Okay N os γ0 σ a w):wpOps P ops Q (List.range ops.size) a w:=by
  have e:List.range ops.size=List.range' 0 (ops.toList.take n).length++List.range' (ops.toList.take n).length (ops.toList.drop n).length:=by
    rw[List.range_eq_range']
    have:=List.range'_append (s:=0) (m:=(ops.toList.take n).length) (n:=(ops.toList.drop n).length) (step:=1)
    simp only[Nat.zero_add,Nat.one_mul] at this
    rw[this]
    congr 1
    rw[← List.length_append,List.take_append_drop];simp
  rw[e]
  refine wpOps_app _ a w ?_
  refine opsL_soundP hd (K:=K1) (fun σ' a' w' hk hok'=>?_) (ops.toList.take n) 0 σ a w (fun k hk=>?_) h hok
  · obtain ⟨s1,ht,ho⟩:=hK σ' hk
    obtain ⟨h1,h2,γ,rfl,h3,h4,h5⟩:=hok'
    obtain ⟨γ',e1,e2,e3,e4⟩:=ht os γ0 γ hn h4 h5
    refine opsL_soundP hd hQ (ops.toList.drop n) _ s1 a' γ.w (fun k hk=>?_) ho ⟨h1,h2,γ',e1,e2.trans h3,e3,e4⟩
    rw[List.getElem?_drop]
    simp only[List.length_drop,Array.length_toList] at hk
    rw[List.length_take,Array.length_toList,Nat.min_eq_left (by omega)]
    simp
  · simp only[List.length_take,Array.length_toList] at hk
    rw[List.getElem?_take_of_lt (by omega)]
    simp
end Go.Am
namespace Go.Am
variable {σ:St}
def RowsR (R:AV→AV→Prop):List (List AV)→List (List AV)→Prop
  | [],[]=>True
  | c::cs,d::ds=>ArgsR R c d∧RowsR R cs ds
  | _,_=>False
theorem RowsR.spec {R:AV→AV→Prop}:∀ {cs ds:List (List AV)},RowsR R cs ds→cs.length=ds.length∧∀ (r c:Nat) v,cellAt cs r c=some v→cellAt ds r c=some ((cellAt ds r c).getD .undef)∧R v ((cellAt ds r c).getD .undef)
  | [],[],_=>⟨rfl,by simp[cellAt]⟩
  | c::cs,d::ds,h=>by
    obtain ⟨a,b⟩:=RowsR.spec h.2
    refine⟨by simp[a],fun r j v hv=>?_⟩
    cases r with
    | zero =>
      simp only[cellAt,List.getElem?_cons_zero,Option.bind_some] at hv ⊢
      obtain ⟨e1,e2⟩:=h.1.spec
      have hj:j<d.length:=by rw[← e1];exact (List.getElem?_eq_some_iff.1 hv).1
      rw[List.getElem?_eq_getElem hj]
      exact⟨rfl,e2 j v _ hv (List.getElem?_eq_getElem hj)⟩
    | succ r =>
      have:=b r j v (by simpa [cellAt] using hv)
      simpa [cellAt] using this
theorem Frz.mk {kp:Nat→Prop} {id sz len:Nat} {rows rows':List (List AV)} (ho:σ.objs[id]?=some (.arr sz rows)) (hl:len=rows.length) (hsel:¬ kp id) (hw:∀ row∈rows',row.length=sz) (h:RowsR (Frz σ kp) rows' rows):Frz σ kp (.tree sz rows') (.ref id sz 0 len):=by
  obtain ⟨a,b⟩:=h.spec
  subst hl
  refine .ref id sz 0 rows.length rows rows' (fun r c=>(cellAt rows r c).getD .undef) ho hsel (by simp[a]) hw (fun r c v hv=>?_) (fun r c v hv=>?_)
  · simpa using (b r c v hv).1
  · exact (b r c v hv).2
end Go.Am
namespace Go.Am
theorem LKc:type_of% @upd_app∧type_of% @slots_cons∧type_of% @clr_app∧type_of% @List.contains_cons.{0}∧type_of% @List.contains_nil.{0}∧type_of% @Bool.or_self∧type_of% @Bool.or_false∧type_of% @Bool.false_or∧type_of% @Bool.or_true∧type_of% @Bool.true_or∧type_of% @Bool.false_eq_true∧type_of% @if_false.{1}∧type_of% @if_true.{1}∧type_of% @List.getD_cons_zero.{0}∧type_of% @List.getD_cons_succ.{0}∧type_of% @List.getD_nil.{0} :=
  ⟨@upd_app,@slots_cons,@clr_app,@List.contains_cons.{0},@List.contains_nil.{0},@Bool.or_self,@Bool.or_false,@Bool.false_or,@Bool.or_true,@Bool.true_or,@Bool.false_eq_true,@if_false.{1},@if_true.{1},@List.getD_cons_zero.{0},@List.getD_cons_succ.{0},@List.getD_nil.{0}⟩
theorem Bc:type_of% @upd_app∧type_of% @slots_cons∧type_of% @clr_app∧type_of% @List.contains_cons.{0}∧type_of% @List.contains_nil.{0}∧type_of% @Bool.or_self∧type_of% @Bool.or_false∧type_of% @Bool.false_or∧type_of% @Bool.or_true∧type_of% @Bool.true_or∧type_of% @Bool.false_eq_true∧type_of% @if_false.{1}∧type_of% @if_true.{1}∧type_of% @List.getD_cons_zero.{0}∧type_of% @List.getD_cons_succ.{0}∧type_of% @List.getD_nil.{0}∧type_of% @List.size_toArray.{0}∧type_of% @Array.size_empty.{0}∧type_of% @i64min∧type_of% @i64max∧type_of% @eq_self.{1}∧type_of% @opsL_nil∧type_of% @opsL_cons∧type_of% @opG_nilCheck∧type_of% @opG_fieldAddr∧type_of% @opG_indexAddr∧type_of% @opG_call∧type_of% @opG_move∧type_of% @opG_assign∧type_of% @opG_pick∧type_of% @opG_alloc∧type_of% @opG_box∧type_of% @opG_build∧type_of% @opG_buildSlice∧type_of% @opG_load∧type_of% @opG_store∧type_of% @opG_binOp∧type_of% @opG_unOp∧type_of% @opG_makeFunc∧type_of% @opG_makeSlice∧type_of% @opG_slice∧type_of% @opG_field∧type_of% @opG_extract∧type_of% @opG_b_len∧type_of% @opG_b_append∧type_of% @opG_b_min∧type_of% @opG_b_max∧type_of% @opG_b_copy∧type_of% @opG_convert∧type_of% @andK_i64∧type_of% @opGm_call∧type_of% @opGm_no∧type_of% @liveO_var∧type_of% @liveO_arr∧type_of% @true_and∧type_of% @and_true∧type_of% @and_self∧type_of% @List.map_cons.{0,0}∧type_of% @List.map_nil.{0,0}∧type_of% @List.cons_append.{0}∧type_of% @List.nil_append.{0}∧type_of% @List.append_nil.{0}∧type_of% @ite_true.{1}∧type_of% @ite_false.{1}∧type_of% @Bool.true_eq_false∧type_of% @ne_eq.{1}∧type_of% @not_true_eq_false∧type_of% @not_false_eq_true∧type_of% @false_implies∧type_of% @true_implies∧type_of% @implies_true.{1}∧type_of% @Option.bind_some.{0,0}∧type_of% @Option.bind_none.{0,0}∧type_of% @List.getElem?_cons_zero.{0}∧type_of% @List.getElem?_cons_succ.{0}∧type_of% @List.getElem?_toArray.{0}∧type_of% @List.length_cons.{0}∧type_of% @List.length_nil.{0}∧type_of% @Nat.zero_add∧type_of% @Nat.add_zero∧type_of% @decide_true∧type_of% @decide_false∧type_of% @List.all_cons.{0}∧type_of% @List.all_nil.{0}∧type_of% @Bool.and_true∧type_of% @Bool.true_and∧type_of% @Int.toNat_zero∧type_of% @Bool.not_true∧type_of% @Bool.not_false∧type_of% @cond_true.{1}∧type_of% @cond_false.{1}∧type_of% @guardK_tt∧type_of% @guardK_tf∧type_of% @guardK_ft∧type_of% @guardK_ff∧type_of% @guardM_tt∧type_of% @guardM_tf∧type_of% @guardM_ft∧type_of% @guardM_ff∧type_of% @planW_take∧type_of% @planW_nil∧type_of% @Int.toNat_natCast∧type_of% @range1∧type_of% @range2∧type_of% @range3∧type_of% @ints_take∧type_of% @bools_take∧type_of% @intss_take∧type_of% @Nat.zero_mul∧type_of% @Nat.mul_one∧type_of% @Nat.one_mul∧type_of% @renO_var∧type_of% @renO_gone'∧type_of% @ints_ren∧type_of% @bools_ren∧type_of% @intss_ren∧type_of% @Option.map_some.{0,0}∧type_of% @List.drop_zero.{0}∧type_of% @List.drop_succ_cons.{0}∧type_of% @List.take_succ_cons.{0}∧type_of% @List.take_zero.{0}∧type_of% @List.set_cons_zero.{0}∧type_of% @List.set_cons_succ.{0}∧type_of% @beq_self_eq_true.{0}∧type_of% @List.flatMap_cons.{0,0}∧type_of% @List.flatMap_nil.{0,0}∧type_of% @List.getElem?_nil.{0}∧type_of% @List.length_append.{0}∧type_of% @List.length_set.{0}∧type_of% @List.length_replicate.{0}∧type_of% @ints_length∧type_of% @bools_length∧type_of% @intss_length∧type_of% @ints_getD∧type_of% @bools_getD∧type_of% @intss_getD∧type_of% @ints_get∧type_of% @bools_get∧type_of% @intss_get∧type_of% @ints_set∧type_of% @bools_set∧type_of% @ints_app∧type_of% @ints_app1∧type_of% @intss_app1∧type_of% @bools_app1∧type_of% @ints_rep∧type_of% @bools_rep∧type_of% @ints_scal∧type_of% @bools_scal∧type_of% @intss_scal :=
  ⟨@upd_app,@slots_cons,@clr_app,@List.contains_cons.{0},@List.contains_nil.{0},@Bool.or_self,@Bool.or_false,@Bool.false_or,@Bool.or_true,@Bool.true_or,@Bool.false_eq_true,@if_false.{1},@if_true.{1},@List.getD_cons_zero.{0},@List.getD_cons_succ.{0},@List.getD_nil.{0},@List.size_toArray.{0},@Array.size_empty.{0},@i64min,@i64max,@eq_self.{1},@opsL_nil,@opsL_cons,@opG_nilCheck,@opG_fieldAddr,@opG_indexAddr,@opG_call,@opG_move,@opG_assign,@opG_pick,@opG_alloc,@opG_box,@opG_build,@opG_buildSlice,@opG_load,@opG_store,@opG_binOp,@opG_unOp,@opG_makeFunc,@opG_makeSlice,@opG_slice,@opG_field,@opG_extract,@opG_b_len,@opG_b_append,@opG_b_min,@opG_b_max,@opG_b_copy,@opG_convert,@andK_i64,@opGm_call,@opGm_no,@liveO_var,@liveO_arr,@true_and,@and_true,@and_self,@List.map_cons.{0,0},@List.map_nil.{0,0},@List.cons_append.{0},@List.nil_append.{0},@List.append_nil.{0},@ite_true.{1},@ite_false.{1},@Bool.true_eq_false,@ne_eq.{1},@not_true_eq_false,@not_false_eq_true,@false_implies,@true_implies,@implies_true.{1},@Option.bind_some.{0,0},@Option.bind_none.{0,0},@List.getElem?_cons_zero.{0},@List.getElem?_cons_succ.{0},@List.getElem?_toArray.{0},@List.length_cons.{0},@List.length_nil.{0},@Nat.zero_add,@Nat.add_zero,@decide_true,@decide_false,@List.all_cons.{0},@List.all_nil.{0},@Bool.and_true,@Bool.true_and,@Int.toNat_zero,@Bool.not_true,@Bool.not_false,@cond_true.{1},@cond_false.{1},@guardK_tt,@guardK_tf,@guardK_ft,@guardK_ff,@guardM_tt,@guardM_tf,@guardM_ft,@guardM_ff,@planW_take,@planW_nil,@Int.toNat_natCast,@range1,@range2,@range3,@ints_take,@bools_take,@intss_take,@Nat.zero_mul,@Nat.mul_one,@Nat.one_mul,@renO_var,@renO_gone',@ints_ren,@bools_ren,@intss_ren,@Option.map_some.{0,0},@List.drop_zero.{0},@List.drop_succ_cons.{0},@List.take_succ_cons.{0},@List.take_zero.{0},@List.set_cons_zero.{0},@List.set_cons_succ.{0},@beq_self_eq_true.{0},@List.flatMap_cons.{0,0},@List.flatMap_nil.{0,0},@List.getElem?_nil.{0},@List.length_append.{0},@List.length_set.{0},@List.length_replicate.{0},@ints_length,@bools_length,@intss_length,@ints_getD,@bools_getD,@intss_getD,@ints_get,@bools_get,@intss_get,@ints_set,@bools_set,@ints_app,@ints_app1,@intss_app1,@bools_app1,@ints_rep,@bools_rep,@ints_scal,@bools_scal,@intss_scal⟩
theorem DEc:type_of% @eq_self.{1}∧type_of% @decide_eq_true_eq∧type_of% @decide_eq_false_iff_not∧type_of% @Bool.not_eq_true'∧type_of% @Bool.not_eq_false'∧type_of% @beq_iff_eq.{0}∧type_of% @beq_eq_false_iff_ne.{0}∧type_of% @bne_iff_ne.{0}∧type_of% @bne_eq_false_iff_eq.{0}∧type_of% @ne_eq.{1}∧type_of% @Decidable.not_not∧type_of% @Int.not_lt∧type_of% @Int.not_le∧type_of% @not_true_eq_false∧type_of% @not_false_eq_true∧type_of% @Bool.or_eq_true∧type_of% @Bool.and_eq_true∧type_of% @Bool.or_eq_false_iff∧type_of% @Bool.and_eq_false_iff∧type_of% @gt_iff_lt.{0}∧type_of% @ge_iff_le.{0}∧type_of% @Int.ofNat_lt∧type_of% @Int.ofNat_le∧type_of% @Int.ofNat_inj∧type_of% @Nat.not_lt∧type_of% @Nat.not_le∧type_of% @ints_length∧type_of% @bools_length∧type_of% @intss_length∧type_of% @cond_true.{1}∧type_of% @cond_false.{1} :=
  ⟨@eq_self.{1},@decide_eq_true_eq,@decide_eq_false_iff_not,@Bool.not_eq_true',@Bool.not_eq_false',@beq_iff_eq.{0},@beq_eq_false_iff_ne.{0},@bne_iff_ne.{0},@bne_eq_false_iff_eq.{0},@ne_eq.{1},@Decidable.not_not,@Int.not_lt,@Int.not_le,@not_true_eq_false,@not_false_eq_true,@Bool.or_eq_true,@Bool.and_eq_true,@Bool.or_eq_false_iff,@Bool.and_eq_false_iff,@gt_iff_lt.{0},@ge_iff_le.{0},@Int.ofNat_lt,@Int.ofNat_le,@Int.ofNat_inj,@Nat.not_lt,@Nat.not_le,@ints_length,@bools_length,@intss_length,@cond_true.{1},@cond_false.{1}⟩
end Go.Am

