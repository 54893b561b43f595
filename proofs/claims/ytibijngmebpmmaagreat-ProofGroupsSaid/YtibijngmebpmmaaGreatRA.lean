import Derived.Test.YtibijngmebpmmaaGreatSP
import Derived.Test.YtibijngmebpmmaaGreatPB
import Derived.Test.YtibijngmebpmmaaGreatAmJ
import Derived.Test.YtibijngmebpmmaaGreatCB
import Derived.Test.YtibijngmebpmmaaGreatQN
import Derived.Test.YtibijngmebpmmaaGreatP8
set_option linter.unusedVariables false
set_option linter.unusedSimpArgs false
set_option linter.unnecessarySimpa false
open Go Go.Am Go.Proofs
open Nat (reduceEqDiff reduceAdd reduceLeDiff reduceMul)
open Int (reduceNeg reduceLE reduceToNat)
set_option maxRecDepth 20000
namespace T
def oZ:Opt:=⟨0,0,0,0,0,[]⟩
def zR:List AV:=[.lit (.int .i64 0),.lit (.int .i64 0),.lit (.int .i64 0),.lit (.int .i64 0),.lit (.int .i64 0),.lit (.slice none 0 0)]
theorem zR_new:RowN zR (eOpt oZ):=⟨.inl rfl,.inl rfl,.inl rfl,.inl rfl,.inl rfl,.inr ⟨rfl,2,rfl⟩,trivial⟩
theorem Turns.reall {n0:Nat} (id:Nat):∀ (k:Nat) (A:List (List AV)) (σ:St),σ.objs[id]?=some (.arr 6 (A++List.replicate k zR))→Turns n0 σ ⟨σ.env,σ.objs.set id (.arr 6 (A++List.replicate k (eOpt oZ)))⟩
  | 0,A,σ,ho=>by
    have:σ.objs.set id (.arr 6 (A++List.replicate 0 (eOpt oZ)))=σ.objs:=by
      have hid:id<σ.objs.length:=(List.getElem?_eq_some_iff.1 ho).1
      apply List.ext_getElem?
      intro j
      rw[List.getElem?_set]
      by_cases e:id=j
      · subst e;rw[if_pos rfl,if_pos hid,ho];rfl
      · rw[if_neg e]
    rw[this]
    intro os γ0 γ _ hs hf
    exact⟨γ,rfl,rfl,hs,hf⟩
  | k+1,A,σ,ho=>by
    have hid:id<σ.objs.length:=(List.getElem?_eq_some_iff.1 ho).1
    have h1:(A++List.replicate (k+1) zR)[A.length]?=some zR:=by rw[List.getElem?_append_right (Nat.le_refl _),Nat.sub_self];rfl
    refine Turns.trans (Turns.rerow id A.length 6 (cells':=eOpt oZ) ho h1 zR_new) ?_
    have h2:(A++List.replicate (k+1) zR).set A.length (eOpt oZ)=(A++[eOpt oZ])++List.replicate k zR:=by
      rw[List.set_append_right _ _ (Nat.le_refl _),Nat.sub_self,List.replicate_succ,List.set_cons_zero,List.append_assoc];rfl
    rw[h2]
    have h3:=Turns.reall (n0:=n0) id k (A++[eOpt oZ]) ⟨σ.env,σ.objs.set id (.arr 6 ((A++[eOpt oZ])++List.replicate k zR))⟩ (by
      show (σ.objs.set id _)[id]?=_
      rw[List.getElem?_set,if_pos rfl,if_pos hid])
    have h4:(A++[eOpt oZ])++List.replicate k (eOpt oZ)=A++List.replicate (k+1) (eOpt oZ):=by rw[List.replicate_succ,List.append_assoc];rfl
    rw[h4] at h3
    simp only[List.set_set] at h3
    exact h3
theorem zrows (q:Nat):List.replicate q (eOpt oZ)=rowsOf eOpt (List.replicate q oZ):=by simp[rowsOf]
theorem Turns.zopt {n0:Nat} {σ:St} (id k:Nat) (ho:σ.objs[id]?=some (.arr 6 (List.replicate k zR))):Turns n0 σ ⟨σ.env,σ.objs.set id (.arr 6 (rowsOf eOpt (List.replicate k oZ)))⟩:=by
  rw[← zrows]
  exact Turns.reall id k [] σ ho
theorem diag_ix {q:Nat} (hq:q≤3):q * q≤9∧∀ o,o<q→o * q+o<q * q:=by
  have:q=0∨q=1∨q=2∨q=3:=by omega
  rcases this with rfl | rfl | rfl | rfl<;>exact⟨by omega,fun o ho=>by omega⟩
def hO (L:List Int) (k:Nat) (cls:List (List Opt)) (prs:List Pr) (g:List Int) (cells:List (List (Int × Int))):List Ob :=
  [.var [.tree 1 (ints L),.lit (.int .i64 k)],.var [.ref 2 1 0 cls.length,.ref 3 4 0 prs.length,.lit (.slice none 0 0),.lit (.int .i64 1)],.arr 1 (rowsOf eCls cls),.arr 4 (rowsOf ePr prs),
    .var [.lit (.int .i64 (-1)),.lit (.slice none 0 0),.lit (.slice none 0 0),.ref 5 1 0 g.length,.ref 6 1 0 cells.length],.arr 1 (ints g),.arr 1 (rowsOf eCell cells)]
def gO (L:List Int) (k:Nat) (cls:List (List Opt)) (prs:List Pr):List Ob :=
  [.var [.tree 1 (ints L),.lit (.int .i64 k)],.var [.ref 2 1 0 cls.length,.ref 3 4 0 prs.length,.lit (.slice none 0 0),.lit (.int .i64 1)],.arr 1 (rowsOf eCls cls),.arr 4 (rowsOf ePr prs)]
theorem frz_enc {α:Type} {enc:α→List AV} {w:Nat} [Row enc w] {σ:St} {kp:Nat→Prop} {id n:Nat} {xs:List α} (ho:σ.objs[id]?=some (.arr w (rowsOf enc xs))) (hn:n=xs.length) (hk:¬ kp id):Frz σ kp (.tree w (rowsOf enc xs)) (.ref id w 0 n) :=
  Frz.mk ho (by rw[hn,rows_length]) hk (rows_wid _) (RowsR.of_get (f:=fun _=>[]) (g:=fun _=>[]) rfl fun j c d hc hd=>by rw[hc] at hd;cases hd;exact frz_row (fun v hv=>rows_frz _ _ (List.mem_of_getElem? hc) v hv) rfl)
theorem frz_intsE {σ:St} {kp:Nat→Prop} {id n:Nat} {xs:List Int} (ho:σ.objs[id]?=some (.arr 1 (ints xs))) (hn:n=xs.length) (hk:¬ kp id):Frz σ kp (.tree 1 (ints xs)) (.ref id 1 0 n) :=
  Frz.mk ho (by rw[hn];simp[ints]) hk (ints_wid _) (RowsR.of_get (f:=fun _=>[]) (g:=fun _=>[]) rfl fun j c d hc hd=>by rw[hc] at hd;cases hd;exact frz_row (fun v hv=>ints_frz _ _ (List.mem_of_getElem? hc) v hv) rfl)
set_option maxHeartbeats 16000000 in
theorem groups_ok (hw:Holds Tryz.prog 6 [] [] (.lit (.bool true)) []) (hx:∀ m P k,MB m→PB P→Holds Tryz.prog 13 [.agg (eMdl m),.agg (ePf P),.lit (.int .i64 k)] [] (.lit (.bool true)) []) (tape:List Int):Holds Tryz.prog 4 [.tree 1 (ints tape)] [] (.lit (.bool true)) []:=by
  refine Holds.of_body' (fn:=Tryz.f4) 155 0 [.tmp 2] Tryz.func4 rfl rfl rfl rfl rfl (by simp) ?_
  repeat' (first|(((fail_if_success (first|refine W_at 3 ?_|refine W_atE 3 ?_));(refine rr ?_);intro K hK);simp (disch:=omega) only[Ac,↓Pc,simprocAttr])|(refine callK_pure (light_ok _) rfl rfl ?_)|(refine callK_pure (hw) rfl rfl ?_)|(refine hK _ ?_;clear hK K)|(refine Wc (fun ht=>?_) (fun ht=>?_)<;>(try simp only[DEc,simprocAttr] at ht))|refine Wz rfl ?_|(refine Wk ?_;intro Q hn he)|((first|refine hn _ ?_|refine he _ _ rfl ?_);clear hn he;try clear Q)|(simp only[Qc,Kc,simprocAttr]))
  · exact RetOK_pure' rfl rfl
  have hL:tape.length<1000000:=by omega
  repeat' (((refine rre ?_);intro K hK);simp (disch:=omega) only[Ac,↓Pc,simprocAttr])
  (refine callK_sel [] (roll_ok tape) (by decide) (by (repeat' (exact trivial))<;>first|rfl|(rw[ints_ren];rfl)|(rw[bools_ren];rfl)|(rw[rows_ren];rfl)|(rw[intss_ren];rfl)) (by (repeat' (first|exact trivial|refine And.intro ?_ ?_))<;>(exact .pure rfl)) ?_;simp (disch:=omega) only[Ac,↓Pc,simprocAttr])
  refine hK _ ?_;clear hK K
  repeat ((refine hn _ ?_);clear hn he;try clear Q)
  refine W_turn (σ':=⟨slots [(3,.ptr 0 0 0)],[dice tape 0]⟩) (by unfold dice;(refine Turns.slots _ _ rfl ?_;simp only[Tc,↓reduceIte,reduceEqDiff,Nat.reduceBEq,reduceAdd];try trivial)) ?_
  unfold dice
  repeat' (((refine rr ?_);intro K hK);simp (disch:=omega) only[Ac,↓Pc,simprocAttr])
  refine callK_sel [0] (next_ok tape 0 3 (by unfold In64;omega) (Nat.zero_le _) hL) (by decide) ⟨rfl,trivial⟩ ⟨.eq rfl,.pure rfl,trivial⟩ ?_
  have hv:=nextV_range (L:=tape) (k:=0) (n:=3) (by omega)
  have hk2:=nextA_le (L:=tape) (k:=0) (Nat.zero_le _)
  generalize nextV tape 0 3=v at *
  generalize nextA tape 0=k at *
  simp (disch:=omega) only[Ac,↓Pc,simprocAttr]
  refine⟨by omega,?_⟩
  refine callK_sel [0] (next_ok tape k 3 (by unfold In64;omega) hk2 hL) (by decide) ⟨rfl,trivial⟩ ⟨.eq rfl,.pure rfl,trivial⟩ ?_
  have hw:=nextV_range (L:=tape) (k:=k) (n:=3) (by omega)
  have hk3:=nextA_le hk2
  generalize nextV tape k 3=w at *
  generalize nextA tape k=k2 at *
  clear hk2
  obtain ⟨n,hn1⟩ :∃n:Nat,2+v=n:=⟨(2+v).toNat,by omega⟩
  obtain ⟨q,hq1⟩ :∃q:Nat,1+w=q:=⟨(1+w).toNat,by omega⟩
  have hn4:n≤4:=by omega
  have hq3:q≤3∧1≤q:=by omega
  simp (disch:=omega) only[Ac,↓Pc,simprocAttr,hn1,hq1]
  refine⟨by omega,?_⟩
  repeat' (first|(((refine rr ?_);intro K hK);simp (disch:=omega) only[Ac,↓Pc,simprocAttr,hn1,hq1])|(refine hK _ ?_;clear hK K)|(refine Wb ?_;intro Qb hnb hxb heb)|(refine Wk ?_;intro Q hn he))
  refine W_loopS (fun z:Nat × List (List Opt)=>(⟨slots [(3,.ptr 0 0 0),(4,.lit (.int .i64 n)),(5,.lit (.int .i64 q)),(6,.ptr 1 0 0),(7,.lit (.int .i64 z.1))],gO tape k2 z.2 []⟩:St))
    (fun z=>z.1≤n∧z.2.length=z.1∧∀ l∈z.2,l=List.replicate q oZ) (fun z=>n - z.1) (0,[]) ⟨Nat.zero_le _,rfl,by simp⟩ ?_ ?_
  · refine Turns.trans (Turns.nilC 1 0 1 rfl rfl (by decide)) ?_
    refine Turns.trans (Turns.nilC 1 1 4 rfl rfl (by decide)) ?_
    unfold gO
    (refine Turns.slots _ _ rfl ?_;simp only[Tc,↓reduceIte,reduceEqDiff,Nat.reduceBEq,reduceAdd];try trivial)
  rintro ⟨i,cls⟩ ⟨hi,hcl,hcls⟩ Ql hnl hel
  dsimp only at hi hcl hcls ⊢
  unfold gO
  by_cases hi':i<n
  · have hcc:(rowsOf eCls cls++[[AV.ref 4 6 0 q]])[cls.length]?=some [AV.ref 4 6 0 q]:=by rw[List.getElem?_append_right (by rw[rows_length];omega),rows_length,Nat.sub_self];rfl
    have hset:(rowsOf eCls cls++[[AV.ref 4 6 0 q]]).set cls.length [AV.tree 6 (rowsOf eOpt (List.replicate q oZ))]=rowsOf eCls (cls++[List.replicate q oZ]):=by
      rw[List.set_append_right _ _ (by rw[rows_length];omega),rows_length,Nat.sub_self,List.set_cons_zero]
      exact rows_app1 (enc:=eCls) cls (List.replicate q oZ)
    repeat' (first|(((first|refine rr ?_|refine rre ?_);intro K hK);simp (disch:=omega) only[Ac,↓Pc,simprocAttr])|(refine hK _ ?_;clear hK K)|(refine Wc (fun ht=>?_) (fun ht=>?_)<;>(try simp only[DEc,simprocAttr] at ht))|refine Wz rfl ?_|(refine Wb ?_;intro Qb hnb hxb heb)|(refine Wk ?_;intro Q hn he)|((first|refine hn _ ?_|refine he _ _ rfl ?_);clear hn he;try clear Q)|((refine hnb _ ?_);clear hnb hxb heb;try clear Qb)|with_reducible refine And.intro ?_ ?_|omega)
    refine hnl _ (i+1,cls++[List.replicate q oZ]) ⟨by dsimp only;omega,by simp;omega,fun l hl=>?_⟩ (by dsimp only;omega) ?_
    · rcases List.mem_append.1 hl with h | h
      · exact hcls l h
      · rw[List.mem_singleton] at h;exact h
    · refine Turns.trans (Turns.zopt 4 q rfl) ?_
      refine Turns.trans (Turns.frzR 4 6 cls.length 0 6 1 (rows:=rowsOf eOpt (List.replicate q oZ)) rfl hcc rfl (by rw[rows_length,List.length_replicate];rfl) (by decide) (rows_wid _) (rows_frz _)) ?_
      unfold gO
      simp only[List.set_cons_zero,List.set_cons_succ,hset]
      (refine Turns.se [0,1,6,3] false (by simp only[Oc,simprocAttr]) ?_;simp only[Hr,↓reduceIte,reduceEqDiff,Nat.reduceBEq,reduceAdd];try (and_intros<;>first|exact .pure rfl|exact .eq rfl|exact .fz rfl (by simp only[Bc,Rc])))
  obtain rfl:n=i:=by omega
  repeat' (first|(((first|refine rr ?_|refine rre ?_);intro K hK);simp (disch:=omega) only[Ac,↓Pc,simprocAttr])|(refine hK _ ?_;clear hK K)|(refine Wc (fun ht=>?_) (fun ht=>?_)<;>(try simp only[DEc,simprocAttr] at ht))|refine Wz rfl ?_|(refine Wb ?_;intro Qb hnb hxb heb)|(refine Wk ?_;intro Q hn he)|((first|refine hn _ ?_|refine he _ _ rfl ?_);clear hn he;try clear Q)|((refine hnb _ ?_);clear hnb hxb heb;try clear Qb)|with_reducible refine And.intro ?_ ?_|omega)
  refine hel _ _ rfl ?_;clear hnl hel Ql
  repeat (first|((refine hn _ ?_);clear hn he;try clear Q)|((refine hxb _ ?_);clear hnb hxb heb;try clear Qb))
  clear hi' hi
  repeat' (first|(((refine rr ?_);intro K hK);simp (disch:=omega) only[Ac,↓Pc,simprocAttr])|(refine hK _ ?_;clear hK K)|(refine Wb ?_;intro Qb hnb hxb heb)|(refine Wk ?_;intro Q hn he))
  obtain ⟨hw9,hdg⟩:=diag_ix hq3.1
  have hw1:=hdg 0 hq3.2
  have hqq:(q:Int) * q=((q * q:Nat):Int):=by simp
  generalize hww:q * q=w2 at *
  refine W_loopS (fun z:Nat × Nat × List Pr=>(⟨slots [(3,.ptr 0 0 0),(4,.lit (.int .i64 n)),(5,.lit (.int .i64 q)),(6,.ptr 1 0 0),(8,.lit (.int .i64 z.1))],gO tape z.2.1 cls z.2.2⟩:St))
    (fun z=>z.1≤n∧z.2.1≤tape.length∧z.2.2.length≤4 * z.1∧∀ p∈z.2.2,p.tab.length≤9) (fun z=>n - z.1) (0,k2,[]) ⟨Nat.zero_le _,hk3,by simp,by simp⟩ (by unfold gO;(refine Turns.slots _ _ rfl ?_;simp only[Tc,↓reduceIte,reduceEqDiff,Nat.reduceBEq,reduceAdd];try trivial)) ?_
  clear hk3
  clear k2
  rintro ⟨i,k,prs⟩ ⟨hi,hk,hpl,hps⟩ Ql hnl hel
  dsimp only at hi hk hpl hps ⊢
  unfold gO
  by_cases hi':i<n
  · repeat' (first|(((refine rr ?_);intro K hK);simp (disch:=omega) only[Ac,↓Pc,simprocAttr])|(refine hK _ ?_;clear hK K)|(refine Wc (fun ht=>?_) (fun ht=>?_)<;>(try simp only[DEc,simprocAttr] at ht))|refine Wz rfl ?_|(refine Wb ?_;intro Qb hnb hxb heb)|(refine Wk ?_;intro Q hn he)|((first|refine hn _ ?_|refine he _ _ rfl ?_);clear hn he;try clear Q)|with_reducible refine And.intro ?_ ?_|omega)
    refine W_loopS (fun z:Nat × Nat × List Pr=>(⟨slots [(3,.ptr 0 0 0),(4,.lit (.int .i64 n)),(5,.lit (.int .i64 q)),(6,.ptr 1 0 0),(8,.lit (.int .i64 i)),(9,.lit (.int .i64 z.1))],gO tape z.2.1 cls z.2.2⟩:St))
      (fun z=>(i<z.1∧z.1≤n)∧z.2.1≤tape.length∧z.2.2.length≤4 * i+z.1∧∀ p∈z.2.2,p.tab.length≤9) (fun z=>n - z.1) (i+1,k,prs) ⟨⟨by dsimp only;omega,by dsimp only;omega⟩,hk,by dsimp only;omega,hps⟩ (by unfold gO;(refine Turns.slots _ _ rfl ?_;simp only[Tc,↓reduceIte,reduceEqDiff,Nat.reduceBEq,reduceAdd];try trivial)) ?_
    clear hk hpl hps
    rintro ⟨j,k,prs⟩ ⟨⟨hij,hj⟩,hk,hpl,hps⟩ Ql2 hnl2 hel2
    dsimp only at hij hj hk hpl hps ⊢
    unfold gO
    by_cases hj':j<n
    · repeat' (first|(((refine rr ?_);intro K hK);simp (disch:=omega) only[Ac,↓Pc,simprocAttr,hqq])|(refine hK _ ?_;clear hK K)|(refine Wc (fun ht=>?_) (fun ht=>?_)<;>(try simp only[DEc,simprocAttr] at ht))|refine Wz rfl ?_|(refine Wb ?_;intro Qb hnb hxb heb)|(refine Wk ?_;intro Q hn he)|((first|refine hn _ ?_|refine he _ _ rfl ?_);clear hn he;try clear Q)|with_reducible refine And.intro ?_ ?_|omega)
      refine W_loopS (fun z:Nat × List Int=>(⟨slots [(3,.ptr 0 0 0),(4,.lit (.int .i64 n)),(5,.lit (.int .i64 q)),(6,.ptr 1 0 0),(8,.lit (.int .i64 i)),(9,.lit (.int .i64 j)),(10,.ptr 5 0 0),(11,.lit (.int .i64 z.1))],gO tape k cls prs++[.arr 1 (ints z.2),.var [.lit (.int .i64 i),.lit (.int .i64 j),.lit (.int .i64 0),.ref 4 1 0 w2]]⟩:St))
        (fun z=>z.1≤q∧z.2.length=w2) (fun z=>q - z.1) (0,List.replicate w2 0) ⟨Nat.zero_le _,by simp⟩ (by unfold gO;(refine Turns.slots _ _ rfl ?_;simp only[Tc,↓reduceIte,reduceEqDiff,Nat.reduceBEq,reduceAdd];try trivial)) ?_
      rintro ⟨o,tab⟩ ⟨ho,htl⟩ Ql3 hnl3 hel3
      dsimp only at ho htl ⊢
      unfold gO
      simp only[List.cons_append,List.nil_append]
      by_cases ho':o<q
      · have hd:=hdg o ho'
        have ho2:(o:Int) * q=((o * q:Nat):Int):=by simp
        generalize o * q=y at *
        repeat' (first|(((first|refine rr ?_|refine rre ?_);intro K hK);simp (disch:=omega) only[Ac,↓Pc,simprocAttr,ho2,htl])|(refine hK _ ?_;clear hK K)|(refine Wc (fun ht=>?_) (fun ht=>?_)<;>(try simp only[DEc,simprocAttr] at ht))|refine Wz rfl ?_|(refine Wb ?_;intro Qb hnb hxb heb)|(refine Wk ?_;intro Q hn he)|((first|refine hn _ ?_|refine he _ _ rfl ?_);clear hn he;try clear Q)|((refine hnb _ ?_);clear hnb hxb heb;try clear Qb)|with_reducible refine And.intro ?_ ?_|omega)
        exact hnl3 _ (o+1,tab.set (↑y+↑o:Int).toNat 1099511627776) ⟨by dsimp only;omega,by dsimp only;rw[List.length_set];exact htl⟩ (by dsimp only;omega) (by unfold gO;(refine Turns.slots _ _ rfl ?_;simp only[Tc,↓reduceIte,reduceEqDiff,Nat.reduceBEq,reduceAdd];try trivial))
      obtain rfl:q=o:=by omega
      repeat' (first|(((first|refine rr ?_|refine rre ?_);intro K hK);simp (disch:=omega) only[Ac,↓Pc,simprocAttr])|(refine hK _ ?_;clear hK K)|(refine Wc (fun ht=>?_) (fun ht=>?_)<;>(try simp only[DEc,simprocAttr] at ht))|refine Wz rfl ?_|(refine Wb ?_;intro Qb hnb hxb heb)|(refine Wk ?_;intro Q hn he)|((first|refine hn _ ?_|refine he _ _ rfl ?_);clear hn he;try clear Q)|((refine hnb _ ?_);clear hnb hxb heb;try clear Qb)|with_reducible refine And.intro ?_ ?_|omega)
      refine hel3 _ _ rfl ?_
      clear hnl3 hel3 Ql3
      repeat (first|((refine hn _ ?_);clear hn he;try clear Q)|((refine hxb _ ?_);clear hnb hxb heb;try clear Qb))
      clear hdg ho'
      repeat' (first|(((refine rr ?_);intro K hK);simp (disch:=omega) only[Ac,↓Pc,simprocAttr])|(refine Wk ?_;intro Q hn he))
      refine callK_sel [0] (one_ok tape k 9 (by unfold In64;omega) (by decide) hk hL) (by decide) ⟨rfl,trivial⟩ ⟨.eq rfl,.pure rfl,trivial⟩ ?_
      have hk2:=nextA_le hk
      generalize oneV tape k 9=b at *
      generalize nextA tape k=k2 at *
      clear hk
      repeat' (first|(refine hK _ ?_;clear hK K)|(refine Wc (fun ht=>?_) (fun ht=>?_))|refine Wz rfl ?_|((refine hn _ ?_);clear hn he;try clear Q)|(simp only[Qc,Kc,simprocAttr]))
      · refine W_draw [] (.take 2 (.take 3 (.take 4 (.take 5 (.both 0 (.both 1 (.take 6 (.take 7 (.take 8 .nil))) 6 (.take 1 (.take 7 (.take 8 .nil)))) 6 (.take 0 (.take 1 (.take 7 (.take 8 .nil))))))))) rfl (by decide) (by decide +kernel) ?_
        simp (disch:=omega) only[Ac,↓Pc,simprocAttr,planW_three,planW_both,planW_take,planW_nil,stepAt,stepD,hqq]
        repeat' (first|with_reducible refine And.intro ?_ ?_|omega)
        all_goals
          refine callK_sel [0] (next_ok tape k2 w2 (by unfold In64;omega) hk2 hL) (by decide) ⟨rfl,trivial⟩ ⟨.eq rfl,.pure rfl,trivial⟩ ?_
          have hx:=nextV_range (L:=tape) (k:=k2) (n:=w2) (by omega)
          have hk3:=nextA_le hk2
          generalize nextV tape k2 w2=x at *
          generalize nextA tape k2=k3 at *
          clear hk2
          simp (disch:=omega) only[Ac,↓Pc,simprocAttr,planW_three,planW_both,planW_take,planW_nil,stepAt,stepD,hqq,htl]
          repeat' (first|with_reducible refine And.intro ?_ ?_|omega)
          repeat ((refine hn _ ?_);clear hn he;try clear Q)
          have htl2:(tab.set x.toNat 1).length=w2:=by rw[List.length_set];exact htl
          refine W_turn (σ':=⟨slots [(3,.ptr 0 0 0),(4,.lit (.int .i64 n)),(5,.lit (.int .i64 q)),(6,.ptr 1 0 0),(8,.lit (.int .i64 i)),(9,.lit (.int .i64 j)),(10,.ptr 5 0 0)],gO tape k3 cls prs++[.arr 1 (ints (tab.set x.toNat 1)),.var [.lit (.int .i64 i),.lit (.int .i64 j),.lit (.int .i64 0),.ref 4 1 0 w2]]⟩) (by unfold gO;(refine Turns.slots _ _ rfl ?_;simp only[Tc,↓reduceIte,reduceEqDiff,Nat.reduceBEq,reduceAdd];try trivial)) ?_
          generalize tab.set x.toNat 1=tab2 at *
          simp only[gO,List.cons_append,List.nil_append]
          refine W_turn (Turns.frzV 4 5 3 1 rfl rfl (by rw[ints_length,htl2];rfl) (ints_wid _) (ints_frz _)) ?_
          repeat' (first|(((refine rre ?_);intro K hK);simp (disch:=omega) only[Ac,↓Pc,simprocAttr])|(refine hK _ ?_;clear hK K)|((refine hn _ ?_);clear hn he;try clear Q)|((refine hnb _ ?_);clear hnb hxb heb;try clear Qb)|with_reducible refine And.intro ?_ ?_|omega)
          refine hnl2 _ (j+1,k3,prs++[⟨i,j,0,tab2⟩]) ⟨⟨by dsimp only;omega,by dsimp only;omega⟩,by assumption,by simp;omega,fun p hp=>?_⟩ (by dsimp only;omega) ?_
          · rcases List.mem_append.1 hp with h | h
            · exact hps p h
            · rw[List.mem_singleton] at h;subst h;dsimp only;omega
          · unfold gO
            rw[show rowsOf ePr prs++[[AV.lit (.int .i64 i),AV.lit (.int .i64 j),AV.lit (.int .i64 0),AV.tree 1 (ints tab2)]]=rowsOf ePr (prs++[⟨i,j,0,tab2⟩]) from rows_app1 (enc:=ePr) prs ⟨i,j,0,tab2⟩]
            (refine Turns.se [0,1,2,7] false (by simp only[Oc,simprocAttr]) ?_;simp only[Hr,↓reduceIte,reduceEqDiff,Nat.reduceBEq,reduceAdd];try (and_intros<;>first|exact .pure rfl|exact .eq rfl|exact .fz rfl (by simp only[Bc,Rc])))
      · refine W_turn (σ':=⟨slots [(3,.ptr 0 0 0),(4,.lit (.int .i64 n)),(5,.lit (.int .i64 q)),(6,.ptr 1 0 0),(8,.lit (.int .i64 i)),(9,.lit (.int .i64 j)),(10,.ptr 5 0 0)],gO tape k2 cls prs++[.arr 1 (ints tab),.var [.lit (.int .i64 i),.lit (.int .i64 j),.lit (.int .i64 0),.ref 4 1 0 w2]]⟩) (by unfold gO;(refine Turns.slots _ _ rfl ?_;simp only[Tc,↓reduceIte,reduceEqDiff,Nat.reduceBEq,reduceAdd];try trivial)) ?_
        simp only[gO,List.cons_append,List.nil_append]
        refine W_turn (Turns.frzV 4 5 3 1 rfl rfl (by rw[ints_length,htl];rfl) (ints_wid _) (ints_frz _)) ?_
        repeat' (first|(((refine rre ?_);intro K hK);simp (disch:=omega) only[Ac,↓Pc,simprocAttr])|(refine hK _ ?_;clear hK K)|((refine hn _ ?_);clear hn he;try clear Q)|((refine hnb _ ?_);clear hnb hxb heb;try clear Qb)|with_reducible refine And.intro ?_ ?_|omega)
        refine hnl2 _ (j+1,k2,prs++[⟨i,j,0,tab⟩]) ⟨⟨by dsimp only;omega,by dsimp only;omega⟩,by assumption,by simp;omega,fun p hp=>?_⟩ (by dsimp only;omega) ?_
        · rcases List.mem_append.1 hp with h | h
          · exact hps p h
          · rw[List.mem_singleton] at h;subst h;dsimp only;omega
        · unfold gO
          rw[show rowsOf ePr prs++[[AV.lit (.int .i64 i),AV.lit (.int .i64 j),AV.lit (.int .i64 0),AV.tree 1 (ints tab)]]=rowsOf ePr (prs++[⟨i,j,0,tab⟩]) from rows_app1 (enc:=ePr) prs ⟨i,j,0,tab⟩]
          (refine Turns.se [0,1,2,7] false (by simp only[Oc,simprocAttr]) ?_;simp only[Hr,↓reduceIte,reduceEqDiff,Nat.reduceBEq,reduceAdd];try (and_intros<;>first|exact .pure rfl|exact .eq rfl|exact .fz rfl (by simp only[Bc,Rc])))
    · obtain rfl:n=j:=by omega
      repeat' (first|(((refine rr ?_);intro K hK);simp (disch:=omega) only[Ac,↓Pc,simprocAttr])|(refine hK _ ?_;clear hK K)|(refine Wc (fun ht=>?_) (fun ht=>?_)<;>(try simp only[DEc,simprocAttr] at ht))|refine Wz rfl ?_|(refine Wb ?_;intro Qb hnb hxb heb)|(refine Wk ?_;intro Q hn he)|((first|refine hn _ ?_|refine he _ _ rfl ?_);clear hn he;try clear Q)|with_reducible refine And.intro ?_ ?_|omega)
      refine hel2 _ _ rfl ?_
      clear hnl2 hel2 Ql2
      repeat (first|((refine hn _ ?_);clear hn he;try clear Q)|((first|refine hnb _ ?_|refine hxb _ ?_);clear hnb hxb heb;try clear Qb))
      repeat' (first|(((refine rre ?_);intro K hK);simp (disch:=omega) only[Ac,↓Pc,simprocAttr])|(refine hK _ ?_;clear hK K)|with_reducible refine And.intro ?_ ?_|omega)
      exact hnl _ (i+1,k,prs) ⟨by dsimp only;omega,hk,by dsimp only;omega,hps⟩ (by dsimp only;omega) (by unfold gO;(refine Turns.slots _ _ rfl ?_;simp only[Tc,↓reduceIte,reduceEqDiff,Nat.reduceBEq,reduceAdd];try trivial))
  obtain rfl:n=i:=by omega
  repeat' (first|(((refine rr ?_);intro K hK);simp (disch:=omega) only[Ac,↓Pc,simprocAttr])|(refine hK _ ?_;clear hK K)|(refine Wc (fun ht=>?_) (fun ht=>?_)<;>(try simp only[DEc,simprocAttr] at ht))|refine Wz rfl ?_|(refine Wb ?_;intro Qb hnb hxb heb)|(refine Wk ?_;intro Q hn he)|((first|refine hn _ ?_|refine he _ _ rfl ?_);clear hn he;try clear Q)|with_reducible refine And.intro ?_ ?_|omega)
  refine hel _ _ rfl ?_;clear hnl hel Ql
  repeat (first|((refine hn _ ?_);clear hn he;try clear Q)|((refine hxb _ ?_);clear hnb hxb heb;try clear Qb))
  have hpn:prs.length≤16:=by omega
  clear hi hi' hpl
  repeat' (first|(((refine rr ?_);intro K hK);simp (disch:=omega) only[Ac,↓Pc,simprocAttr])|(refine hK _ ?_;clear hK K)|(refine Wb ?_;intro Qb hnb hxb heb)|(refine Wk ?_;intro Q hn he))
  refine W_loopS (fun z:Nat × Nat × List Int=>(⟨slots [(3,.ptr 0 0 0),(4,.lit (.int .i64 n)),(5,.lit (.int .i64 q)),(6,.ptr 1 0 0),(12,.ptr 4 0 0),(13,.lit (.int .i64 z.1))],hO tape z.2.1 cls prs z.2.2 []⟩:St))
    (fun z=>z.1≤n∧z.2.1≤tape.length∧z.2.2.length≤z.1) (fun z=>n - z.1) (0,k,[]) ⟨Nat.zero_le _,hk,Nat.le_refl _⟩ ?_ ?_
  · refine Turns.trans (Turns.nilC 4 3 1 rfl rfl (by decide)) ?_
    refine Turns.trans (Turns.nilC 4 4 1 rfl rfl (by decide)) ?_
    unfold hO
    (refine Turns.slots _ _ rfl ?_;simp only[Tc,↓reduceIte,reduceEqDiff,Nat.reduceBEq,reduceAdd];try trivial)
  clear hk
  rintro ⟨i,k,g⟩ ⟨hi,hk,hgl⟩ Ql hnl hel
  dsimp only at hi hk hgl ⊢
  unfold hO
  by_cases hi':i<n
  · repeat' (first|(((refine rr ?_);intro K hK);simp (disch:=omega) only[Ac,↓Pc,simprocAttr])|(refine hK _ ?_;clear hK K)|(refine Wc (fun ht=>?_) (fun ht=>?_)<;>(try simp only[DEc,simprocAttr] at ht))|refine Wz rfl ?_|(refine Wb ?_;intro Qb hnb hxb heb)|(refine Wk ?_;intro Q hn he)|((first|refine hn _ ?_|refine he _ _ rfl ?_);clear hn he;try clear Q)|omega)
    refine callK_sel [0] (one_ok tape k 5 (by unfold In64;omega) (by decide) hk hL) (by decide) ⟨rfl,trivial⟩ ⟨.eq rfl,.pure rfl,trivial⟩ ?_
    have hk2:=nextA_le hk
    generalize oneV tape k 5=b at *
    generalize nextA tape k=k2 at *
    clear hk
    repeat' (first|(((refine rre ?_);intro K hK);simp (disch:=omega) only[Ac,↓Pc,simprocAttr,ints_app1])|(refine hK _ ?_;clear hK K)|(refine Wc (fun ht=>?_) (fun ht=>?_)<;>(try simp only[DEc,simprocAttr] at ht))|refine Wz rfl ?_|((refine hn _ ?_);clear hn he;try clear Q)|((refine hnb _ ?_);clear hnb hxb heb;try clear Qb)|with_reducible refine And.intro ?_ ?_|omega)
    · exact hnl _ (i+1,k2,g++[(i:Int)]) ⟨by dsimp only;omega,hk2,by simp;omega⟩ (by dsimp only;omega) (by unfold hO;(refine Turns.se [0,1,2,3,4,8,6] false (by simp only[Oc,simprocAttr]) ?_;simp only[Hr,↓reduceIte,reduceEqDiff,Nat.reduceBEq,reduceAdd];try (and_intros<;>first|exact .pure rfl|exact .eq rfl|exact .fz rfl (by simp only[Bc,Rc]))))
    · exact hnl _ (i+1,k2,g) ⟨by dsimp only;omega,hk2,by dsimp only;omega⟩ (by dsimp only;omega) (by unfold hO;(refine Turns.slots _ _ rfl ?_;simp only[Tc,↓reduceIte,reduceEqDiff,Nat.reduceBEq,reduceAdd];try trivial))
  obtain rfl:n=i:=by omega
  repeat' (first|(((refine rr ?_);intro K hK);simp (disch:=omega) only[Ac,↓Pc,simprocAttr])|(refine hK _ ?_;clear hK K)|(refine Wc (fun ht=>?_) (fun ht=>?_)<;>(try simp only[DEc,simprocAttr] at ht))|refine Wz rfl ?_|(refine Wb ?_;intro Qb hnb hxb heb)|(refine Wk ?_;intro Q hn he)|((first|refine hn _ ?_|refine he _ _ rfl ?_);clear hn he;try clear Q)|omega)
  refine hel _ _ rfl ?_;clear hnl hel Ql
  repeat (first|((refine hn _ ?_);clear hn he;try clear Q)|((refine hxb _ ?_);clear hnb hxb heb;try clear Qb))
  clear hi' hi
  repeat' (first|(((refine rr ?_);intro K hK);simp (disch:=omega) only[Ac,↓Pc,simprocAttr])|(refine hK _ ?_;clear hK K)|(refine Wb ?_;intro Qb hnb hxb heb)|(refine Wk ?_;intro Q hn he))
  refine W_loopS (fun z:Nat × Nat × List (List (Int × Int))=>(⟨slots [(3,.ptr 0 0 0),(4,.lit (.int .i64 n)),(5,.lit (.int .i64 q)),(6,.ptr 1 0 0),(12,.ptr 4 0 0),(14,.lit (.int .i64 z.1))],hO tape z.2.1 cls prs g z.2.2⟩:St))
    (fun z=>z.1≤q∧z.2.1≤tape.length∧z.2.2.length=z.1∧∀ l∈z.2.2,l.length≤5) (fun z=>q - z.1) (0,k,[]) ⟨Nat.zero_le _,hk,rfl,by simp⟩ (by unfold hO;(refine Turns.slots _ _ rfl ?_;simp only[Tc,↓reduceIte,reduceEqDiff,Nat.reduceBEq,reduceAdd];try trivial)) ?_
  clear hk
  rintro ⟨o,k,cells⟩ ⟨ho,hk,hcel,hcls5⟩ Ql hnl hel
  dsimp only at ho hk hcel hcls5 ⊢
  unfold hO
  by_cases ho':o<q
  · repeat' (first|(((refine rr ?_);intro K hK);simp (disch:=omega) only[Ac,↓Pc,simprocAttr])|(refine hK _ ?_;clear hK K)|(refine Wc (fun ht=>?_) (fun ht=>?_)<;>(try simp only[DEc,simprocAttr] at ht))|refine Wz rfl ?_|(refine Wb ?_;intro Qb hnb hxb heb)|(refine Wk ?_;intro Q hn he)|((first|refine hn _ ?_|refine he _ _ rfl ?_);clear hn he;try clear Q)|omega)
    refine W_loopS (fun z:Nat × Nat × List (Int × Int)=>(⟨slots [(3,.ptr 0 0 0),(4,.lit (.int .i64 n)),(5,.lit (.int .i64 q)),(6,.ptr 1 0 0),(12,.ptr 4 0 0),(14,.lit (.int .i64 o)),(15,.ref 7 2 0 z.2.2.length),(16,.lit (.int .i64 z.1))],hO tape z.2.1 cls prs g cells++[.arr 2 (rowsOf eCh z.2.2)]⟩:St))
      (fun z=>z.1≤g.length∧z.2.1≤tape.length∧z.2.2.length≤z.1) (fun z=>g.length - z.1) (0,k,[]) ⟨Nat.zero_le _,hk,Nat.le_refl _⟩ ?_ ?_
    · refine Turns.trans (Turns.nil 15 2 (by simp only[Kc,simprocAttr]) (by decide)) ?_
      unfold hO
      (refine Turns.slots _ _ rfl ?_;simp only[Tc,↓reduceIte,reduceEqDiff,Nat.reduceBEq,reduceAdd];try trivial)
    clear hk
    rintro ⟨i,k,l⟩ ⟨hi,hk,hll⟩ Ql2 hnl2 hel2
    dsimp only at hi hk hll ⊢
    unfold hO
    simp only[List.cons_append,List.nil_append]
    by_cases hi':i<g.length
    · repeat' (first|(((refine rr ?_);intro K hK);simp (disch:=omega) only[Ac,↓Pc,simprocAttr])|(refine hK _ ?_;clear hK K)|(refine Wc (fun ht=>?_) (fun ht=>?_)<;>(try simp only[DEc,simprocAttr] at ht))|refine Wz rfl ?_|(refine Wb ?_;intro Qb hnb hxb heb)|(refine Wk ?_;intro Q hn he)|((first|refine hn _ ?_|refine he _ _ rfl ?_);clear hn he;try clear Q)|omega)
      refine callK_sel [0] (one_ok tape k 12 (by unfold In64;omega) (by decide) hk hL) (by decide) ⟨rfl,trivial⟩ ⟨.eq rfl,.pure rfl,trivial⟩ ?_
      have hk2:=nextA_le hk
      generalize oneV tape k 12=b at *
      generalize nextA tape k=k2 at *
      clear hk
      repeat' (first|(((refine rre ?_);intro K hK);simp (disch:=omega) only[Ac,↓Pc,simprocAttr])|(refine hK _ ?_;clear hK K)|(refine Wc (fun ht=>?_) (fun ht=>?_)<;>(try simp only[DEc,simprocAttr] at ht))|refine Wz rfl ?_|((refine hn _ ?_);clear hn he;try clear Q)|((refine hnb _ ?_);clear hnb hxb heb;try clear Qb)|with_reducible refine And.intro ?_ ?_|omega)
      · refine hnl2 _ (i+1,k2,l++[(g.getD i 0,(o:Int))]) ⟨by dsimp only;omega,hk2,by simp;omega⟩ (by dsimp only;omega) ?_
        unfold hO
        simp only[List.cons_append,List.nil_append]
        rw[show rowsOf eCh l++[[AV.lit (.int .i64 (g.getD i 0)),AV.lit (.int .i64 o)]]=rowsOf eCh (l++[(g.getD i 0,(o:Int))]) from rows_app1 (enc:=eCh) l (g.getD i 0,(o:Int))]
        (refine Turns.se [0,1,2,3,4,5,6,9] false (by simp only[Oc,simprocAttr]) ?_;simp only[Hr,↓reduceIte,reduceEqDiff,Nat.reduceBEq,reduceAdd];try (and_intros<;>first|exact .pure rfl|exact .eq rfl|exact .fz rfl (by simp only[Bc,Rc])))
      · exact hnl2 _ (i+1,k2,l) ⟨by dsimp only;omega,hk2,by dsimp only;omega⟩ (by dsimp only;omega) (by unfold hO;(refine Turns.slots _ _ rfl ?_;simp only[Tc,↓reduceIte,reduceEqDiff,Nat.reduceBEq,reduceAdd];try trivial))
    obtain rfl:i=g.length:=by omega
    repeat' (first|(((refine rr ?_);intro K hK);simp (disch:=omega) only[Ac,↓Pc,simprocAttr])|(refine hK _ ?_;clear hK K)|(refine Wc (fun ht=>?_) (fun ht=>?_)<;>(try simp only[DEc,simprocAttr] at ht))|refine Wz rfl ?_|(refine Wb ?_;intro Qb hnb hxb heb)|(refine Wk ?_;intro Q hn he)|((first|refine hn _ ?_|refine he _ _ rfl ?_);clear hn he;try clear Q)|omega)
    refine hel2 _ _ rfl ?_
    clear hnl2 hel2 Ql2
    repeat (first|((refine hn _ ?_);clear hn he;try clear Q)|((refine hxb _ ?_);clear hnb hxb heb;try clear Qb))
    clear hi hi'
    repeat' (first|(((refine rr ?_);intro K hK);simp (disch:=omega) only[Ac,↓Pc,simprocAttr])|(refine Wk ?_;intro Q hn he))
    refine callK_sel [0] (one_ok tape k 12 (by unfold In64;omega) (by decide) hk hL) (by decide) ⟨rfl,trivial⟩ ⟨.eq rfl,.pure rfl,trivial⟩ ?_
    have hk2:=nextA_le hk
    generalize oneV tape k 12=b at *
    generalize nextA tape k=k2 at *
    clear hk
    repeat' (first|(((fail_if_success (first|refine W_at 41 ?_|refine W_atE 41 ?_));(refine rre ?_);intro K hK);simp (disch:=omega) only[Ac,↓Pc,simprocAttr])|(refine hK _ ?_;clear hK K)|(refine Wc (fun ht=>?_) (fun ht=>?_))|refine Wz rfl ?_|((refine hn _ ?_);clear hn he;try clear Q)|(simp only[Qc,Kc,simprocAttr])|with_reducible refine And.intro ?_ ?_|omega)
    · refine callK_sel [0] (next_ok tape k2 (n+1) (by unfold In64;omega) hk2 hL) (by decide) ⟨rfl,trivial⟩ ⟨.eq rfl,.pure rfl,trivial⟩ ?_
      have hx:=nextV_range (L:=tape) (k:=k2) (n:=n+1) (by omega)
      have hk3:=nextA_le hk2
      generalize nextV tape k2 (n+1)=x at *
      generalize nextA tape k2=k3 at *
      clear hk2
      simp (disch:=omega) only[Ac,↓Pc,simprocAttr]
      repeat' (first|with_reducible refine And.intro ?_ ?_|omega)
      refine callK_sel [0] (next_ok tape k3 (q+1) (by unfold In64;omega) hk3 hL) (by decide) ⟨rfl,trivial⟩ ⟨.eq rfl,.pure rfl,trivial⟩ ?_
      have hk4:=nextA_le hk3
      generalize nextV tape k3 (q+1)=y at *
      generalize nextA tape k3=k4 at *
      clear hk3
      simp (disch:=omega) only[Ac,↓Pc,simprocAttr]
      repeat' (first|with_reducible refine And.intro ?_ ?_|omega)
      refine hK _ ?_;clear hK K
      repeat ((refine hn _ ?_);clear hn he;try clear Q)
      rw[show rowsOf eCh l++[[AV.lit (.int .i64 x),AV.lit (.int .i64 y)]]=rowsOf eCh (l++[(x,y)]) from rows_app1 (enc:=eCh) l (x,y)]
      refine W_turn (σ':=⟨slots [(3,.ptr 0 0 0),(4,.lit (.int .i64 n)),(5,.lit (.int .i64 q)),(6,.ptr 1 0 0),(12,.ptr 4 0 0),(14,.lit (.int .i64 o)),(15,.tree 2 (rowsOf eCh (l++[(x,y)])))],hO tape k4 cls prs g cells⟩) (by unfold hO;(refine Turns.se [0,1,2,3,4,5,6] true (by simp only[Oc,simprocAttr]) ?_;simp only[Hr,↓reduceIte,reduceEqDiff,Nat.reduceBEq,reduceAdd];try (and_intros<;>first|exact .pure rfl|exact .eq rfl|exact .fz rfl (by simp only[Bc,Rc])))) ?_
      unfold hO
      repeat' (first|(((refine rre ?_);intro K hK);simp (disch:=omega) only[Ac,↓Pc,simprocAttr])|(refine hK _ ?_;clear hK K)|((refine hn _ ?_);clear hn he;try clear Q)|((refine hnb _ ?_);clear hnb hxb heb;try clear Qb)|with_reducible refine And.intro ?_ ?_|omega)
      refine hnl _ (o+1,k4,cells++[l++[(x,y)]]) ⟨by dsimp only;omega,by assumption,by simp;omega,fun p hp=>?_⟩ (by dsimp only;omega) ?_
      · rcases List.mem_append.1 hp with h | h
        · exact hcls5 p h
        · rw[List.mem_singleton] at h;subst h;first|omega|(simp;omega)
      · unfold hO
        rw[show rowsOf eCell cells++[[AV.tree 2 (rowsOf eCh (l++[(x,y)]))]]=rowsOf eCell (cells++[l++[(x,y)]]) from rows_app1 (enc:=eCell) cells (l++[(x,y)])]
        (refine Turns.se [0,1,2,3,4,5,8] false (by simp only[Oc,simprocAttr]) ?_;simp only[Hr,↓reduceIte,reduceEqDiff,Nat.reduceBEq,reduceAdd];try (and_intros<;>first|exact .pure rfl|exact .eq rfl|exact .fz rfl (by simp only[Bc,Rc])))
    · skip
      refine W_turn (σ':=⟨slots [(3,.ptr 0 0 0),(4,.lit (.int .i64 n)),(5,.lit (.int .i64 q)),(6,.ptr 1 0 0),(12,.ptr 4 0 0),(14,.lit (.int .i64 o)),(15,.tree 2 (rowsOf eCh (l)))],hO tape k2 cls prs g cells⟩) (by unfold hO;(refine Turns.se [0,1,2,3,4,5,6] true (by simp only[Oc,simprocAttr]) ?_;simp only[Hr,↓reduceIte,reduceEqDiff,Nat.reduceBEq,reduceAdd];try (and_intros<;>first|exact .pure rfl|exact .eq rfl|exact .fz rfl (by simp only[Bc,Rc])))) ?_
      unfold hO
      repeat' (first|(((refine rre ?_);intro K hK);simp (disch:=omega) only[Ac,↓Pc,simprocAttr])|(refine hK _ ?_;clear hK K)|((refine hn _ ?_);clear hn he;try clear Q)|((refine hnb _ ?_);clear hnb hxb heb;try clear Qb)|with_reducible refine And.intro ?_ ?_|omega)
      refine hnl _ (o+1,k2,cells++[l]) ⟨by dsimp only;omega,by assumption,by simp;omega,fun p hp=>?_⟩ (by dsimp only;omega) ?_
      · rcases List.mem_append.1 hp with h | h
        · exact hcls5 p h
        · rw[List.mem_singleton] at h;subst h;first|omega|(simp;omega)
      · unfold hO
        rw[show rowsOf eCell cells++[[AV.tree 2 (rowsOf eCh (l))]]=rowsOf eCell (cells++[l]) from rows_app1 (enc:=eCell) cells (l)]
        (refine Turns.se [0,1,2,3,4,5,8] false (by simp only[Oc,simprocAttr]) ?_;simp only[Hr,↓reduceIte,reduceEqDiff,Nat.reduceBEq,reduceAdd];try (and_intros<;>first|exact .pure rfl|exact .eq rfl|exact .fz rfl (by simp only[Bc,Rc])))
  obtain rfl:q=o:=by omega
  repeat' (first|(((refine rr ?_);intro K hK);simp (disch:=omega) only[Ac,↓Pc,simprocAttr])|(refine hK _ ?_;clear hK K)|(refine Wc (fun ht=>?_) (fun ht=>?_)<;>(try simp only[DEc,simprocAttr] at ht))|refine Wz rfl ?_|(refine Wb ?_;intro Qb hnb hxb heb)|(refine Wk ?_;intro Q hn he)|((first|refine hn _ ?_|refine he _ _ rfl ?_);clear hn he;try clear Q)|omega)
  refine hel _ _ rfl ?_;clear hnl hel Ql
  repeat (first|((refine hn _ ?_);clear hn he;try clear Q)|((refine hxb _ ?_);clear hnb hxb heb;try clear Qb))
  clear ho' ho
  have hmb:MB ⟨cls,prs,[],1⟩:=by
    refine⟨by dsimp only;omega,fun l hl=>?_,fun l hl o ho=>?_,by dsimp only;omega,fun p hp=>?_,by show (0:Nat)<_;decide,fun c hc=>by cases hc⟩
    · rw[hcls l hl,List.length_replicate];omega
    · rw[hcls l hl,List.mem_replicate] at ho;rw[ho.2];show (0:Nat)<_;decide
    · have:=hps p hp;omega
  have hpb:PB [⟨-1,[],[],g,cells⟩]:=by
    refine⟨by show (1:Nat)<_;decide,fun x hx=>?_,fun x hx=>?_,fun x hx=>?_,fun x hx=>?_,fun x hx l hl=>?_⟩
    all_goals rw[List.mem_singleton] at hx;subst hx
    · show (0:Nat)<_;decide
    · show (0:Nat)<_;decide
    · dsimp only;omega
    · dsimp only;omega
    · have:=hcls5 l hl;omega
  have hex:=hx _ _ 0 hmb hpb
  repeat' (((refine rr ?_);intro K hK);simp (disch:=omega) only[Ac,↓Pc,simprocAttr])
  refine callK_snap [] hex (by decide) trivial ⟨?_,?_,.pure rfl,trivial⟩ rfl (by simp) ?_
  · refine ArgR.agg _ _ rfl (ArgsR.spec (R:=ArgR _ _ _ _) (cs:=eMdl ⟨cls,prs,[],1⟩) (ds:=[.ref 2 1 0 cls.length,.ref 3 4 0 prs.length,.lit (.slice none 0 0),.lit (.int .i64 1)]) ⟨.snap _ _ rfl ?_,.snap _ _ rfl ?_,.snap _ _ rfl (.nil 4),.pure rfl,trivial⟩).2
    · exact frz_enc rfl rfl (by simp)
    · exact frz_enc rfl rfl (by simp)
  · refine ArgR.agg _ _ rfl (ArgsR.spec (R:=ArgR _ _ _ _) (cs:=ePf [⟨-1,[],[],g,cells⟩]) (ds:=[.ref 7 5 0 1]) ⟨.snap _ _ rfl ?_,trivial⟩).2
    exact Frz.mk rfl rfl (by simp) (rows_wid _) ⟨⟨.lit _,.nil _,.nil _,frz_intsE rfl rfl (by simp),frz_enc rfl rfl (by simp),trivial⟩,trivial⟩
  simp (disch:=omega) only[Ac,↓Pc,simprocAttr]
  refine hK _ ?_;clear hK K
  repeat' (first|refine Wz rfl ?_|(simp only[Qc,Kc,simprocAttr]))
  exact RetOK_pure' rfl rfl
end T
open Go Go.Am Go.Proofs
open Nat (reduceEqDiff reduceAdd reduceLeDiff reduceMul)
open Int (reduceNeg reduceLE reduceToNat)
namespace T
theorem proofgroups_ok (tape:List Int):Holds Tryz.prog 4 [.tree 1 (ints tape)] [] (.lit (.bool true)) [] :=
  groups_ok awake21_ok (fun m P k hm hP=>proofexact_ok m P k hm hP) tape
end T

