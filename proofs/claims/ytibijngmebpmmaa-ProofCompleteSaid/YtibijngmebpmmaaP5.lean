import Derived.Test.YtibijngmebpmmaaP4
import Derived.Test.YtibijngmebpmmaaPB
import Derived.Test.YtibijngmebpmmaaDB
set_option linter.unusedVariables false
set_option linter.unusedSimpArgs false
set_option linter.unnecessarySimpa false
open Go Go.Am Go.Proofs
open Nat (reduceEqDiff reduceAdd reduceLeDiff reduceMul)
open Int (reduceNeg reduceLE reduceToNat)
set_option maxRecDepth 20000
namespace T
set_option maxRecDepth 10000 in
set_option maxHeartbeats 4000000 in
theorem cloneBs_ok (xs:List (List Bool)) (h:0<xs.length) (hl:xs.length<549755813888):Holds Try.prog 87 [.tree 1 (rowsOf eBs xs)] [] (.ref 0 1 0 xs.length) [.arr 1 (rowsOf eBs xs)]:=by
  refine Holds.of_body' (fn:=Try.f87) 8 0 [.tmp 2] Try.func87 rfl rfl rfl rfl rfl (by simp) ?_
  repeat' (first|((first|((first|refine rr ?_|refine rre ?_);intro K hK)|with_reducible refine gO ?_);simp (disch:=omega) only[Ac,↓Pc,simprocAttr])|(refine hK _ ?_;clear hK K)|(with_reducible refine gS (fun hb'=>?_) (fun hb'=>?_)<;>(have hb:=hb';(try simp only[DEc,simprocAttr] at hb);simp (disch:=omega) only[Ac,↓Pc,simprocAttr,hb'];clear hb'))|(refine Wc (fun ht=>?_) (fun ht=>?_)<;>(try simp only[DEc,simprocAttr] at ht))|refine Wz rfl ?_|(refine Wb ?_;intro Qb hnb hxb heb)|(refine Wk ?_;intro Q hn he)|((first|refine hn _ ?_|refine he _ _ rfl ?_);clear hn he;try clear Q)|((first|refine hnb _ ?_|refine hxb _ ?_|refine heb _ _ rfl ?_);clear hnb hxb heb;try clear Qb)|(refine hel _ _ rfl ?_;clear hnl hel;try clear Ql)|(simp only[Qc,Kc,simprocAttr])|with_reducible refine And.intro ?_ ?_|omega|with_reducible rfl)
  (refine RetOK_se [1] false (by simp only[Oc,simprocAttr]) ?_;first|exact .pure rfl|exact .eq rfl|exact .fz rfl (by simp only[Bc,Rc]))
theorem cloneNil_ok:Holds Try.prog 60 [.lit (.slice none 0 0)] [] (.lit (.slice none 0 0)) []:=by
  refine Holds.of_body' (fn:=Try.f60) 8 0 [.tmp 2] Try.func60 rfl rfl rfl rfl rfl (by simp) ?_
  repeat' (first|((first|((first|refine rr ?_|refine rre ?_);intro K hK)|with_reducible refine gO ?_);simp (disch:=omega) only[Ac,↓Pc,simprocAttr,Option.isNone_none])|(refine hK _ ?_;clear hK K)|(with_reducible refine gS (fun hb'=>?_) (fun hb'=>?_)<;>(have hb:=hb';(try simp only[DEc,simprocAttr] at hb);simp (disch:=omega) only[Ac,↓Pc,simprocAttr,Option.isNone_none,hb'];clear hb'))|(refine Wc (fun ht=>?_) (fun ht=>?_)<;>(try simp only[DEc,simprocAttr] at ht))|refine Wz rfl ?_|(refine Wb ?_;intro Qb hnb hxb heb)|(refine Wk ?_;intro Q hn he)|((first|refine hn _ ?_|refine he _ _ rfl ?_);clear hn he;try clear Q)|((first|refine hnb _ ?_|refine hxb _ ?_|refine heb _ _ rfl ?_);clear hnb hxb heb;try clear Qb)|(refine hel _ _ rfl ?_;clear hnl hel;try clear Ql)|(simp only[Qc,Kc,simprocAttr])|with_reducible refine And.intro ?_ ?_|omega|with_reducible rfl)
  all_goals first|exact RetOK_pure' rfl rfl|(exfalso;simp at *;done)
set_option maxHeartbeats 4000000 in
theorem only_ok (left:List (List Bool)) (c o:Nat) (hc:c<left.length) (ho:o<(left.getD c default).length) (hl:left.length<549755813888) (hw:(left.getD c default).length<549755813888) :
    Holds Try.prog 59 [.tree 1 (rowsOf eBs left),.lit (.int .i64 c),.lit (.int .i64 o)] [] (.tree 1 (rowsOf eBs (onlyV left c o))) []:=by
  unfold onlyV
  have hset:∀ r:List AV,((rowsOf eBs left).set c r)[c]?=some r:=fun r=>by rw[List.getElem?_set,if_pos rfl,if_pos (by simpa [rowsOf] using hc)]
  have hsl:∀ r:List AV,((rowsOf eBs left).set c r).length=left.length:=fun r=>by simp[rowsOf]
  generalize hrr:left.getD c default=row at *
  have hrep:(List.replicate row.length false).length=row.length:=List.length_replicate
  refine Holds.of_body' (fn:=Try.f59) 26 0 [.tmp 6] Try.func59 rfl rfl rfl rfl rfl (by simp) ?_
  repeat' (first|((first|((first|refine rr ?_|refine rre ?_);intro K hK)|with_reducible refine gO ?_);simp (disch:=omega) only[Ac,↓Pc,simprocAttr])|(refine hK _ ?_;clear hK K)|(with_reducible refine gS (fun hb'=>?_) (fun hb'=>?_)<;>(have hb:=hb';(try simp only[DEc,simprocAttr] at hb);simp (disch:=omega) only[Ac,↓Pc,simprocAttr,hb'];clear hb'))|(refine Wc (fun ht=>?_) (fun ht=>?_)<;>(try simp only[DEc,simprocAttr] at ht))|refine Wz rfl ?_|(refine Wb ?_;intro Qb hnb hxb heb)|(refine Wk ?_;intro Q hn he)|((first|refine hn _ ?_|refine he _ _ rfl ?_);clear hn he;try clear Q)|((first|refine hnb _ ?_|refine hxb _ ?_|refine heb _ _ rfl ?_);clear hnb hxb heb;try clear Qb)|(refine hel _ _ rfl ?_;clear hnl hel;try clear Ql)|(simp only[Qc,Kc,simprocAttr])|with_reducible refine And.intro ?_ ?_|omega|with_reducible rfl)
  (refine callK_sel [] (cloneBs_ok left (by omega) hl) (by decide) (by (repeat' (first|exact trivial|with_reducible refine And.intro ?_ ?_|refine And.intro ?_ ?_))<;>first|rfl|(rw[ints_ren];rfl)|(rw[bools_ren];rfl)|(rw[rows_ren];rfl)|(rw[intss_ren];rfl)) (by (repeat' (first|exact trivial|refine And.intro ?_ ?_))<;>(first|exact .pure rfl|exact .eq rfl|exact .fz rfl (by simp only[Bc,Rc]))) ?_;simp (disch:=omega) only[Ac,↓Pc,simprocAttr,Nat.sub_self,Nat.sub_zero])
  repeat' (first|((first|((first|refine rr ?_|refine rre ?_);intro K hK)|with_reducible refine gO ?_);simp (disch:=omega) only[Ac,↓Pc,simprocAttr,hrr,eBs,bools_rep,hset,hsl,hrep,bools_set])|(refine hK _ ?_;clear hK K)|(with_reducible refine gS (fun hb'=>?_) (fun hb'=>?_)<;>(have hb:=hb';(try simp only[DEc,simprocAttr] at hb);simp (disch:=omega) only[Ac,↓Pc,simprocAttr,hrr,eBs,bools_rep,hset,hsl,hrep,bools_set,hb'];clear hb'))|(refine Wc (fun ht=>?_) (fun ht=>?_)<;>(try simp only[DEc,simprocAttr] at ht))|refine Wz rfl ?_|(refine Wb ?_;intro Qb hnb hxb heb)|(refine Wk ?_;intro Q hn he)|((first|refine hn _ ?_|refine he _ _ rfl ?_);clear hn he;try clear Q)|((first|refine hnb _ ?_|refine hxb _ ?_|refine heb _ _ rfl ?_);clear hnb hxb heb;try clear Qb)|(refine hel _ _ rfl ?_;clear hnl hel;try clear Ql)|(simp only[Qc,Kc,simprocAttr])|with_reducible refine And.intro ?_ ?_|omega|with_reducible rfl)
  refine RetOK_sel [] true (by decide) trivial (by decide) (by decide) (.snap _ _ rfl ?_)
  have hrl:(onlyR row.length o).length=row.length:=onlyR_len _ _
  exact frz_set (k:=1) (r:=onlyR row.length o) hc (by rw[hrl];rfl) (not_kept (by decide)) rfl (not_kept (by decide))
end T

