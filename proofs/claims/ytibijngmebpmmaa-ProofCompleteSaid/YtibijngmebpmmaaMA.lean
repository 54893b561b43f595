import Derived.Test.YtibijngmebpmmaaM1
import Derived.Test.YtibijngmebpmmaaSM
import Derived.Test.YtibijngmebpmmaaDA
set_option linter.unusedVariables false
set_option linter.unusedSimpArgs false
set_option linter.unnecessarySimpa false
open Go Go.Am Go.Proofs
open Nat (reduceEqDiff reduceAdd reduceLeDiff reduceMul)
open Int (reduceNeg reduceLE reduceToNat)
set_option maxRecDepth 20000
namespace T
theorem ctB_lds {m:Mdl} {left:List (List Bool)} (hm:VM m) (hf:FitsP m left) {c:Ct} (hc:c∈m.cts):(∀ x∈c.loads,(0≤x.cls∧x.cls<left.length)∧1≤x.wt∧x.wt≤1000)∧0≤c.most∧In41 c.pen∧c.loads.length≤1000000:=by
  obtain ⟨_,h2,h3,h4⟩:=ctB_iff (hm.ct c hc)
  refine⟨fun x hx=>?_,h2.1,price_in h3,?_⟩
  · obtain ⟨h5,h6⟩:=ldL_mem h4 x hx
    obtain ⟨a,b,_,_⟩:=optB_iff.1 h5
    have:=hf.1
    exact⟨⟨a,by omega⟩,h6⟩
  · have:=ldL_len0 hm h4;omega
end T
open Go Go.Am Go.Proofs
open Nat (reduceEqDiff reduceAdd reduceLeDiff reduceMul)
open Int (reduceNeg reduceLE reduceToNat)
set_option maxRecDepth 20000
namespace T
theorem of_ok (x:Int):Holds Try.prog 92 [.lit (.int .i64 x)] [] (.agg (eNm (ofN x))) []:=by
  refine Holds.of_body' (fn:=Try.f92) 7 0 [.cell 2 156] Try.func92 rfl rfl rfl rfl rfl (by simp) ?_
  repeat' (first|((first|((first|refine rr ?_|refine rre ?_);intro K hK)|with_reducible refine gO ?_);simp (disch:=omega) only[Ac,↓Pc,simprocAttr])|(refine hK _ ?_;clear hK K)|(with_reducible refine gS (fun hb'=>?_) (fun hb'=>?_)<;>(have hb:=hb';(try simp only[DEc,simprocAttr] at hb);simp (disch:=omega) only[Ac,↓Pc,simprocAttr,hb'];clear hb'))|(refine Wc (fun ht=>?_) (fun ht=>?_)<;>(try simp only[DEc,simprocAttr] at ht))|refine Wz rfl ?_|(refine Wb ?_;intro Qb hnb hxb heb)|(refine Wk ?_;intro Q hn he)|((first|refine hn _ ?_|refine he _ _ rfl ?_);clear hn he;try clear Q)|((first|refine hnb _ ?_|refine hxb _ ?_|refine heb _ _ rfl ?_);clear hnb hxb heb;try clear Qb)|(refine hel _ _ rfl ?_;clear hnl hel;try clear Ql)|(simp only[Qc,Kc,simprocAttr])|with_reducible refine And.intro ?_ ?_|omega|with_reducible rfl)
  simp (disch:=omega) only[Ac,↓Pc,simprocAttr,eNm,ofN,retV]
  exact RetOK_pure' rfl rfl
end T
open Go Go.Am Go.Proofs
open Nat (reduceEqDiff reduceAdd reduceLeDiff reduceMul)
open Int (reduceNeg reduceLE reduceToNat)
set_option maxRecDepth 20000
namespace T
end T
open Go Go.Am Go.Proofs
open Nat (reduceEqDiff reduceAdd reduceLeDiff reduceMul)
open Int (reduceNeg reduceLE reduceToNat)
set_option maxRecDepth 20000
namespace T
set_option maxHeartbeats 4000000 in
theorem lowest_ok (l:List Nm) (hll:l.length<9223372036854775808):Holds Try.prog 95 [.tree 2 (rowsOf eNm l)] [] (.agg (eNm (lowA l))) []:=by
  refine Holds.of_body' (fn:=Try.f95) 30 0 [.cell 2 156] Try.func95 rfl rfl rfl rfl rfl (by simp) ?_
  repeat' (first|((first|((first|refine rr ?_|refine rre ?_);intro K hK)|with_reducible refine gO ?_);simp (disch:=omega) only[Ac,↓Pc,simprocAttr])|(refine hK _ ?_;clear hK K)|(with_reducible refine gS (fun hb'=>?_) (fun hb'=>?_)<;>(have hb:=hb';(try simp only[DEc,simprocAttr] at hb);simp (disch:=omega) only[Ac,↓Pc,simprocAttr,hb'];clear hb'))|(refine Wc (fun ht=>?_) (fun ht=>?_)<;>(try simp only[DEc,simprocAttr] at ht))|refine Wz rfl ?_|(refine Wb ?_;intro Qb hnb hxb heb)|(refine Wk ?_;intro Q hn he)|((first|refine hn _ ?_|refine he _ _ rfl ?_);clear hn he;try clear Q)|((first|refine hnb _ ?_|refine hxb _ ?_|refine heb _ _ rfl ?_);clear hnb hxb heb;try clear Qb)|(refine hel _ _ rfl ?_;clear hnl hel;try clear Ql)|(simp only[Qc,Kc,simprocAttr])|with_reducible refine And.intro ?_ ?_|omega|with_reducible rfl)
  refine W_loopS (fun i:Nat=>(⟨slots [(2,.ptr 0 0 0),(3,.ptr 1 0 0),(7,.tree 2 (rowsOf eNm l)),(8,.lit (.int .i64 l.length)),(9,.lit (.int .i64 i))],[.var [.lit (.int .i64 0),.lit (.bool false)],.var (eNm (lowA (l.take i)))]⟩:St)) (fun i=>i≤l.length) (fun i=>l.length - i) 0 (Nat.zero_le _) (by (refine Turns.slots _ _ rfl ?_;simp only[Tc,↓reduceIte,reduceEqDiff,Nat.reduceBEq,reduceAdd,List.take_zero];try trivial)) ?_
  rintro i hi Ql hnl hel
  by_cases hi':i<l.length
  · have h1:=take_snoc hi'
    have h3:=lowA_snoc (l.take i) (l.getD i default)
    rw[← h1] at h3
    generalize lowA (l.take i)=b at *
    generalize hpp:l.getD i default=p at *
    unfold lowAs at h3
    obtain ⟨b1,b2⟩:=b
    obtain ⟨p1,p2⟩:=p
    dsimp only at h3 ⊢
    unfold eNm
    dsimp only
    by_cases hlt:p1<b1
    all_goals
      cases p2<;>cases b2
    all_goals
      simp[hlt] at h3
      repeat' (first|((first|((first|refine rr ?_|refine rre ?_);intro K hK)|with_reducible refine gO ?_);simp (disch:=omega) only[Ac,↓Pc,simprocAttr,hpp,eNm])|(refine hK _ ?_;clear hK K)|(with_reducible refine gS (fun hb'=>?_) (fun hb'=>?_)<;>(have hb:=hb';(try simp only[DEc,simprocAttr] at hb);simp (disch:=omega) only[Ac,↓Pc,simprocAttr,hpp,eNm,hb'];clear hb'))|(refine Wc (fun ht=>?_) (fun ht=>?_)<;>(try simp only[DEc,simprocAttr] at ht))|refine Wz rfl ?_|(refine Wb ?_;intro Qb hnb hxb heb)|(refine Wk ?_;intro Q hn he)|((first|refine hn _ ?_|refine he _ _ rfl ?_);clear hn he;try clear Q)|((first|refine hnb _ ?_|refine hxb _ ?_|refine heb _ _ rfl ?_);clear hnb hxb heb;try clear Qb)|(simp only[Qc,Kc,simprocAttr])|with_reducible refine And.intro ?_ ?_|omega|with_reducible rfl)
      all_goals try (exfalso;omega)
      all_goals
        refine hnl _ (i+1) (by omega) (by omega) ?_
        simp only[h3]
        (refine Turns.se [0,1] false (by simp only[Oc,simprocAttr,eNm]) ?_;simp only[Hr,↓reduceIte,reduceEqDiff,Nat.reduceBEq,reduceAdd,eNm];try (and_intros<;>first|exact .pure rfl|exact .eq rfl|exact .fz rfl (by simp only[Bc,Rc])))
  · repeat' (first|((first|((first|refine rr ?_|refine rre ?_);intro K hK)|with_reducible refine gO ?_);simp (disch:=omega) only[Ac,↓Pc,simprocAttr,eNm])|(refine hK _ ?_;clear hK K)|(with_reducible refine gS (fun hb'=>?_) (fun hb'=>?_)<;>(have hb:=hb';(try simp only[DEc,simprocAttr] at hb);simp (disch:=omega) only[Ac,↓Pc,simprocAttr,eNm,hb'];clear hb'))|(refine Wc (fun ht=>?_) (fun ht=>?_)<;>(try simp only[DEc,simprocAttr] at ht))|refine Wz rfl ?_|(refine Wb ?_;intro Qb hnb hxb heb)|(refine Wk ?_;intro Q hn he)|((first|refine hn _ ?_|refine he _ _ rfl ?_);clear hn he;try clear Q)|((first|refine hnb _ ?_|refine hxb _ ?_|refine heb _ _ rfl ?_);clear hnb hxb heb;try clear Qb)|(simp only[Qc,Kc,simprocAttr])|with_reducible refine And.intro ?_ ?_|omega|with_reducible rfl)
    refine hel _ _ rfl ?_;clear hnl hel Ql
    repeat (first|((first|refine hn _ ?_|refine he _ _ rfl ?_);clear hn he;try clear Q)|((first|refine hnb _ ?_|refine hxb _ ?_|refine heb _ _ rfl ?_);clear hnb hxb heb;try clear Qb)|(refine hel _ _ rfl ?_;clear hnl hel;try clear Ql))
    rw[List.take_of_length_le (by omega)]
    repeat' (first|((first|((first|refine rr ?_|refine rre ?_);intro K hK)|with_reducible refine gO ?_);simp (disch:=omega) only[Ac,↓Pc,simprocAttr,eNm])|(refine hK _ ?_;clear hK K)|(with_reducible refine gS (fun hb'=>?_) (fun hb'=>?_)<;>(have hb:=hb';(try simp only[DEc,simprocAttr] at hb);simp (disch:=omega) only[Ac,↓Pc,simprocAttr,eNm,hb'];clear hb'))|(refine Wc (fun ht=>?_) (fun ht=>?_)<;>(try simp only[DEc,simprocAttr] at ht))|refine Wz rfl ?_|(refine Wb ?_;intro Qb hnb hxb heb)|(refine Wk ?_;intro Q hn he)|((first|refine hn _ ?_|refine he _ _ rfl ?_);clear hn he;try clear Q)|((first|refine hnb _ ?_|refine hxb _ ?_|refine heb _ _ rfl ?_);clear hnb hxb heb;try clear Qb)|(refine hel _ _ rfl ?_;clear hnl hel;try clear Ql)|(simp only[Qc,Kc,simprocAttr])|with_reducible refine And.intro ?_ ?_|omega|with_reducible rfl)
    simp (disch:=omega) only[Ac,↓Pc,simprocAttr,eNm,retV]
    exact RetOK_pure' rfl rfl
end T

