import Derived.Test.YtibijngmebpmmaaP10
import Derived.Test.YtibijngmebpmmaaM20
set_option linter.unusedVariables false
set_option linter.unusedSimpArgs false
set_option linter.unnecessarySimpa false
open Go Go.Am Go.Proofs
open Nat (reduceEqDiff reduceAdd reduceLeDiff reduceMul)
open Int (reduceNeg reduceLE reduceToNat)
set_option maxRecDepth 20000
namespace T
set_option maxHeartbeats 8000000 in
theorem dproof_ok (m:Mdl) (hm:VM m) {w:Nat} (hw:w≤24) (hsome:∀ l∈m.cls,1≤l.length∧l.length≤w) (L:List Int) (hL:L.length<1000000) (s:Nat) (hs:s≤100) (hsz:szB w s≤10000) (k:Nat) (hk:k≤L.length) :
    Holds Try.prog 12 [.ptr 0 0 0,.agg (eMdl m),.lit (.int .i64 s)] [dice L k] (.agg (ePf (growF m L s [] k []).1)) [dice L (growF m L s [] k []).2]:=by
  have hg:=Holds.nilArg (pre:=[.ptr 0 0 0,.agg (eMdl m),.ptr 1 0 0]) (post:=[.lit (.int .i64 s)]) (grow_ok m hm hw hsome L hL s hs (by omega) [] k [] (.tree 1 []) (.var (eMdl m)) hk (by simp;omega) (by simp;omega) (by simp) (.inl ⟨rfl,rfl,m,rfl⟩))
  generalize growF m L s [] k []=r at *
  obtain ⟨P,k2⟩:=r
  dsimp only at hg ⊢
  unfold dice at hg ⊢
  refine Holds.of_body' (fn:=Try.f12) 13 1 [.cell 6 37] Try.func12 rfl rfl rfl rfl rfl (by simp) ?_
  repeat' (first|((first|((fail_if_success (first|refine W_at 2 ?_|refine W_atE 2 ?_));(first|refine rr ?_|refine rre ?_);intro K hK)|with_reducible refine gO ?_);simp (disch:=omega) only[Ac,↓Pc,simprocAttr])|(refine hK _ ?_;clear hK K)|(with_reducible refine gS (fun hb'=>?_) (fun hb'=>?_)<;>(have hb:=hb';(try simp only[DEc,simprocAttr] at hb);simp (disch:=omega) only[Ac,↓Pc,simprocAttr,hb'];clear hb'))|(refine Wc (fun ht=>?_) (fun ht=>?_)<;>(try simp only[DEc,simprocAttr] at ht))|refine Wz rfl ?_|(refine Wb ?_;intro Qb hnb hxb heb)|(refine Wk ?_;intro Q hn he)|((first|refine hn _ ?_|refine he _ _ rfl ?_);clear hn he;try clear Q)|((first|refine hnb _ ?_|refine hxb _ ?_|refine heb _ _ rfl ?_);clear hnb hxb heb;try clear Qb)|(refine hel _ _ rfl ?_;clear hnl hel;try clear Ql)|(simp only[Qc,Kc,simprocAttr])|with_reducible refine And.intro ?_ ?_|omega|with_reducible rfl)
  refine W_turn (Turns.nilC 3 0 5 (by rfl) (by rfl) (by decide)) ?_
  repeat' (first|((first|((first|refine rr ?_|refine rre ?_);intro K hK)|with_reducible refine gO ?_);simp (disch:=omega) only[Ac,↓Pc,simprocAttr])|(refine hK _ ?_;clear hK K)|(with_reducible refine gS (fun hb'=>?_) (fun hb'=>?_)<;>(have hb:=hb';(try simp only[DEc,simprocAttr] at hb);simp (disch:=omega) only[Ac,↓Pc,simprocAttr,hb'];clear hb'))|(refine Wc (fun ht=>?_) (fun ht=>?_)<;>(try simp only[DEc,simprocAttr] at ht))|refine Wz rfl ?_|(refine Wb ?_;intro Qb hnb hxb heb)|(refine Wk ?_;intro Q hn he)|((first|refine hn _ ?_|refine he _ _ rfl ?_);clear hn he;try clear Q)|((first|refine hnb _ ?_|refine hxb _ ?_|refine heb _ _ rfl ?_);clear hnb hxb heb;try clear Qb)|(refine hel _ _ rfl ?_;clear hnl hel;try clear Ql)|(simp only[Qc,Kc,simprocAttr])|with_reducible refine And.intro ?_ ?_|omega|with_reducible rfl)
  refine callK_sel [0,3,4,1] hg (by decide) ⟨rfl,rfl,rfl,rfl,trivial⟩ ⟨.eq rfl,.pure rfl,.eq rfl,.pure rfl,.pure rfl,trivial⟩ ?_
  repeat' (first|((first|((first|refine rr ?_|refine rre ?_);intro K hK)|with_reducible refine gO ?_);simp (disch:=omega) only[Ac,↓Pc,simprocAttr])|(refine hK _ ?_;clear hK K)|(with_reducible refine gS (fun hb'=>?_) (fun hb'=>?_)<;>(have hb:=hb';(try simp only[DEc,simprocAttr] at hb);simp (disch:=omega) only[Ac,↓Pc,simprocAttr,hb'];clear hb'))|(refine Wc (fun ht=>?_) (fun ht=>?_)<;>(try simp only[DEc,simprocAttr] at ht))|refine Wz rfl ?_|(refine Wb ?_;intro Qb hnb hxb heb)|(refine Wk ?_;intro Q hn he)|((first|refine hn _ ?_|refine he _ _ rfl ?_);clear hn he;try clear Q)|((first|refine hnb _ ?_|refine hxb _ ?_|refine heb _ _ rfl ?_);clear hnb hxb heb;try clear Qb)|(refine hel _ _ rfl ?_;clear hnl hel;try clear Ql)|(simp only[Qc,Kc,simprocAttr])|with_reducible refine And.intro ?_ ?_|omega|with_reducible rfl)
  simp (disch:=omega) only[Ac,↓Pc,simprocAttr]
  refine RetOK_sel [0] true (by decide) ⟨⟨by simp,.inr rfl⟩,trivial⟩ (by decide) (by decide) ?_
  exact ArgR.agg _ _ rfl (ArgsR.spec (R:=ArgR _ _ _ _) (cs:=ePf P) (ds:=[.ref 5 5 0 P.length]) ⟨.fz rfl (by simp[rowsOf]),trivial⟩).2
theorem Seg.pb {m:Mdl} (hm:VM m) {P:List Nd} (h:Seg m P 0 P.length []) (hn:P.length≤20000):PB P:=by
  have hnode:∀ x∈P,x.kids.length<9223372036854775808∧x.mvs.length<9223372036854775808∧x.grp=[]∧x.cells=[]:=fun x hx=>by
    obtain ⟨i,hi,rfl⟩:=List.getElem_of_mem hx
    have key:=h.flat i (Nat.zero_le _) hi
    have e:nd P i=P[i]:=by unfold nd;rw[List.getD_eq_getElem?_getD,List.getElem?_eq_getElem hi];rfl
    rw[e] at key
    have h2:=(h.node_ok i (Nat.zero_le _) hi).1
    rw[e] at h2
    have:=ndB_kids hm h2
    exact⟨by omega,by omega,key.2.1,key.2.2⟩
  refine⟨by omega,fun x hx=>(hnode x hx).1,fun x hx=>(hnode x hx).2.1,fun x hx=>?_,fun x hx=>?_,fun x hx l hl=>?_⟩
  · rw[(hnode x hx).2.2.1];show 0<_;decide
  · rw[(hnode x hx).2.2.2];show 0<_;decide
  · rw[(hnode x hx).2.2.2] at hl;cases hl
end T

