import Derived.Test.YtibijngmebpmmaaGreatCA
import Derived.Test.YtibijngmebpmmaaGreatSM
set_option linter.unusedVariables false
set_option linter.unusedSimpArgs false
set_option linter.unnecessarySimpa false
open Go Go.Am Go.Proofs
open Nat (reduceEqDiff reduceAdd reduceLeDiff reduceMul)
open Int (reduceNeg reduceLE reduceToNat)
set_option maxRecDepth 20000
namespace T
def eBs (l:List Bool):List AV:=[.tree 1 (bools l)]
instance:Row eBs 1:=⟨fun _=>rfl,fun l v hv=>by
  simp only[eBs,List.mem_singleton] at hv;subst hv;exact .inr ⟨_,_,rfl⟩⟩
theorem kz104:keysZ Tryz.prog 168 (.map none):=⟨_,_,rfl,rfl,fun w=>by rfl⟩
theorem kz105:keysZ Tryz.prog 169 (.int .i64 0):=⟨_,_,rfl,rfl,fun w=>by rfl⟩
theorem km104:keysI Tryz.prog 168:=⟨_,_,rfl,rfl⟩
theorem km105:keysI Tryz.prog 169:=⟨_,_,rfl,rfl⟩
theorem im104:isMapT Tryz.prog 168:=⟨_,_,rfl⟩
theorem im105:isMapT Tryz.prog 169:=⟨_,_,rfl⟩
set_option maxHeartbeats 16000000 in
theorem least_ok (c:Ct) (left:List (List Bool)) (n:Nat) (hn24:left.length≤n) (hc:∀ x∈c.loads,(0≤x.cls∧x.cls<left.length)∧1≤x.wt∧x.wt≤1000) (hl:left.length≤1000) (hrow:∀ r∈left,r.length≤1000) (hll:c.loads.length<9223372036854775808) (hm:0≤c.most) (hp:In41 c.pen) :
    Holds Tryz.prog 89 [.agg (eCt c),.tree 1 (rowsOf eBs left)] [] (.lit (.int .i64 (leastV left c))) []:=by
  refine Holds.of_body' (fn:=Tryz.f89) 80 0 [.tmp 4] Tryz.func89 rfl rfl rfl rfl rfl (by simp) ?_
  refine W_of_WM ?_
  repeat' (first|(((first|refine mr ?_|refine mre ?_);intro K hK) ;simp (disch:=omega) only[Ac,↓Pc,simprocAttr,Mc])|(with_reducible refine gO ?_;simp (disch:=omega) only[Ac,↓Pc,simprocAttr,Mc])|(refine hK _ _ ?_;clear hK K)|(with_reducible refine gS (fun hb'=>?_) (fun hb'=>?_)<;>(have hb:=hb';(try simp only[DEc,simprocAttr] at hb);simp (disch:=omega) only[Ac,↓Pc,simprocAttr,Mc,hb'];clear hb'))|(refine mc (fun ht=>?_) (fun ht=>?_)<;>(try simp only[DEc,simprocAttr] at ht))|refine WM_z rfl ?_|(refine WM_block ?_;intro Qb hnb hxb heb)|(refine WM_k ?_;intro Q hn he)|((first|refine hn _ _ ?_|refine he _ _ _ rfl ?_);clear hn he;try clear Q)|((first|refine hnb _ _ ?_|refine hxb _ _ ?_|refine heb _ _ _ rfl ?_);clear hnb hxb heb;try clear Qb)|(refine hel _ _ _ rfl ?_;clear hnl hel;try clear Ql)|with_reducible refine And.intro ?_ ?_|omega|with_reducible rfl)
  refine om_make fun b0 hb0=>?_
  repeat' (first|(((first|refine mr ?_|refine mre ?_);intro K hK) ;simp (disch:=omega) only[Ac,↓Pc,simprocAttr,Mc])|(with_reducible refine gO ?_;simp (disch:=omega) only[Ac,↓Pc,simprocAttr,Mc])|(refine hK _ _ ?_;clear hK K)|(with_reducible refine gS (fun hb'=>?_) (fun hb'=>?_)<;>(have hb:=hb';(try simp only[DEc,simprocAttr] at hb);simp (disch:=omega) only[Ac,↓Pc,simprocAttr,Mc,hb'];clear hb'))|(refine mc (fun ht=>?_) (fun ht=>?_)<;>(try simp only[DEc,simprocAttr] at ht))|refine WM_z rfl ?_|(refine WM_block ?_;intro Qb hnb hxb heb)|(refine WM_k ?_;intro Q hn he)|((first|refine hn _ _ ?_|refine he _ _ _ rfl ?_);clear hn he;try clear Q)|((first|refine hnb _ _ ?_|refine hxb _ _ ?_|refine heb _ _ _ rfl ?_);clear hnb hxb heb;try clear Qb)|(refine hel _ _ _ rfl ?_;clear hnl hel;try clear Ql)|with_reducible refine And.intro ?_ ?_|omega|with_reducible rfl)
  refine WM_loop (fun k:Nat=>(⟨slots [(1,.tree 1 (rowsOf eBs left)),(2,.ptr 0 0 0),(5,.lit (.map (some b0))),(17,.tree 3 (rowsOf eLd c.loads)),(18,.lit (.int .i64 c.loads.length)),(19,.lit (.int .i64 k))],[.var (eCt c)]⟩:St))
    (fun k m=>k≤c.loads.length∧∃ A,GI left.length (c.loads.take k) A b0 m) (fun k=>c.loads.length - k) 0 ⟨Nat.zero_le _,[],by rw[List.take_zero];exact GI.nil (updM_same _ _ _)⟩ (by (refine TurnsM.slots _ _ rfl ?_;simp only[Tc,↓reduceIte,reduceEqDiff,Nat.reduceBEq,reduceAdd];try trivial)) ?_
  rintro k m0 ⟨hk,A,hA⟩ Ql hnl hel
  by_cases hk':k<c.loads.length
  · have hx:=hc _ (getD_mem (d:=default) hk')
    have htk:c.loads.take (k+1)=c.loads.take k++[c.loads.getD k default]:=by
      rw[List.take_succ_eq_append_getElem hk',List.getD_eq_getElem?_getD,List.getElem?_eq_getElem hk'];rfl
    generalize hxx:c.loads.getD k default=x at *
    repeat' (first|(((first|refine mr ?_|refine mre ?_);intro K hK) ;simp (disch:=omega) only[Ac,↓Pc,simprocAttr,hxx,Mc])|(with_reducible refine gO ?_;simp (disch:=omega) only[Ac,↓Pc,simprocAttr,hxx,Mc])|(refine hK _ _ ?_;clear hK K)|(with_reducible refine gS (fun hb'=>?_) (fun hb'=>?_)<;>(have hb:=hb';(try simp only[DEc,simprocAttr] at hb);simp (disch:=omega) only[Ac,↓Pc,simprocAttr,hxx,Mc,hb'];clear hb'))|(refine mc (fun ht=>?_) (fun ht=>?_)<;>(try simp only[DEc,simprocAttr] at ht))|refine WM_z rfl ?_|(refine WM_block ?_;intro Qb hnb hxb heb)|(refine WM_k ?_;intro Q hn he)|((first|refine hn _ _ ?_|refine he _ _ _ rfl ?_);clear hn he;try clear Q)|((first|refine hnb _ _ ?_|refine hxb _ _ ?_|refine heb _ _ _ rfl ?_);clear hnb hxb heb;try clear Qb)|with_reducible refine And.intro ?_ ?_|omega|with_reducible rfl)
    have fin:∀ A1 m1,GI left.length (c.loads.take k) A1 b0 m1→(∃ e∈A1,e.1=x.cls)→∃ e∈A1,e.1=x.cls∧getI x.cls (gE A1)=some (.map (some e.2.1)):=fun A1 m1 h1 h2=>by
      rcases getI_gE x.cls A1 with ⟨_,g⟩ | g
      · obtain ⟨e,he,hh⟩:=h2;exact absurd hh (g e he)
      · exact g
    rcases getI_gE x.cls A with ⟨g1,g2⟩ | ⟨e0,g1,g2,g3⟩
    · refine om_look (by simp only[Kc,simprocAttr]<;>exact rfl) (by simp only[Kc,simprocAttr]<;>exact rfl) kz104 hA.top ?_
      rw[g1]
      repeat' (first|(((first|refine mr ?_|refine mre ?_);intro K hK) ;simp (disch:=omega) only[Ac,↓Pc,simprocAttr,im105,Option.getD_none,Option.isNone_none,Mc])|(with_reducible refine gO ?_;simp (disch:=omega) only[Ac,↓Pc,simprocAttr,im105,Option.getD_none,Option.isNone_none,Mc])|(refine hK _ _ ?_;clear hK K)|(with_reducible refine gS (fun hb'=>?_) (fun hb'=>?_)<;>(have hb:=hb';(try simp only[DEc,simprocAttr] at hb);simp (disch:=omega) only[Ac,↓Pc,simprocAttr,im105,Option.getD_none,Option.isNone_none,Mc,hb'];clear hb'))|(refine mc (fun ht=>?_) (fun ht=>?_)<;>(try simp only[DEc,simprocAttr] at ht))|refine WM_z rfl ?_|(refine WM_block ?_;intro Qb hnb hxb heb)|(refine WM_k ?_;intro Q hn he)|((first|refine hn _ _ ?_|refine he _ _ _ rfl ?_);clear hn he;try clear Q)|((first|refine hnb _ _ ?_|refine hxb _ _ ?_|refine heb _ _ _ rfl ?_);clear hnb hxb heb;try clear Qb)|with_reducible refine And.intro ?_ ?_|omega|with_reducible rfl)
      refine om_make fun b hb=>?_
      repeat' (first|(((first|refine mr ?_|refine mre ?_);intro K hK) ;simp (disch:=omega) only[Ac,↓Pc,simprocAttr,Mc])|(with_reducible refine gO ?_;simp (disch:=omega) only[Ac,↓Pc,simprocAttr,Mc])|(refine hK _ _ ?_;clear hK K)|(with_reducible refine gS (fun hb'=>?_) (fun hb'=>?_)<;>(have hb:=hb';(try simp only[DEc,simprocAttr] at hb);simp (disch:=omega) only[Ac,↓Pc,simprocAttr,Mc,hb'];clear hb'))|(refine mc (fun ht=>?_) (fun ht=>?_)<;>(try simp only[DEc,simprocAttr] at ht))|refine WM_z rfl ?_|(refine WM_block ?_;intro Qb hnb hxb heb)|(refine WM_k ?_;intro Q hn he)|((first|refine hn _ _ ?_|refine he _ _ _ rfl ?_);clear hn he;try clear Q)|((first|refine hnb _ _ ?_|refine hxb _ _ ?_|refine heb _ _ _ rfl ?_);clear hnb hxb heb;try clear Qb)|with_reducible refine And.intro ?_ ?_|omega|with_reducible rfl)
      refine om_upd (by simp only[Kc,simprocAttr]<;>exact rfl) (by simp only[Kc,simprocAttr]<;>exact rfl) (by simp only[Kc,simprocAttr]<;>exact rfl) km104 (by rw[updM_ne _ _ (fun e=>by rw[← e,hA.top] at hb;cases hb)];exact hA.top) ?_
      have hA1:=hA.new hx.1 g2 hb
      obtain ⟨e1,k1,k2,k3⟩:=fin _ _ hA1 ⟨(x.cls,b,[]),by simp,rfl⟩
      repeat' (first|(((first|refine mr ?_|refine mre ?_);intro K hK) ;simp (disch:=omega) only[Ac,↓Pc,simprocAttr,hxx,Mc])|(with_reducible refine gO ?_;simp (disch:=omega) only[Ac,↓Pc,simprocAttr,hxx,Mc])|(refine hK _ _ ?_;clear hK K)|(with_reducible refine gS (fun hb'=>?_) (fun hb'=>?_)<;>(have hb:=hb';(try simp only[DEc,simprocAttr] at hb);simp (disch:=omega) only[Ac,↓Pc,simprocAttr,hxx,Mc,hb'];clear hb'))|(refine mc (fun ht=>?_) (fun ht=>?_)<;>(try simp only[DEc,simprocAttr] at ht))|refine WM_z rfl ?_|(refine WM_block ?_;intro Qb hnb hxb heb)|(refine WM_k ?_;intro Q hn he)|((first|refine hn _ _ ?_|refine he _ _ _ rfl ?_);clear hn he;try clear Q)|((first|refine hnb _ _ ?_|refine hxb _ _ ?_|refine heb _ _ _ rfl ?_);clear hnb hxb heb;try clear Qb)|with_reducible refine And.intro ?_ ?_|omega|with_reducible rfl)
      refine om_look (by simp only[Kc,simprocAttr]<;>exact rfl) (by simp only[Kc,simprocAttr]<;>exact rfl) kz104 hA1.top ?_
      rw[k3]
      repeat' (first|(((first|refine mr ?_|refine mre ?_);intro K hK) ;simp (disch:=omega) only[Ac,↓Pc,simprocAttr,hxx,Option.getD_some,Mc])|(with_reducible refine gO ?_;simp (disch:=omega) only[Ac,↓Pc,simprocAttr,hxx,Option.getD_some,Mc])|(refine hK _ _ ?_;clear hK K)|(with_reducible refine gS (fun hb'=>?_) (fun hb'=>?_)<;>(have hb:=hb';(try simp only[DEc,simprocAttr] at hb);simp (disch:=omega) only[Ac,↓Pc,simprocAttr,hxx,Option.getD_some,Mc,hb'];clear hb'))|(refine mc (fun ht=>?_) (fun ht=>?_)<;>(try simp only[DEc,simprocAttr] at ht))|refine WM_z rfl ?_|(refine WM_block ?_;intro Qb hnb hxb heb)|(refine WM_k ?_;intro Q hn he)|((first|refine hn _ _ ?_|refine he _ _ _ rfl ?_);clear hn he;try clear Q)|((first|refine hnb _ _ ?_|refine hxb _ _ ?_|refine heb _ _ _ rfl ?_);clear hnb hxb heb;try clear Qb)|with_reducible refine And.intro ?_ ?_|omega|with_reducible rfl)
      refine om_upd (by simp only[Kc,simprocAttr]<;>exact rfl) (by simp only[Kc,simprocAttr]<;>exact rfl) (by simp only[Kc,simprocAttr]<;>exact rfl) km105 (hA1.sub e1 k1) ?_
      repeat' (first|(((first|refine mr ?_|refine mre ?_);intro K hK) ;simp (disch:=omega) only[Ac,↓Pc,simprocAttr,Mc])|(with_reducible refine gO ?_;simp (disch:=omega) only[Ac,↓Pc,simprocAttr,Mc])|(refine hK _ _ ?_;clear hK K)|(with_reducible refine gS (fun hb'=>?_) (fun hb'=>?_)<;>(have hb:=hb';(try simp only[DEc,simprocAttr] at hb);simp (disch:=omega) only[Ac,↓Pc,simprocAttr,Mc,hb'];clear hb'))|(refine mc (fun ht=>?_) (fun ht=>?_)<;>(try simp only[DEc,simprocAttr] at ht))|refine WM_z rfl ?_|(refine WM_block ?_;intro Qb hnb hxb heb)|(refine WM_k ?_;intro Q hn he)|((first|refine hn _ _ ?_|refine he _ _ _ rfl ?_);clear hn he;try clear Q)|((first|refine hnb _ _ ?_|refine hxb _ _ ?_|refine heb _ _ _ rfl ?_);clear hnb hxb heb;try clear Qb)|with_reducible refine And.intro ?_ ?_|omega|with_reducible rfl)
      exact hnl _ _ (k+1) ⟨by omega,_,by rw[htk];exact hA1.put k1 k2⟩ (by omega) (by (refine TurnsM.se [0] false (by simp only[Oc,simprocAttr]) ?_;simp only[Hr,↓reduceIte,reduceEqDiff,Nat.reduceBEq,reduceAdd];try (and_intros<;>first|exact .pure rfl|exact .eq rfl|exact .fz rfl (by simp only[Bc,Rc]))))
    · refine om_look (by simp only[Kc,simprocAttr]<;>exact rfl) (by simp only[Kc,simprocAttr]<;>exact rfl) kz104 hA.top ?_
      rw[g3]
      repeat' (first|(((first|refine mr ?_|refine mre ?_);intro K hK) ;simp (disch:=omega) only[Ac,↓Pc,simprocAttr,im105,Option.getD_some,Option.isNone_some,Mc])|(with_reducible refine gO ?_;simp (disch:=omega) only[Ac,↓Pc,simprocAttr,im105,Option.getD_some,Option.isNone_some,Mc])|(refine hK _ _ ?_;clear hK K)|(with_reducible refine gS (fun hb'=>?_) (fun hb'=>?_)<;>(have hb:=hb';(try simp only[DEc,simprocAttr] at hb);simp (disch:=omega) only[Ac,↓Pc,simprocAttr,im105,Option.getD_some,Option.isNone_some,Mc,hb'];clear hb'))|(refine mc (fun ht=>?_) (fun ht=>?_)<;>(try simp only[DEc,simprocAttr] at ht))|refine WM_z rfl ?_|(refine WM_block ?_;intro Qb hnb hxb heb)|(refine WM_k ?_;intro Q hn he)|((first|refine hn _ _ ?_|refine he _ _ _ rfl ?_);clear hn he;try clear Q)|((first|refine hnb _ _ ?_|refine hxb _ _ ?_|refine heb _ _ _ rfl ?_);clear hnb hxb heb;try clear Qb)|with_reducible refine And.intro ?_ ?_|omega|with_reducible rfl)
      refine om_look (by simp only[Kc,simprocAttr]<;>exact rfl) (by simp only[Kc,simprocAttr]<;>exact rfl) kz104 hA.top ?_
      rw[g3]
      repeat' (first|(((first|refine mr ?_|refine mre ?_);intro K hK) ;simp (disch:=omega) only[Ac,↓Pc,simprocAttr,hxx,Option.getD_some,Mc])|(with_reducible refine gO ?_;simp (disch:=omega) only[Ac,↓Pc,simprocAttr,hxx,Option.getD_some,Mc])|(refine hK _ _ ?_;clear hK K)|(with_reducible refine gS (fun hb'=>?_) (fun hb'=>?_)<;>(have hb:=hb';(try simp only[DEc,simprocAttr] at hb);simp (disch:=omega) only[Ac,↓Pc,simprocAttr,hxx,Option.getD_some,Mc,hb'];clear hb'))|(refine mc (fun ht=>?_) (fun ht=>?_)<;>(try simp only[DEc,simprocAttr] at ht))|refine WM_z rfl ?_|(refine WM_block ?_;intro Qb hnb hxb heb)|(refine WM_k ?_;intro Q hn he)|((first|refine hn _ _ ?_|refine he _ _ _ rfl ?_);clear hn he;try clear Q)|((first|refine hnb _ _ ?_|refine hxb _ _ ?_|refine heb _ _ _ rfl ?_);clear hnb hxb heb;try clear Qb)|with_reducible refine And.intro ?_ ?_|omega|with_reducible rfl)
      refine om_upd (by simp only[Kc,simprocAttr]<;>exact rfl) (by simp only[Kc,simprocAttr]<;>exact rfl) (by simp only[Kc,simprocAttr]<;>exact rfl) km105 (hA.sub e0 g1) ?_
      repeat' (first|(((first|refine mr ?_|refine mre ?_);intro K hK) ;simp (disch:=omega) only[Ac,↓Pc,simprocAttr,Mc])|(with_reducible refine gO ?_;simp (disch:=omega) only[Ac,↓Pc,simprocAttr,Mc])|(refine hK _ _ ?_;clear hK K)|(with_reducible refine gS (fun hb'=>?_) (fun hb'=>?_)<;>(have hb:=hb';(try simp only[DEc,simprocAttr] at hb);simp (disch:=omega) only[Ac,↓Pc,simprocAttr,Mc,hb'];clear hb'))|(refine mc (fun ht=>?_) (fun ht=>?_)<;>(try simp only[DEc,simprocAttr] at ht))|refine WM_z rfl ?_|(refine WM_block ?_;intro Qb hnb hxb heb)|(refine WM_k ?_;intro Q hn he)|((first|refine hn _ _ ?_|refine he _ _ _ rfl ?_);clear hn he;try clear Q)|((first|refine hnb _ _ ?_|refine hxb _ _ ?_|refine heb _ _ _ rfl ?_);clear hnb hxb heb;try clear Qb)|with_reducible refine And.intro ?_ ?_|omega|with_reducible rfl)
      exact hnl _ _ (k+1) ⟨by omega,_,by rw[htk];exact hA.put g1 g2⟩ (by omega) (by (refine TurnsM.se [0] false (by simp only[Oc,simprocAttr]) ?_;simp only[Hr,↓reduceIte,reduceEqDiff,Nat.reduceBEq,reduceAdd];try (and_intros<;>first|exact .pure rfl|exact .eq rfl|exact .fz rfl (by simp only[Bc,Rc]))))
  · rw[List.take_of_length_le (by omega)] at hA
    repeat' (first|(((first|refine mr ?_|refine mre ?_);intro K hK) ;simp (disch:=omega) only[Ac,↓Pc,simprocAttr,Mc])|(with_reducible refine gO ?_;simp (disch:=omega) only[Ac,↓Pc,simprocAttr,Mc])|(refine hK _ _ ?_;clear hK K)|(with_reducible refine gS (fun hb'=>?_) (fun hb'=>?_)<;>(have hb:=hb';(try simp only[DEc,simprocAttr] at hb);simp (disch:=omega) only[Ac,↓Pc,simprocAttr,Mc,hb'];clear hb'))|(refine mc (fun ht=>?_) (fun ht=>?_)<;>(try simp only[DEc,simprocAttr] at ht))|refine WM_z rfl ?_|(refine WM_block ?_;intro Qb hnb hxb heb)|(refine WM_k ?_;intro Q hn he)|((first|refine hn _ _ ?_|refine he _ _ _ rfl ?_);clear hn he;try clear Q)|((first|refine hnb _ _ ?_|refine hxb _ _ ?_|refine heb _ _ _ rfl ?_);clear hnb hxb heb;try clear Qb)|with_reducible refine And.intro ?_ ?_|omega|with_reducible rfl)
    refine hel _ _ _ rfl ?_;clear hnl hel Ql
    repeat (first|((first|refine hn _ _ ?_|refine he _ _ _ rfl ?_);clear hn he;try clear Q)|((first|refine hnb _ _ ?_|refine hxb _ _ ?_|refine heb _ _ _ rfl ?_);clear hnb hxb heb;try clear Qb)|(refine hel _ _ _ rfl ?_;clear hnl hel;try clear Ql))
    repeat' (first|(((first|refine mr ?_|refine mre ?_);intro K hK) ;simp (disch:=omega) only[Ac,↓Pc,simprocAttr,Mc])|(with_reducible refine gO ?_;simp (disch:=omega) only[Ac,↓Pc,simprocAttr,Mc])|(refine hK _ _ ?_;clear hK K)|(with_reducible refine gS (fun hb'=>?_) (fun hb'=>?_)<;>(have hb:=hb';(try simp only[DEc,simprocAttr] at hb);simp (disch:=omega) only[Ac,↓Pc,simprocAttr,Mc,hb'];clear hb'))|(refine mc (fun ht=>?_) (fun ht=>?_)<;>(try simp only[DEc,simprocAttr] at ht))|refine WM_z rfl ?_|(refine WM_block ?_;intro Qb hnb hxb heb)|(refine WM_k ?_;intro Q hn he)|((first|refine hn _ _ ?_|refine he _ _ _ rfl ?_);clear hn he;try clear Q)|((first|refine hnb _ _ ?_|refine hxb _ _ ?_|refine heb _ _ _ rfl ?_);clear hnb hxb heb;try clear Qb)|(refine hel _ _ _ rfl ?_;clear hnl hel;try clear Ql)|with_reducible refine And.intro ?_ ?_|omega|with_reducible rfl)
    have hcA:=hA.rng
    have hsum:=hA.sum
    have hwt:∀ x∈c.loads,1≤x.wt∧x.wt≤1000:=fun x hx=>(hc x hx).2
    have hsr:=lowS_rg hwt left
    generalize hf:(fun j:Nat=>lowC c.loads (A.getD j (0,0,[])).1 (left.getD (A.getD j (0,0,[])).1.toNat []))=f
    have hf1:∀ j,lowC c.loads (A.getD j (0,0,[])).1 (left.getD (A.getD j (0,0,[])).1.toNat [])=f j:=fun j=>by rw[← hf]
    have hfr:∀ j,0≤f j∧f j≤1000:=fun j=>by rw[← hf1];exact lowC_rg hwt _ _
    have hAl:A.length≤left.length:=hA.len
    refine om_range (by simp only[Kc,simprocAttr]<;>exact rfl) im104 hA.top fun r hr=>?_
    repeat' (first|(((first|refine mr ?_|refine mre ?_);intro K hK) ;simp (disch:=omega) only[Ac,↓Pc,simprocAttr,Mc])|(with_reducible refine gO ?_;simp (disch:=omega) only[Ac,↓Pc,simprocAttr,Mc])|(refine hK _ _ ?_;clear hK K)|(with_reducible refine gS (fun hb'=>?_) (fun hb'=>?_)<;>(have hb:=hb';(try simp only[DEc,simprocAttr] at hb);simp (disch:=omega) only[Ac,↓Pc,simprocAttr,Mc,hb'];clear hb'))|(refine mc (fun ht=>?_) (fun ht=>?_)<;>(try simp only[DEc,simprocAttr] at ht))|refine WM_z rfl ?_|(refine WM_block ?_;intro Qb hnb hxb heb)|(refine WM_k ?_;intro Q hn he)|((first|refine hn _ _ ?_|refine he _ _ _ rfl ?_);clear hn he;try clear Q)|((first|refine hnb _ _ ?_|refine hxb _ _ ?_|refine heb _ _ _ rfl ?_);clear hnb hxb heb;try clear Qb)|(refine hel _ _ _ rfl ?_;clear hnl hel;try clear Ql)|with_reducible refine And.intro ?_ ?_|omega|with_reducible rfl)
    refine WM_loop (fun seen:List Nat=>(⟨slots [(1,.tree 1 (rowsOf eBs left)),(2,.ptr 0 0 0),(8,.lit (.int .i64 (sumI f seen A.length))),(42,.lit (.pointer (some ⟨r,0,none⟩)))],[.var (eCt c)]⟩:St))
      (fun seen m=>GI left.length c.loads A b0 m∧m r=some (.iter b0 A.length seen)) (fun seen=>leftN seen A.length) [] ⟨hA.other _ (fun l=>by rw[hr];simp),by rw[updM_same,gE_length]⟩ (by (refine TurnsM.slots _ _ rfl ?_;simp only[Tc,↓reduceIte,reduceEqDiff,Nat.reduceBEq,reduceAdd,sumI_nil];try trivial)) ?_
    rintro seen m1 ⟨hA1,hr1⟩ Ql hnl hel
    repeat' (first|(((first|refine mr ?_|refine mre ?_);intro K hK) ;simp (disch:=omega) only[Ac,↓Pc,simprocAttr,Mc])|(with_reducible refine gO ?_;simp (disch:=omega) only[Ac,↓Pc,simprocAttr,Mc])|(refine hK _ _ ?_;clear hK K)|(with_reducible refine gS (fun hb'=>?_) (fun hb'=>?_)<;>(have hb:=hb';(try simp only[DEc,simprocAttr] at hb);simp (disch:=omega) only[Ac,↓Pc,simprocAttr,Mc,hb'];clear hb'))|(refine mc (fun ht=>?_) (fun ht=>?_)<;>(try simp only[DEc,simprocAttr] at ht))|refine WM_z rfl ?_|(refine WM_block ?_;intro Qb hnb hxb heb)|(refine WM_k ?_;intro Q hn he)|((first|refine hn _ _ ?_|refine he _ _ _ rfl ?_);clear hn he;try clear Q)|((first|refine hnb _ _ ?_|refine hxb _ _ ?_|refine heb _ _ _ rfl ?_);clear hnb hxb heb;try clear Qb)|with_reducible refine And.intro ?_ ?_|omega|with_reducible rfl)
    refine om_next (b:=b0) (seen:=seen) (ents:=iE (gE A)) (by simp only[Kc,simprocAttr]<;>exact rfl) (by rw[gE_length];exact hr1) hA1.top (fun hall=>?_) (fun j p hp hj=>?_)
    · rw[gE_length] at hall
      rw[sumI_all hall,← hf,sumN_sumA (fun c'=>lowC c.loads c' (left.getD c'.toNat [])),hsum]
      repeat' (first|(((first|refine mr ?_|refine mre ?_);intro K hK) ;simp (disch:=omega) only[Ac,↓Pc,simprocAttr,Mc])|(with_reducible refine gO ?_;simp (disch:=omega) only[Ac,↓Pc,simprocAttr,Mc])|(refine hK _ _ ?_;clear hK K)|(with_reducible refine gS (fun hb'=>?_) (fun hb'=>?_)<;>(have hb:=hb';(try simp only[DEc,simprocAttr] at hb);simp (disch:=omega) only[Ac,↓Pc,simprocAttr,Mc,hb'];clear hb'))|(refine mc (fun ht=>?_) (fun ht=>?_)<;>(try simp only[DEc,simprocAttr] at ht))|refine WM_z rfl ?_|(refine WM_block ?_;intro Qb hnb hxb heb)|(refine WM_k ?_;intro Q hn he)|((first|refine hn _ _ ?_|refine he _ _ _ rfl ?_);clear hn he;try clear Q)|((first|refine hnb _ _ ?_|refine hxb _ _ ?_|refine heb _ _ _ rfl ?_);clear hnb hxb heb;try clear Qb)|with_reducible refine And.intro ?_ ?_|omega|with_reducible rfl)
      refine hel _ _ _ rfl ?_;clear hnl hel Ql
      repeat (first|((first|refine hn _ _ ?_|refine he _ _ _ rfl ?_);clear hn he;try clear Q)|((first|refine hnb _ _ ?_|refine hxb _ _ ?_|refine heb _ _ _ rfl ?_);clear hnb hxb heb;try clear Qb)|(refine hel _ _ _ rfl ?_;clear hnl hel;try clear Ql))
      repeat' (first|(((first|refine mr ?_|refine mre ?_);intro K hK) ;simp (disch:=omega) only[Ac,↓Pc,simprocAttr,Mc])|(with_reducible refine gO ?_;simp (disch:=omega) only[Ac,↓Pc,simprocAttr,Mc])|(first|refine callK_pure (excess_ok c (lowS c.loads 0 left 0) hm (by omega) hsr.1 hp) rfl rfl ?_|refine callQ_pure (excess_ok c (lowS c.loads 0 left 0) hm (by omega) hsr.1 hp) rfl rfl ?_)|(refine hK _ _ ?_;clear hK K)|(with_reducible refine gS (fun hb'=>?_) (fun hb'=>?_)<;>(have hb:=hb';(try simp only[DEc,simprocAttr] at hb);simp (disch:=omega) only[Ac,↓Pc,simprocAttr,Mc,hb'];clear hb'))|(refine mc (fun ht=>?_) (fun ht=>?_)<;>(try simp only[DEc,simprocAttr] at ht))|refine WM_z rfl ?_|(refine WM_block ?_;intro Qb hnb hxb heb)|(refine WM_k ?_;intro Q hn he)|((first|refine hn _ _ ?_|refine he _ _ _ rfl ?_);clear hn he;try clear Q)|((first|refine hnb _ _ ?_|refine hxb _ _ ?_|refine heb _ _ _ rfl ?_);clear hnb hxb heb;try clear Qb)|(refine hel _ _ _ rfl ?_;clear hnl hel;try clear Ql)|with_reducible refine And.intro ?_ ?_|omega|with_reducible rfl)
      repeat' (first|(refine Xr X0 ?_;intro K hK)|refine Xo X0 ?_|(refine hK _ ?_;clear hK K)|(refine Xg X0 ?_ ?_<;>try intro hb)|(refine Xi ?_ ?_<;>try intro ht)|refine Xz ?_|refine Xh ?_|(refine Xe ?_;first|refine RetOK_pure' rfl ?_|refine Xl ?_ ?_)|refine Xd ?_ ?_|omega|with_reducible rfl|exact trivial)
      rfl
    · rw[iE_get,gE_get] at hp
      cases he:A[j]? with
      | none=>rw[he] at hp;simp at hp
      | some e =>
        rw[he] at hp
        simp only[Option.map_some,Option.some.injEq] at hp
        subst hp
        have hjl:=(List.getElem?_eq_some_iff.1 he).1
        have hea:A.getD j (0,0,[])=e:=by rw[List.getD_eq_getElem?_getD,he];rfl
        have heA:e∈A:=List.mem_of_getElem? he
        obtain ⟨hc0,hc1⟩:=hcA e heA
        have hfj:=hf1 j
        rw[hea] at hfj
        have hval:=hA1.val e heA
        have hsub:=hA1.sub e heA
        have hrl:=hrow _ (getD_mem (l:=left) (i:=e.1.toNat) (d:=[]) (by omega))
        have hsi:=sumI_rg (f:=f) (B:=1000) (seen:=seen) (n:=A.length) (by omega) fun i _=>hfr i
        have hst:=sumI_step (f:=f) hjl hj
        have hlt:=leftN_step hjl hj
        generalize hro:left.getD e.1.toNat []=row at *
        have hro':left.getD e.1.toNat default=row:=hro
        repeat' (first|(((first|refine mr ?_|refine mre ?_);intro K hK) ;simp (disch:=omega) only[Ac,↓Pc,simprocAttr,Mc])|(with_reducible refine gO ?_;simp (disch:=omega) only[Ac,↓Pc,simprocAttr,Mc])|(refine hK _ _ ?_;clear hK K)|(with_reducible refine gS (fun hb'=>?_) (fun hb'=>?_)<;>(have hb:=hb';(try simp only[DEc,simprocAttr] at hb);simp (disch:=omega) only[Ac,↓Pc,simprocAttr,Mc,hb'];clear hb'))|(refine mc (fun ht=>?_) (fun ht=>?_)<;>(try simp only[DEc,simprocAttr] at ht))|refine WM_z rfl ?_|(refine WM_block ?_;intro Qb hnb hxb heb)|(refine WM_k ?_;intro Q hn he)|((first|refine hn _ _ ?_|refine he _ _ _ rfl ?_);clear hn he;try clear Q)|((first|refine hnb _ _ ?_|refine hxb _ _ ?_|refine heb _ _ _ rfl ?_);clear hnb hxb heb;try clear Qb)|with_reducible refine And.intro ?_ ?_|omega|with_reducible rfl)
        refine om_entry (seen:=seen) (j:=j) (b:=b0) (ents:=iE (gE A)) (q:=(.int .i64 e.1,.map (some e.2.1))) (by simp only[Kc,simprocAttr]<;>exact rfl) (updM_same _ _ _) (by rw[updM_ne _ _ (fun e2=>by rw[← e2,hA1.top] at hr1;cases hr1)];exact hA1.top) (by rw[iE_get,gE_get,he];rfl) ?_
        repeat' (first|(((first|refine mr ?_|refine mre ?_);intro K hK) ;simp (disch:=omega) only[Ac,↓Pc,simprocAttr,hro',eBs,Mc])|(with_reducible refine gO ?_;simp (disch:=omega) only[Ac,↓Pc,simprocAttr,hro',eBs,Mc])|(refine hK _ _ ?_;clear hK K)|(with_reducible refine gS (fun hb'=>?_) (fun hb'=>?_)<;>(have hb:=hb';(try simp only[DEc,simprocAttr] at hb);simp (disch:=omega) only[Ac,↓Pc,simprocAttr,hro',eBs,Mc,hb'];clear hb'))|(refine mc (fun ht=>?_) (fun ht=>?_)<;>(try simp only[DEc,simprocAttr] at ht))|refine WM_z rfl ?_|(refine WM_block ?_;intro Qb hnb hxb heb)|(refine WM_k ?_;intro Q hn he)|((first|refine hn _ _ ?_|refine he _ _ _ rfl ?_);clear hn he;try clear Q)|((first|refine hnb _ _ ?_|refine hxb _ _ ?_|refine heb _ _ _ rfl ?_);clear hnb hxb heb;try clear Qb)|with_reducible refine And.intro ?_ ?_|omega|with_reducible rfl)
        generalize hm2:updM m1 r (.iter b0 (iE (gE A)).length (seen++[j]))=m2
        have hr2:m2 r=some (.iter b0 A.length (seen++[j])):=by rw[← hm2,updM_same,gE_length]
        have hA2:GI left.length c.loads A b0 m2:=by rw[← hm2];exact hA1.other _ fun l=>by rw[hr1];simp
        have hsub2:=hA2.sub e heA
        clear hsub
        refine WM_loop (fun o:Nat=>(⟨slots [(1,.tree 1 (rowsOf eBs left)),(2,.ptr 0 0 0),(8,.lit (.int .i64 (sumI f seen A.length))),(42,.lit (.pointer (some ⟨r,0,none⟩))),(10,.lit (.map (some e.2.1))),(11,.lit (.int .i64 (lowW c.loads e.1 0 (row.take o) (-1)))),(51,.tree 1 (bools row)),(52,.lit (.int .i64 row.length)),(53,.lit (.int .i64 o))],[.var (eCt c)]⟩:St))
          (fun o m=>o≤row.length∧m=m2) (fun o=>row.length - o) 0 ⟨Nat.zero_le _,rfl⟩ (by (refine TurnsM.slots _ _ rfl ?_;simp only[Tc,↓reduceIte,reduceEqDiff,Nat.reduceBEq,reduceAdd,List.take_zero,lowW];try trivial)) ?_
        rintro o m3 ⟨ho,rfl⟩ Ql2 hnl2 hel2
        have hb:=lowW_rg hwt e.1 (row.take o) 0 (-1) (by omega)
        by_cases ho':o<row.length
        · have htk:lowW c.loads e.1 0 (row.take (o+1)) (-1)=if row.getD o false=true∧(lowW c.loads e.1 0 (row.take o) (-1)<0∨wlV c.loads e.1 o 0<lowW c.loads e.1 0 (row.take o) (-1)) then wlV c.loads e.1 o 0 else lowW c.loads e.1 0 (row.take o) (-1):=by
            rw[List.take_succ_eq_append_getElem ho',lowW_snoc,List.getD_eq_getElem?_getD,List.getElem?_eq_getElem ho',List.length_take,Nat.min_eq_left (by omega),Nat.zero_add];rfl
          have hw:=wlV_rg hwt e.1 o 0 (by omega)
          have hv:=hval o
          generalize lowW c.loads e.1 0 (row.take o) (-1)=b at *
          generalize wlV c.loads e.1 o 0=w at *
          generalize hiss:row.getD o false=is at *
          repeat' (first|(((first|refine mr ?_|refine mre ?_);intro K hK) ;simp (disch:=omega) only[Ac,↓Pc,simprocAttr,hiss,Mc])|(with_reducible refine gO ?_;simp (disch:=omega) only[Ac,↓Pc,simprocAttr,hiss,Mc])|(refine hK _ _ ?_;clear hK K)|(with_reducible refine gS (fun hb'=>?_) (fun hb'=>?_)<;>(have hb:=hb';(try simp only[DEc,simprocAttr] at hb);simp (disch:=omega) only[Ac,↓Pc,simprocAttr,hiss,Mc,hb'];clear hb'))|(refine mc (fun ht=>?_) (fun ht=>?_)<;>(try simp only[DEc,simprocAttr] at ht))|refine WM_z rfl ?_|(refine WM_block ?_;intro Qb hnb hxb heb)|(refine WM_k ?_;intro Q hn he)|((first|refine hn _ _ ?_|refine he _ _ _ rfl ?_);clear hn he;try clear Q)|((first|refine hnb _ _ ?_|refine hxb _ _ ?_|refine heb _ _ _ rfl ?_);clear hnb hxb heb;try clear Qb)|with_reducible refine And.intro ?_ ?_|omega|with_reducible rfl)
          refine om_look (by simp only[Kc,simprocAttr]<;>exact rfl) (by simp only[Kc,simprocAttr]<;>exact rfl) kz105 hsub2 ?_
          rw[getI_vE,hv]
          repeat' (first|(((first|refine mr ?_|refine mre ?_);intro K hK) ;simp (disch:=omega) only[Ac,↓Pc,simprocAttr,hiss,Mc])|(with_reducible refine gO ?_;simp (disch:=omega) only[Ac,↓Pc,simprocAttr,hiss,Mc])|(refine hK _ _ ?_;clear hK K)|(with_reducible refine gS (fun hb'=>?_) (fun hb'=>?_)<;>(have hb:=hb';(try simp only[DEc,simprocAttr] at hb);simp (disch:=omega) only[Ac,↓Pc,simprocAttr,hiss,Mc,hb'];clear hb'))|(refine mc (fun ht=>?_) (fun ht=>?_)<;>(try simp only[DEc,simprocAttr] at ht))|refine WM_z rfl ?_|(refine WM_block ?_;intro Qb hnb hxb heb)|(refine WM_k ?_;intro Q hn he)|((first|refine hn _ _ ?_|refine he _ _ _ rfl ?_);clear hn he;try clear Q)|((first|refine hnb _ _ ?_|refine hxb _ _ ?_|refine heb _ _ _ rfl ?_);clear hnb hxb heb;try clear Qb)|with_reducible refine And.intro ?_ ?_|omega|with_reducible rfl)
          all_goals
            refine hnl2 _ _ (o+1) ⟨by omega,rfl⟩ (by omega) ?_
            simp only[htk]
            first
              | rw[if_pos ⟨by assumption,by omega⟩]
              | rw[if_neg (by rintro ⟨h1,h2⟩;first|omega|(simp only[h1] at *;contradiction)|simp_all)]
            (refine TurnsM.slots _ _ rfl ?_;simp only[Tc,↓reduceIte,reduceEqDiff,Nat.reduceBEq,reduceAdd];try trivial)
        · rw[List.take_of_length_le (by omega)] at hb
          have hlc:max (lowW c.loads e.1 0 row (-1)) 0=f j:=hfj
          repeat' (first|(((first|refine mr ?_|refine mre ?_);intro K hK) ;simp (disch:=omega) only[Ac,↓Pc,simprocAttr,List.take_of_length_le (show row.length≤o by omega),Mc])|(with_reducible refine gO ?_;simp (disch:=omega) only[Ac,↓Pc,simprocAttr,List.take_of_length_le (show row.length≤o by omega),Mc])|(refine hK _ _ ?_;clear hK K)|(with_reducible refine gS (fun hb'=>?_) (fun hb'=>?_)<;>(have hb:=hb';(try simp only[DEc,simprocAttr] at hb);simp (disch:=omega) only[Ac,↓Pc,simprocAttr,List.take_of_length_le (show row.length≤o by omega),Mc,hb'];clear hb'))|(refine mc (fun ht=>?_) (fun ht=>?_)<;>(try simp only[DEc,simprocAttr] at ht))|refine WM_z rfl ?_|(refine WM_block ?_;intro Qb hnb hxb heb)|(refine WM_k ?_;intro Q hn he)|((first|refine hn _ _ ?_|refine he _ _ _ rfl ?_);clear hn he;try clear Q)|((first|refine hnb _ _ ?_|refine hxb _ _ ?_|refine heb _ _ _ rfl ?_);clear hnb hxb heb;try clear Qb)|with_reducible refine And.intro ?_ ?_|omega|with_reducible rfl)
          refine hel2 _ _ _ rfl ?_
          clear hnl2 hel2 Ql2
          repeat (first|((first|refine hn _ _ ?_|refine he _ _ _ rfl ?_);clear hn he;try clear Q)|((first|refine hnb _ _ ?_|refine hxb _ _ ?_|refine heb _ _ _ rfl ?_);clear hnb hxb heb;try clear Qb)|(refine hel _ _ _ rfl ?_;clear hnl hel;try clear Ql))
          repeat' (first|(((first|refine mr ?_|refine mre ?_);intro K hK) ;simp (disch:=omega) only[Ac,↓Pc,simprocAttr,Mc])|(with_reducible refine gO ?_;simp (disch:=omega) only[Ac,↓Pc,simprocAttr,Mc])|(refine hK _ _ ?_;clear hK K)|(with_reducible refine gS (fun hb'=>?_) (fun hb'=>?_)<;>(have hb:=hb';(try simp only[DEc,simprocAttr] at hb);simp (disch:=omega) only[Ac,↓Pc,simprocAttr,Mc,hb'];clear hb'))|(refine mc (fun ht=>?_) (fun ht=>?_)<;>(try simp only[DEc,simprocAttr] at ht))|refine WM_z rfl ?_|(refine WM_block ?_;intro Qb hnb hxb heb)|(refine WM_k ?_;intro Q hn he)|((first|refine hn _ _ ?_|refine he _ _ _ rfl ?_);clear hn he;try clear Q)|((first|refine hnb _ _ ?_|refine hxb _ _ ?_|refine heb _ _ _ rfl ?_);clear hnb hxb heb;try clear Qb)|with_reducible refine And.intro ?_ ?_|omega|with_reducible rfl)
          exact hnl _ _ (seen++[j]) ⟨hA2,hr2⟩ hlt (by simp only[hst,← hlc];(refine TurnsM.slots _ _ rfl ?_;simp only[Tc,↓reduceIte,reduceEqDiff,Nat.reduceBEq,reduceAdd];try trivial))
end T

