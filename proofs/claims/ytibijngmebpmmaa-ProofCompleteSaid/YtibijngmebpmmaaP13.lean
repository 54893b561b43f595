import Derived.Test.YtibijngmebpmmaaPF
import Derived.Test.YtibijngmebpmmaaP10
set_option linter.unusedVariables false
set_option linter.unusedSimpArgs false
set_option linter.unnecessarySimpa false
open Go Go.Am Go.Proofs
open Nat (reduceEqDiff reduceAdd reduceLeDiff reduceMul)
open Int (reduceNeg reduceLE reduceToNat)
set_option maxRecDepth 20000
namespace T
set_option maxRecDepth 10000 in
set_option maxHeartbeats 16000000 in
theorem full_ok (m:Mdl) (hm:VM m) {w:Nat} (hw:w≤24) (hsome:∀ l∈m.cls,1≤l.length∧l.length≤w):∀ (d:Nat),d≤m.cls.length→∀ (nodes:List Nd),nodes.length+szB w d≤1000000 →
    Holds Try.prog 37 [.agg (eMdl m),.ptr 0 0 0,.lit (.int .i64 (m.cls.length - d:Nat))] [.var [.ref 1 5 0 nodes.length],.arr 5 (rowsOf eNd nodes)] (.lit (.int .i64 nodes.length))
      [.var [.ref 2 5 0 (fullF m d nodes).length],.gone,.arr 5 (rowsOf eNd (fullF m d nodes))]:=by
  intro d
  induction d with
  | zero =>
    intro hd nodes hbd
    have hc24:=hm.cls
    have hpos:=szB_pos w 0
    rw[Nat.sub_zero]
    unfold fullF
    have hrw:(rowsOf eNd nodes++[[AV.lit (.int .i64 (-1)),.lit (.slice none 0 0),.lit (.slice none 0 0),.lit (.slice none 0 0),.lit (.slice none 0 0)]])[nodes.length]?=some [AV.lit (.int .i64 (-1)),.lit (.slice none 0 0),.lit (.slice none 0 0),.lit (.slice none 0 0),.lit (.slice none 0 0)]:=by
      rw[List.getElem?_append_right (by simp[rowsOf])];simp[rowsOf]
    have hrs:(rowsOf eNd nodes++[[AV.lit (.int .i64 (-1)),.lit (.slice none 0 0),.lit (.slice none 0 0),.lit (.slice none 0 0),.lit (.slice none 0 0)]]).set nodes.length (eNd (leafN []))=rowsOf eNd (nodes++[leafN []]):=by
      rw[List.set_append_right _ _ (by simp[rowsOf])];simp[rowsOf]
    refine Holds.of_body' (fn:=Try.f37) 66 2 [.tmp 6] Try.func37 rfl rfl rfl rfl rfl (by simp) ?_
    repeat' (first|((first|((fail_if_success (first|refine W_at 3 ?_|refine W_atE 3 ?_));(first|refine rr ?_|refine rre ?_);intro K hK)|with_reducible refine gO ?_);simp (disch:=omega) only[Ac,↓Pc,simprocAttr])|(refine hK _ ?_;clear hK K)|(with_reducible refine gS (fun hb'=>?_) (fun hb'=>?_)<;>(have hb:=hb';(try simp only[DEc,simprocAttr] at hb);simp (disch:=omega) only[Ac,↓Pc,simprocAttr,hb'];clear hb'))|(refine Wc (fun ht=>?_) (fun ht=>?_)<;>(try simp only[DEc,simprocAttr] at ht))|refine Wz rfl ?_|(refine Wb ?_;intro Qb hnb hxb heb)|(refine Wk ?_;intro Q hn he)|((first|refine hn _ ?_|refine he _ _ rfl ?_);clear hn he;try clear Q)|((first|refine hnb _ ?_|refine hxb _ ?_|refine heb _ _ rfl ?_);clear hnb hxb heb;try clear Qb)|(refine hel _ _ rfl ?_;clear hnl hel;try clear Ql)|(simp only[Qc,Kc,simprocAttr])|with_reducible refine And.intro ?_ ?_|omega|with_reducible rfl)
    refine W_turn (Turns.rerow 4 nodes.length 5 rfl hrw leafR_row) ?_
    rw[hrs]
    repeat' (first|((first|((first|refine rr ?_|refine rre ?_);intro K hK)|with_reducible refine gO ?_);simp (disch:=omega) only[Ac,↓Pc,simprocAttr])|(refine hK _ ?_;clear hK K)|(with_reducible refine gS (fun hb'=>?_) (fun hb'=>?_)<;>(have hb:=hb';(try simp only[DEc,simprocAttr] at hb);simp (disch:=omega) only[Ac,↓Pc,simprocAttr,hb'];clear hb'))|(refine Wc (fun ht=>?_) (fun ht=>?_)<;>(try simp only[DEc,simprocAttr] at ht))|refine Wz rfl ?_|(refine Wb ?_;intro Qb hnb hxb heb)|(refine Wk ?_;intro Q hn he)|((first|refine hn _ ?_|refine he _ _ rfl ?_);clear hn he;try clear Q)|((first|refine hnb _ ?_|refine hxb _ ?_|refine heb _ _ rfl ?_);clear hnb hxb heb;try clear Qb)|(refine hel _ _ rfl ?_;clear hnl hel;try clear Ql)|(simp only[Qc,Kc,simprocAttr])|with_reducible refine And.intro ?_ ?_|omega|with_reducible rfl)
    all_goals try (exfalso;omega)
    rw[List.length_append,List.length_singleton]
    (refine RetOK_se [0,1,4] false (by simp only[Oc,simprocAttr]) ?_;first|exact .pure rfl|exact .eq rfl|exact .fz rfl (by simp only[Bc,Rc]))
  | succ d ih =>
    intro hd nodes hbd
    have hc24:=hm.cls
    have hpos:=szB_pos w d
    have hszE:szB w (d+1)=1+w * szB w d:=rfl
    have hcc:m.cls.length - (d+1)<m.cls.length:=by omega
    have hcd:((m.cls.length - (d+1):Nat):Int)+1=(m.cls.length - d:Nat):=by omega
    have hcw:=hsome _ (getD_mem (l:=m.cls) (i:=m.cls.length - (d+1)) (d:=default) hcc)
    have hgo:=fun n=>fullF_ok hsome (m:=m) d (by omega) n
    have hrw:(rowsOf eNd nodes++[[AV.lit (.int .i64 (-1)),.lit (.slice none 0 0),.lit (.slice none 0 0),.lit (.slice none 0 0),.lit (.slice none 0 0)]])[nodes.length]?=some [AV.lit (.int .i64 (-1)),.lit (.slice none 0 0),.lit (.slice none 0 0),.lit (.slice none 0 0),.lit (.slice none 0 0)]:=by
      rw[List.getElem?_append_right (by simp[rowsOf])];simp[rowsOf]
    have hrs:(rowsOf eNd nodes++[[AV.lit (.int .i64 (-1)),.lit (.slice none 0 0),.lit (.slice none 0 0),.lit (.slice none 0 0),.lit (.slice none 0 0)]]).set nodes.length (eNd (leafN []))=rowsOf eNd (nodes++[leafN []]):=by
      rw[List.set_append_right _ _ (by simp[rowsOf])];simp[rowsOf]
    generalize hres:fullF m (d+1) nodes=res
    rw[fullF] at hres
    generalize hc:m.cls.length - (d+1)=c at *
    have hnl1:(nodes++[leafN []]).length=nodes.length+1:=by simp
    have hnt0:nd (nodes++[leafN []]) nodes.length=leafN []:=nd_last
    generalize hN1:nodes++[leafN []]=N1 at *
    generalize hcls:m.cls.getD c default=cls at *
    generalize hR:fullL (fullF m d) cls.length N1 []=R at *
    have hmul:∀ i,i<cls.length→i * szB w d+szB w d≤w * szB w d:=fun i hi=>by
      have:(i+1) * szB w d≤w * szB w d:=Nat.mul_le_mul_right _ (by omega)
      rw[Nat.add_mul,Nat.one_mul] at this
      exact this
    refine Holds.of_body' (fn:=Try.f37) 66 2 [.tmp 6] Try.func37 rfl rfl rfl rfl rfl (by simp) ?_
    repeat' (first|((first|((fail_if_success (first|refine W_at 3 ?_|refine W_atE 3 ?_));(first|refine rr ?_|refine rre ?_);intro K hK)|with_reducible refine gO ?_);simp (disch:=omega) only[Ac,↓Pc,simprocAttr])|(refine hK _ ?_;clear hK K)|(with_reducible refine gS (fun hb'=>?_) (fun hb'=>?_)<;>(have hb:=hb';(try simp only[DEc,simprocAttr] at hb);simp (disch:=omega) only[Ac,↓Pc,simprocAttr,hb'];clear hb'))|(refine Wc (fun ht=>?_) (fun ht=>?_)<;>(try simp only[DEc,simprocAttr] at ht))|refine Wz rfl ?_|(refine Wb ?_;intro Qb hnb hxb heb)|(refine Wk ?_;intro Q hn he)|((first|refine hn _ ?_|refine he _ _ rfl ?_);clear hn he;try clear Q)|((first|refine hnb _ ?_|refine hxb _ ?_|refine heb _ _ rfl ?_);clear hnb hxb heb;try clear Qb)|(refine hel _ _ rfl ?_;clear hnl hel;try clear Ql)|(simp only[Qc,Kc,simprocAttr])|with_reducible refine And.intro ?_ ?_|omega|with_reducible rfl)
    refine W_turn (Turns.rerow 4 nodes.length 5 rfl hrw leafR_row) ?_
    rw[hrs]
    refine W_turn (Turns.frzP 3 2 (cells:=eMdl m) (by rfl) (by simp only[Kc,simprocAttr]) (by simp[eMdl])) ?_
    refine W_turn (σ':=⟨slots [(1,.ptr 0 0 0),(2,.lit (.int .i64 c)),(3,.taddr (eMdl m)),(7,.lit (.int .i64 nodes.length))],[.var [.ref 2 5 0 N1.length],.gone,.arr 5 (rowsOf eNd N1)]⟩) (by rw[hnl1];(refine Turns.se [0,1,4] false (by simp only[Oc,simprocAttr]) ?_;simp only[Hr,↓reduceIte,reduceEqDiff,Nat.reduceBEq,reduceAdd];try (and_intros<;>first|exact .pure rfl|exact .eq rfl|exact .fz rfl (by simp only[Bc,Rc])))) ?_
    repeat' (first|((first|((first|refine rr ?_|refine rre ?_);intro K hK)|with_reducible refine gO ?_);simp (disch:=omega) only[Ac,↓Pc,simprocAttr])|(refine hK _ ?_;clear hK K)|(with_reducible refine gS (fun hb'=>?_) (fun hb'=>?_)<;>(have hb:=hb';(try simp only[DEc,simprocAttr] at hb);simp (disch:=omega) only[Ac,↓Pc,simprocAttr,hb'];clear hb'))|(refine Wc (fun ht=>?_) (fun ht=>?_)<;>(try simp only[DEc,simprocAttr] at ht))|refine Wz rfl ?_|(refine Wb ?_;intro Qb hnb hxb heb)|(refine Wk ?_;intro Q hn he)|((first|refine hn _ ?_|refine he _ _ rfl ?_);clear hn he;try clear Q)|((first|refine hnb _ ?_|refine hxb _ ?_|refine heb _ _ rfl ?_);clear hnb hxb heb;try clear Qb)|(refine hel _ _ rfl ?_;clear hnl hel;try clear Ql)|(simp only[Qc,Kc,simprocAttr])|with_reducible refine And.intro ?_ ?_|omega|with_reducible rfl)
    all_goals try (exfalso;omega)
    refine W_loopS (fun z:Nat × List Nd × List Int=>(⟨slots [(1,.ptr 0 0 0),(2,.lit (.int .i64 c)),(3,.taddr (eMdl m)),(7,.lit (.int .i64 nodes.length)),(8,.ref 3 1 0 z.2.2.length),(9,.lit (.int .i64 z.1))],[.var [.ref 2 5 0 z.2.1.length],.gone,.arr 5 (rowsOf eNd z.2.1),.arr 1 (ints z.2.2)]⟩:St))
      (fun z=>z.1≤cls.length∧z.2.2.length=z.1∧nodes.length<z.2.1.length∧nd z.2.1 nodes.length=leafN []∧z.2.1.length≤N1.length+z.1 * szB w d∧fullL (fullF m d) (cls.length - z.1) z.2.1 z.2.2=R) (fun z=>cls.length - z.1) (0,N1,[]) ⟨Nat.zero_le _,rfl,by dsimp only;omega,hnt0,by dsimp only;omega,hR⟩ ?_ ?_
    · refine Turns.trans (Turns.nil 8 1 (by simp only[Kc,simprocAttr]) (by decide)) ?_
      (refine Turns.slots _ _ rfl ?_;simp only[Tc,↓reduceIte,reduceEqDiff,Nat.reduceBEq,reduceAdd];try trivial)
    rintro ⟨i,ns,ks⟩ ⟨hi,hks,hnlt,hnt,hns,hr⟩ Ql hnl hel
    dsimp only at hi hks hnlt hnt hns hr ⊢
    by_cases hi':i<cls.length
    · have hmi:=hmul i hi'
      have hg1:=hgo ns
      have hih:=ih (by omega) ns (by omega)
      rw[← hcd] at hih
      rw[show cls.length - i=(cls.length - (i+1))+1 by omega,fullL] at hr
      generalize fullF m d ns=ns2 at *
      have g2:=hg1.lt
      have g3:=hg1.le
      repeat' (first|((first|((first|refine rr ?_|refine rre ?_);intro K hK)|with_reducible refine gO ?_);simp (disch:=omega) only[Ac,↓Pc,simprocAttr,hcls,eCls])|(refine hK _ ?_;clear hK K)|(with_reducible refine gS (fun hb'=>?_) (fun hb'=>?_)<;>(have hb:=hb';(try simp only[DEc,simprocAttr] at hb);simp (disch:=omega) only[Ac,↓Pc,simprocAttr,hcls,eCls,hb'];clear hb'))|(refine Wc (fun ht=>?_) (fun ht=>?_)<;>(try simp only[DEc,simprocAttr] at ht))|refine Wz rfl ?_|(refine Wb ?_;intro Qb hnb hxb heb)|(refine Wk ?_;intro Q hn he)|((first|refine hn _ ?_|refine he _ _ rfl ?_);clear hn he;try clear Q)|((first|refine hnb _ ?_|refine hxb _ ?_|refine heb _ _ rfl ?_);clear hnb hxb heb;try clear Qb)|(simp only[Qc,Kc,simprocAttr])|with_reducible refine And.intro ?_ ?_|omega|with_reducible rfl)
      all_goals try (exfalso;omega)
      refine callK_sel [0,2] hih (by decide) ⟨rfl,by rw[rows_ren];rfl,trivial⟩ ⟨.pure rfl,.eq rfl,.pure rfl,trivial⟩ ?_
      repeat' (first|((first|((first|refine rr ?_|refine rre ?_);intro K hK)|with_reducible refine gO ?_);simp (disch:=omega) only[Ac,↓Pc,simprocAttr,ints_app1])|(refine hK _ ?_;clear hK K)|(with_reducible refine gS (fun hb'=>?_) (fun hb'=>?_)<;>(have hb:=hb';(try simp only[DEc,simprocAttr] at hb);simp (disch:=omega) only[Ac,↓Pc,simprocAttr,ints_app1,hb'];clear hb'))|(refine Wc (fun ht=>?_) (fun ht=>?_)<;>(try simp only[DEc,simprocAttr] at ht))|refine Wz rfl ?_|(refine Wb ?_;intro Qb hnb hxb heb)|(refine Wk ?_;intro Q hn he)|((first|refine hn _ ?_|refine he _ _ rfl ?_);clear hn he;try clear Q)|((first|refine hnb _ ?_|refine hxb _ ?_|refine heb _ _ rfl ?_);clear hnb hxb heb;try clear Qb)|(simp only[Qc,Kc,simprocAttr])|with_reducible refine And.intro ?_ ?_|omega|with_reducible rfl)
      all_goals try (exfalso;omega)
      refine hnl _ (i+1,ns2,ks++[(ns.length:Int)]) ⟨by dsimp only;omega,by simp;omega,by dsimp only;omega,(hg1.pre _ hnlt).trans hnt,by dsimp only;rw[Nat.add_mul,Nat.one_mul];omega,hr⟩ (by dsimp only;omega) ?_
      (refine Turns.se [0,1,4,6] false (by simp only[Oc,simprocAttr]) ?_;simp only[Hr,↓reduceIte,reduceEqDiff,Nat.reduceBEq,reduceAdd];try (and_intros<;>first|exact .pure rfl|exact .eq rfl|exact .fz rfl (by simp only[Bc,Rc])))
    · obtain rfl:i=cls.length:=by omega
      rw[Nat.sub_self,fullL] at hr
      have hrg3:(rowsOf eNd ns)[nodes.length]?=some (eNd (leafN [])):=by
        rw[← hnt]
        exact rows_get ns nodes.length hnlt
      have hrs3:(rowsOf eNd ns).set nodes.length (eNd ⟨(c:Int),ks,[],[],[]⟩)=rowsOf eNd (ns.set nodes.length ⟨(c:Int),ks,[],[],[]⟩):=by unfold rowsOf;rw[List.map_set]
      have hst:∀ x:List AV,((rowsOf eNd ns).set nodes.length x)[nodes.length]?=some x:=fun x=>by rw[List.getElem?_set,if_pos rfl,if_pos (by simpa [rowsOf] using hnlt)]
      rw[← hr] at hres
      repeat' (first|((first|((first|refine rr ?_|refine rre ?_);intro K hK)|with_reducible refine gO ?_);simp (disch:=omega) only[Ac,↓Pc,simprocAttr,hcls,eCls])|(refine hK _ ?_;clear hK K)|(with_reducible refine gS (fun hb'=>?_) (fun hb'=>?_)<;>(have hb:=hb';(try simp only[DEc,simprocAttr] at hb);simp (disch:=omega) only[Ac,↓Pc,simprocAttr,hcls,eCls,hb'];clear hb'))|(refine Wc (fun ht=>?_) (fun ht=>?_)<;>(try simp only[DEc,simprocAttr] at ht))|refine Wz rfl ?_|(refine Wb ?_;intro Qb hnb hxb heb)|(refine Wk ?_;intro Q hn he)|((first|refine hn _ ?_|refine he _ _ rfl ?_);clear hn he;try clear Q)|((first|refine hnb _ ?_|refine hxb _ ?_|refine heb _ _ rfl ?_);clear hnb hxb heb;try clear Qb)|(simp only[Qc,Kc,simprocAttr])|with_reducible refine And.intro ?_ ?_|omega|with_reducible rfl)
      refine hel _ _ rfl ?_;clear hnl hel Ql
      repeat (first|((first|refine hn _ ?_|refine he _ _ rfl ?_);clear hn he;try clear Q)|((first|refine hnb _ ?_|refine hxb _ ?_|refine heb _ _ rfl ?_);clear hnb hxb heb;try clear Qb)|(refine hel _ _ rfl ?_;clear hnl hel;try clear Ql))
      refine W_turn (σ':=⟨slots [(1,.ptr 0 0 0),(2,.lit (.int .i64 c)),(7,.lit (.int .i64 nodes.length)),(8,.tree 1 (ints ks))],[.var [.ref 2 5 0 ns.length],.gone,.arr 5 (rowsOf eNd ns)]⟩) (by (refine Turns.se [0,1,2] true (by simp only[Oc,simprocAttr]) ?_;simp only[Hr,↓reduceIte,reduceEqDiff,Nat.reduceBEq,reduceAdd];try (and_intros<;>first|exact .pure rfl|exact .eq rfl|exact .fz rfl (by simp only[Bc,Rc])))) ?_
      refine Wk ?_;intro Q hn he
      refine W_draw [] (.take 0 (.take 1 (.take 2 (.take 3 (.take 4 (.take 5 (.take 6 (.take 7 (.take 8 (.take 9 (.take 10 (.take 11 (.take 12 (.take 13 (.take 14 (.take 15 (.take 16 (.take 17 .nil)))))))))))))))))) rfl (by decide) (by decide +kernel) ?_
      simp (disch:=omega) only[Ac,↓Pc,simprocAttr,planW_three,planW_both,planW_take,planW_nil,stepAt,stepD,hrg3,eNd,leafN,hst,List.set_set]
      repeat' (first|with_reducible refine And.intro ?_ ?_|omega|with_reducible rfl)
      refine hn _ ?_
      repeat' (first|((first|((first|refine rr ?_|refine rre ?_);intro K hK)|with_reducible refine gO ?_);simp (disch:=omega) only[Ac,↓Pc,simprocAttr])|(refine hK _ ?_;clear hK K)|(with_reducible refine gS (fun hb'=>?_) (fun hb'=>?_)<;>(have hb:=hb';(try simp only[DEc,simprocAttr] at hb);simp (disch:=omega) only[Ac,↓Pc,simprocAttr,hb'];clear hb'))|(refine Wc (fun ht=>?_) (fun ht=>?_)<;>(try simp only[DEc,simprocAttr] at ht))|refine Wz rfl ?_|(refine Wb ?_;intro Qb hnb hxb heb)|(refine Wk ?_;intro Q hn he)|((first|refine hn _ ?_|refine he _ _ rfl ?_);clear hn he;try clear Q)|((first|refine hnb _ ?_|refine hxb _ ?_|refine heb _ _ rfl ?_);clear hnb hxb heb;try clear Qb)|(refine hel _ _ rfl ?_;clear hnl hel;try clear Ql)|(simp only[Qc,Kc,simprocAttr])|with_reducible refine And.intro ?_ ?_|omega|with_reducible rfl)
      rw[← hres]
      refine RetOK_all ?_ (by simp) rfl
      dsimp only
      rw[List.length_set,← hrs3];rfl
set_option maxHeartbeats 8000000 in
theorem Full_ok (m:Mdl) (hm:VM m) {w:Nat} (hw:w≤24) (hsome:∀ l∈m.cls,1≤l.length∧l.length≤w) (hsz:szB w m.cls.length≤20000):Holds Try.prog 16 [.agg (eMdl m)] [] (.agg (ePf (fullF m m.cls.length []))) []:=by
  have hg:=full_ok m hm hw hsome m.cls.length (Nat.le_refl _) [] (by simp;omega)
  rw[Nat.sub_self] at hg
  generalize fullF m m.cls.length []=P at *
  refine Holds.of_body' (fn:=Try.f16) 7 0 [.cell 2 37] Try.func16 rfl rfl rfl rfl rfl (by simp) ?_
  repeat' (first|((first|((fail_if_success (first|refine W_at 2 ?_|refine W_atE 2 ?_));(first|refine rr ?_|refine rre ?_);intro K hK)|with_reducible refine gO ?_);simp (disch:=omega) only[Ac,↓Pc,simprocAttr])|(refine hK _ ?_;clear hK K)|(with_reducible refine gS (fun hb'=>?_) (fun hb'=>?_)<;>(have hb:=hb';(try simp only[DEc,simprocAttr] at hb);simp (disch:=omega) only[Ac,↓Pc,simprocAttr,hb'];clear hb'))|(refine Wc (fun ht=>?_) (fun ht=>?_)<;>(try simp only[DEc,simprocAttr] at ht))|refine Wz rfl ?_|(refine Wb ?_;intro Qb hnb hxb heb)|(refine Wk ?_;intro Q hn he)|((first|refine hn _ ?_|refine he _ _ rfl ?_);clear hn he;try clear Q)|((first|refine hnb _ ?_|refine hxb _ ?_|refine heb _ _ rfl ?_);clear hnb hxb heb;try clear Qb)|(refine hel _ _ rfl ?_;clear hnl hel;try clear Ql)|(simp only[Qc,Kc,simprocAttr])|with_reducible refine And.intro ?_ ?_|omega|with_reducible rfl)
  refine W_turn (Turns.nilC 2 0 5 (by rfl) (by rfl) (by decide)) ?_
  repeat' (first|((first|((first|refine rr ?_|refine rre ?_);intro K hK)|with_reducible refine gO ?_);simp (disch:=omega) only[Ac,↓Pc,simprocAttr])|(refine hK _ ?_;clear hK K)|(with_reducible refine gS (fun hb'=>?_) (fun hb'=>?_)<;>(have hb:=hb';(try simp only[DEc,simprocAttr] at hb);simp (disch:=omega) only[Ac,↓Pc,simprocAttr,hb'];clear hb'))|(refine Wc (fun ht=>?_) (fun ht=>?_)<;>(try simp only[DEc,simprocAttr] at ht))|refine Wz rfl ?_|(refine Wb ?_;intro Qb hnb hxb heb)|(refine Wk ?_;intro Q hn he)|((first|refine hn _ ?_|refine he _ _ rfl ?_);clear hn he;try clear Q)|((first|refine hnb _ ?_|refine hxb _ ?_|refine heb _ _ rfl ?_);clear hnb hxb heb;try clear Qb)|(refine hel _ _ rfl ?_;clear hnl hel;try clear Ql)|(simp only[Qc,Kc,simprocAttr])|with_reducible refine And.intro ?_ ?_|omega|with_reducible rfl)
  refine callK_sel [2,3] hg (by decide) ⟨rfl,rfl,trivial⟩ ⟨.pure rfl,.eq rfl,.pure rfl,trivial⟩ ?_
  repeat' (first|((first|((first|refine rr ?_|refine rre ?_);intro K hK)|with_reducible refine gO ?_);simp (disch:=omega) only[Ac,↓Pc,simprocAttr])|(refine hK _ ?_;clear hK K)|(with_reducible refine gS (fun hb'=>?_) (fun hb'=>?_)<;>(have hb:=hb';(try simp only[DEc,simprocAttr] at hb);simp (disch:=omega) only[Ac,↓Pc,simprocAttr,hb'];clear hb'))|(refine Wc (fun ht=>?_) (fun ht=>?_)<;>(try simp only[DEc,simprocAttr] at ht))|refine Wz rfl ?_|(refine Wb ?_;intro Qb hnb hxb heb)|(refine Wk ?_;intro Q hn he)|((first|refine hn _ ?_|refine he _ _ rfl ?_);clear hn he;try clear Q)|((first|refine hnb _ ?_|refine hxb _ ?_|refine heb _ _ rfl ?_);clear hnb hxb heb;try clear Qb)|(refine hel _ _ rfl ?_;clear hnl hel;try clear Ql)|(simp only[Qc,Kc,simprocAttr])|with_reducible refine And.intro ?_ ?_|omega|with_reducible rfl)
  simp (disch:=omega) only[Ac,↓Pc,simprocAttr]
  refine RetOK_sel [] true (by decide) trivial (by decide) (by decide) ?_
  exact ArgR.agg _ _ rfl (ArgsR.spec (R:=ArgR _ _ _ _) (cs:=ePf P) (ds:=[.ref 4 5 0 P.length]) ⟨.fz rfl (by simp[rowsOf]),trivial⟩).2
end T

