import Derived.Test.YtibijngmebpmmaaPR
import Derived.Test.YtibijngmebpmmaaP9
import Derived.Test.YtibijngmebpmmaaAmJ
set_option linter.unusedVariables false
set_option linter.unusedSimpArgs false
set_option linter.unnecessarySimpa false
open Go Go.Am Go.Proofs
open Nat (reduceEqDiff reduceAdd reduceLeDiff reduceMul)
open Int (reduceNeg reduceLE reduceToNat)
set_option maxRecDepth 20000
namespace T
def AbR (ab:List Int) (av:AV) (xo:Ob):Prop:=(ab=[]∧av=.tree 1 []∧∃ m:Mdl,xo=.var (eMdl m))∨(av=.ref 3 1 0 ab.length∧xo=.arr 1 (ints ab))
theorem leafR_row:RowN [.lit (.int .i64 (-1)),.lit (.slice none 0 0),.lit (.slice none 0 0),.lit (.slice none 0 0),.lit (.slice none 0 0)] (eNd (leafN [])) :=
  ⟨.inl rfl,.inr ⟨rfl,_,rfl⟩,.inr ⟨rfl,_,rfl⟩,.inr ⟨rfl,_,rfl⟩,.inr ⟨rfl,_,rfl⟩,trivial⟩
def pv (n:Nat):Ob:=.var [.ref 2 5 0 n]
set_option maxRecDepth 10000 in
set_option maxHeartbeats 16000000 in
theorem grow_ok (m:Mdl) (hm:VM m) {w:Nat} (hw:w≤24) (hsome:∀ l∈m.cls,1≤l.length∧l.length≤w) (L:List Int) (hL:L.length<1000000):∀ (s:Nat),s≤100→szB w s≤100000→∀ (nodes:List Nd) (k:Nat) (ab:List Int) (av:AV) (xo:Ob),k≤L.length→nodes.length+szB w s≤1000000→ab.length+s≤1000→(∀ x∈ab,0≤x)→AbR ab av xo →
    Holds Try.prog 33 [.ptr 0 0 0,.agg (eMdl m),.ptr 1 0 0,av,.lit (.int .i64 s)] [dice L k,.var [.ref 2 5 0 nodes.length],.arr 5 (rowsOf eNd nodes),xo] (.lit (.int .i64 nodes.length))
      [dice L (growF m L s nodes k ab).2,.var [.ref 4 5 0 (growF m L s nodes k ab).1.length],.gone,xo,.arr 5 (rowsOf eNd (growF m L s nodes k ab).1)]:=by
  intro s
  induction s using Nat.strongRecOn with
  | _ s ih =>
    intro hs hsz nodes k ab av xo hk hnl hal hab0 hAb
    have hc24:=hm.cls
    have hxo:∀ ρ,renO ρ xo=xo:=fun ρ=>by
      rcases hAb with ⟨_,_,m',rfl⟩ | ⟨_,rfl⟩
      · exact renO_mdl ρ m'
      · exact ints_ren _ _ _
    have hpos:=szB_pos w s
    have hnx:=next_ok L k ((m.cls.length:Int)+1) (by unfold In64;omega) hk hL
    have hca:=drawC_rg m L k
    generalize hres:growF m L s nodes k ab=res
    rw[growF_eq] at hres
    unfold doneB leafG at hres
    unfold drawC at *
    generalize nextV L k ((m.cls.length:Int)+1)=c at *
    have hk1:=nextA_le hk
    generalize nextA L k=k1 at *
    unfold dice
    refine Holds.of_body' (fn:=Try.f33) 123 4 [.tmp 10] Try.func33 rfl rfl rfl rfl rfl (by simp) ?_
    repeat' (first|((first|((fail_if_success (first|refine W_at 3 ?_|refine W_atE 3 ?_));(first|refine rr ?_|refine rre ?_);intro K hK)|with_reducible refine gO ?_);simp (disch:=omega) only[Ac,↓Pc,simprocAttr])|(refine hK _ ?_;clear hK K)|(with_reducible refine gS (fun hb'=>?_) (fun hb'=>?_)<;>(have hb:=hb';(try simp only[DEc,simprocAttr] at hb);simp (disch:=omega) only[Ac,↓Pc,simprocAttr,hb'];clear hb'))|(refine Wc (fun ht=>?_) (fun ht=>?_)<;>(try simp only[DEc,simprocAttr] at ht))|refine Wz rfl ?_|(refine Wb ?_;intro Qb hnb hxb heb)|(refine Wk ?_;intro Q hn he)|((first|refine hn _ ?_|refine he _ _ rfl ?_);clear hn he;try clear Q)|((first|refine hnb _ ?_|refine hxb _ ?_|refine heb _ _ rfl ?_);clear hnb hxb heb;try clear Qb)|(refine hel _ _ rfl ?_;clear hnl hel;try clear Ql)|(simp only[Qc,Kc,simprocAttr])|with_reducible refine And.intro ?_ ?_|omega|with_reducible rfl)
    have hav:∀ (σ:St) kp snap n l,ArgR σ kp (rho n (0::1::2::3::l)) snap av av:=fun σ kp snap n l=>by
      rcases hAb with ⟨_,rfl,_⟩ | ⟨rfl,_⟩
      · exact .pure rfl
      · exact .eq rfl
    have hrw:(rowsOf eNd nodes++[[AV.lit (.int .i64 (-1)),.lit (.slice none 0 0),.lit (.slice none 0 0),.lit (.slice none 0 0),.lit (.slice none 0 0)]])[nodes.length]?=some [AV.lit (.int .i64 (-1)),.lit (.slice none 0 0),.lit (.slice none 0 0),.lit (.slice none 0 0),.lit (.slice none 0 0)]:=by
      rw[List.getElem?_append_right (by simp[rowsOf])];simp[rowsOf]
    have hrs:(rowsOf eNd nodes++[[AV.lit (.int .i64 (-1)),.lit (.slice none 0 0),.lit (.slice none 0 0),.lit (.slice none 0 0),.lit (.slice none 0 0)]]).set nodes.length (eNd (leafN []))=rowsOf eNd (nodes++[leafN []]):=by
      rw[List.set_append_right _ _ (by simp[rowsOf])];simp[rowsOf]
    refine W_turn (Turns.rerow 6 nodes.length 5 rfl hrw leafR_row) ?_
    rw[hrs]
    refine W_turn (Turns.frzP 6 4 (cells:=eMdl m) (by rfl) (by simp only[Kc,simprocAttr]) (by simp[eMdl])) ?_
    have hnl1:(nodes++[leafN []]).length=nodes.length+1:=by simp
    generalize hN1:nodes++[leafN []]=N1 at *
    refine W_turn (σ':=⟨slots [(0,.ptr 0 0 0),(2,.ptr 1 0 0),(3,av),(4,.lit (.int .i64 (s:Nat))),(6,.taddr (eMdl m)),(11,.lit (.int .i64 nodes.length))],[.var [.tree 1 (ints L),.lit (.int .i64 k)],.var [.ref 4 5 0 N1.length],.gone,xo,.arr 5 (rowsOf eNd N1)]⟩) (by rw[hnl1];((refine Turns.se [0,1,2,3,6] false (by simp only[Oc,simprocAttr,hxo]) ?_;simp only[Hr,↓reduceIte,reduceEqDiff,Nat.reduceBEq,reduceAdd,hxo];try (and_intros<;>first|exact .pure rfl|exact .eq rfl|exact .fz rfl (by simp only[Bc,Rc]))));(and_intros<;>first|exact hav ..|exact .pure rfl|exact .eq rfl)) ?_
    repeat' (first|((first|((first|refine rr ?_|refine rre ?_);intro K hK)|with_reducible refine gO ?_);simp (disch:=omega) only[Ac,↓Pc,simprocAttr])|(refine hK _ ?_;clear hK K)|(with_reducible refine gS (fun hb'=>?_) (fun hb'=>?_)<;>(have hb:=hb';(try simp only[DEc,simprocAttr] at hb);simp (disch:=omega) only[Ac,↓Pc,simprocAttr,hb'];clear hb'))|(refine Wc (fun ht=>?_) (fun ht=>?_)<;>(try simp only[DEc,simprocAttr] at ht))|refine Wz rfl ?_|(refine Wb ?_;intro Qb hnb hxb heb)|(refine Wk ?_;intro Q hn he)|((first|refine hn _ ?_|refine he _ _ rfl ?_);clear hn he;try clear Q)|((first|refine hnb _ ?_|refine hxb _ ?_|refine heb _ _ rfl ?_);clear hnb hxb heb;try clear Qb)|(refine hel _ _ rfl ?_;clear hnl hel;try clear Ql)|(simp only[Qc,Kc,simprocAttr])|with_reducible refine And.intro ?_ ?_|omega|with_reducible rfl)
    refine callK_sel [0] hnx (by decide) ⟨rfl,trivial⟩ ⟨.eq rfl,.pure rfl,trivial⟩ ?_
    repeat' (first|((first|((fail_if_success (first|refine W_at 4 ?_|refine W_atE 4 ?_));(first|refine rr ?_|refine rre ?_);intro K hK)|with_reducible refine gO ?_);simp (disch:=omega) only[Ac,↓Pc,simprocAttr])|(refine hK _ ?_;clear hK K)|(with_reducible refine gS (fun hb'=>?_) (fun hb'=>?_)<;>(have hb:=hb';(try simp only[DEc,simprocAttr] at hb);simp (disch:=omega) only[Ac,↓Pc,simprocAttr,hb'];clear hb'))|(refine Wc (fun ht=>?_) (fun ht=>?_)<;>(try simp only[DEc,simprocAttr] at ht))|refine Wz rfl ?_|(refine Wb ?_;intro Qb hnb hxb heb)|(refine Wk ?_;intro Q hn he)|((first|refine hn _ ?_|refine he _ _ rfl ?_);clear hn he;try clear Q)|((first|refine hnb _ ?_|refine hxb _ ?_|refine heb _ _ rfl ?_);clear hnb hxb heb;try clear Qb)|(refine hel _ _ rfl ?_;clear hnl hel;try clear Ql)|(simp only[Qc,Kc,simprocAttr])|with_reducible refine And.intro ?_ ?_|omega|with_reducible rfl)
    generalize hd0:(decide (c=(m.cls.length:Int)) || decide (s=0) || decide ((N1.length:Int) > 300))=d0 at *
    refine join_here ⟨slots [(0,.ptr 0 0 0),(2,.ptr 1 0 0),(3,av),(4,.lit (.int .i64 (s:Nat))),(6,.taddr (eMdl m)),(11,.lit (.int .i64 nodes.length)),(12,.lit (.int .i64 c)),(13,.lit (.bool d0))],[.var [.tree 1 (ints L),.lit (.int .i64 k1)],.var [.ref 4 5 0 N1.length],.gone,xo,.arr 5 (rowsOf eNd N1)]⟩ hn ?_ (fun key=>?_)
    rotate_left
    · clear hn he
      repeat' (first|((first|((first|refine rr ?_|refine rre ?_);intro K hK)|with_reducible refine gO ?_);simp (disch:=omega) only[Ac,↓Pc,simprocAttr])|(refine hK _ ?_;clear hK K)|(with_reducible refine gS (fun hb'=>?_) (fun hb'=>?_)<;>(have hb:=hb';(try simp only[DEc,simprocAttr] at hb);simp (disch:=omega) only[Ac,↓Pc,simprocAttr,hb'];clear hb'))|(refine Wc (fun ht=>?_) (fun ht=>?_)<;>(try simp only[DEc,simprocAttr] at ht))|refine Wz rfl ?_|(refine Wb ?_;intro Qb hnb hxb heb)|(refine Wk ?_;intro Q hn he)|((first|refine hn _ ?_|refine he _ _ rfl ?_);clear hn he;try clear Q)|((first|refine hnb _ ?_|refine hxb _ ?_|refine heb _ _ rfl ?_);clear hnb hxb heb;try clear Qb)|(simp only[Qc,Kc,simprocAttr])|with_reducible refine And.intro ?_ ?_|omega|with_reducible rfl)
      all_goals try (exfalso;omega)
      all_goals
        refine key _ ?_
        rw[← hd0]
        first|rw[decide_eq_true (show c=(m.cls.length:Int) by assumption),Bool.true_or,Bool.true_or]|rw[decide_eq_false (show ¬c=(m.cls.length:Int) by assumption),decide_eq_true (show s=0 by omega),Bool.false_or,Bool.true_or]|rw[decide_eq_false (show ¬c=(m.cls.length:Int) by assumption),decide_eq_false (show ¬s=0 by omega),Bool.false_or,Bool.false_or]
        ((refine Turns.slots _ _ rfl ?_;simp only[Tc,↓reduceIte,reduceEqDiff,Nat.reduceBEq,reduceAdd];try trivial))
    repeat' (first|((first|((first|refine rr ?_|refine rre ?_);intro K hK)|with_reducible refine gO ?_);simp (disch:=omega) only[Ac,↓Pc,simprocAttr])|(refine hK _ ?_;clear hK K)|(with_reducible refine gS (fun hb'=>?_) (fun hb'=>?_)<;>(have hb:=hb';(try simp only[DEc,simprocAttr] at hb);simp (disch:=omega) only[Ac,↓Pc,simprocAttr,hb'];clear hb'))|(refine Wc (fun ht=>?_) (fun ht=>?_)<;>(try simp only[DEc,simprocAttr] at ht))|refine Wz rfl ?_|(refine Wb ?_;intro Qb hnb hxb heb)|(refine Wk ?_;intro Q hn he)|((first|refine hn _ ?_|refine he _ _ rfl ?_);clear hn he;try clear Q)|((first|refine hnb _ ?_|refine hxb _ ?_|refine heb _ _ rfl ?_);clear hnb hxb heb;try clear Qb)|(refine hel _ _ rfl ?_;clear hnl hel;try clear Ql)|(simp only[Qc,Kc,simprocAttr])|with_reducible refine And.intro ?_ ?_|omega|with_reducible rfl)
    refine W_loopS (fun i:Nat=>(⟨slots [(0,.ptr 0 0 0),(2,.ptr 1 0 0),(3,av),(4,.lit (.int .i64 (s:Nat))),(6,.taddr (eMdl m)),(11,.lit (.int .i64 nodes.length)),(12,.lit (.int .i64 c)),(13,.lit (.bool (d0 || (ab.take i).contains c))),(14,.lit (.int .i64 i))],[.var [.tree 1 (ints L),.lit (.int .i64 k1)],.var [.ref 4 5 0 N1.length],.gone,xo,.arr 5 (rowsOf eNd N1)]⟩:St))
      (fun i=>i≤ab.length) (fun i=>ab.length - i) 0 (Nat.zero_le _) (by rw[List.take_zero,List.contains_nil,Bool.or_false];(refine Turns.slots _ _ rfl ?_;simp only[Tc,↓reduceIte,reduceEqDiff,Nat.reduceBEq,reduceAdd];try trivial)) ?_
    intro i hi Ql hnl2 hel
    by_cases hi':i<ab.length
    · have hts:=take_snoc hi'
      have hcs:(ab.take (i+1)).contains c=((ab.take i).contains c || decide (ab.getD i 0=c)):=by
        rw[hts,List.contains_append,List.contains_cons,List.contains_nil,Bool.or_false]
        congr 1
        show (c == ab.getD i 0)=_
        rw[Bool.eq_iff_iff,beq_iff_eq,decide_eq_true_eq]
        exact eq_comm
      rcases hAb with ⟨rfl,_,_⟩ | ⟨rfl,rfl⟩
      · exact absurd hi' (Nat.not_lt_zero _)
      generalize hxx:ab.getD i 0=x at *
      generalize (ab.take i).contains c=b0 at *
      generalize hbe:(d0 || b0)=e at *
      cases e
      · repeat' (first|((first|((first|refine rr ?_|refine rre ?_);intro K hK)|with_reducible refine gO ?_);simp (disch:=omega) only[Ac,↓Pc,simprocAttr,hxx])|(refine hK _ ?_;clear hK K)|(with_reducible refine gS (fun hb'=>?_) (fun hb'=>?_)<;>(have hb:=hb';(try simp only[DEc,simprocAttr] at hb);simp (disch:=omega) only[Ac,↓Pc,simprocAttr,hxx,hb'];clear hb'))|(refine Wc (fun ht=>?_) (fun ht=>?_)<;>(try simp only[DEc,simprocAttr] at ht))|refine Wz rfl ?_|(refine Wb ?_;intro Qb hnb hxb heb)|(refine Wk ?_;intro Q hn he)|((first|refine hn _ ?_|refine he _ _ rfl ?_);clear hn he;try clear Q)|((first|refine hnb _ ?_|refine hxb _ ?_|refine heb _ _ rfl ?_);clear hnb hxb heb;try clear Qb)|(simp only[Qc,Kc,simprocAttr])|with_reducible refine And.intro ?_ ?_|omega|with_reducible rfl)
        refine hnl2 _ (i+1) (by omega) (by omega) (by rw[hcs,← Bool.or_assoc,hbe,Bool.false_or];(refine Turns.slots _ _ rfl ?_;simp only[Tc,↓reduceIte,reduceEqDiff,Nat.reduceBEq,reduceAdd];try trivial))
      · repeat' (first|((first|((first|refine rr ?_|refine rre ?_);intro K hK)|with_reducible refine gO ?_);simp (disch:=omega) only[Ac,↓Pc,simprocAttr,hxx])|(refine hK _ ?_;clear hK K)|(with_reducible refine gS (fun hb'=>?_) (fun hb'=>?_)<;>(have hb:=hb';(try simp only[DEc,simprocAttr] at hb);simp (disch:=omega) only[Ac,↓Pc,simprocAttr,hxx,hb'];clear hb'))|(refine Wc (fun ht=>?_) (fun ht=>?_)<;>(try simp only[DEc,simprocAttr] at ht))|refine Wz rfl ?_|(refine Wb ?_;intro Qb hnb hxb heb)|(refine Wk ?_;intro Q hn he)|((first|refine hn _ ?_|refine he _ _ rfl ?_);clear hn he;try clear Q)|((first|refine hnb _ ?_|refine hxb _ ?_|refine heb _ _ rfl ?_);clear hnb hxb heb;try clear Qb)|(simp only[Qc,Kc,simprocAttr])|with_reducible refine And.intro ?_ ?_|omega|with_reducible rfl)
        refine hnl2 _ (i+1) (by omega) (by omega) (by rw[hcs,← Bool.or_assoc,hbe,Bool.true_or];(refine Turns.slots _ _ rfl ?_;simp only[Tc,↓reduceIte,reduceEqDiff,Nat.reduceBEq,reduceAdd];try trivial))
    obtain rfl:i=ab.length:=by omega
    rw[List.take_length]
    have hdb:(decide (c=(m.cls.length:Int)) || decide (s=0) || decide (300<nodes.length+1) || ab.contains c)=(d0 || ab.contains c):=by
      rw[← hd0,hnl1]
      congr 2
      exact decide_eq_decide.2 (by omega)
    rw[hdb] at hres
    generalize (d0 || ab.contains c)=dn at *
    have key2:∀ st,Turns 4 st ⟨slots [(0,.ptr 0 0 0),(2,.ptr 1 0 0),(3,av),(4,.lit (.int .i64 (s:Nat))),(6,.taddr (eMdl m)),(11,.lit (.int .i64 nodes.length)),(12,.lit (.int .i64 c)),(13,.lit (.bool dn))],[.var [.tree 1 (ints L),.lit (.int .i64 k1)],.var [.ref 4 5 0 N1.length],.gone,xo,.arr 5 (rowsOf eNd N1)]⟩→Ql (.exit 0) st:=fun st hts=>by
      refine hel _ _ rfl ?_
      clear hnl2 hel
      repeat (first|((first|refine hn _ ?_|refine he _ _ rfl ?_);clear hn he;try clear Q)|((first|refine hnb _ ?_|refine hxb _ ?_|refine heb _ _ rfl ?_);clear hnb hxb heb;try clear Qb)|(refine hel _ _ rfl ?_;clear hnl hel;try clear Ql))
      refine W_turn hts ?_
      clear hts st
      cases dn
      rotate_left
      · rw[if_pos rfl] at hres
        have hmv:=movesF_ok m hm (fun l hl=>(hsome l hl).1) L k1 3 (by decide) hk1 hL
        generalize movF L m 3 k1=mf at *
        obtain ⟨mvs,k2⟩:=mf
        dsimp only at hmv hres
        have hN1n:N1[nodes.length]?=some (leafN []):=by rw[← hN1];simp
        have hrg:(rowsOf eNd N1)[nodes.length]?=some (eNd (leafN [])):=by unfold rowsOf;rw[List.getElem?_map,hN1n];rfl
        have hrs2:(rowsOf eNd N1).set nodes.length (eNd (leafN mvs))=rowsOf eNd (nodes++[leafN mvs]):=by
          rw[← hN1]
          unfold rowsOf
          rw[List.map_append,List.set_append_right _ _ (by simp)];simp
        repeat' (first|((first|((fail_if_success (first|refine W_at 10 ?_|refine W_atE 10 ?_));(first|refine rr ?_|refine rre ?_);intro K hK)|with_reducible refine gO ?_);simp (disch:=omega) only[Ac,↓Pc,simprocAttr])|(refine hK _ ?_;clear hK K)|(with_reducible refine gS (fun hb'=>?_) (fun hb'=>?_)<;>(have hb:=hb';(try simp only[DEc,simprocAttr] at hb);simp (disch:=omega) only[Ac,↓Pc,simprocAttr,hb'];clear hb'))|(refine Wc (fun ht=>?_) (fun ht=>?_)<;>(try simp only[DEc,simprocAttr] at ht))|refine Wz rfl ?_|(refine Wb ?_;intro Qb hnb hxb heb)|(refine Wk ?_;intro Q hn he)|((first|refine hn _ ?_|refine he _ _ rfl ?_);clear hn he;try clear Q)|((first|refine hnb _ ?_|refine hxb _ ?_|refine heb _ _ rfl ?_);clear hnb hxb heb;try clear Qb)|(simp only[Qc,Kc,simprocAttr])|with_reducible refine And.intro ?_ ?_|omega|with_reducible rfl)
        refine W_draw [6] (.take 0 (.take 4 (.take 5 (.take 6 (.both 1 (.both 2 (.both 3 (.take 7 (.take 8 (.take 9 (.take 10 .nil)))) 7 (.take 3 (.take 8 (.take 9 (.take 10 .nil))))) 7 (.take 2 (.take 3 (.take 8 (.take 9 (.take 10 .nil)))))) 7 (.take 1 (.take 2 (.take 3 (.take 8 (.take 9 (.take 10 .nil))))))))))) rfl (by decide) (by decide +kernel) ?_
        unfold dice at hmv
        simp (disch:=omega) only[Ac,↓Pc,simprocAttr,planW_three,planW_both,planW_take,planW_nil,stepAt,stepD,↓Lq,hrg]
        repeat' (first|with_reducible refine And.intro ?_ ?_|omega|with_reducible rfl)
        all_goals
          refine callK_sel [0] hmv (by decide) ⟨rfl,trivial⟩ ⟨.eq rfl,.pure rfl,.pure rfl,trivial⟩ ?_
          simp (disch:=omega) only[Ac,↓Pc,simprocAttr,planW_three,planW_both,planW_take,planW_nil,stepAt,stepD,↓Lq,hrg,eNd,leafN]
          repeat' (first|with_reducible refine And.intro ?_ ?_|omega|with_reducible rfl)
        all_goals
          repeat (first|((first|refine hn _ ?_|refine he _ _ rfl ?_);clear hn he;try clear Q)|((first|refine hnb _ ?_|refine hxb _ ?_|refine heb _ _ rfl ?_);clear hnb hxb heb;try clear Qb)|(refine hel _ _ rfl ?_;clear hnl hel;try clear Ql))
          repeat' (first|((first|((first|refine rr ?_|refine rre ?_);intro K hK)|with_reducible refine gO ?_);simp (disch:=omega) only[Ac,↓Pc,simprocAttr])|(refine hK _ ?_;clear hK K)|(with_reducible refine gS (fun hb'=>?_) (fun hb'=>?_)<;>(have hb:=hb';(try simp only[DEc,simprocAttr] at hb);simp (disch:=omega) only[Ac,↓Pc,simprocAttr,hb'];clear hb'))|(refine Wc (fun ht=>?_) (fun ht=>?_)<;>(try simp only[DEc,simprocAttr] at ht))|refine Wz rfl ?_|(refine Wb ?_;intro Qb hnb hxb heb)|(refine Wk ?_;intro Q hn he)|((first|refine hn _ ?_|refine he _ _ rfl ?_);clear hn he;try clear Q)|((first|refine hnb _ ?_|refine hxb _ ?_|refine heb _ _ rfl ?_);clear hnb hxb heb;try clear Qb)|(refine hel _ _ rfl ?_;clear hnl hel;try clear Ql)|(simp only[Qc,Kc,simprocAttr])|with_reducible refine And.intro ?_ ?_|omega|with_reducible rfl)
          rw[← hres]
          refine RetOK_all ?_ (by simp) rfl
          dsimp only
          rw[← hrs2,hnl1,List.length_append];rfl
      · rw[if_neg (by simp)] at hres
        simp only[Bool.or_eq_false_iff,decide_eq_false_iff_not] at hdb
        obtain ⟨⟨⟨d1,d2⟩,d3⟩,d4⟩:=hdb
        obtain ⟨s,rfl⟩ :∃s',s=s'+1:=⟨s - 1,by omega⟩
        rw[Nat.add_sub_cancel] at hres
        have hcl:c.toNat<m.cls.length:=by omega
        have hcw:=hsome _ (getD_mem (l:=m.cls) (i:=c.toNat) (d:=default) hcl)
        have hszE:szB w (s+1)=1+w * szB w s:=rfl
        have hs1:((s+1:Nat):Int) - 1=(s:Nat):=by omega
        have hc0:=hca.1
        have hab2:∀ x∈ab++[c],0≤x:=fun x hx=>by
          rw[List.mem_append,List.mem_singleton] at hx
          rcases hx with hx | rfl
          · exact hab0 x hx
          · exact hc0
        have hgo:=fun n q (hq:q≤L.length)=>growF_ok hm hsome (L:=L) s n q (ab++[c]) hq hab2
        generalize hcc:m.cls.getD c.toNat default=cls at *
        generalize hR:growL (fun n q=>growF m L s n q (ab++[c])) cls.length N1 k1 []=R at *
        have hmul:∀ i,i<cls.length→i * szB w s+szB w s≤w * szB w s:=fun i hi=>by
          have:(i+1) * szB w s≤w * szB w s:=Nat.mul_le_mul_right _ (by omega)
          rw[Nat.add_mul,Nat.one_mul] at this
          exact this
        repeat' (first|((first|((first|refine rr ?_|refine rre ?_);intro K hK)|with_reducible refine gO ?_);simp (disch:=omega) only[Ac,↓Pc,simprocAttr])|(refine hK _ ?_;clear hK K)|(with_reducible refine gS (fun hb'=>?_) (fun hb'=>?_)<;>(have hb:=hb';(try simp only[DEc,simprocAttr] at hb);simp (disch:=omega) only[Ac,↓Pc,simprocAttr,hb'];clear hb'))|(refine Wc (fun ht=>?_) (fun ht=>?_)<;>(try simp only[DEc,simprocAttr] at ht))|refine Wz rfl ?_|(refine Wb ?_;intro Qb hnb hxb heb)|(refine Wk ?_;intro Q hn he)|((first|refine hn _ ?_|refine he _ _ rfl ?_);clear hn he;try clear Q)|((first|refine hnb _ ?_|refine hxb _ ?_|refine heb _ _ rfl ?_);clear hnb hxb heb;try clear Qb)|(refine hel _ _ rfl ?_;clear hnl hel;try clear Ql)|(simp only[Qc,Kc,simprocAttr])|with_reducible refine And.intro ?_ ?_|omega|with_reducible rfl)
        refine W_loopS (fun z:Nat × List Nd × Nat × List Int=>(⟨slots [(0,.ptr 0 0 0),(2,.ptr 1 0 0),(3,av),(4,.lit (.int .i64 (s+1:Nat))),(6,.taddr (eMdl m)),(11,.lit (.int .i64 nodes.length)),(12,.lit (.int .i64 c)),(15,.ref 5 1 0 z.2.2.2.length),(16,.lit (.int .i64 z.1))],[.var [.tree 1 (ints L),.lit (.int .i64 z.2.2.1)],.var [.ref 4 5 0 z.2.1.length],.gone,xo,.arr 5 (rowsOf eNd z.2.1),.arr 1 (ints z.2.2.2)]⟩:St))
          (fun z=>z.1≤cls.length∧z.2.2.1≤L.length∧z.2.2.2.length=z.1∧nodes.length<z.2.1.length∧nd z.2.1 nodes.length=leafN []∧z.2.1.length≤N1.length+z.1 * szB w s∧growL (fun n q=>growF m L s n q (ab++[c])) (cls.length - z.1) z.2.1 z.2.2.1 z.2.2.2=R) (fun z=>cls.length - z.1) (0,N1,k1,[]) ⟨Nat.zero_le _,hk1,rfl,by dsimp only;omega,by dsimp only;rw[← hN1,nd_last],by dsimp only;omega,hR⟩ ?_ ?_
        · refine Turns.trans (Turns.nil 15 1 (by simp only[Kc,simprocAttr]) (by decide)) ?_
          (refine Turns.slots _ _ rfl ?_;simp only[Tc,↓reduceIte,reduceEqDiff,Nat.reduceBEq,reduceAdd];try trivial)
        rintro ⟨i,ns,q,ks⟩ ⟨hi,hq,hks,hnlt,hnt,hns,hr⟩ Ql3 hnl3 hel3
        dsimp only at hi hq hks hnlt hnt hns hr ⊢
        by_cases hi':i<cls.length
        · have hmi:=hmul i hi'
          have hg1:=hgo ns q hq
          have hih:=ih s (Nat.lt_succ_self s) (by omega) (by have:=Nat.le_mul_of_pos_left (szB w s) (show 0<w by omega);omega) ns q (ab++[c]) (.ref 3 1 0 (ab++[c]).length) (.arr 1 (ints (ab++[c]))) hq (by omega) (by rw[List.length_append,List.length_singleton];omega) hab2 (.inr ⟨rfl,rfl⟩)
          rw[show cls.length - i=(cls.length - (i+1))+1 by omega,growL] at hr
          generalize growF m L s ns q (ab++[c])=gr at *
          obtain ⟨ns2,q2⟩:=gr
          dsimp only at hih hr
          have g1:=hg1.k
          have g2:=hg1.lt
          have g3:=hg1.le
          dsimp only at g1 g2 g3
          have hal2:(ab++[c]).length=ab.length+1:=by simp
          rw[hal2] at hih
          unfold dice at hih
          have hfin:∀ st,Turns 4 st ⟨slots [(0,.ptr 0 0 0),(2,.ptr 1 0 0),(3,av),(4,.lit (.int .i64 (s+1:Nat))),(6,.taddr (eMdl m)),(11,.lit (.int .i64 nodes.length)),(12,.lit (.int .i64 c)),(15,.ref 5 1 0 (ks++[(ns.length:Int)]).length),(16,.lit (.int .i64 (i+1:Nat)))],[.var [.tree 1 (ints L),.lit (.int .i64 q2)],.var [.ref 4 5 0 ns2.length],.gone,xo,.arr 5 (rowsOf eNd ns2),.arr 1 (ints (ks++[(ns.length:Int)]))]⟩→Ql3 .normal st:=fun st hts =>
            hnl3 st (i+1,ns2,q2,ks++[(ns.length:Int)]) ⟨by dsimp only;omega,g1,by simp;omega,by dsimp only;omega,(hg1.pre _ hnlt).trans hnt,by dsimp only;rw[Nat.add_mul,Nat.one_mul];omega,hr⟩ (by dsimp only;omega) hts
          rcases hAb with ⟨ha0,hea,m',hex⟩ | ⟨hea,hex⟩
          · rw[ha0] at hih hal2
            repeat' (first|((first|((fail_if_success (first|refine W_at 16 ?_|refine W_atE 16 ?_));(first|refine rr ?_|refine rre ?_);intro K hK)|with_reducible refine gO ?_);simp (disch:=omega) only[Ac,↓Pc,simprocAttr,hcc,eCls])|(refine hK _ ?_;clear hK K)|(with_reducible refine gS (fun hb'=>?_) (fun hb'=>?_)<;>(have hb:=hb';(try simp only[DEc,simprocAttr] at hb);simp (disch:=omega) only[Ac,↓Pc,simprocAttr,hcc,eCls,hb'];clear hb'))|(refine Wc (fun ht=>?_) (fun ht=>?_)<;>(try simp only[DEc,simprocAttr] at ht))|refine Wz rfl ?_|(refine Wb ?_;intro Qb hnb hxb heb)|(refine Wk ?_;intro Q hn he)|((first|refine hn _ ?_|refine he _ _ rfl ?_);clear hn he;try clear Q)|((first|refine hnb _ ?_|refine hxb _ ?_|refine heb _ _ rfl ?_);clear hnb hxb heb;try clear Qb)|(simp only[Qc,Kc,simprocAttr])|with_reducible refine And.intro ?_ ?_|omega|with_reducible rfl)
            refine W_draw [2] (.take 0 (.take 1 (.take 2 (.take 3 (.take 4 (.take 6 (.take 9 (.take 10 (.both 5 (.take 7 (.take 8 (.take 11 (.take 12 (.take 13 (.take 14 .nil)))))) 7 (.take 5 (.take 8 (.take 11 (.take 12 (.take 13 (.take 14 .nil))))))))))))))) rfl (by decide) (by decide +kernel) ?_
            simp (disch:=omega) only[Ac,↓Pc,simprocAttr,planW_three,planW_both,planW_take,planW_nil,stepAt,stepD,↓Lq,hea,hs1,ints_app1]
            repeat' (first|with_reducible refine And.intro ?_ ?_|omega|with_reducible rfl)
            all_goals
              refine callK_sel [0,1,4,8] hih (by decide) ⟨rfl,rfl,by rw[rows_ren];rfl,by rw[ints_ren];rfl,trivial⟩ ⟨.eq rfl,.pure rfl,.eq rfl,.eq rfl,.pure rfl,trivial⟩ ?_
              simp (disch:=omega) only[Ac,↓Pc,simprocAttr,planW_three,planW_both,planW_take,planW_nil,stepAt,stepD,↓Lq,hs1]
              repeat' (first|with_reducible refine And.intro ?_ ?_|omega|with_reducible rfl)
            all_goals
              repeat (first|((first|refine hn _ ?_|refine he _ _ rfl ?_);clear hn he;try clear Q)|((first|refine hnb _ ?_|refine hxb _ ?_|refine heb _ _ rfl ?_);clear hnb hxb heb;try clear Qb)|(refine hel _ _ rfl ?_;clear hnl hel;try clear Ql))
              repeat' (first|((first|((first|refine rr ?_|refine rre ?_);intro K hK)|with_reducible refine gO ?_);simp (disch:=omega) only[Ac,↓Pc,simprocAttr])|(refine hK _ ?_;clear hK K)|(with_reducible refine gS (fun hb'=>?_) (fun hb'=>?_)<;>(have hb:=hb';(try simp only[DEc,simprocAttr] at hb);simp (disch:=omega) only[Ac,↓Pc,simprocAttr,hb'];clear hb'))|(refine Wc (fun ht=>?_) (fun ht=>?_)<;>(try simp only[DEc,simprocAttr] at ht))|refine Wz rfl ?_|(refine Wb ?_;intro Qb hnb hxb heb)|(refine Wk ?_;intro Q hn he)|((first|refine hn _ ?_|refine he _ _ rfl ?_);clear hn he;try clear Q)|((first|refine hnb _ ?_|refine hxb _ ?_|refine heb _ _ rfl ?_);clear hnb hxb heb;try clear Qb)|(simp only[Qc,Kc,simprocAttr])|with_reducible refine And.intro ?_ ?_|omega|with_reducible rfl)
              refine hfin _ ?_
              ((refine Turns.se [0,1,2,3,9,11] false (by simp only[Oc,simprocAttr,hxo]) ?_;simp only[Hr,↓reduceIte,reduceEqDiff,Nat.reduceBEq,reduceAdd,hxo];try (and_intros<;>first|exact .pure rfl|exact .eq rfl|exact .fz rfl (by simp only[Bc,Rc]))))
              and_intros<;>first|exact .pure rfl|exact .eq rfl|(rw[hea];exact .pure rfl)|(rw[hea];exact .eq rfl)
          · have hxl:xo=Ob.arr 1 (ints ab):=hex
            repeat' (first|((first|((fail_if_success (first|refine W_at 16 ?_|refine W_atE 16 ?_));(first|refine rr ?_|refine rre ?_);intro K hK)|with_reducible refine gO ?_);simp (disch:=omega) only[Ac,↓Pc,simprocAttr,hcc,eCls])|(refine hK _ ?_;clear hK K)|(with_reducible refine gS (fun hb'=>?_) (fun hb'=>?_)<;>(have hb:=hb';(try simp only[DEc,simprocAttr] at hb);simp (disch:=omega) only[Ac,↓Pc,simprocAttr,hcc,eCls,hb'];clear hb'))|(refine Wc (fun ht=>?_) (fun ht=>?_)<;>(try simp only[DEc,simprocAttr] at ht))|refine Wz rfl ?_|(refine Wb ?_;intro Qb hnb hxb heb)|(refine Wk ?_;intro Q hn he)|((first|refine hn _ ?_|refine he _ _ rfl ?_);clear hn he;try clear Q)|((first|refine hnb _ ?_|refine hxb _ ?_|refine heb _ _ rfl ?_);clear hnb hxb heb;try clear Qb)|(simp only[Qc,Kc,simprocAttr])|with_reducible refine And.intro ?_ ?_|omega|with_reducible rfl)
            refine W_draw [2] (.take 0 (.take 1 (.take 2 (.take 3 (.take 4 (.take 6 (.take 9 (.take 10 (.both 5 (.take 7 (.take 8 (.take 11 (.take 12 (.take 13 (.take 14 .nil)))))) 7 (.take 5 (.take 8 (.take 11 (.take 12 (.take 13 (.take 14 .nil))))))))))))))) rfl (by decide) (by decide +kernel) ?_
            simp (disch:=omega) only[Ac,↓Pc,simprocAttr,planW_three,planW_both,planW_take,planW_nil,stepAt,stepD,↓Lq,hea,hex,hs1,ints_app1]
            repeat' (first|with_reducible refine And.intro ?_ ?_|omega|with_reducible rfl)
            all_goals
              refine callK_sel [0,1,4,8] hih (by decide) ⟨rfl,rfl,by rw[rows_ren];rfl,by rw[ints_ren];rfl,trivial⟩ ⟨.eq rfl,.pure rfl,.eq rfl,.eq rfl,.pure rfl,trivial⟩ ?_
              simp (disch:=omega) only[Ac,↓Pc,simprocAttr,planW_three,planW_both,planW_take,planW_nil,stepAt,stepD,↓Lq,hs1]
              repeat' (first|with_reducible refine And.intro ?_ ?_|omega|with_reducible rfl)
            all_goals
              repeat (first|((first|refine hn _ ?_|refine he _ _ rfl ?_);clear hn he;try clear Q)|((first|refine hnb _ ?_|refine hxb _ ?_|refine heb _ _ rfl ?_);clear hnb hxb heb;try clear Qb)|(refine hel _ _ rfl ?_;clear hnl hel;try clear Ql))
              repeat' (first|((first|((first|refine rr ?_|refine rre ?_);intro K hK)|with_reducible refine gO ?_);simp (disch:=omega) only[Ac,↓Pc,simprocAttr])|(refine hK _ ?_;clear hK K)|(with_reducible refine gS (fun hb'=>?_) (fun hb'=>?_)<;>(have hb:=hb';(try simp only[DEc,simprocAttr] at hb);simp (disch:=omega) only[Ac,↓Pc,simprocAttr,hb'];clear hb'))|(refine Wc (fun ht=>?_) (fun ht=>?_)<;>(try simp only[DEc,simprocAttr] at ht))|refine Wz rfl ?_|(refine Wb ?_;intro Qb hnb hxb heb)|(refine Wk ?_;intro Q hn he)|((first|refine hn _ ?_|refine he _ _ rfl ?_);clear hn he;try clear Q)|((first|refine hnb _ ?_|refine hxb _ ?_|refine heb _ _ rfl ?_);clear hnb hxb heb;try clear Qb)|(simp only[Qc,Kc,simprocAttr])|with_reducible refine And.intro ?_ ?_|omega|with_reducible rfl)
              refine hfin _ ?_
              ((refine Turns.se [0,1,2,3,9,11] false (by simp only[Oc,simprocAttr,hxo,hex]) ?_;simp only[Hr,↓reduceIte,reduceEqDiff,Nat.reduceBEq,reduceAdd,hxo,hex];try (and_intros<;>first|exact .pure rfl|exact .eq rfl|exact .fz rfl (by simp only[Bc,Rc]))))
              and_intros<;>first|exact .pure rfl|exact .eq rfl|(rw[hea];exact .pure rfl)|(rw[hea];exact .eq rfl)
        · obtain rfl:i=cls.length:=by omega
          rw[Nat.sub_self,growL] at hr
          have hrg3:(rowsOf eNd ns)[nodes.length]?=some (eNd (leafN [])):=by
            rw[← hnt]
            exact rows_get ns nodes.length hnlt
          have hrs3:(rowsOf eNd ns).set nodes.length (eNd ⟨c,ks,[],[],[]⟩)=rowsOf eNd (ns.set nodes.length ⟨c,ks,[],[],[]⟩):=by unfold rowsOf;rw[List.map_set]
          have hst:∀ x:List AV,((rowsOf eNd ns).set nodes.length x)[nodes.length]?=some x:=fun x=>by rw[List.getElem?_set,if_pos rfl,if_pos (by simpa [rowsOf] using hnlt)]
          rw[← hr] at hres
          repeat' (first|((first|((first|refine rr ?_|refine rre ?_);intro K hK)|with_reducible refine gO ?_);simp (disch:=omega) only[Ac,↓Pc,simprocAttr,hcc,eCls])|(refine hK _ ?_;clear hK K)|(with_reducible refine gS (fun hb'=>?_) (fun hb'=>?_)<;>(have hb:=hb';(try simp only[DEc,simprocAttr] at hb);simp (disch:=omega) only[Ac,↓Pc,simprocAttr,hcc,eCls,hb'];clear hb'))|(refine Wc (fun ht=>?_) (fun ht=>?_)<;>(try simp only[DEc,simprocAttr] at ht))|refine Wz rfl ?_|(refine Wb ?_;intro Qb hnb hxb heb)|(refine Wk ?_;intro Q hn he)|((first|refine hn _ ?_|refine he _ _ rfl ?_);clear hn he;try clear Q)|((first|refine hnb _ ?_|refine hxb _ ?_|refine heb _ _ rfl ?_);clear hnb hxb heb;try clear Qb)|(simp only[Qc,Kc,simprocAttr])|with_reducible refine And.intro ?_ ?_|omega|with_reducible rfl)
          refine hel3 _ _ rfl ?_
          clear hnl3 hel3
          repeat (first|((first|refine hn _ ?_|refine he _ _ rfl ?_);clear hn he;try clear Q)|((first|refine hnb _ ?_|refine hxb _ ?_|refine heb _ _ rfl ?_);clear hnb hxb heb;try clear Qb)|(refine hel _ _ rfl ?_;clear hnl hel;try clear Ql))
          refine W_turn (σ':=⟨slots [(2,.ptr 1 0 0),(11,.lit (.int .i64 nodes.length)),(12,.lit (.int .i64 c)),(15,.tree 1 (ints ks))],[.var [.tree 1 (ints L),.lit (.int .i64 q)],.var [.ref 4 5 0 ns.length],.gone,xo,.arr 5 (rowsOf eNd ns)]⟩) (by (refine Turns.se [0,1,2,3,4] true (by simp only[Oc,simprocAttr,hxo]) ?_;simp only[Hr,↓reduceIte,reduceEqDiff,Nat.reduceBEq,reduceAdd,hxo];try (and_intros<;>first|exact .pure rfl|exact .eq rfl|exact .fz rfl (by simp only[Bc,Rc])))) ?_
          refine Wk ?_;intro Q hn he
          refine W_draw [] (.take 0 (.take 1 (.take 2 (.take 3 (.take 4 (.take 5 (.take 6 (.take 7 (.take 8 (.take 9 (.take 10 (.take 11 (.take 12 (.take 13 (.take 14 (.take 15 (.take 16 (.take 17 .nil)))))))))))))))))) rfl (by decide) (by decide +kernel) ?_
          simp (disch:=omega) only[Ac,↓Pc,simprocAttr,planW_three,planW_both,planW_take,planW_nil,stepAt,stepD,hrg3,eNd,leafN,hst,List.set_set]
          repeat' (first|with_reducible refine And.intro ?_ ?_|omega|with_reducible rfl)
          refine hn _ ?_
          repeat' (first|((first|((first|refine rr ?_|refine rre ?_);intro K hK)|with_reducible refine gO ?_);simp (disch:=omega) only[Ac,↓Pc,simprocAttr])|(refine hK _ ?_;clear hK K)|(with_reducible refine gS (fun hb'=>?_) (fun hb'=>?_)<;>(have hb:=hb';(try simp only[DEc,simprocAttr] at hb);simp (disch:=omega) only[Ac,↓Pc,simprocAttr,hb'];clear hb'))|(refine Wc (fun ht=>?_) (fun ht=>?_)<;>(try simp only[DEc,simprocAttr] at ht))|refine Wz rfl ?_|(refine Wb ?_;intro Qb hnb hxb heb)|(refine Wk ?_;intro Q hn he)|((first|refine hn _ ?_|refine he _ _ rfl ?_);clear hn he;try clear Q)|((first|refine hnb _ ?_|refine hxb _ ?_|refine heb _ _ rfl ?_);clear hnb hxb heb;try clear Qb)|(refine hel _ _ rfl ?_;clear hnl hel;try clear Ql)|(simp only[Qc,Kc,simprocAttr])|with_reducible refine And.intro ?_ ?_|omega|with_reducible rfl)
          rw[← hres]
          refine RetOK_all ?_ (by simp) rfl
          dsimp only
          rw[List.length_set,← hrs3];rfl
    rcases hAb with ⟨ha0,hea,m',hex⟩ | ⟨hea,hex⟩
    · repeat' (first|((first|((first|refine rr ?_|refine rre ?_);intro K hK)|with_reducible refine gO ?_);simp (disch:=omega) only[Ac,↓Pc,simprocAttr,hea,ha0,List.length_nil])|(refine hK _ ?_;clear hK K)|(with_reducible refine gS (fun hb'=>?_) (fun hb'=>?_)<;>(have hb:=hb';(try simp only[DEc,simprocAttr] at hb);simp (disch:=omega) only[Ac,↓Pc,simprocAttr,hea,ha0,List.length_nil,hb'];clear hb'))|(refine Wc (fun ht=>?_) (fun ht=>?_)<;>(try simp only[DEc,simprocAttr] at ht))|refine Wz rfl ?_|(refine Wb ?_;intro Qb hnb hxb heb)|(refine Wk ?_;intro Q hn he)|((first|refine hn _ ?_|refine he _ _ rfl ?_);clear hn he;try clear Q)|((first|refine hnb _ ?_|refine hxb _ ?_|refine heb _ _ rfl ?_);clear hnb hxb heb;try clear Qb)|(simp only[Qc,Kc,simprocAttr])|with_reducible refine And.intro ?_ ?_|omega|with_reducible rfl)
      all_goals try (exfalso;omega)
      exact key2 _ (by (refine Turns.slots _ _ rfl ?_;simp only[Tc,↓reduceIte,reduceEqDiff,Nat.reduceBEq,reduceAdd,hea];try trivial))
    · repeat' (first|((first|((first|refine rr ?_|refine rre ?_);intro K hK)|with_reducible refine gO ?_);simp (disch:=omega) only[Ac,↓Pc,simprocAttr,hea,hex])|(refine hK _ ?_;clear hK K)|(with_reducible refine gS (fun hb'=>?_) (fun hb'=>?_)<;>(have hb:=hb';(try simp only[DEc,simprocAttr] at hb);simp (disch:=omega) only[Ac,↓Pc,simprocAttr,hea,hex,hb'];clear hb'))|(refine Wc (fun ht=>?_) (fun ht=>?_)<;>(try simp only[DEc,simprocAttr] at ht))|refine Wz rfl ?_|(refine Wb ?_;intro Qb hnb hxb heb)|(refine Wk ?_;intro Q hn he)|((first|refine hn _ ?_|refine he _ _ rfl ?_);clear hn he;try clear Q)|((first|refine hnb _ ?_|refine hxb _ ?_|refine heb _ _ rfl ?_);clear hnb hxb heb;try clear Qb)|(simp only[Qc,Kc,simprocAttr])|with_reducible refine And.intro ?_ ?_|omega|with_reducible rfl)
      all_goals try (exfalso;omega)
      exact key2 _ (by rw[hex];(refine Turns.slots _ _ rfl ?_;simp only[Tc,↓reduceIte,reduceEqDiff,Nat.reduceBEq,reduceAdd,hea];try trivial))
end T

