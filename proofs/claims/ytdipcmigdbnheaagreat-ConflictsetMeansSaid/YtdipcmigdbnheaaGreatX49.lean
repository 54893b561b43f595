import Derived.Test.YtdipcmigdbnheaaGreatX48
import Derived.Test.YtdipcmigdbnheaaGreatX46
import Derived.Test.YtdipcmigdbnheaaGreatX14
set_option linter.unusedVariables false
set_option linter.unusedSimpArgs false
set_option linter.unnecessarySimpa false
set_option linter.unusedSectionVars false
set_option maxHeartbeats 64000000
set_option maxRecDepth 20000
open Bool renaming false_and→mq,true_and→ic
open Nat renaming zero_le→aM,add_sub_cancel→Fe,sub_self→j8
open And renaming intro→fB
open Go Go.Am Go.Proofs
open Nat (reduceEqDiff reduceAdd reduceLeDiff reduceMul)
open Int (reduceNeg reduceLE reduceToNat)
namespace T
structure CB (c:ue):Prop where
  im:c.rules.length<9223372036854775808
  ZJ:c.sV.length<9223372036854775808
  row:∀ p∈c.sV,p.length<9223372036854775808
  w0:PB c.nodes
theorem ZG {m:aj} {l:List Int} (h:mG m l):bU l (-1)=l:=G0 fun hx=>by have:=(h.2 _ hx).1;omega
theorem N8 (m:aj) (hm:MB m) (c:ue) (hc:CB c) (Oi:VM m→mG m c.rules→an Tryz.prog 40 [.agg (ar (bN m c.rules)),.agg (cH c.nodes)] [] (.bG [.lit (.int .i64 (l9 (bN m c.rules) c.nodes).1),.lit (.bool (l9 (bN m c.rules) c.nodes).2)]) []):an Tryz.prog 34 [.agg (ar m),.agg (pH c)] [] (.lit (.bool (yG m c))) []:=by
  have h1:=qz m hm
  have cF:=hc.im
  have cq:=hc.ZJ
  have m6:=hc.row
  have cC:=hc.w0
  clear hc
  obtain ⟨R,P,S⟩:=c
  generalize ao:yG m ⟨R,P,S⟩=res
  unfold yG at ao
  unfold pH
  dsimp only at cF cq m6 cC Oi ao ⊢
  by_cases hv:dz m=0
  rotate_left
  · rw[decide_eq_false (fun e=>hv e.1),mq] at ao
    subst ao
    generalize dz m=e at *
    refine an.aD (fn:=Tryz.f34) 128 0 [.tmp 4] Tryz.func34 rfl rfl rfl rfl rfl (by simp) ?_
    ((try revert hK K);(repeat' (first|refine Vd X0 h1 ?_|(refine V2 X0 ?_ ?_<;>try with_reducible intro hb)|(refine Xi ?_ ?_<;>try intro ht)|refine VD ?_ ?_|exact Xx|fail))<;>try with_reducible intro K hK)
    all_goals try (exfalso;omega)
    all_goals exact aK rfl rfl
  by_cases hlen:S.length=R.length
  rotate_left
  · rw[decide_eq_false (fun e=>hlen e.2),mq] at ao
    subst ao
    rw[hv] at h1
    refine an.aD (fn:=Tryz.f34) 128 0 [.tmp 4] Tryz.func34 rfl rfl rfl rfl rfl (by simp) ?_
    ((try revert hK K);(repeat' (first|refine Vd (X2 @bne_self_eq_false.{0} @qh) h1 ?_|(refine V2 (X2 @bne_self_eq_false.{0} @qh) ?_ ?_<;>try with_reducible intro hb)|(refine Xi ?_ ?_<;>try intro ht)|refine VD ?_ ?_|exact Xx|fail))<;>try with_reducible intro K hK)
    all_goals try (exfalso;omega)
    all_goals exact aK rfl rfl
  rw[decide_eq_true ⟨hv,hlen⟩,ic] at ao
  rw[hv] at h1
  have dM:=eB.1 hv
  refine an.aD (fn:=Tryz.f34) 128 0 [.tmp 4] Tryz.func34 rfl rfl rfl rfl rfl (by simp) ?_
  ((try revert hK K);(repeat' (first|refine Vc (X2 @bne_self_eq_false.{0} @qh) h1 ?_|(refine V2 (X2 @bne_self_eq_false.{0} @qh) ?_ ?_<;>try with_reducible intro hb)|(refine Xi ?_ ?_<;>try intro ht)|refine VD ?_ ?_|exact Xx|fail))<;>try with_reducible intro K hK)
  all_goals try (exfalso;omega)
  refine bJ (aB.l6 2 0 (cells:=ar m) (by rfl) (by simp only[Kc,simprocAttr]) (by simp[ar])) ?_
  refine bJ (aB.l6 3 1 (cells:=pH ⟨R,P,S⟩) (by rfl) (by simp only[Kc,simprocAttr]) (by simp[pH])) ?_
  unfold pH
  dsimp only
  generalize hF:nU (oP m.rules R) R.length 0=fb at *
  refine aU (fun i:Nat=>(⟨aw [(2,.b7 (ar m)),(3,.b7 [.tree 1 (ints R),.tree 5 (rowsOf cL P),.tree 1 (fE S)]),(32,.tree 1 (ints R)),(33,.lit (.int .i64 R.length)),(34,.lit (.int .i64 i))],[]⟩:St))
    (fun i=>i≤R.length∧nU (oP m.rules R) (R.length - i) i=fb) (fun i=>R.length - i) 0 ⟨aM _,hF⟩ (Xs false [] @kd) ?_
  rintro i ⟨hi,hf⟩ Ql aq av
  by_cases hi':i<R.length
  · rw[show R.length - i=(R.length - (i+1))+1 by omega,nU] at hf
    by_cases ha:oP m.rules R i=true
    · rw[ha,ic] at hf
      unfold oP at ha
      rw[decide_eq_true_eq] at ha
      obtain ⟨a1,a2,a3⟩:=ha
      cases i with
      | zero =>
        generalize bE:R.getD 0 0=n at *
        ((try revert hK K);(repeat' (first|refine Va @bE ?_|(refine V2 @bE ?_ ?_<;>try with_reducible intro hb)|(refine Xi ?_ ?_<;>try intro ht)|refine VD ?_ ?_|exact Xx|fail))<;>try with_reducible intro K hK)
        all_goals try (exfalso;omega)
        all_goals exact aq _ 1 ⟨by omega,hf⟩ (by omega) (Xv X0)
      | succ j =>
        have wV:((j+1:Nat):Int) - 1=(j:Nat):=by omega
        rw[Fe] at a3
        generalize bE:R.getD (j+1) 0=n at *
        generalize mH:R.getD j 0=y at *
        ((try revert hK K);(repeat' (first|refine Va (X3 @bE @mH @wV) ?_|(refine V2 (X3 @bE @mH @wV) ?_ ?_<;>try with_reducible intro hb)|(refine Xi ?_ ?_<;>try intro ht)|refine VD ?_ ?_|exact Xx|fail))<;>try with_reducible intro K hK)
        all_goals try (exfalso;omega)
        all_goals exact aq _ (j+1+1) ⟨by omega,hf⟩ (by omega) (Xv X0)
    · rw[show oP m.rules R i=false by simpa using ha,mq] at hf
      subst hf
      rw[mq] at ao
      subst ao
      unfold oP at ha
      rw[decide_eq_true_eq] at ha
      cases i with
      | zero =>
        generalize bE:R.getD 0 0=n at *
        ((try revert hK K);(repeat' (first|refine Va @bE ?_|(refine V2 @bE ?_ ?_<;>try with_reducible intro hb)|(refine Xi ?_ ?_<;>try intro ht)|refine VD ?_ ?_|exact Xx|fail))<;>try with_reducible intro K hK)
        all_goals try (exfalso;omega)
        all_goals
          repeat (first|refine Xu ?_|(refine bM _ _ rfl ?_;clear bP bM;try clear eo)|(refine eV _ _ rfl ?_;clear gM eV;try clear ma)|(refine lh _ _ rfl ?_;clear vr lh;try clear w5))
          ((try revert hK K);(repeat' (first|refine Vb X0 ?_|(refine V2 X0 ?_ ?_<;>try with_reducible intro hb)|(refine Xi ?_ ?_<;>try intro ht)|refine VD ?_ ?_|exact Xx|fail))<;>try with_reducible intro K hK)
          exact aK rfl rfl
      | succ j =>
        have wV:((j+1:Nat):Int) - 1=(j:Nat):=by omega
        rw[Fe] at ha
        generalize bE:R.getD (j+1) 0=n at *
        generalize mH:R.getD j 0=y at *
        ((try revert hK K);(repeat' (first|refine Va (X3 @bE @mH @wV) ?_|(refine V2 (X3 @bE @mH @wV) ?_ ?_<;>try with_reducible intro hb)|(refine Xi ?_ ?_<;>try intro ht)|refine VD ?_ ?_|exact Xx|fail))<;>try with_reducible intro K hK)
        all_goals try (exfalso;omega)
        all_goals
          repeat (first|refine Xu ?_|(refine bM _ _ rfl ?_;clear bP bM;try clear eo)|(refine eV _ _ rfl ?_;clear gM eV;try clear ma)|(refine lh _ _ rfl ?_;clear vr lh;try clear w5))
          ((try revert hK K);(repeat' (first|refine Vb X0 ?_|(refine V2 X0 ?_ ?_<;>try with_reducible intro hb)|(refine Xi ?_ ?_<;>try intro ht)|refine VD ?_ ?_|exact Xx|fail))<;>try with_reducible intro K hK)
          exact aK rfl rfl
  · obtain rfl:i=R.length:=by omega
    rw[j8] at hf
    subst hf
    rw[nU,ic] at ao
    have l8:=ZK dM (hF.trans rfl)
    have bQ:=G1 m dM R l8
    have qA:=G2 m dM R
    have ri:VM (bN m R):=yH dM R
    have ep:=Oi dM l8
    unfold Dx at ao
    dsimp only at ao
    generalize hq:l9 (bN m R) P=q at *
    obtain ⟨bn,ok⟩:=q
    generalize bN m R=r at *
    generalize fW m.rules R=kb at *
    repeat' (first|((fail_if_success (first|refine ej 10 ?_|refine ek 10 ?_));refine Xr X0 ?_;intro K hK)|refine Xo X0 ?_|(refine hK _ ?_;clear hK K)|(refine Xg X0 ?_ ?_<;>try intro hb)|(refine Xi ?_ ?_<;>try intro ht)|refine Xy ?_|refine Xd ?_ ?_|exact Xx|fail)
    refine av _ _ rfl ?_;clear aq av Ql
    repeat (first|refine Xu ?_)
    repeat' (first|((fail_if_success (first|refine ej 10 ?_|refine ek 10 ?_));refine Xr X0 ?_;intro K hK)|refine Xo X0 ?_|(refine hK _ ?_;clear hK K)|(refine Xg X0 ?_ ?_<;>try intro hb)|(refine Xi ?_ ?_<;>try intro ht)|refine Xy ?_|refine Xd ?_ ?_|exact Xx|fail)
    refine jT [0,2,3,4] (.take 0 (.take 1 (.take 2 (.take 3 (.take 4 (.take 5 (.take 6 (.take 7 (.take 8 (.take 9 (.take 10 .nil))))))))))) rfl (by decide) (by decide +kernel) ?_
    simp (disch:=omega) only[Ac,↓Pc,simprocAttr,Pw,↓Lq,ar]
    repeat' (first|with_reducible refine fB ?_ ?_|omega|with_reducible rfl)
    refine bH bQ rfl rfl ?_
    simp (disch:=omega) only[Ac,↓Pc,simprocAttr,Pw,↓Lq,ar]
    repeat' (first|with_reducible refine fB ?_ ?_|omega|with_reducible rfl)
    refine bH qA rfl rfl ?_
    simp (disch:=omega) only[Ac,↓Pc,simprocAttr,Pw,↓Lq,ar]
    repeat' (first|with_reducible refine fB ?_ ?_|omega|with_reducible rfl)
    repeat (first|refine Xu ?_)
    clear bQ qA
    by_cases sW:(bn,ok)=(1099511627776,true)
    rotate_left
    · rw[decide_eq_false sW,mq] at ao
      subst ao
      have ZL:ok=true→bn≠1099511627776:=fun e e'=>sW (by rw[e,e'])
      cases ok with
      | false =>
        ((try revert hK K);(repeat' (first|refine Vd X0 ep ?_|(refine V2 X0 ?_ ?_<;>try with_reducible intro hb)|(refine Xi ?_ ?_<;>try intro ht)|refine VD ?_ ?_|exact Xx|fail))<;>try with_reducible intro K hK)
        all_goals try (exfalso;omega)
        all_goals exact aK rfl rfl
      | true =>
        have afF:=ZL rfl
        ((try revert hK K);(repeat' (first|refine Vd X0 ep ?_|(refine V2 X0 ?_ ?_<;>try with_reducible intro hb)|(refine Xi ?_ ?_<;>try intro ht)|refine VD ?_ ?_|exact Xx|fail))<;>try with_reducible intro K hK)
        all_goals try (exfalso;omega)
        all_goals exact aK rfl rfl
    rw[decide_eq_true sW,ic] at ao
    obtain ⟨rfl,rfl⟩:bn=1099511627776∧ok=true:=⟨congrArg Prod.fst sW,congrArg Prod.snd sW⟩
    ((try revert hK K);(repeat' (first|refine Vc @bne_self_eq_false.{0} ep ?_|(refine V2 @bne_self_eq_false.{0} ?_ ?_<;>try with_reducible intro hb)|(refine Xi ?_ ?_<;>try intro ht)|refine VD ?_ ?_|exact Xx|fail))<;>try with_reducible intro K hK)
    all_goals try (exfalso;omega)
    clear ep sW
    clear hi' hi ri hq
    refine aU (fun i:Nat=>(⟨aw [(2,.b7 (ar m)),(3,.b7 [.tree 1 (ints R),.tree 5 (rowsOf cL P),.tree 1 (fE S)]),(7,.tree 1 (ints R)),(85,.tree 1 (ints R)),(86,.lit (.int .i64 R.length)),(87,.lit (.int .i64 i))],[]⟩:St))
      (fun i=>i≤R.length∧nU (Dy m ⟨R,P,S⟩) (R.length - i) i=res) (fun i=>R.length - i) 0 ⟨aM _,ao⟩ (Xs false [] X0) ?_
    clear ao
    rintro i ⟨hi,hf⟩ Ql aq av
    by_cases hi':i<R.length
    · rw[show R.length - i=(R.length - (i+1))+1 by omega,nU] at hf
      have a7:=m6 _ (aC (d:=(default:List Int)) (show i<S.length by omega))
      have Oj:(S.getD i []).length<9223372036854775808:=a7
      have gp:=ZM m (S.getD i []) dM.mb Oj
      have sX:=l8.bU (R.getD i 0)
      have hw:=G3 R (R.getD i 0) l8.1
      have bQ:=G1 m dM _ sX
      have qA:=G2 m dM (bU R (R.getD i 0))
      have ri:VM (bN m (bU R (R.getD i 0))):=yH dM _
      have kC:=Ok (bN m (bU R (R.getD i 0))) (S.getD i []) ri.mb Oj
      unfold Dy at hf
      dsimp only at hf
      rw[show S.getD i default=S.getD i [] from rfl] at hf
      generalize bE:R.getD i 0=n at *
      generalize mH:S.getD i []=pl at *
      generalize w6 m pl=ce at *
      generalize hq:nV (bN m (bU R n)) pl=q at *
      obtain ⟨aX,rs,er⟩:=q
      clear hq ri a7
      generalize bN m (bU R n)=r2 at *
      generalize fW m.rules (bU R n)=kb2 at *
      generalize bU R n=lw at *
      dsimp only at hf kC
      repeat' (first|((fail_if_success (first|refine ej 17 ?_|refine ek 17 ?_));refine Xr @bE ?_;intro K hK)|refine Xo @bE ?_|(refine hK _ ?_;clear hK K)|(refine Xg @bE ?_ ?_<;>try intro hb)|(refine Xi ?_ ?_<;>try intro ht)|refine Xy ?_|refine Xd ?_ ?_|exact Xx|fail)
      refine jT [0,2,5,6] (.take 0 (.take 1 (.take 2 (.take 3 (.take 4 (.take 5 (.take 6 (.take 7 .nil)))))))) rfl (by decide) (by decide +kernel) ?_
      simp (disch:=omega) only[Ac,↓Pc,simprocAttr,Pw,↓Lq,ar,mH,qh]
      repeat' (first|with_reducible refine fB ?_ ?_|omega|with_reducible rfl)
      refine bH gp rfl rfl ?_
      simp (disch:=omega) only[Ac,↓Pc,simprocAttr,Pw,↓Lq,ar]
      repeat' (first|with_reducible refine fB ?_ ?_|omega|with_reducible rfl)
      repeat (first|refine Xu ?_)
      clear gp
      by_cases Ol:ce=0
      rotate_left
      · rw[decide_eq_false (fun e=>Ol e.1),mq] at hf
        subst hf
        ((try revert hK K);(repeat' (first|refine Va X0 ?_|(refine V2 X0 ?_ ?_<;>try with_reducible intro hb)|(refine Xi ?_ ?_<;>try intro ht)|refine VD ?_ ?_|exact Xx|fail))<;>try with_reducible intro K hK)
        all_goals try (exfalso;omega)
        all_goals
          repeat (first|refine Xu ?_|(refine bM _ _ rfl ?_;clear bP bM;try clear eo)|(refine eV _ _ rfl ?_;clear gM eV;try clear ma)|(refine lh _ _ rfl ?_;clear vr lh;try clear w5))
          ((try revert hK K);(repeat' (first|refine Vb X0 ?_|(refine V2 X0 ?_ ?_<;>try with_reducible intro hb)|(refine Xi ?_ ?_<;>try intro ht)|refine VD ?_ ?_|exact Xx|fail))<;>try with_reducible intro K hK)
          exact aK rfl rfl
      subst Ol
      repeat' (first|((fail_if_success (first|refine ej 19 ?_|refine ek 19 ?_));refine Xr @bne_self_eq_false.{0} ?_;intro K hK)|refine Xo @bne_self_eq_false.{0} ?_|(refine hK _ ?_;clear hK K)|(refine Xg @bne_self_eq_false.{0} ?_ ?_<;>try intro hb)|(refine Xi ?_ ?_<;>try intro ht)|refine Xy ?_|refine Xd ?_ ?_|exact Xx|fail)
      all_goals try (exfalso;omega)
      refine jT [0,3,4,5,6] (.take 0 (.take 1 (.take 2 (.take 3 (.take 4 (.take 5 (.take 6 (.take 7 (.take 8 (.take 9 (.take 10 (.take 11 (.take 12 .nil))))))))))))) rfl (by decide) (by decide +kernel) ?_
      simp (disch:=omega) only[Ac,↓Pc,simprocAttr,Pw,↓Lq,ar]
      repeat' (first|with_reducible refine fB ?_ ?_|omega|with_reducible rfl)
      refine bH hw rfl rfl ?_
      simp (disch:=omega) only[Ac,↓Pc,simprocAttr,Pw,↓Lq,ar]
      repeat' (first|with_reducible refine fB ?_ ?_|omega|with_reducible rfl)
      refine bH bQ rfl rfl ?_
      simp (disch:=omega) only[Ac,↓Pc,simprocAttr,Pw,↓Lq,ar]
      repeat' (first|with_reducible refine fB ?_ ?_|omega|with_reducible rfl)
      refine bH qA rfl rfl ?_
      simp (disch:=omega) only[Ac,↓Pc,simprocAttr,Pw,↓Lq,ar]
      repeat' (first|with_reducible refine fB ?_ ?_|omega|with_reducible rfl)
      repeat (first|refine Xu ?_)
      clear hw bQ qA
      refine bJ (aB.l6 14 0 (cells:=ar r2) (by rfl) (by simp only[Kc,simprocAttr]) (by simp[ar])) ?_
      repeat' (first|((fail_if_success (first|refine ej 20 ?_|refine ek 20 ?_));refine Xr X0 ?_;intro K hK)|refine Xo X0 ?_|(refine hK _ ?_;clear hK K)|(refine Xg X0 ?_ ?_<;>try intro hb)|(refine Xi ?_ ?_<;>try intro ht)|refine Xy ?_|refine Xd ?_ ?_|exact Xx|fail)
      refine jT [0,2,5,6] (.take 0 (.take 1 (.take 2 (.take 3 (.take 4 (.take 5 (.take 6 (.take 7 (.take 8 (.take 9 (.take 10 (.take 11 (.take 12 (.take 13 .nil)))))))))))))) rfl (by decide) (by decide +kernel) ?_
      simp (disch:=omega) only[Ac,↓Pc,simprocAttr,Pw,↓Lq,ar,mH,qh]
      repeat' (first|with_reducible refine fB ?_ ?_|omega|with_reducible rfl)
      refine bH kC rfl rfl ?_
      simp (disch:=omega) only[Ac,↓Pc,simprocAttr,Pw,↓Lq,ar]
      repeat' (first|with_reducible refine fB ?_ ?_|omega|with_reducible rfl)
      repeat (first|refine Xu ?_)
      clear kC
      by_cases aJ:er=0∧aX<1099511627776
      · rw[decide_eq_true ⟨rfl,aJ⟩,ic] at hf
        obtain ⟨rfl,aJ⟩:=aJ
        ((try revert hK K);(repeat' (first|refine Va @bne_self_eq_false.{0} ?_|(refine V2 @bne_self_eq_false.{0} ?_ ?_<;>try with_reducible intro hb)|(refine Xi ?_ ?_<;>try intro ht)|refine VD ?_ ?_|exact Xx|fail))<;>try with_reducible intro K hK)
        all_goals try (exfalso;omega)
        all_goals exact aq _ (i+1) ⟨by omega,hf⟩ (by omega) (Xs false [] X0)
      · rw[decide_eq_false (fun e=>aJ e.2),mq] at hf
        subst hf
        by_cases ZN:er=0
        · subst ZN
          ((try revert hK K);(repeat' (first|refine Va @bne_self_eq_false.{0} ?_|(refine V2 @bne_self_eq_false.{0} ?_ ?_<;>try with_reducible intro hb)|(refine Xi ?_ ?_<;>try intro ht)|refine VD ?_ ?_|exact Xx|fail))<;>try with_reducible intro K hK)
          all_goals try (exfalso;omega)
          all_goals
            repeat (first|refine Xu ?_|(refine bM _ _ rfl ?_;clear bP bM;try clear eo)|(refine eV _ _ rfl ?_;clear gM eV;try clear ma)|(refine lh _ _ rfl ?_;clear vr lh;try clear w5))
            ((try revert hK K);(repeat' (first|refine Vb X0 ?_|(refine V2 X0 ?_ ?_<;>try with_reducible intro hb)|(refine Xi ?_ ?_<;>try intro ht)|refine VD ?_ ?_|exact Xx|fail))<;>try with_reducible intro K hK)
            exact aK rfl rfl
        · ((try revert hK K);(repeat' (first|refine Va X0 ?_|(refine V2 X0 ?_ ?_<;>try with_reducible intro hb)|(refine Xi ?_ ?_<;>try intro ht)|refine VD ?_ ?_|exact Xx|fail))<;>try with_reducible intro K hK)
          all_goals try (exfalso;omega)
          all_goals
            repeat (first|refine Xu ?_|(refine bM _ _ rfl ?_;clear bP bM;try clear eo)|(refine eV _ _ rfl ?_;clear gM eV;try clear ma)|(refine lh _ _ rfl ?_;clear vr lh;try clear w5))
            ((try revert hK K);(repeat' (first|refine Vb X0 ?_|(refine V2 X0 ?_ ?_<;>try with_reducible intro hb)|(refine Xi ?_ ?_<;>try intro ht)|refine VD ?_ ?_|exact Xx|fail))<;>try with_reducible intro K hK)
            exact aK rfl rfl
    · obtain rfl:i=R.length:=by omega
      rw[j8,nU] at hf
      subst hf
      ((try revert hK K);(repeat' (first|refine Va X0 ?_|(refine V2 X0 ?_ ?_<;>try with_reducible intro hb)|(refine Xi ?_ ?_<;>try intro ht)|refine VD ?_ ?_|exact Xx|fail))<;>try with_reducible intro K hK)
      refine av _ _ rfl ?_;clear aq av Ql
      repeat (first|refine Xu ?_)
      ((try revert hK K);(repeat' (first|refine Vb X0 ?_|(refine V2 X0 ?_ ?_<;>try with_reducible intro hb)|(refine Xi ?_ ?_<;>try intro ht)|refine VD ?_ ?_|exact Xx|fail))<;>try with_reducible intro K hK)
      exact aK rfl rfl
end T

