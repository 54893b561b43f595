import Derived.Test.YtkmfgcbdnijgeaaGreatX42
import Derived.Test.YtkmfgcbdnijgeaaGreatX16
import Derived.Test.YtkmfgcbdnijgeaaGreatX18
import Derived.Test.YtkmfgcbdnijgeaaGreatX27
import Derived.Test.YtkmfgcbdnijgeaaGreatX13
import Derived.Test.YtkmfgcbdnijgeaaGreatX39
import Derived.Test.YtkmfgcbdnijgeaaGreatX45
set_option linter.unusedVariables false
set_option linter.unusedSimpArgs false
set_option linter.unnecessarySimpa false
set_option linter.unusedSectionVars false
set_option maxHeartbeats 64000000
set_option maxRecDepth 20000
open Go Go.Am Go.Proofs
open Nat (reduceEqDiff reduceAdd reduceLeDiff reduceMul)
open Int (reduceNeg reduceLE reduceToNat)
namespace T
theorem rPlans_ok (m:Mdl) (hm:MB m):Holds Tryz.prog 13 [.agg (eMdl m)] [] (.lit (.int .i64 (plansV m))) []:=by
  have h1:=refValid_ok m hm
  have hm1:=hm.cls
  generalize hres:plansV m=res
  unfold plansV at hres
  refine Holds.of_body' (fn:=Tryz.f13) 32 0 [.tmp 2] Tryz.func13 rfl rfl rfl rfl rfl (by simp) ?_
  by_cases hv:validV m=0
  rotate_left
  · rw[if_neg hv] at hres
    generalize validV m=e at *
    ((repeat' (first|refine Vd X0 h1 ?_|(refine Xi ?_ ?_<;>try intro ht)|exact Xx|fail)))
    all_goals exact RetOK_pure' rfl (by rw[hres])
  rw[if_pos hv] at hres
  rw[hv] at h1
  have hvm:=valid_iff.1 hv
  ((repeat' (first|refine Vd @bne_self_eq_false.{0} h1 ?_|(refine Xi ?_ ?_<;>try intro ht)|exact Xx|fail)))
  refine W_loopS (fun z:Nat × Int=>(⟨slots [(1,.ptr 0 0 0),(3,.lit (.int .i64 z.2)),(4,.lit (.int .i64 z.1))],[.var (eMdl m)]⟩:St))
    (fun z=>z.1≤m.cls.length∧0≤z.2∧z.2≤65537∧plansL (m.cls.drop z.1) z.2=res) (fun z=>m.cls.length - z.1) (0,1) ⟨Nat.zero_le _,by dsimp only;omega,by dsimp only;omega,hres⟩ (Xv X0) ?_
  rintro ⟨i,n⟩ ⟨hi,hn0,hn1,hr⟩ Ql hnl hel
  dsimp only at hi hn0 hn1 hr ⊢
  by_cases hi':i<m.cls.length
  · have hd:=getD_drop0 m.cls i default hi'
    have hc:=hvm.opt _ (getD_mem (d:=default) hi')
    generalize hcc:m.cls.getD i default=c at *
    rw[hd,plansL] at hr
    have hmul:0≤n * (c.length:Int)∧n * (c.length:Int)≤65537 * 24:=⟨Int.mul_nonneg hn0 (by omega),Int.mul_le_mul hn1 (by omega) (by omega) (by omega)⟩
    generalize hnc:n * (c.length:Int)=nc at *
    by_cases h0:c.length=0
    · rw[if_pos h0] at hr
      ((repeat' (first|refine Va (X3 @hcc @eCls.eq_1 @hnc) ?_|(refine Xi ?_ ?_<;>try intro ht)|exact Xx|fail)))
      all_goals
        repeat (refine Xu ?_)
        refine Vb X0 ?_
        exact RetOK_pure' rfl (by rw[hr])
    · rw[if_neg h0] at hr
      ((repeat' (first|refine Va (X3 @hcc @eCls.eq_1 @hnc) ?_|(refine Xi ?_ ?_<;>try intro ht)|exact Xx|fail)))
      all_goals exact hnl _ (i+1,min nc 65537) ⟨by dsimp only;omega,by dsimp only;omega,by dsimp only;omega,hr⟩ (by dsimp only;omega) (Xv X0)
  · rw[List.drop_eq_nil_of_le (by omega),plansL] at hr
    ((repeat' (first|refine Va X0 ?_|(refine Xi ?_ ?_<;>try intro ht)|exact Xx|fail)))
    refine hel _ _ rfl ?_;clear hnl hel Ql
    repeat (refine Xu ?_)
    refine Vb X0 ?_
    exact RetOK_pure' rfl (by rw[hr])
def lstK (f:List Int→List Int) (c:Nat):Nat→Nat→List Int→List Int
  | 0,_,P=>P
  | w+1,k,P=>lstK f c w (k+1) (f (P.set c (k:Int)))
def lstP (m:Mdl):Nat→List Int→List Int
  | 0,P=>P
  | d+1,P=>lstK (lstP m d) (m.cls.length - (d+1)) (m.cls.getD (m.cls.length - (d+1)) default).length 0 P
theorem take_setN {P:List Int} {c:Nat} (hc:c<P.length) (x:Int):(P.set c x).take (c+1)=P.take c++[x]:=by
  rw[List.take_set,List.take_succ_eq_append_getElem hc,List.set_append_right _ _ (by rw[List.length_take];exact Nat.min_le_left _ _),List.length_take,Nat.min_eq_left (Nat.le_of_lt hc),Nat.sub_self];rfl
theorem lstP_ok {m:Mdl}:∀ (d:Nat) (P:List Int),d≤m.cls.length→P.length=m.cls.length→(lstP m d P).length=m.cls.length∧(lstP m d P).take (m.cls.length - d)=P.take (m.cls.length - d)
  | 0,P,hd,hP=>⟨hP,rfl⟩
  | d+1,P,hd,hP=>by
    unfold lstP
    have key:∀ (w k:Nat) (R:List Int),R.length=m.cls.length→(lstK (lstP m d) (m.cls.length - (d+1)) w k R).length=m.cls.length∧(lstK (lstP m d) (m.cls.length - (d+1)) w k R).take (m.cls.length - (d+1))=R.take (m.cls.length - (d+1)):=by
      intro w
      induction w with
      | zero=>intro k R hR;exact⟨hR,rfl⟩
      | succ w ih =>
        intro k R hR
        obtain ⟨h1,h2⟩:=lstP_ok (m:=m) d (R.set (m.cls.length - (d+1)) (k:Int)) (by omega) (by rw[List.length_set];exact hR)
        obtain ⟨i1,i2⟩:=ih (k+1) _ h1
        rw[lstK]
        refine⟨i1,i2.trans ?_⟩
        have h3:=congrArg (List.take (m.cls.length - (d+1))) h2
        rw[List.take_take,List.take_take,Nat.min_eq_left (show m.cls.length - (d+1)≤m.cls.length - d by omega)] at h3
        rw[h3,List.take_set_of_le (Nat.le_refl _)]
    exact key _ 0 P hP
theorem rleast_ok (m:Mdl) (hm:VM m):∀ (d:Nat) (P p:List Int),d≤m.cls.length→P.length=m.cls.length→P.take (m.cls.length - d)=p→BP m p →
    Holds Tryz.prog 41 [.agg (eMdl m),.ref 0 1 0 m.cls.length,.lit (.int .i64 (m.cls.length - d:Nat))] [.arr 1 (ints P)] (.tup [.tree 1 (ints (bestF m d p).1),.lit (.int .i64 (bestF m d p).2)]) [.arr 1 (ints (lstP m d P))]:=by
  intro d
  have hc24:=hm.cls
  induction d with
  | zero =>
    intro P p hd hP hp hbp
    rw[Nat.sub_zero,← hP,List.take_length] at hp
    subst hp
    have hfp:=hbp.fp hP
    have hco:=refCost_ok m P hm.mb (by omega)
    rw[costT_ok hm hfp.pm] at hco
    dsimp only at hco
    have hco:=hco.hide
    generalize hres:bestF m 0 P=res
    unfold bestF totP at hres
    generalize totalL (rulesV m P) 0=n at *
    have hil:(ints P).length=m.cls.length:=by rw[ints_length];exact hP
    have hm0:∀ l:List Ob,mergeO l [] ([]:List Ob)=l:=fun l=>by simp[mergeO]
    unfold lstP
    refine Holds.of_body' (fn:=Tryz.f41) 61 1 [.tmp 6,.tmp 7] Tryz.func41 rfl rfl rfl rfl rfl (by simp) ?_
    ((repeat' (first|refine Vb @hil ?_|(refine Xi ?_ ?_<;>try intro ht)|exact Xx|fail))<;>try with_reducible intro K hK)
    refine callK_snap [] hco (by decide) trivial ⟨.pure rfl,ArgR.fz rfl hil.symm,trivial⟩ rfl (by simp) ?_
    rw[List.map_nil,hm0]
    simp (disch:=omega) only[Ac,↓Pc,simprocAttr]
    refine hK _ ?_
    clear hK K
    have htk:List.take m.cls.length (ints P)=ints P:=List.take_of_length_le (by omega)
    by_cases hF:1099511627776≤n
    · rw[if_pos hF] at hres
      subst hres
      ((repeat' (first|refine Vb X0 ?_|(refine Xi ?_ ?_<;>try intro ht)|exact Xx|fail)))
      refine RetOK_sel [0] true (by decide) ⟨⟨by simp,.inr (by simp[ints_ren])⟩,trivial⟩ (by decide) (by decide) (ArgR.tup2 ArgR.nil (.pure rfl))
    · rw[if_neg hF] at hres
      subst hres
      ((repeat' (first|refine Vb (X3 @hil @htk @ints_scal) ?_|(refine Xi ?_ ?_<;>try intro ht)|exact Xx|fail)))
      refine RetOK_sel [0] true (by decide) ⟨⟨by simp,.inr (by simp[ints_ren])⟩,trivial⟩ (by decide) (by decide) (ArgR.tup2 ?_ (.pure rfl))
      exact .fz rfl hil.symm
  | succ d ih =>
    intro P p hd hP hp hbp
    have hpl:p.length=m.cls.length - (d+1):=by rw[← hp,List.length_take,hP];omega
    have hw24:=hm.opt _ (getD_mem (l:=m.cls) (i:=m.cls.length - (d+1)) (d:=default) (by omega))
    have hcd:((m.cls.length - (d+1):Nat):Int)+1=((m.cls.length - d:Nat):Int):=by omega
    generalize hRB:bestF m (d+1) p=RB
    generalize hRP:lstP m (d+1) P=RP
    unfold bestF at hRB
    unfold lstP at hRP
    rw[hpl] at hRB
    generalize hcc:m.cls.getD (m.cls.length - (d+1)) default=cl at *
    have hcn:m.cls.length - (d+1)<m.cls.length:=by omega
    have hset:∀ (R:List Int) (k:Nat),R.length=m.cls.length→R.take (m.cls.length - (d+1))=p→(R.set (m.cls.length - (d+1)) (k:Int)).take (m.cls.length - d)=p++[(k:Int)]:=fun R k hR hRp=>by
      rw[show m.cls.length - d=m.cls.length - (d+1)+1 by omega,take_setN (by omega),hRp]
    generalize hc:m.cls.length - (d+1)=c at *
    refine Holds.of_body' (fn:=Tryz.f41) 61 1 [.tmp 6,.tmp 7] Tryz.func41 rfl rfl rfl rfl rfl (by simp) ?_
    ((repeat' (first|refine Vb @ints_length ?_|(refine Xi ?_ ?_<;>try intro ht)|exact Xx|fail)))
    refine W_loopS (fun z:Nat × (List Int × Int) × List Int=>(⟨slots [(1,.ref 0 1 0 m.cls.length),(2,.lit (.int .i64 (c:Nat))),(3,.ptr 1 0 0),(11,.tree 1 (ints z.2.1.1)),(12,.lit (.int .i64 z.2.1.2)),(13,.lit (.int .i64 z.1))],[.arr 1 (ints z.2.2),.var (eMdl m)]⟩:St))
      (fun z=>z.1≤cl.length∧z.2.2.length=m.cls.length∧z.2.2.take c=p∧bestK (bestF m d) p (cl.length - z.1) z.1 z.2.1=RB∧lstK (lstP m d) c (cl.length - z.1) z.1 z.2.2=RP) (fun z=>cl.length - z.1) (0,([],1099511627776),P) ⟨Nat.zero_le _,hP,hp,hRB,hRP⟩ ?_ ?_
    · refine Turns.trans (Turns.emptyV 11 1 (a:=none) (cap:=0) (by simp only[Kc,simprocAttr])) ?_
      exact Xv X0
    clear hRB hRP hp hP P
    rintro ⟨k,bb,P⟩ ⟨hk,hP,hp,hrb,hrp⟩ Ql hnl hel
    dsimp only at hk hP hp hrb hrp ⊢
    have hil:(ints P).length=m.cls.length:=by rw[ints_length];exact hP
    by_cases hk':k<cl.length
    · have hbp2:=hbp.snoc (k:=k) (by omega) (by rw[hpl,hcc];exact hk')
      have hih:=ih (P.set c (k:Int)) (p++[(k:Int)]) (by omega) (by rw[List.length_set];exact hP) (hset P k hP hp) hbp2
      have hl:=lstP_ok (m:=m) d (P.set c (k:Int)) (by omega) (by rw[List.length_set];exact hP)
      have hl2:(lstP m d (P.set c (k:Int))).take c=p:=by
        have h3:=congrArg (List.take c) hl.2
        rw[List.take_take,List.take_take,Nat.min_eq_left (show c≤m.cls.length - d by omega),List.take_set_of_le (Nat.le_refl _),hp] at h3
        exact h3
      rw[← hcd] at hih
      rw[show cl.length - k=(cl.length - (k+1))+1 by omega,bestK] at hrb
      rw[show cl.length - k=(cl.length - (k+1))+1 by omega,lstK] at hrp
      generalize bestF m d (p++[(k:Int)])=q at *
      generalize lstP m d (P.set c (k:Int))=P2 at *
      obtain ⟨q1,q2⟩:=q
      obtain ⟨b1,b2⟩:=bb
      dsimp only at hih hrb ⊢
      by_cases hq:q2<b2
      · rw[if_pos hq] at hrb
        ((repeat' (first|refine Va (X4 @hil @hcc @eCls.eq_1 @ints_set) ?_|(refine Xi ?_ ?_<;>try intro ht)|exact Xx|fail))<;>try with_reducible intro K hK)
        (refine Xn [0] (hih) ?_;simp (disch:=omega) only[Ac,↓Pc,simprocAttr,ints_ren])
        ((try revert hK K);(repeat' (first|refine Va X0 ?_|(refine Xi ?_ ?_<;>try intro ht)|exact Xx|fail)))
        all_goals exact hnl _ (k+1,(q1,q2),P2) ⟨by dsimp only;omega,hl.1,hl2,hrb,hrp⟩ (by dsimp only;omega) (Xv X0)
      · rw[if_neg hq] at hrb
        ((repeat' (first|refine Va (X4 @hil @hcc @eCls.eq_1 @ints_set) ?_|(refine Xi ?_ ?_<;>try intro ht)|exact Xx|fail))<;>try with_reducible intro K hK)
        (refine Xn [0] (hih) ?_;simp (disch:=omega) only[Ac,↓Pc,simprocAttr,ints_ren])
        ((try revert hK K);(repeat' (first|refine Va X0 ?_|(refine Xi ?_ ?_<;>try intro ht)|exact Xx|fail)))
        all_goals exact hnl _ (k+1,(b1,b2),P2) ⟨by dsimp only;omega,hl.1,hl2,hrb,hrp⟩ (by dsimp only;omega) (Xv X0)
    · obtain rfl:k=cl.length:=by omega
      rw[Nat.sub_self,bestK] at hrb
      rw[Nat.sub_self,lstK] at hrp
      subst hrb hrp
      ((repeat' (first|refine Va (X3 @hil @hcc @eCls.eq_1) ?_|(refine Xi ?_ ?_<;>try intro ht)|exact Xx|fail)))
      refine hel _ _ rfl ?_;clear hnl hel Ql
      repeat (refine Xu ?_)
      refine Vb X0 ?_
      refine RetOK_sel [0] true (by decide) ⟨⟨by simp,.inr (by simp[ints_ren])⟩,trivial⟩ (by decide) (by decide) (ArgR.tup2 (.pure rfl) (.pure rfl))
theorem rLeastB_ok (m:Mdl) (hm:VM m):Holds Tryz.prog 17 [.agg (eMdl m)] [] (.tup [.tree 1 (ints (bestF m m.cls.length []).1),.lit (.int .i64 (bestF m m.cls.length []).2)]) []:=by
  have hc24:=hm.cls
  have h:=rleast_ok m hm m.cls.length (List.replicate m.cls.length 0) [] (Nat.le_refl _) (by simp) (by rw[Nat.sub_self];rfl) (bp_nil m)
  rw[Nat.sub_self] at h
  generalize lstP m m.cls.length (List.replicate m.cls.length 0)=P at *
  generalize bestF m m.cls.length []=b at *
  refine Holds.of_body' (fn:=Tryz.f17) 14 0 [.tmp 2,.tmp 3] Tryz.func17 rfl rfl rfl rfl rfl (by simp) ?_
  ((refine Vb @ints_rep ?_)<;>try with_reducible intro K hK)
  (refine Xn [1] (h) ?_;simp (disch:=omega) only[Ac,↓Pc,simprocAttr,ints_ren,ints_rep])
  ((try revert hK K);(refine Vb X0 ?_))
  all_goals exact RetOK_pure' rfl rfl
def oZ:Opt:=⟨0,0,0,0,0,[]⟩
theorem rows_rep {α:Type} (enc:α→List AV) (x:α) (n:Nat):rowsOf enc (List.replicate n x)=List.replicate n (enc x):=by
  unfold rowsOf;rw[List.map_replicate]
theorem mb_big {cls:List (List Opt)} (h1:cls.length≤25) (h2:∀ l∈cls,l.length≤25∧∀ o∈l,o.ch=[]):MB ⟨cls,[],[],0⟩ :=
  ⟨by dsimp only;omega,fun l hl=>by have:=(h2 l hl).1;omega,fun l hl o ho=>by rw[(h2 l hl).2 o ho];decide,by dsimp only;decide,fun p hp=>(by cases hp),by dsimp only;decide,fun p hp=>(by cases hp)⟩
theorem bplans_law (tape:List Int):Holds Tryz.prog 3 [.tree 1 (ints tape)] [] (.lit (.bool true)) []:=by
  refine Holds.of_body' (fn:=Tryz.f3) 43 0 [.tmp 2] Tryz.func3 rfl rfl rfl rfl rfl (by simp) ?_
  repeat' (first|((fail_if_success (first|refine W_at 3 ?_|refine W_atE 3 ?_));refine Xq X0 ?_;intro K hK)|refine Xo X0 ?_|refine Xc (light_ok _) ?_|refine Xc (awakeB_ok) ?_|(refine hK _ ?_;clear hK K)|(refine Xi ?_ ?_<;>try intro ht)|refine XY ?_|fail)
  · exact RetOK_pure' rfl rfl
  have hL:tape.length<1000000:=by omega
  ((refine Vb X0 ?_)<;>try with_reducible intro K hK)
  (refine Xn [] (roll_ok tape) ?_;simp (disch:=omega) only[Ac,↓Pc,simprocAttr])
  refine hK _ ?_;clear hK K
  repeat (refine Xu ?_)
  refine W_turn (σ':=⟨slots [(3,.ptr 0 0 0)],[dice tape 0]⟩) (by unfold dice;exact Xv X0) ?_
  have hsm:=someB_ok tape 0 (Nat.zero_le _) hL
  refine W_region_c 1 (by decide) _ rfl ?_
  intro K hK
  simp (disch:=omega) only[Ac,↓Pc,simprocAttr,List.take,List.drop]
  unfold dice at hsm ⊢
  refine⟨rfl,(show callKR Tryz.prog 11 [.ptr 0 0 0] (some 14) _ _ from ?_)⟩
  refine callKR_sel [0] hsm (by decide) ⟨rfl,trivial⟩ ⟨.eq rfl,trivial⟩ ?_
  rintro r os ⟨m,k,hm,hk,rfl,rfl⟩
  simp (disch:=omega) only[Ac,↓Pc,simprocAttr]
  refine hK _ ?_;clear hK K
  have h1:=bPlans_ok m hm.mb
  have h2:=rPlans_ok m hm.mb
  generalize plansV m=pn at *
  clear hsm
  repeat' (first|((fail_if_success (first|refine W_at 8 ?_|refine W_atE 8 ?_));refine Xq X0 ?_;intro K hK)|refine Xo X0 ?_|refine Xc (h1) ?_|refine Xc (h2) ?_|(refine hK _ ?_;clear hK K)|(refine Xi ?_ ?_<;>try intro ht)|refine XY ?_|exact Xx|fail)
  have hn1:=next_ok tape k 26 (by unfold In64;omega) hk hL
  have hnv:=nextV_range (L:=tape) (k:=k) (n:=26) (by omega)
  have hk2:=nextA_le hk
  generalize nextV tape k 26=n at *
  generalize nextA tape k=k2 at *
  obtain ⟨c0,rfl⟩ :∃c0:Nat,n=c0:=⟨n.toNat,by omega⟩
  clear hk h1 h2 hm
  ((refine Vb X0 ?_)<;>try with_reducible intro K hK)
  (refine Xn [0] (hn1) ?_;simp (disch:=omega) only[Ac,↓Pc,simprocAttr])
  ((try revert hK K);(refine Vb X0 ?_))
  clear hn1
  refine W_turn (σ':=⟨slots [(3,.ptr 0 0 0),(5,.ptr 1 0 0),(6,.lit (.int .i64 c0))],[.var [.tree 1 (ints tape),.lit (.int .i64 k2)],.var [.lit (.slice none 0 0),.lit (.slice none 0 0),.lit (.slice none 0 0),.lit (.int .i64 0)]]⟩) (Xs false [0,2] X0) ?_
  refine W_loopS (fun z:Nat × Nat × List (List Opt)=>(⟨slots [(3,.ptr 0 0 0),(5,.ptr 1 0 0),(6,.lit (.int .i64 z.1))],[.var [.tree 1 (ints tape),.lit (.int .i64 z.2.1)],.var [.ref 2 1 0 z.2.2.length,.lit (.slice none 0 0),.lit (.slice none 0 0),.lit (.int .i64 0)],.arr 1 (rowsOf eCls z.2.2)]⟩:St))
    (fun z=>z.1+z.2.2.length≤25∧z.2.1≤tape.length∧∀ l∈z.2.2,l.length≤25∧∀ o∈l,o.ch=[]) (fun z=>z.1) (c0,k2,[]) ⟨by simp;omega,hk2,by simp⟩ ?_ ?_
  · refine Turns.trans (Turns.nilC 1 0 1 rfl rfl (by decide)) ?_
    exact Xv X0
  clear hnv hk2
  rintro ⟨c,k,cls⟩ ⟨hcc,hk,hcls⟩ Ql hnl hel
  dsimp only at hcc hk hcls ⊢
  by_cases hc0:0<c
  · obtain ⟨c',rfl⟩ :∃c',c=c'+1:=⟨c - 1,by omega⟩
    have hc1:((c'+1:Nat):Int) - 1=c':=by omega
    have hn1:=next_ok tape k 26 (by unfold In64;omega) hk hL
    have hnv:=nextV_range (L:=tape) (k:=k) (n:=26) (by omega)
    have hk2:=nextA_le hk
    generalize nextV tape k 26=n at *
    generalize nextA tape k=k2 at *
    obtain ⟨w,rfl⟩ :∃w:Nat,n=w:=⟨n.toNat,by omega⟩
    repeat' (first|((fail_if_success (first|refine W_at 11 ?_|refine W_atE 11 ?_));refine Xr X0 ?_;intro K hK)|(refine hK _ ?_;clear hK K)|(refine Xi ?_ ?_<;>try intro ht)|refine Xy ?_|exact Xx|fail)
    refine unB ?_;intro Qb hnb
    have e1:=rows_app1 (enc:=eCls) cls (List.replicate w oZ)
    simp only[eCls,rows_rep] at e1
    refine join_here ⟨slots [(3,.ptr 0 0 0),(5,.ptr 1 0 0),(6,.lit (.int .i64 (c'+1:Nat)))],[.var [.tree 1 (ints tape),.lit (.int .i64 k2)],.var [.ref 2 1 0 (cls.length+1),.lit (.slice none 0 0),.lit (.slice none 0 0),.lit (.int .i64 0)],.arr 1 (rowsOf eCls (cls++[List.replicate w oZ]))]⟩ (fun s h=>hnb _ (hn _ h)) ?_ (fun key=>?_)
    rotate_left
    · refine W_drawH 0 [] [3] (.take 0 (.take 1 (.take 2 (.take 3 (.take 4 (.take 5 (.take 6 (.take 7 (.take 8 .nil))))))))) rfl (by decide) (by decide +kernel) ?_
      simp (disch:=omega) only[Ac,↓Pc,simprocAttr,Hc,stepAtH]
      repeat' (first|with_reducible refine And.intro ?_ ?_|omega|(refine callD_of (hn1) rfl rfl rfl rfl (by (repeat' (first|exact trivial|refine And.intro ?_ ?_))<;>first|exact .inl ⟨rfl,rfl⟩|exact .inr ⟨rfl,rfl⟩) ?_;simp (disch:=omega) only[Ac,↓Pc,simprocAttr,Hc,stepAtH]))
      all_goals refine key _ ?_
      refine Turns.trans (Turns.rerows 3 6 (R':=List.replicate w (eOpt oZ)) rfl (by simp) (fun r hr=>?_)) ?_
      · simp only[List.length_replicate] at hr
        rw[List.getD_eq_getElem?_getD,List.getElem?_replicate,if_pos hr,List.getD_eq_getElem?_getD,List.getElem?_replicate,if_pos hr]
        exact⟨.inl rfl,.inl rfl,.inl rfl,.inl rfl,.inl rfl,.inr ⟨rfl,_,rfl⟩,trivial⟩
      refine Turns.trans (Turns.frzR 3 5 cls.length 0 6 1 (R:=rowsOf eCls cls++[[.ref 3 6 0 w]]) (cells:=[.ref 3 6 0 w]) (rows:=List.replicate w (eOpt oZ)) rfl (by rw[List.getElem?_append_right (by rw[rows_length];omega),rows_length,Nat.sub_self];rfl) rfl (by rw[List.length_replicate];rfl) (by decide) (fun row hr=>by rw[(List.mem_replicate.1 hr).2];rfl) (by rw[← rows_rep];exact rows_frz _)) ?_
      rw[show (rowsOf eCls cls++[[AV.ref 3 6 0 w]]).set cls.length ([AV.ref 3 6 0 w].set 0 (.tree 6 (List.replicate w (eOpt oZ))))=rowsOf eCls cls++[[.tree 6 (List.replicate w (eOpt oZ))]] by rw[List.set_append_right _ _ (by rw[rows_length];omega),rows_length,Nat.sub_self];rfl]
      rw[e1]
      exact Xs false [0,1,5] X0
    refine Va @hc1 ?_
    refine hnl _ (c',k2,cls++[List.replicate w oZ]) ⟨by simp;omega,hk2,fun l hl=>?_⟩ (by dsimp only;omega) (by simp only[List.length_append,List.length_singleton];exact Xv X0)
    rcases List.mem_append.1 hl with h | h
    · exact hcls l h
    · rw[List.mem_singleton.1 h]
      exact⟨by rw[List.length_replicate];omega,fun o ho=>by rw[(List.mem_replicate.1 ho).2];rfl⟩
  · obtain rfl:c=0:=by omega
    ((repeat' (first|refine Va X0 ?_|(refine Xi ?_ ?_<;>try intro ht)|exact Xx|fail)))
    refine hel _ _ rfl ?_;clear hnl hel Ql
    repeat (refine Xu ?_)
    have hmb:=mb_big (cls:=cls) (by omega) hcls
    have h1:=bPlans_ok _ hmb
    have h2:=rPlans_ok _ hmb
    generalize plansV ⟨cls,[],[],0⟩=pn at *
    refine W_turn (Turns.frzV 2 1 0 1 rfl rfl (by rw[rows_length];rfl) (rows_wid _) (rows_frz _)) ?_
    refine W_turn (Turns.nilC 1 1 4 rfl rfl (by decide)) ?_
    refine W_turn (Turns.frzV 3 1 1 4 (rows:=[]) rfl rfl rfl (by simp) (by simp)) ?_
    refine W_turn (Turns.nilC 1 2 4 rfl rfl (by decide)) ?_
    refine W_turn (Turns.frzV 4 1 2 4 (rows:=[]) rfl rfl rfl (by simp) (by simp)) ?_
    refine W_turn (Turns.frzP 5 1 (cells:=eMdl ⟨cls,[],[],0⟩) (by rfl) (by simp only[Kc,simprocAttr]) (by simp[eMdl])) ?_
    refine W_turn (σ':=⟨slots [(5,.taddr (eMdl ⟨cls,[],[],0⟩))],[]⟩) (Xs false [] X0) ?_
    refine Vd @beq_self_eq_true.{0} (X3 h1 h2 awakeB_ok) ?_
    all_goals exact RetOK_pure' rfl (by first|rfl|simp)
end T

