import Derived.Test.YtkmfgcbdnijgeaaGreatX44
import Derived.Test.YtkmfgcbdnijgeaaGreatX18
import Derived.Test.YtkmfgcbdnijgeaaGreatX20
import Derived.Test.YtkmfgcbdnijgeaaGreatX29
import Derived.Test.YtkmfgcbdnijgeaaGreatX14
set_option linter.unusedVariables false
set_option linter.unusedSimpArgs false
set_option linter.unnecessarySimpa false
set_option linter.unusedSectionVars false
set_option maxHeartbeats 64000000
set_option maxRecDepth 20000
open Go Go.Am Go.Proofs
open Nat (reduceEqDiff reduceAdd reduceLeDiff reduceMul)
open Int (reduceNeg reduceLE reduceToNat)
namespace T
def lstK (f:List Int→List Int) (c:Nat):Nat→Nat→List Int→List Int
  | 0,_,P=>P
  | w+1,k,P=>lstK f c w (k+1) (f (P.set c (k:Int)))
def lstP (m:Mdl):Nat→List Int→List Int
  | 0,P=>P
  | d+1,P=>lstK (lstP m d) (m.cls.length - (d+1)) (m.cls.getD (m.cls.length - (d+1)) default).length 0 P
theorem take_setN {P:List Int} {c:Nat} (hc:c<P.length) (x:Int):(P.set c x).take (c+1)=P.take c++[x]:=by
  rw[List.take_set,List.take_succ_eq_append_getElem hc,List.set_append_right _ _ (by rw[List.length_take];exact Nat.min_le_left _ _),List.length_take,Nat.min_eq_left (Nat.le_of_lt hc),Nat.sub_self];rfl
theorem lstP_ok {m:Mdl}:∀ (d:Nat) (P:List Int),d≤m.cls.length→P.length=m.cls.length→(lstP m d P).length=m.cls.length∧(lstP m d P).take (m.cls.length - d)=P.take (m.cls.length - d)
  | 0,P,hd,hP=>⟨hP,rfl⟩
  | d+1,P,hd,hP=>by
    unfold lstP
    have key:∀ (w k:Nat) (R:List Int),R.length=m.cls.length→(lstK (lstP m d) (m.cls.length - (d+1)) w k R).length=m.cls.length∧(lstK (lstP m d) (m.cls.length - (d+1)) w k R).take (m.cls.length - (d+1))=R.take (m.cls.length - (d+1)):=by
      intro w
      induction w with
      | zero=>intro k R hR;exact⟨hR,rfl⟩
      | succ w ih =>
        intro k R hR
        obtain ⟨h1,h2⟩:=lstP_ok (m:=m) d (R.set (m.cls.length - (d+1)) (k:Int)) (by omega) (by rw[List.length_set];exact hR)
        obtain ⟨i1,i2⟩:=ih (k+1) _ h1
        rw[lstK]
        refine⟨i1,i2.trans ?_⟩
        have h3:=congrArg (List.take (m.cls.length - (d+1))) h2
        rw[List.take_take,List.take_take,Nat.min_eq_left (show m.cls.length - (d+1)≤m.cls.length - d by omega)] at h3
        rw[h3,List.take_set_of_le (Nat.le_refl _)]
    exact key _ 0 P hP
theorem rleast_ok (m:Mdl) (hm:VM m):∀ (d:Nat) (P p:List Int),d≤m.cls.length→P.length=m.cls.length→P.take (m.cls.length - d)=p→BP m p →
    Holds Tryz.prog 41 [.agg (eMdl m),.ref 0 1 0 m.cls.length,.lit (.int .i64 (m.cls.length - d:Nat))] [.arr 1 (ints P)] (.tup [.tree 1 (ints (bestF m d p).1),.lit (.int .i64 (bestF m d p).2)]) [.arr 1 (ints (lstP m d P))]:=by
  intro d
  have hc24:=hm.cls
  induction d with
  | zero =>
    intro P p hd hP hp hbp
    rw[Nat.sub_zero,← hP,List.take_length] at hp
    subst hp
    have hfp:=hbp.fp hP
    have hco:=refCost_ok m P hm.mb (by omega)
    rw[costT_ok hm hfp.pm] at hco
    dsimp only at hco
    have hco:=hco.hide
    generalize hres:bestF m 0 P=res
    unfold bestF totP at hres
    generalize totalL (rulesV m P) 0=n at *
    have hil:(ints P).length=m.cls.length:=by rw[ints_length];exact hP
    have hm0:∀ l:List Ob,mergeO l [] ([]:List Ob)=l:=fun l=>by simp[mergeO]
    unfold lstP
    refine Holds.of_body' (fn:=Tryz.f41) 61 1 [.tmp 6,.tmp 7] Tryz.func41 rfl rfl rfl rfl rfl (by simp) ?_
    ((repeat' (first|refine Vb @hil ?_|(refine Xi ?_ ?_<;>try intro ht)|exact Xx|fail))<;>try with_reducible intro K hK)
    refine callK_snap [] hco (by decide) trivial ⟨.pure rfl,ArgR.fz rfl hil.symm,trivial⟩ rfl (by simp) ?_
    rw[List.map_nil,hm0]
    simp (disch:=omega) only[Ac,↓Pc,simprocAttr]
    refine hK _ ?_
    clear hK K
    have htk:List.take m.cls.length (ints P)=ints P:=List.take_of_length_le (by omega)
    by_cases hF:1099511627776≤n
    · rw[if_pos hF] at hres
      subst hres
      ((repeat' (first|refine Vb X0 ?_|(refine Xi ?_ ?_<;>try intro ht)|exact Xx|fail)))
      refine RetOK_sel [0] true (by decide) ⟨⟨by simp,.inr (by simp[ints_ren])⟩,trivial⟩ (by decide) (by decide) (ArgR.tup2 ArgR.nil (.pure rfl))
    · rw[if_neg hF] at hres
      subst hres
      ((repeat' (first|refine Vb (X3 @hil @htk @ints_scal) ?_|(refine Xi ?_ ?_<;>try intro ht)|exact Xx|fail)))
      refine RetOK_sel [0] true (by decide) ⟨⟨by simp,.inr (by simp[ints_ren])⟩,trivial⟩ (by decide) (by decide) (ArgR.tup2 ?_ (.pure rfl))
      exact .fz rfl hil.symm
  | succ d ih =>
    intro P p hd hP hp hbp
    have hpl:p.length=m.cls.length - (d+1):=by rw[← hp,List.length_take,hP];omega
    have hw24:=hm.opt _ (getD_mem (l:=m.cls) (i:=m.cls.length - (d+1)) (d:=default) (by omega))
    have hcd:((m.cls.length - (d+1):Nat):Int)+1=((m.cls.length - d:Nat):Int):=by omega
    generalize hRB:bestF m (d+1) p=RB
    generalize hRP:lstP m (d+1) P=RP
    unfold bestF at hRB
    unfold lstP at hRP
    rw[hpl] at hRB
    generalize hcc:m.cls.getD (m.cls.length - (d+1)) default=cl at *
    have hcn:m.cls.length - (d+1)<m.cls.length:=by omega
    have hset:∀ (R:List Int) (k:Nat),R.length=m.cls.length→R.take (m.cls.length - (d+1))=p→(R.set (m.cls.length - (d+1)) (k:Int)).take (m.cls.length - d)=p++[(k:Int)]:=fun R k hR hRp=>by
      rw[show m.cls.length - d=m.cls.length - (d+1)+1 by omega,take_setN (by omega),hRp]
    generalize hc:m.cls.length - (d+1)=c at *
    refine Holds.of_body' (fn:=Tryz.f41) 61 1 [.tmp 6,.tmp 7] Tryz.func41 rfl rfl rfl rfl rfl (by simp) ?_
    ((repeat' (first|refine Vb @ints_length ?_|(refine Xi ?_ ?_<;>try intro ht)|exact Xx|fail)))
    refine W_loopS (fun z:Nat × (List Int × Int) × List Int=>(⟨slots [(1,.ref 0 1 0 m.cls.length),(2,.lit (.int .i64 (c:Nat))),(3,.ptr 1 0 0),(11,.tree 1 (ints z.2.1.1)),(12,.lit (.int .i64 z.2.1.2)),(13,.lit (.int .i64 z.1))],[.arr 1 (ints z.2.2),.var (eMdl m)]⟩:St))
      (fun z=>z.1≤cl.length∧z.2.2.length=m.cls.length∧z.2.2.take c=p∧bestK (bestF m d) p (cl.length - z.1) z.1 z.2.1=RB∧lstK (lstP m d) c (cl.length - z.1) z.1 z.2.2=RP) (fun z=>cl.length - z.1) (0,([],1099511627776),P) ⟨Nat.zero_le _,hP,hp,hRB,hRP⟩ ?_ ?_
    · refine Turns.trans (Turns.emptyV 11 1 (a:=none) (cap:=0) (by simp only[Kc,simprocAttr])) ?_
      exact Xv X0
    clear hRB hRP hp hP P
    rintro ⟨k,bb,P⟩ ⟨hk,hP,hp,hrb,hrp⟩ Ql hnl hel
    dsimp only at hk hP hp hrb hrp ⊢
    have hil:(ints P).length=m.cls.length:=by rw[ints_length];exact hP
    by_cases hk':k<cl.length
    · have hbp2:=hbp.snoc (k:=k) (by omega) (by rw[hpl,hcc];exact hk')
      have hih:=ih (P.set c (k:Int)) (p++[(k:Int)]) (by omega) (by rw[List.length_set];exact hP) (hset P k hP hp) hbp2
      have hl:=lstP_ok (m:=m) d (P.set c (k:Int)) (by omega) (by rw[List.length_set];exact hP)
      have hl2:(lstP m d (P.set c (k:Int))).take c=p:=by
        have h3:=congrArg (List.take c) hl.2
        rw[List.take_take,List.take_take,Nat.min_eq_left (show c≤m.cls.length - d by omega),List.take_set_of_le (Nat.le_refl _),hp] at h3
        exact h3
      rw[← hcd] at hih
      rw[show cl.length - k=(cl.length - (k+1))+1 by omega,bestK] at hrb
      rw[show cl.length - k=(cl.length - (k+1))+1 by omega,lstK] at hrp
      generalize bestF m d (p++[(k:Int)])=q at *
      generalize lstP m d (P.set c (k:Int))=P2 at *
      obtain ⟨q1,q2⟩:=q
      obtain ⟨b1,b2⟩:=bb
      dsimp only at hih hrb ⊢
      by_cases hq:q2<b2
      · rw[if_pos hq] at hrb
        ((repeat' (first|refine Va (X4 @hil @hcc @eCls.eq_1 @ints_set) ?_|(refine Xi ?_ ?_<;>try intro ht)|exact Xx|fail))<;>try with_reducible intro K hK)
        (refine Xn [0] (hih) ?_;simp (disch:=omega) only[Ac,↓Pc,simprocAttr,ints_ren])
        ((try revert hK K);(repeat' (first|refine Va X0 ?_|(refine Xi ?_ ?_<;>try intro ht)|exact Xx|fail)))
        all_goals exact hnl _ (k+1,(q1,q2),P2) ⟨by dsimp only;omega,hl.1,hl2,hrb,hrp⟩ (by dsimp only;omega) (Xv X0)
      · rw[if_neg hq] at hrb
        ((repeat' (first|refine Va (X4 @hil @hcc @eCls.eq_1 @ints_set) ?_|(refine Xi ?_ ?_<;>try intro ht)|exact Xx|fail))<;>try with_reducible intro K hK)
        (refine Xn [0] (hih) ?_;simp (disch:=omega) only[Ac,↓Pc,simprocAttr,ints_ren])
        ((try revert hK K);(repeat' (first|refine Va X0 ?_|(refine Xi ?_ ?_<;>try intro ht)|exact Xx|fail)))
        all_goals exact hnl _ (k+1,(b1,b2),P2) ⟨by dsimp only;omega,hl.1,hl2,hrb,hrp⟩ (by dsimp only;omega) (Xv X0)
    · obtain rfl:k=cl.length:=by omega
      rw[Nat.sub_self,bestK] at hrb
      rw[Nat.sub_self,lstK] at hrp
      subst hrb hrp
      ((repeat' (first|refine Va (X3 @hil @hcc @eCls.eq_1) ?_|(refine Xi ?_ ?_<;>try intro ht)|exact Xx|fail)))
      refine hel _ _ rfl ?_;clear hnl hel Ql
      repeat (refine Xu ?_)
      refine Vb X0 ?_
      refine RetOK_sel [0] true (by decide) ⟨⟨by simp,.inr (by simp[ints_ren])⟩,trivial⟩ (by decide) (by decide) (ArgR.tup2 (.pure rfl) (.pure rfl))
theorem rLeastB_ok (m:Mdl) (hm:VM m):Holds Tryz.prog 17 [.agg (eMdl m)] [] (.tup [.tree 1 (ints (bestF m m.cls.length []).1),.lit (.int .i64 (bestF m m.cls.length []).2)]) []:=by
  have hc24:=hm.cls
  have h:=rleast_ok m hm m.cls.length (List.replicate m.cls.length 0) [] (Nat.le_refl _) (by simp) (by rw[Nat.sub_self];rfl) (bp_nil m)
  rw[Nat.sub_self] at h
  generalize lstP m m.cls.length (List.replicate m.cls.length 0)=P at *
  generalize bestF m m.cls.length []=b at *
  refine Holds.of_body' (fn:=Tryz.f17) 14 0 [.tmp 2,.tmp 3] Tryz.func17 rfl rfl rfl rfl rfl (by simp) ?_
  ((refine Vb @ints_rep ?_)<;>try with_reducible intro K hK)
  (refine Xn [1] (h) ?_;simp (disch:=omega) only[Ac,↓Pc,simprocAttr,ints_ren,ints_rep])
  ((try revert hK K);(refine Vb X0 ?_))
  all_goals exact RetOK_pure' rfl rfl
end T

