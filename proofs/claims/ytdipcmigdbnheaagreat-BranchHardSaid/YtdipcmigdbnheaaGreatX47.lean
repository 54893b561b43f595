import Derived.Test.YtdipcmigdbnheaaGreatX40
import Derived.Test.YtdipcmigdbnheaaGreatX22
import Derived.Test.YtdipcmigdbnheaaGreatX35
import Derived.Test.YtdipcmigdbnheaaGreatX16
set_option linter.unusedVariables false
set_option linter.unusedSimpArgs false
set_option linter.unnecessarySimpa false
set_option linter.unusedSectionVars false
set_option maxHeartbeats 64000000
set_option maxRecDepth 20000
open List renaming length_take→ez,length_set→bm,take→lR,take_take→La,replicate→bq
open Nat renaming min_eq_left→pz,sub_self→iC,le_refl→aH
open Go Go.Am Go.Proofs
open Nat (reduceEqDiff reduceAdd reduceLeDiff reduceMul)
open Int (reduceNeg reduceLE reduceToNat)
namespace T
def wo (f:List Int→List Int) (c:Nat):Nat→Nat→List Int→List Int
  | 0,_,P=>P
  | w+1,k,P=>wo f c w (k+1) (f (P.set c (k:Int)))
def pk (m:ah):Nat→List Int→List Int
  | 0,P=>P
  | d+1,P=>wo (pk m d) (m.cls.length - (d+1)) (m.cls.getD (m.cls.length - (d+1)) default).length 0 P
theorem aeE {P:List Int} {c:Nat} (hc:c<P.length) (x:Int):(P.set c x).take (c+1)=P.take c++[x]:=by
  rw[List.take_set,List.take_succ_eq_append_getElem hc,List.set_append_right _ _ (by rw[ez];exact Nat.min_le_left _ _),ez,pz (Nat.le_of_lt hc),iC];rfl
theorem Wh {m:ah}:∀ (d:Nat) (P:List Int),d≤m.cls.length→P.length=m.cls.length→(pk m d P).length=m.cls.length∧(pk m d P).take (m.cls.length - d)=P.take (m.cls.length - d)
  | 0,P,hd,hP=>⟨hP,rfl⟩
  | d+1,P,hd,hP=>by
    unfold pk
    have key:∀ (w k:Nat) (R:List Int),R.length=m.cls.length→(wo (pk m d) (m.cls.length - (d+1)) w k R).length=m.cls.length∧(wo (pk m d) (m.cls.length - (d+1)) w k R).take (m.cls.length - (d+1))=R.take (m.cls.length - (d+1)):=by
      intro w
      induction w with
      | zero=>intro k R hR;exact⟨hR,rfl⟩
      | succ w ih =>
        intro k R hR
        obtain ⟨h1,h2⟩:=Wh (m:=m) d (R.set (m.cls.length - (d+1)) (k:Int)) (by omega) (by rw[bm];exact hR)
        obtain ⟨i1,i2⟩:=ih (k+1) _ h1
        rw[wo]
        refine⟨i1,i2.trans ?_⟩
        have h3:=congrArg (lR (m.cls.length - (d+1))) h2
        rw[La,La,pz (show m.cls.length - (d+1)≤m.cls.length - d by omega)] at h3
        rw[h3,List.take_set_of_le (aH _)]
    exact key _ 0 P hP
theorem aeF (m:ah) (hm:VM m):∀ (d:Nat) (P p:List Int),d≤m.cls.length→P.length=m.cls.length→P.take (m.cls.length - d)=p→BP m p →
    ao Tryz.prog 52 [.agg (ar m),.ref 0 1 0 m.cls.length,.lit (.int .i64 (m.cls.length - d:Nat))] [.arr 1 (ints P)] (.bL [.tree 1 (ints (gu m d p).1),.lit (.int .i64 (gu m d p).2)]) [.arr 1 (ints (pk m d P))]:=by
  intro d
  have mc:=hm.cls
  induction d with
  | zero =>
    intro P p hd hP hp vL
    rw[Nat.sub_zero,← hP,List.take_length] at hp
    subst hp
    have rP:=vL.fp hP
    have kd:=NN m P hm.mb (by omega)
    rw[NO hm rP.pm] at kd
    dsimp only at kd
    have kd:=kd.IV
    generalize an:gu m 0 P=res
    unfold gu lF at an
    generalize ny (nq m P) 0=n at *
    have fi:(ints P).length=m.cls.length:=by rw[m8];exact hP
    have rQ:∀ l:List Ob,dM l [] ([]:List Ob)=l:=fun l=>by simp[dM]
    unfold pk
    refine ao.aF (fn:=Tryz.f52) 61 1 [.tmp 6,.tmp 7] Tryz.func52 rfl rfl rfl rfl rfl (by simp) ?_
    ((repeat' (first|refine Vb @fi ?_|(refine Xi ?_ ?_<;>try intro ht)|exact Xx|fail))<;>try with_reducible intro K hK)
    refine nR [] kd (by decide) trivial ⟨.pure rfl,aN.fz rfl fi.symm,trivial⟩ rfl (by simp) ?_
    rw[List.map_nil,rQ]
    simp (disch:=omega) only[Ac,↓Pc,simprocAttr]
    refine hK _ ?_
    clear hK K
    have km:lR m.cls.length (ints P)=ints P:=List.take_of_length_le (by omega)
    by_cases hF:1099511627776≤n
    · rw[if_pos hF] at an
      subst an
      ((repeat' (first|refine Vb X0 ?_|(refine Xi ?_ ?_<;>try intro ht)|exact Xx|fail)))
      refine eA [0] true (by decide) ⟨⟨by simp,.inr (by simp[ry])⟩,trivial⟩ (by decide) (by decide) (aN.oS aN.nil (.pure rfl))
    · rw[if_neg hF] at an
      subst an
      ((repeat' (first|refine Vb (X3 @fi @km @AO) ?_|(refine Xi ?_ ?_<;>try intro ht)|exact Xx|fail)))
      refine eA [0] true (by decide) ⟨⟨by simp,.inr (by simp[ry])⟩,trivial⟩ (by decide) (by decide) (aN.oS ?_ (.pure rfl))
      exact .fz rfl fi.symm
  | succ d ih =>
    intro P p hd hP hp vL
    have dz:p.length=m.cls.length - (d+1):=by rw[← hp,ez,hP];omega
    have ahG:=hm.opt _ (az (l:=m.cls) (i:=m.cls.length - (d+1)) (d:=default) (by omega))
    have Pe:((m.cls.length - (d+1):Nat):Int)+1=((m.cls.length - d:Nat):Int):=by omega
    generalize FL:gu m (d+1) p=RB
    generalize J4:pk m (d+1) P=RP
    unfold gu at FL
    unfold pk at J4
    rw[dz] at FL
    generalize aO:m.cls.getD (m.cls.length - (d+1)) default=cl at *
    have eB:m.cls.length - (d+1)<m.cls.length:=by omega
    have iS:∀ (R:List Int) (k:Nat),R.length=m.cls.length→R.take (m.cls.length - (d+1))=p→(R.set (m.cls.length - (d+1)) (k:Int)).take (m.cls.length - d)=p++[(k:Int)]:=fun R k hR H7=>by
      rw[show m.cls.length - d=m.cls.length - (d+1)+1 by omega,aeE (by omega),H7]
    generalize hc:m.cls.length - (d+1)=c at *
    refine ao.aF (fn:=Tryz.f52) 61 1 [.tmp 6,.tmp 7] Tryz.func52 rfl rfl rfl rfl rfl (by simp) ?_
    ((repeat' (first|refine Vb @m8 ?_|(refine Xi ?_ ?_<;>try intro ht)|exact Xx|fail)))
    refine aI (fun z:Nat × (List Int × Int) × List Int=>(⟨av [(1,.ref 0 1 0 m.cls.length),(2,.lit (.int .i64 (c:Nat))),(3,.ptr 1 0 0),(11,.tree 1 (ints z.2.1.1)),(12,.lit (.int .i64 z.2.1.2)),(13,.lit (.int .i64 z.1))],[.arr 1 (ints z.2.2),.var (ar m)]⟩:St))
      (fun z=>z.1≤cl.length∧z.2.2.length=m.cls.length∧z.2.2.take c=p∧pS (gu m d) p (cl.length - z.1) z.1 z.2.1=RB∧wo (pk m d) c (cl.length - z.1) z.1 z.2.2=RP) (fun z=>cl.length - z.1) (0,([],1099511627776),P) ⟨Nat.zero_le _,hP,hp,FL,J4⟩ ?_ ?_
    · refine aA.trans (aA.Eb 11 1 (a:=none) (cap:=0) (by simp only[Kc,simprocAttr])) ?_
      exact Xv X0
    clear FL J4 hp hP P
    rintro ⟨k,bb,P⟩ ⟨hk,hP,hp,qV,fN⟩ Ql ak aq
    dsimp only at hk hP hp qV fN ⊢
    have fi:(ints P).length=m.cls.length:=by rw[m8];exact hP
    by_cases aP:k<cl.length
    · have aeG:=vL.snoc (k:=k) (by omega) (by rw[dz,aO];exact aP)
      have FM:=ih (P.set c (k:Int)) (p++[(k:Int)]) (by omega) (by rw[bm];exact hP) (iS P k hP hp) aeG
      have hl:=Wh (m:=m) d (P.set c (k:Int)) (by omega) (by rw[bm];exact hP)
      have mJ:(pk m d (P.set c (k:Int))).take c=p:=by
        have h3:=congrArg (lR c) hl.2
        rw[La,La,pz (show c≤m.cls.length - d by omega),List.take_set_of_le (aH _),hp] at h3
        exact h3
      rw[← Pe] at FM
      rw[show cl.length - k=(cl.length - (k+1))+1 by omega,pS] at qV
      rw[show cl.length - k=(cl.length - (k+1))+1 by omega,wo] at fN
      generalize gu m d (p++[(k:Int)])=q at *
      generalize pk m d (P.set c (k:Int))=P2 at *
      obtain ⟨q1,q2⟩:=q
      obtain ⟨b1,b2⟩:=bb
      dsimp only at FM qV ⊢
      by_cases hq:q2<b2
      · rw[if_pos hq] at qV
        ((repeat' (first|refine Va (X4 @fi @aO @bn.eq_1 @ints_set) ?_|(refine Xi ?_ ?_<;>try intro ht)|exact Xx|fail))<;>try with_reducible intro K hK)
        (refine Xn [0] (FM) ?_;simp (disch:=omega) only[Ac,↓Pc,simprocAttr,ry])
        ((try revert hK K);(repeat' (first|refine Va X0 ?_|(refine Xi ?_ ?_<;>try intro ht)|exact Xx|fail)))
        all_goals exact ak _ (k+1,(q1,q2),P2) ⟨by dsimp only;omega,hl.1,mJ,qV,fN⟩ (by dsimp only;omega) (Xv X0)
      · rw[if_neg hq] at qV
        ((repeat' (first|refine Va (X4 @fi @aO @bn.eq_1 @ints_set) ?_|(refine Xi ?_ ?_<;>try intro ht)|exact Xx|fail))<;>try with_reducible intro K hK)
        (refine Xn [0] (FM) ?_;simp (disch:=omega) only[Ac,↓Pc,simprocAttr,ry])
        ((try revert hK K);(repeat' (first|refine Va X0 ?_|(refine Xi ?_ ?_<;>try intro ht)|exact Xx|fail)))
        all_goals exact ak _ (k+1,(b1,b2),P2) ⟨by dsimp only;omega,hl.1,mJ,qV,fN⟩ (by dsimp only;omega) (Xv X0)
    · obtain rfl:k=cl.length:=by omega
      rw[iC,pS] at qV
      rw[iC,wo] at fN
      subst qV fN
      ((repeat' (first|refine Va (X3 @fi @aO @bn.eq_1) ?_|(refine Xi ?_ ?_<;>try intro ht)|exact Xx|fail)))
      refine aq _ _ rfl ?_;clear ak aq Ql
      repeat (refine Xu ?_)
      refine Vb X0 ?_
      refine eA [0] true (by decide) ⟨⟨by simp,.inr (by simp[ry])⟩,trivial⟩ (by decide) (by decide) (aN.oS (.pure rfl) (.pure rfl))
theorem aaf (m:ah) (hm:VM m):ao Tryz.prog 20 [.agg (ar m)] [] (.bL [.tree 1 (ints (gu m m.cls.length []).1),.lit (.int .i64 (gu m m.cls.length []).2)]) []:=by
  have mc:=hm.cls
  have h:=aeF m hm m.cls.length (bq m.cls.length 0) [] (aH _) (by simp) (by rw[iC];rfl) (J3 m)
  rw[iC] at h
  generalize pk m m.cls.length (bq m.cls.length 0)=P at *
  generalize gu m m.cls.length []=b at *
  refine ao.aF (fn:=Tryz.f20) 14 0 [.tmp 2,.tmp 3] Tryz.func20 rfl rfl rfl rfl rfl (by simp) ?_
  ((refine Vb @yQ ?_)<;>try with_reducible intro K hK)
  (refine Xn [1] (h) ?_;simp (disch:=omega) only[Ac,↓Pc,simprocAttr,ry,yQ])
  ((try revert hK K);(refine Vb X0 ?_))
  all_goals exact aC rfl rfl
end T

