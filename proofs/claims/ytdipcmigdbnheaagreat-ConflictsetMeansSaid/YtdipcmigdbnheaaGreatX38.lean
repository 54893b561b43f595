import Derived.Test.YtdipcmigdbnheaaGreatX37
import Derived.Test.YtdipcmigdbnheaaGreatX26
import Derived.Test.YtdipcmigdbnheaaGreatX32
import Derived.Test.YtdipcmigdbnheaaGreatX12
import Derived.Test.YtdipcmigdbnheaaGreatX17
import Derived.Test.YtdipcmigdbnheaaGreatX07
import Derived.Test.YtdipcmigdbnheaaGreatX11
import Derived.Test.YtdipcmigdbnheaaGreatX05
import Derived.KernelRfl
set_option linter.unusedVariables false
set_option linter.unusedSimpArgs false
set_option linter.unnecessarySimpa false
set_option linter.unusedSectionVars false
set_option maxHeartbeats 64000000
set_option maxRecDepth 20000
open Nat renaming zero_le→aM,min_eq_left→sj,sub_self→j8,sub_zero→uL,le_refl→aG
open List renaming drop_eq_nil_of_le→cB,replicate→bY,set_append_right→Fk,length_take→gV,map_nil→lQ,nil_append→dh,take_of_length_le→fN,length_set→bI,take→kW,take_take→JQ
open Go Go.Am Go.Proofs
open Nat (reduceEqDiff reduceAdd reduceLeDiff reduceMul)
open Int (reduceNeg reduceLE reduceToNat)
namespace T
theorem Z0 (l:List Bool) (hl:l.length<1000000):an Tryz.prog 161 [.tree 1 (aY l),.lit (.bool true)] [] (.lit (.int .i64 (qD l 0))) []:=by
  generalize ao:qD l 0=res
  refine an.aD (fn:=Tryz.f161) 19 0 [.tmp 4] Tryz.func161 rfl rfl rfl rfl rfl (by simp) ?_
  refine Vb X0 ?_
  refine aU (fun k:Nat=>(⟨aw [(0,.tree 1 (aY l)),(1,.lit (.bool true)),(7,.lit (.int .i64 l.length)),(8,.lit (.int .i64 k))],[]⟩:St)) (fun k=>k≤l.length∧qD (l.drop k) k=res) (fun k=>l.length - k) 0 ⟨aM _,ao⟩ (Xv X0) ?_
  rintro k ⟨hk,hr⟩ Ql aq av
  by_cases aH:k<l.length
  · have hd:=cA l k false aH
    generalize gn:l.getD k false=b at *
    rw[hd,qD] at hr
    cases b
    · rw[if_neg (by simp)] at hr
      ((repeat' (first|refine Va @gn ?_|(refine Xi ?_ ?_<;>try intro ht)|exact Xx|fail)))
      all_goals try (exfalso;simp_all;done)
      all_goals exact aq _ (k+1) ⟨by omega,hr⟩ (by omega) (Xv X0)
    · rw[if_pos rfl] at hr
      ((repeat' (first|refine Va @gn ?_|(refine Xi ?_ ?_<;>try intro ht)|exact Xx|fail)))
      all_goals try (exfalso;simp_all;done)
      all_goals
        repeat (refine Xu ?_)
        refine Vb X0 ?_
        exact aK rfl (by rw[hr])
  · ((repeat' (first|refine Va X0 ?_|(refine Xi ?_ ?_<;>try intro ht)|exact Xx|fail)))
    rw[cB (by omega),qD] at hr
    refine av _ _ rfl ?_;clear aq av Ql
    repeat (refine Xu ?_)
    refine Vb X0 ?_
    exact aK rfl (by rw[hr])
theorem Z1 {left:List (List Bool)} {i:Nat} (h:i<left.length):(ints (iQ (left.take i)++bY (left.length - i) 0)).set i [.lit (.int .i64 (qD (left.getD i default) 0))]=ints (iQ (left.take (i+1))++bY (left.length - (i+1)) 0):=by
  rw[iD h,show left.length - i=(left.length - (i+1))+1 by omega,List.replicate_succ]
  unfold iQ ints
  rw[← List.map_set]
  congr 1
  rw[List.map_append,Fk _ _ (by simp;omega)]
  simp only[List.length_map,gV,sj (Nat.le_of_lt h),j8,List.set_cons_zero,List.map_cons,lQ,List.append_assoc,List.cons_append,dh]
theorem Z2 (left:List (List Bool)) (hl:left.length≤24) (hw:∀ l∈left,l.length≤24):an Tryz.prog 105 [.tree 1 (rowsOf bg left)] [] (.ref 0 1 0 left.length) [.arr 1 (ints (iQ left))]:=by
  refine an.aD (fn:=Tryz.f105) 23 0 [.tmp 2] Tryz.func105 rfl rfl rfl rfl rfl (by simp) ?_
  refine Vb X0 ?_
  refine aU (fun k:Nat=>(⟨aw [(3,.ref 0 1 0 left.length),(9,.tree 1 (rowsOf bg left)),(10,.lit (.int .i64 left.length)),(11,.lit (.int .i64 k))],[.arr 1 (ints (iQ (left.take k)++bY (left.length - k) 0))]⟩:St)) (fun k=>k≤left.length) (fun k=>left.length - k) 0 (aM _) (by rw[List.take_zero];unfold iQ;simp only[lQ,dh,uL];exact Xs false [0] @xY) ?_
  rintro k hk Ql aq av
  by_cases aH:k<left.length
  · have hm:=hw _ (aC (d:=default) aH)
    have gN:=Z0 (left.getD k default) (by omega)
    have gr:=Z1 aH
    have hlen:(ints (iQ (left.take k)++bY (left.length - k) 0)).length=left.length:=by unfold iQ ints;simp;omega
    have Z3:(ints (iQ (left.take k)++bY (left.length - k) 0))[k]?=some [.lit (.int .i64 0)]:=by
      unfold iQ ints
      rw[List.getElem?_map,List.getElem?_append_right (by simp;omega),List.getElem?_replicate,if_pos (by simp;omega)];rfl
    generalize hA:ints (iQ (left.take k)++bY (left.length - k) 0)=A at *
    generalize bE:left.getD k default=row at *
    generalize qD row 0=x at *
    ((repeat' (first|refine Vc (X4 @bE @bg.eq_1 @hlen @Z3) gN ?_|(refine Xi ?_ ?_<;>try intro ht)|exact Xx|fail)))
    all_goals exact aq _ (k+1) (by omega) (by omega) (by rw[← gr];exact Xv X0)
  · ((repeat' (first|refine Va X0 ?_|(refine Xi ?_ ?_<;>try intro ht)|exact Xx|fail)))
    refine av _ _ rfl ?_;clear aq av Ql
    repeat (refine Xu ?_)
    rw[fN (by omega),show left.length - k=0 by omega,List.replicate_zero,List.append_nil]
    refine Vb X0 ?_
    exact Xw false [0] X0
theorem Of (m:aj) (hm:MB m):an Tryz.prog 19 [.agg (ar m)] [] (.lit (.int .i64 (eC m))) []:=by
  have h1:=AH m hm
  have sZ:=hm.cls
  generalize ao:eC m=res
  unfold eC at ao
  refine an.aD (fn:=Tryz.f19) 32 0 [.tmp 2] Tryz.func19 rfl rfl rfl rfl rfl (by simp) ?_
  by_cases hv:dz m=0
  rotate_left
  · rw[if_neg hv] at ao
    generalize dz m=e at *
    ((repeat' (first|refine Vd X0 h1 ?_|(refine Xi ?_ ?_<;>try intro ht)|exact Xx|fail)))
    all_goals exact aK rfl (by rw[ao])
  rw[if_pos hv] at ao
  rw[hv] at h1
  have dM:=eB.1 hv
  ((repeat' (first|refine Vd @bne_self_eq_false.{0} h1 ?_|(refine Xi ?_ ?_<;>try intro ht)|exact Xx|fail)))
  refine aU (fun z:Nat × Int=>(⟨aw [(1,.ptr 0 0 0),(3,.lit (.int .i64 z.2)),(4,.lit (.int .i64 z.1))],[.var (ar m)]⟩:St))
    (fun z=>z.1≤m.cls.length∧0≤z.2∧z.2≤65537∧oU (m.cls.drop z.1) z.2=res) (fun z=>m.cls.length - z.1) (0,1) ⟨aM _,by dsimp only;omega,by dsimp only;omega,ao⟩ (Xv X0) ?_
  rintro ⟨i,n⟩ ⟨hi,dR,e9,hr⟩ Ql aq av
  dsimp only at hi dR e9 hr ⊢
  by_cases hi':i<m.cls.length
  · have hd:=cA m.cls i default hi'
    have hc:=dM.opt _ (aC (d:=default) hi')
    generalize aR:m.cls.getD i default=c at *
    rw[hd,oU] at hr
    have hmul:0≤n * (c.length:Int)∧n * (c.length:Int)≤65537 * 24:=⟨Int.mul_nonneg dR (by omega),Int.mul_le_mul e9 (by omega) (by omega) (by omega)⟩
    generalize w8:n * (c.length:Int)=nc at *
    by_cases h0:c.length=0
    · rw[if_pos h0] at hr
      ((repeat' (first|refine Va (X3 @aR @bD.eq_1 @w8) ?_|(refine Xi ?_ ?_<;>try intro ht)|exact Xx|fail)))
      all_goals
        repeat (refine Xu ?_)
        refine Vb X0 ?_
        exact aK rfl (by rw[hr])
    · rw[if_neg h0] at hr
      ((repeat' (first|refine Va (X3 @aR @bD.eq_1 @w8) ?_|(refine Xi ?_ ?_<;>try intro ht)|exact Xx|fail)))
      all_goals exact aq _ (i+1,min nc 65537) ⟨by dsimp only;omega,by dsimp only;omega,by dsimp only;omega,hr⟩ (by dsimp only;omega) (Xv X0)
  · rw[cB (by omega),oU] at hr
    ((repeat' (first|refine Va X0 ?_|(refine Xi ?_ ?_<;>try intro ht)|exact Xx|fail)))
    refine av _ _ rfl ?_;clear aq av Ql
    repeat (refine Xu ?_)
    refine Vb X0 ?_
    exact aK rfl (by rw[hr])
def vw (f:List Int→List Int) (c:Nat):Nat→Nat→List Int→List Int
  | 0,_,P=>P
  | w+1,k,P=>vw f c w (k+1) (f (P.set c (k:Int)))
def oV (m:aj):Nat→List Int→List Int
  | 0,P=>P
  | d+1,P=>vw (oV m d) (m.cls.length - (d+1)) (m.cls.getD (m.cls.length - (d+1)) default).length 0 P
theorem Z4 {P:List Int} {c:Nat} (hc:c<P.length) (x:Int):(P.set c x).take (c+1)=P.take c++[x]:=by
  rw[List.take_set,List.take_succ_eq_append_getElem hc,Fk _ _ (by rw[gV];exact Nat.min_le_left _ _),gV,sj (Nat.le_of_lt hc),j8];rfl
theorem Ox {m:aj}:∀ (d:Nat) (P:List Int),d≤m.cls.length→P.length=m.cls.length→(oV m d P).length=m.cls.length∧(oV m d P).take (m.cls.length - d)=P.take (m.cls.length - d)
  | 0,P,hd,hP=>⟨hP,rfl⟩
  | d+1,P,hd,hP=>by
    unfold oV
    have key:∀ (w k:Nat) (R:List Int),R.length=m.cls.length→(vw (oV m d) (m.cls.length - (d+1)) w k R).length=m.cls.length∧(vw (oV m d) (m.cls.length - (d+1)) w k R).take (m.cls.length - (d+1))=R.take (m.cls.length - (d+1)):=by
      intro w
      induction w with
      | zero=>intro k R hR;exact⟨hR,rfl⟩
      | succ w ih =>
        intro k R hR
        obtain ⟨h1,h2⟩:=Ox (m:=m) d (R.set (m.cls.length - (d+1)) (k:Int)) (by omega) (by rw[bI];exact hR)
        obtain ⟨i1,i2⟩:=ih (k+1) _ h1
        rw[vw]
        refine⟨i1,i2.trans ?_⟩
        have h3:=congrArg (kW (m.cls.length - (d+1))) h2
        rw[JQ,JQ,sj (show m.cls.length - (d+1)≤m.cls.length - d by omega)] at h3
        rw[h3,List.take_set_of_le (aG _)]
    exact key _ 0 P hP
theorem Z5 (m:aj) (hm:VM m):∀ (d:Nat) (P p:List Int),d≤m.cls.length→P.length=m.cls.length→P.take (m.cls.length - d)=p→BP m p →
    an Tryz.prog 52 [.agg (ar m),.ref 0 1 0 m.cls.length,.lit (.int .i64 (m.cls.length - d:Nat))] [.arr 1 (ints P)] (.bG [.tree 1 (ints (eD m d p).1),.lit (.int .i64 (eD m d p).2)]) [.arr 1 (ints (oV m d P))]:=by
  intro d
  have rG:=hm.cls
  induction d with
  | zero =>
    intro P p hd hP hp G5
    rw[uL,← hP,List.take_length] at hp
    subst hp
    have ug:=G5.fp hP
    have kC:=Z6 m P hm.mb (by omega)
    rw[G4 hm ug.pm] at kC
    dsimp only at kC
    have kC:=kC.GP
    generalize ao:eD m 0 P=res
    unfold eD fM at ao
    generalize iF (gQ m P) 0=n at *
    have jc:(ints P).length=m.cls.length:=by rw[kd];exact hP
    have rH:∀ l:List Ob,dV l [] ([]:List Ob)=l:=fun l=>by simp[dV]
    unfold oV
    refine an.aD (fn:=Tryz.f52) 61 1 [.tmp 6,.tmp 7] Tryz.func52 rfl rfl rfl rfl rfl (by simp) ?_
    ((repeat' (first|refine Vb @jc ?_|(refine Xi ?_ ?_<;>try intro ht)|exact Xx|fail))<;>try with_reducible intro K hK)
    refine nI [] kC (by decide) trivial ⟨.pure rfl,aE.fz rfl jc.symm,trivial⟩ rfl (by simp) ?_
    rw[lQ,rH]
    simp (disch:=omega) only[Ac,↓Pc,simprocAttr]
    refine hK _ ?_
    clear hK K
    have rI:kW m.cls.length (ints P)=ints P:=fN (by omega)
    by_cases hF:1099511627776≤n
    · rw[if_pos hF] at ao
      subst ao
      ((repeat' (first|refine Vb X0 ?_|(refine Xi ?_ ?_<;>try intro ht)|exact Xx|fail)))
      refine cP [0] true (by decide) ⟨⟨by simp,.inr (by simp[oD])⟩,trivial⟩ (by decide) (by decide) (aE.mX aE.nil (.pure rfl))
    · rw[if_neg hF] at ao
      subst ao
      ((repeat' (first|refine Vb (X3 @jc @rI @xZ) ?_|(refine Xi ?_ ?_<;>try intro ht)|exact Xx|fail)))
      refine cP [0] true (by decide) ⟨⟨by simp,.inr (by simp[oD])⟩,trivial⟩ (by decide) (by decide) (aE.mX ?_ (.pure rfl))
      exact .fz rfl jc.symm
  | succ d ih =>
    intro P p hd hP hp G5
    have cq:p.length=m.cls.length - (d+1):=by rw[← hp,gV,hP];omega
    have afI:=hm.opt _ (aC (l:=m.cls) (i:=m.cls.length - (d+1)) (d:=default) (by omega))
    have Oy:((m.cls.length - (d+1):Nat):Int)+1=((m.cls.length - d:Nat):Int):=by omega
    generalize DB:eD m (d+1) p=RB
    generalize G6:oV m (d+1) P=RP
    unfold eD at DB
    unfold oV at G6
    rw[cq] at DB
    generalize aR:m.cls.getD (m.cls.length - (d+1)) default=cl at *
    have jf:m.cls.length - (d+1)<m.cls.length:=by omega
    have gr:∀ (R:List Int) (k:Nat),R.length=m.cls.length→R.take (m.cls.length - (d+1))=p→(R.set (m.cls.length - (d+1)) (k:Int)).take (m.cls.length - d)=p++[(k:Int)]:=fun R k hR G7=>by
      rw[show m.cls.length - d=m.cls.length - (d+1)+1 by omega,Z4 (by omega),G7]
    generalize hc:m.cls.length - (d+1)=c at *
    refine an.aD (fn:=Tryz.f52) 61 1 [.tmp 6,.tmp 7] Tryz.func52 rfl rfl rfl rfl rfl (by simp) ?_
    ((repeat' (first|refine Vb @kd ?_|(refine Xi ?_ ?_<;>try intro ht)|exact Xx|fail)))
    refine aU (fun z:Nat × (List Int × Int) × List Int=>(⟨aw [(1,.ref 0 1 0 m.cls.length),(2,.lit (.int .i64 (c:Nat))),(3,.ptr 1 0 0),(11,.tree 1 (ints z.2.1.1)),(12,.lit (.int .i64 z.2.1.2)),(13,.lit (.int .i64 z.1))],[.arr 1 (ints z.2.2),.var (ar m)]⟩:St))
      (fun z=>z.1≤cl.length∧z.2.2.length=m.cls.length∧z.2.2.take c=p∧nW (eD m d) p (cl.length - z.1) z.1 z.2.1=RB∧vw (oV m d) c (cl.length - z.1) z.1 z.2.2=RP) (fun z=>cl.length - z.1) (0,([],1099511627776),P) ⟨aM _,hP,hp,DB,G6⟩ ?_ ?_
    · refine aB.trans (aB.As 11 1 (a:=none) (cap:=0) (by simp only[Kc,simprocAttr])) ?_
      exact Xv X0
    clear DB G6 hp hP P
    rintro ⟨k,bb,P⟩ ⟨hk,hP,hp,qE,gu⟩ Ql aq av
    dsimp only at hk hP hp qE gu ⊢
    have jc:(ints P).length=m.cls.length:=by rw[kd];exact hP
    by_cases aH:k<cl.length
    · have Z7:=G5.snoc (k:=k) (by omega) (by rw[cq,aR];exact aH)
      have DC:=ih (P.set c (k:Int)) (p++[(k:Int)]) (by omega) (by rw[bI];exact hP) (gr P k hP hp) Z7
      have hl:=Ox (m:=m) d (P.set c (k:Int)) (by omega) (by rw[bI];exact hP)
      have k7:(oV m d (P.set c (k:Int))).take c=p:=by
        have h3:=congrArg (kW c) hl.2
        rw[JQ,JQ,sj (show c≤m.cls.length - d by omega),List.take_set_of_le (aG _),hp] at h3
        exact h3
      rw[← Oy] at DC
      rw[show cl.length - k=(cl.length - (k+1))+1 by omega,nW] at qE
      rw[show cl.length - k=(cl.length - (k+1))+1 by omega,vw] at gu
      generalize eD m d (p++[(k:Int)])=q at *
      generalize oV m d (P.set c (k:Int))=P2 at *
      obtain ⟨q1,q2⟩:=q
      obtain ⟨b1,b2⟩:=bb
      dsimp only at DC qE ⊢
      by_cases hq:q2<b2
      · rw[if_pos hq] at qE
        ((repeat' (first|refine Va (X4 @jc @aR @bD.eq_1 @ints_set) ?_|(refine Xi ?_ ?_<;>try intro ht)|exact Xx|fail))<;>try with_reducible intro K hK)
        (refine Xn [0] (DC) ?_;simp (disch:=omega) only[Ac,↓Pc,simprocAttr,oD])
        ((try revert hK K);(repeat' (first|refine Va X0 ?_|(refine Xi ?_ ?_<;>try intro ht)|exact Xx|fail)))
        all_goals exact aq _ (k+1,(q1,q2),P2) ⟨by dsimp only;omega,hl.1,k7,qE,gu⟩ (by dsimp only;omega) (Xv X0)
      · rw[if_neg hq] at qE
        ((repeat' (first|refine Va (X4 @jc @aR @bD.eq_1 @ints_set) ?_|(refine Xi ?_ ?_<;>try intro ht)|exact Xx|fail))<;>try with_reducible intro K hK)
        (refine Xn [0] (DC) ?_;simp (disch:=omega) only[Ac,↓Pc,simprocAttr,oD])
        ((try revert hK K);(repeat' (first|refine Va X0 ?_|(refine Xi ?_ ?_<;>try intro ht)|exact Xx|fail)))
        all_goals exact aq _ (k+1,(b1,b2),P2) ⟨by dsimp only;omega,hl.1,k7,qE,gu⟩ (by dsimp only;omega) (Xv X0)
    · obtain rfl:k=cl.length:=by omega
      rw[j8,nW] at qE
      rw[j8,vw] at gu
      subst qE gu
      ((repeat' (first|refine Va (X3 @jc @aR @bD.eq_1) ?_|(refine Xi ?_ ?_<;>try intro ht)|exact Xx|fail)))
      refine av _ _ rfl ?_;clear aq av Ql
      repeat (refine Xu ?_)
      refine Vb X0 ?_
      refine cP [0] true (by decide) ⟨⟨by simp,.inr (by simp[oD])⟩,trivial⟩ (by decide) (by decide) (aE.mX (.pure rfl) (.pure rfl))
theorem Z8 (m:aj) (hm:VM m):an Tryz.prog 20 [.agg (ar m)] [] (.bG [.tree 1 (ints (eD m m.cls.length []).1),.lit (.int .i64 (eD m m.cls.length []).2)]) []:=by
  have rG:=hm.cls
  have h:=Z5 m hm m.cls.length (bY m.cls.length 0) [] (aG _) (by simp) (by rw[j8];rfl) (G8 m)
  rw[j8] at h
  generalize oV m m.cls.length (bY m.cls.length 0)=P at *
  generalize eD m m.cls.length []=b at *
  refine an.aD (fn:=Tryz.f20) 14 0 [.tmp 2,.tmp 3] Tryz.func20 rfl rfl rfl rfl rfl (by simp) ?_
  ((refine Vb @xY ?_)<;>try with_reducible intro K hK)
  (refine Xn [1] (h) ?_;simp (disch:=omega) only[Ac,↓Pc,simprocAttr,oD,xY])
  ((try revert hK K);(refine Vb X0 ?_))
  all_goals exact aK rfl rfl
end T

