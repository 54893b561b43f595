import Derived.Test.YtdipcmigdbnheaaGreatX35
import Derived.Test.YtdipcmigdbnheaaGreatX25
import Derived.Test.YtdipcmigdbnheaaGreatX27
import Derived.Test.YtdipcmigdbnheaaGreatX13
import Derived.Test.YtdipcmigdbnheaaGreatX34
import Derived.Test.YtdipcmigdbnheaaGreatX29
import Derived.Test.YtdipcmigdbnheaaGreatX31
set_option linter.unusedVariables false
set_option linter.unusedSimpArgs false
set_option linter.unnecessarySimpa false
set_option linter.unusedSectionVars false
set_option maxHeartbeats 64000000
set_option maxRecDepth 20000
open Nat renaming zero_le→aD,reduceBEq→ri,le_of_eq→K9
open List renaming flatMap_cons→pB,cons_append→dG,reverse_cons→Gz,append_assoc→cI,getElem?_append_right→eE,map_take→AA,take_append_of_le_length→GA,take_of_length_le→dC,length_cons→dH,mem_cons→bZ,set_append_right→AF,set_cons_succ→sw,set_cons_zero→pA,flatMap_append→oN,mem_reverse→sC,length_append→bJ
open Bool renaming and_eq_true→bh
open Int renaming le_refl→eo,le_trans→wH
open Go Go.Am Go.Proofs
open Nat (reduceEqDiff reduceAdd reduceLeDiff reduceMul)
open Int (reduceNeg reduceLE reduceToNat)
open Go Go.Am
namespace T
structure adQ (α:Type) (m:ah) (P:List Nd) (A B C:α→Ob) (bk:List AV) (g:FuncId) (step:α→dg→α × Bool) (Inv:α→List dg→Prop):Prop where
  ra:∀ (ρ:Nat→Nat),ρ 0=0→ρ 1=1→ρ 2=2→∀ a,bC ρ (A a)=A a∧bC ρ (B a)=B a∧bC ρ (C a)=C a
  rc:∀ (ρ:Nat→Nat),ρ 0=0→ρ 1=1→ρ 2=2→∀ v∈bk,aX ρ v=v
  inv:∀ a s L,ya m P s→Inv a (s::L)→Inv (step a s).1 L
  call:VM m→∀ a s L,ya m P s→Inv a (s::L)→ao Tryz.prog g (.agg [.lit (.int .i64 s.1),.tree 1 (rowsOf aE s.2.1)]::bk) [A a,B a,C a] (.lit (.bool (step a s).2)) [A (step a s).1,B (step a s).1,C (step a s).1]
theorem JH {σ:St} {kp:Nat→Prop} {ρ:Nat→Nat} {snap:Bool}:∀ (l:List AV),(∀ v∈l,aX ρ v=v)→fD (aN σ kp ρ snap) l l
  | [],_=>trivial
  | v::l,h=>⟨.eq (h v (by simp)).symm,JH l fun x hx=>h x (by simp[hx])⟩
theorem adR {α:Type} (m:ah) (P:List Nd) (hm:MB m) (hP:PB P) (A B C:α→Ob) (bk:List AV) (g:FuncId) (step:α→dg→α × Bool) {Inv:α→List dg→Prop} (hE:adQ α m P A B C bk g step Inv) (a:α) (hI:VM m→iK m P=true→Inv a (vs P (root m))) :
    ao Tryz.prog 74 [.agg (ar m),.agg (aJ P),.fn g bk] [A a,B a,C a] (.lit (.bool (ph m P step a).2)) [A (ph m P step a).1,B (ph m P step a).1,C (ph m P step a).1]:=by
  have hv:=vI m hm
  have xE:=hP.zB
  have oC:∀ n l a,bC (bd n (0::1::2::l)) (A a)=A a:=fun n l a=>(hE.ra _ rfl rfl rfl a).1
  have oD:∀ n l a,bC (bd n (0::1::2::l)) (B a)=B a:=fun n l a=>(hE.ra _ rfl rfl rfl a).2.1
  have oE:∀ n l a,bC (bd n (0::1::2::l)) (C a)=C a:=fun n l a=>(hE.ra _ rfl rfl rfl a).2.2
  have Be:∀ n l,aX (bd n (0::1::2::l)) (.fn g bk)=.fn g bk:=fun n l=>by
    rw[aX]
    refine congrArg _ ?_
    have h:=hE.rc (bd n (0::1::2::l)) rfl rfl rfl
    rw[ue]
    exact (List.map_congr_left h).trans (List.map_id bk)
  have ui:∀ (σ:St) (kp:Nat→Prop) n l snap,aN σ kp (bd n (0::1::2::l)) snap (.fn g bk) (.fn g bk):=fun σ kp n l snap=>.eq (Be n l).symm
  generalize an:ph m P step a=res
  unfold ph at an
  refine ao.aF (fn:=Tryz.f74) 88 3 [.tmp 6] Tryz.func74 rfl rfl rfl rfl rfl (by simp) ?_
  by_cases CL:dI m=0
  rotate_left
  · rw[if_neg (fun h=>CL h.1)] at an
    ((repeat' (first|refine Vd @aJ.eq_1 hv ?_|(refine V2 @aJ.eq_1 ?_ ?_<;>try with_reducible intro hb)|(refine Xi ?_ ?_<;>try intro ht)|exact Xx|fail)))
    subst an
    exact Xw false [0,1,2] (X3 @oC @oD @oE)
  rw[CL] at hv
  have b9:=iJ.1 CL
  have uE:=aaP m P b9 hP
  cases hs:iK m P
  · rw[hs] at uE an
    rw[if_neg (by simp)] at an
    ((repeat' (first|refine Vd (X3 @aJ.eq_1 @bne_self_eq_false.{0} @Bool.not_false) (X2 hv uE) ?_|(refine Xi ?_ ?_<;>try intro ht)|exact Xx|fail)))
    subst an
    exact Xw false [0,1,2] (X3 @oC @oD @oE)
  rw[hs] at uE an
  rw[if_pos ⟨CL,rfl⟩] at an
  have ik:=adS m hm
  have VF:=BA b9
  have sY:=tq hs
  have sQ:=tE hs
  clear CL
  have hIn:=hI b9 hs
  unfold root at an hIn
  generalize ef m=al at *
  ((repeat' (first|refine Vd (X3 @aJ.eq_1 @bne_self_eq_false.{0} @Bool.not_true) (X3 hv uE ik) ?_|(refine Xi ?_ ?_<;>try intro ht)|exact Xx|fail)))
  refine aI (fun z:List dg × List dg × α=>(⟨av [(2,.fn g bk),(3,.ptr 3 0 0),(4,.ptr 4 0 0),(7,.ref 5 3 0 z.1.length)],[A z.2.2,B z.2.2,C z.2.2,.var (ar m),.var (aJ P),.arr 3 (rowsOf lr (z.1.reverse++z.2.1))]⟩:St))
    (fun z=>(∀ s∈z.1,ya m P s)∧yb z.1∧Inv z.2.2 (z.1.flatMap (vs P))∧ja P step (z.1.flatMap (vs P)) z.2.2=res) (fun z=>(z.1.flatMap (vs P)).length) ([(0,al,[])],[],a) ⟨fun s hs=>by rw[List.mem_singleton] at hs;subst hs;exact⟨sQ.1,VF,Nat.le_refl _⟩,⟨aD _,trivial⟩,by simpa using hIn,by simpa using an⟩ (Xv @aJ.eq_1) ?_
  clear an VF hI hIn
  rintro ⟨T,J,a⟩ ⟨y7,jf,FE,an⟩ Ql ak aq
  dsimp only at y7 jf FE an ⊢
  cases T with
  | nil =>
    rw[List.flatMap_nil,ja] at an
    ((repeat' (first|refine Va X0 ?_|(refine Xi ?_ ?_<;>try intro ht)|exact Xx|fail)))
    refine aq _ _ rfl ?_;clear ak aq Ql
    repeat (refine Xu ?_)
    refine Vb X0 ?_
    subst an
    exact Xw false [0,1,2] (X3 @oC @oD @oE)
  | cons s T =>
    have qY:=y7 s (by simp)
    have hgT:∀ t∈T,ya m P t:=fun t ht=>y7 t (by simp[ht])
    have JI:=Cc sY qY.1
    rw[pB,JI,dG] at FE
    have VG:=hE.inv a s _ qY FE
    rw[pB,JI,dG,ja] at an
    have jm:(rowsOf lr ((s::T).reverse++J))[T.length]?=some (lr s):=by
      unfold rowsOf
      rw[List.getElem?_map,Gz,cI,eE (by simp)];simp
    have km:(rowsOf lr ((s::T).reverse++J)).take T.length=rowsOf lr T.reverse:=by
      unfold rowsOf
      rw[← AA,Gz,cI,GA (by simp),dC (by simp)]
    have gI:T.length+1≤((s::T).reverse++J).length:=by simp
    have JJ:(((T.length+1:Nat):Int) - 1).toNat=T.length:=by omega
    have lY:=adU
    rw[dH]
    generalize pO:(s::T).reverse++J=L at *
    obtain ⟨Cv,jf⟩:=jf
    obtain ⟨i,left,ab⟩:=s
    dsimp only at Cv
    have hi:i<P.length:=qY.1
    have ec:dN m left:=qY.2.1
    have lp:ab.length≤i:=qY.2.2
    have bR:P.getD i default=nd P i:=rfl
    have cp:=az (l:=P) (i:=i) (d:=default) hi
    have b1:=hP.kids _ cp
    have hdi:=sY i hi
    have yd:=fun o=>uP (o:=o) sY qY.1
    have uQ:=fun o=>adW (o:=o) sY qY
    have eH:=CM hs hi
    have CN:∀ o,lM P (i,left,ab) o=(((nd P i).kids.getD o 0).toNat,bF left (nd P i).cls.toNat o,ab++[(nd P i).cls]):=fun o=>rfl
    have JK:ov P (i,left,ab)=g6 P (i,left,ab) (nd P i).kids.length:=rfl
    rw[bR] at b1 cp
    dsimp only at an yd uQ
    generalize bA:nd P i=x at *
    obtain ⟨c,kids,cY,cM,cells⟩:=x
    dsimp only at b1 hdi yd uQ CN JK an
    repeat' (first|((fail_if_success (first|refine im 8 ?_|refine iq 8 ?_));refine Xr (X5 @jm @lr.eq_1 @JJ @lY (X4 @aJ.eq_1 @bR @aM.eq_1 @Option.map_none.{0,0})) ?_;intro K hK)|(refine hK _ ?_;clear hK K)|(refine Xi ?_ ?_<;>try intro ht)|refine Xy ?_|refine Xd ?_ ?_|exact Xx|fail)
    refine cA (aA.vN 8 6 (cells:=[.lit (.int .i64 i),.tree 1 (rowsOf aE left),pY ab]) (by rfl) (by simp only[Kc,simprocAttr]) (by
      intro v hv
      simp only[bZ,List.not_mem_nil,or_false] at hv
      rcases hv with rfl | rfl | rfl
      · exact .inl ⟨_,rfl⟩
      · exact .inr ⟨_,_,rfl⟩
      · rcases VH ab with ⟨y,h,_⟩ | h
        · exact .inl ⟨y,h⟩
        · exact .inr h)) ?_
    refine cA (aA.vN 9 7 (cells:=aM ⟨c,kids,cY,cM,cells⟩) (by rfl) (by simp only[Kc,simprocAttr]) (by simp[aM])) ?_
    refine cA (σ':=⟨av [(2,.fn g bk),(3,.ptr 3 0 0),(4,.ptr 4 0 0),(7,.ref 5 3 0 T.length),(8,.db [.lit (.int .i64 i),.tree 1 (rowsOf aE left),pY ab]),(9,.db (aM ⟨c,kids,cY,cM,cells⟩))],[A a,B a,C a,.var (ar m),.var (aJ P),.arr 3 (rowsOf lr L)]⟩) (by ((refine aA.se [0,1,2,3,4,5] false (by simp only[Oc,simprocAttr,oC,oD,oE,aJ]) ?_;simp only[Hr,↓reduceIte,reduceEqDiff,ri,reduceAdd,oC,oD,oE,aJ];try (and_intros<;>first|exact .pure rfl|exact .eq rfl|exact .fz rfl (by simp only[Bc,Rc]))));(and_intros<;>first|exact ui ..|exact .pure rfl|exact .eq rfl)) ?_
    have eB:ao Tryz.prog 122 [pY ab,.lit (.int .i64 c)] [] (.lit (.bool (ab.contains c))) []:=by
      have:=ac6 ab c (by omega)
      cases ab with
      | nil=>exact ao.NT (pre:=[]) (post:=[.lit (.int .i64 c)]) this
      | cons x r=>exact this
    cases Ad:ab.contains c
    rotate_left
    · rw[Ad] at eB an
      rw[if_pos rfl] at an
      ((refine Va @aM.eq_1 ?_)<;>try with_reducible intro K hK)
      refine bW eB (VI _ _) rfl ?_
      ((try revert hK K);(repeat' (first|refine Va @aM.eq_1 ?_|(refine Xi ?_ ?_<;>try intro ht)|exact Xx|fail)))
      repeat (refine Xu ?_)
      refine Vb X0 ?_
      rw[← an]
      exact Xw false [0,1,2] (X3 @oC @oD @oE)
    rw[Ad] at eB an
    rw[if_neg (by simp)] at an
    have nf:=hE.call b9 a (i,left,ab) _ qY FE
    dsimp only at nf
    generalize dP:step a (i,left,ab)=sa at *
    obtain ⟨a2,b⟩:=sa
    dsimp only at nf an VG
    ((refine Va @aM.eq_1 ?_)<;>try with_reducible intro K hK)
    refine bW eB (VI _ _) rfl ?_
    cases b
    · rw[if_neg (by simp)] at an
      ((try revert hK K);(refine Va @aM.eq_1 ?_)<;>try with_reducible intro K hK)
      refine ic [0,1,2] nf (by decide) ⟨by rw[oC];rfl,by rw[oD];rfl,by rw[oE];rfl,trivial⟩ ⟨.pure rfl,JH bk (hE.rc _ rfl rfl rfl)⟩ ?_
      ((try revert hK K);(repeat' (first|refine Va (X4 @aM.eq_1 @oC @oD @oE) ?_|(refine Xi ?_ ?_<;>try intro ht)|exact Xx|fail)))
      repeat (refine Xu ?_)
      refine Vb X0 ?_
      rw[← an]
      exact Xw false [0,1,2] (X3 @oC @oD @oE)
    rw[if_pos rfl] at an
    ((try revert hK K);(refine Va @aM.eq_1 ?_)<;>try with_reducible intro K hK)
    refine ic [0,1,2] nf (by decide) ⟨by rw[oC];rfl,by rw[oD];rfl,by rw[oE];rfl,trivial⟩ ⟨.pure rfl,JH bk (hE.rc _ rfl rfl rfl)⟩ ?_
    ((try revert hK K);(repeat' (first|refine Va (X4 @aM.eq_1 @oC @oD @oE) ?_|(refine Xi ?_ ?_<;>try intro ht)|exact Xx|fail)))
    have tC:0<kids.length→0≤c∧c<m.cls.length∧kids.length=(m.cls.getD c.toNat default).length:=fun h=>by
      unfold jQ lh at eH
      dsimp only at eH
      rw[bh] at eH
      have h1:=eH.1
      split at h1
      · rw[decide_eq_true_eq] at h1;omega
      · rw[decide_eq_true_eq] at h1;exact⟨h1.1,h1.2.1,h1.2.2.1⟩
    have BF:kids.length≤24:=by
      unfold jQ at eH
      rw[bh] at eH
      exact BE b9 eH.1
    refine aI (fun z:Nat × List dg=>(⟨av [(2,.fn g bk),(3,.ptr 3 0 0),(4,.ptr 4 0 0),(7,.ref 5 3 0 (T.length+z.1)),(8,.db [.lit (.int .i64 i),.tree 1 (rowsOf aE left),pY ab]),(9,.db (aM ⟨c,kids,cY,cM,cells⟩)),(60,.tree 1 (ints kids)),(61,.lit (.int .i64 kids.length)),(62,.lit (.int .i64 z.1))],[A a2,B a2,C a2,.var (ar m),.var (aJ P),.arr 3 (rowsOf lr z.2)]⟩:St))
      (fun z=>z.1≤kids.length∧T.length+z.1≤z.2.length∧z.2.take (T.length+z.1)=T.reverse++g6 P (i,left,ab) z.1) (fun z=>kids.length - z.1) (0,L) ⟨aD _,by dsimp only;omega,by
        dsimp only
        rw[← pO,Nat.add_zero,Gz,cI,GA (by simp),dC (by simp)]
        simp[g6]⟩ (Xv (X2 @aJ.eq_1 @aM.eq_1)) ?_
    rintro ⟨o,L2⟩ ⟨ho,sg,JL⟩ cP a5 a8
    dsimp only at ho sg JL ⊢
    by_cases cf:o<kids.length
    · obtain ⟨c1,c2,c3⟩:=tC (by omega)
      obtain ⟨k1,k2,k3⟩:=yd o cf
      have CN:=CN o
      have ahC:(left.getD c.toNat default).length=kids.length:=by rw[c3];exact ec.2 c.toNat (by have:=ec.1;omega)
      have wR:=adX left c.toNat o (by have:=ec.1;omega) (by omega) (by have:=ec.1;have:=b9.cls;omega) (by omega)
      rw[Int.toNat_of_nonneg c1] at wR
      have Ce:(rowsOf lr L2).take (T.length+o)=rowsOf lr (T.reverse++g6 P (i,left,ab) o):=by unfold rowsOf;rw[← AA,JL]
      have dz:(T.reverse++g6 P (i,left,ab) o).length=T.length+o:=by simp[g6]
      generalize iT:kids.getD o 0=k at *
      generalize bF left c.toNat o=on at *
      by_cases VJ:ab=[]
      · subst VJ
        ((repeat' (first|refine Vc (X5 @aM.eq_1 @iT (X2 @pY.eq_1 @pY.eq_2) @Ce @dz) (X2 wR adY) ?_|(refine Xi ?_ ?_<;>try intro ht)|exact Xx|fail)))
        have oF:(rowsOf lr (T.reverse++g6 P (i,left,[]) o)++[[AV.lit (.int .i64 k),.tree 1 (rowsOf aE on),.ref 7 1 0 1]])[T.length+o]?=some [AV.lit (.int .i64 k),.tree 1 (rowsOf aE on),.ref 7 1 0 1]:=by
          rw[eE (by simp[rowsOf,← dz])];simp[rowsOf,← dz]
        have Bs:rowsOf lr (T.reverse++g6 P (i,left,[]) (o+1))=(rowsOf lr (T.reverse++g6 P (i,left,[]) o)++[[AV.lit (.int .i64 k),.tree 1 (rowsOf aE on),.ref 7 1 0 1]]).set (T.length+o) [AV.lit (.int .i64 k),.tree 1 (rowsOf aE on),.tree 1 [[AV.lit (.int .i64 c)]]]:=by
          rw[AF _ _ (by simp[rowsOf,← dz]),VK,CN]
          have:(((k.toNat:Nat):Int))=k:=by omega
          simp[rowsOf,← dz,lr,pY,ints,this]
        have uR:(T.reverse++g6 P (i,left,[]) (o+1)).length=T.length+(o+1):=by simp[g6]
        refine a5 _ (o+1,T.reverse++g6 P (i,left,[]) (o+1)) ⟨by dsimp only;omega,K9 uR.symm,dC (K9 uR)⟩ (by dsimp only;omega) ?_
        refine aA.trans (aA.H5 7 9 (T.length+o) 2 1 3 (rows:=[[AV.lit (.int .i64 c)]]) rfl oF rfl rfl (by decide) (by simp) (by simp)) ?_
        simp only[sw,pA]
        rw[← Bs]
        ((refine aA.se [0,1,2,3,4,9] false (by simp only[Oc,simprocAttr,oC,oD,oE,aJ]) ?_;simp only[Hr,↓reduceIte,reduceEqDiff,ri,reduceAdd,oC,oD,oE,aJ];try (and_intros<;>first|exact .pure rfl|exact .eq rfl|exact .fz rfl (by simp only[Bc,Rc]))))
        and_intros<;>first|exact ui ..|exact .pure rfl|exact .eq rfl
      · have m6:0<ab.length:=by
          cases ab with
          | nil=>exact absurd rfl VJ
          | cons=>simp
        have VL:∀ l:List Int,0<l.length→pY l=.tree 1 (ints l):=fun l h=>by
          cases l with
          | nil=>simp at h
          | cons=>rfl
        have Ae:=VL ab m6
        have adZ:=VL (ab++[c]) (by simp)
        have ca:=VN ab m6 (by omega)
        have fi:(ints (ab++[c])).length=ab.length+1:=by simp[ints]
        have oF:(rowsOf lr (T.reverse++g6 P (i,left,ab) o)++[[AV.lit (.int .i64 k),.tree 1 (rowsOf aE on),.ref 8 1 0 (ab.length+1)]])[T.length+o]?=some [AV.lit (.int .i64 k),.tree 1 (rowsOf aE on),.ref 8 1 0 (ab.length+1)]:=by
          rw[eE (by simp[rowsOf,← dz])];simp[rowsOf,← dz]
        have Bs:rowsOf lr (T.reverse++g6 P (i,left,ab) (o+1))=(rowsOf lr (T.reverse++g6 P (i,left,ab) o)++[[AV.lit (.int .i64 k),.tree 1 (rowsOf aE on),.ref 8 1 0 (ab.length+1)]]).set (T.length+o) [AV.lit (.int .i64 k),.tree 1 (rowsOf aE on),.tree 1 (ints (ab++[c]))]:=by
          rw[AF _ _ (by simp[rowsOf,← dz]),VK,CN]
          have:(((k.toNat:Nat):Int))=k:=by omega
          simp[rowsOf,← dz,lr,adZ,this]
        have uR:(T.reverse++g6 P (i,left,ab) (o+1)).length=T.length+(o+1):=by simp[g6]
        repeat' (first|((fail_if_success (first|refine im 13 ?_|refine iq 13 ?_));refine Xr (X3 @aM.eq_1 @iT @Ae) ?_;intro K hK)|(refine hK _ ?_;clear hK K)|(refine Xi ?_ ?_<;>try intro ht)|refine Xy ?_|refine Xd ?_ ?_|exact Xx|fail)
        refine oT [4,6,8,11,14] (.take 0 (.take 1 (.take 2 (.take 3 (.take 4 (.take 5 (.take 6 (.take 7 (.take 8 (.take 9 (.take 10 (.take 11 (.both 12 (.take 13 (.take 14 (.take 15 (.take 16 (.take 17 (.take 18 (.take 19 (.take 20 .nil)))))))) 13 (.take 14 (.both 12 (.take 15 (.take 16 (.take 17 (.take 18 (.take 19 (.take 20 .nil)))))) 15 (.take 12 (.take 16 (.take 17 (.take 18 (.take 19 (.take 20 .nil))))))))))))))))))))) rfl (by decide) (by decide +kernel) ?_
        simp (disch:=omega) only[Ac,↓Pc,simprocAttr,Pw,↓Lq,aM,iT,Ae]
        refine bY wR rfl rfl ?_
        simp (disch:=omega) only[Ac,↓Pc,simprocAttr,Pw,↓Lq,aM,iT,Ae]
        repeat' (with_reducible refine And.intro ?_ ?_)
        all_goals try (refine ic [] ca (by decide) trivial ⟨.pure rfl,trivial⟩ ?_;simp (disch:=omega) only[Ac,↓Pc,simprocAttr,Pw,↓Lq,aM,iT,Ae,Nat.sub_self,Nat.sub_zero,Ce,dz,DB])
        repeat' (first|with_reducible refine And.intro ?_ ?_|omega)
        all_goals
          repeat (refine Xu ?_)
          ((repeat' (first|refine Va X0 ?_|fail)))
        all_goals
          refine a5 _ (o+1,T.reverse++g6 P (i,left,ab) (o+1)) ⟨by dsimp only;omega,K9 uR.symm,dC (K9 uR)⟩ (by dsimp only;omega) ?_
          refine aA.trans (aA.H5 8 10 (T.length+o) 2 1 3 (rows:=ints (ab++[c])) rfl oF rfl (by rw[fi];rfl) (by decide) (qq _) (sL _)) ?_
          simp only[sw,pA]
          rw[← Bs]
          ((refine aA.se [0,1,2,3,4,10] false (by simp only[Oc,simprocAttr,oC,oD,oE,aJ,Ae]) ?_;simp only[Hr,↓reduceIte,reduceEqDiff,ri,reduceAdd,oC,oD,oE,aJ,Ae];try (and_intros<;>first|exact .pure rfl|exact .eq rfl|exact .fz rfl (by simp only[Bc,Rc]))))
          and_intros<;>first|exact ui ..|exact .pure rfl|exact .eq rfl
    · obtain rfl:o=kids.length:=by omega
      ((repeat' (first|refine Va @aM.eq_1 ?_|(refine Xi ?_ ?_<;>try intro ht)|exact Xx|fail)))
      refine a8 _ _ rfl ?_
      clear a5 a8 cP
      repeat (refine Xu ?_)
      ((skip))
      have dx:(g6 P (i,left,ab) kids.length).length=kids.length:=by simp[g6]
      have hL3:T.reverse++g6 P (i,left,ab) kids.length++L2.drop (T.length+kids.length)=L2:=by rw[← JL,List.take_append_drop]
      refine ak _ ((ov P (i,left,ab)).reverse++T,L2.drop (T.length+kids.length),a2) ⟨fun t ht=>?_,?_,by dsimp only;rw[oN];exact VG,?_⟩ ?_ ?_
      · dsimp only at ht
        rw[List.mem_append] at ht
        rcases ht with ht | ht
        · obtain ⟨o,ho,rfl⟩:=tp (sC.1 ht)
          dsimp only at ho
          rw[bA] at ho
          exact uQ o ho
        · exact hgT t ht
      · dsimp only
        refine yb.push jf Cv _ (fun t ht=>?_) (by rw[List.length_reverse,JK,dx];exact BF)
        obtain ⟨o,ho,rfl⟩:=tp (sC.1 ht)
        dsimp only at ho
        rw[bA] at ho
        exact (yd o ho).1
      · dsimp only
        rw[oN]
        exact an
      · dsimp only
        rw[oN,pB,JI,bJ,bJ,dH]
        omega
      · dsimp only
        rw[List.reverse_append,List.reverse_reverse,JK,hL3,bJ,List.length_reverse,dx,Nat.add_comm kids.length T.length]
        exact Xv @aJ.eq_1
def gj (m:ah) (P:List Nd) (b:Int) (s:dg):Int × Bool :=
  if (nd P s.1).cls≠-1 then (b,true)
  else if 0<(nd P s.1).cM.length then (b,mr m (nd P s.1) s.2.1)
  else (min b (iw m s.2.1 (nd P s.1).cY).1,(iw m s.2.1 (nd P s.1).cY).2 == 0)
def lG (m:ah) (P:List Nd):Int × Bool:=if (ph m P (gj m P) 1099511627776).2=true then ((ph m P (gj m P) 1099511627776).1,true) else (0,false)
theorem VO {α:Type} {P:List Nd} {step:α→dg→α × Bool}:∀ {L:List dg} {a r:α},ja P step L a=(r,true)→∀ (J:α→Prop) (R:α→α→Prop),(∀ x,R x x)→(∀ x y z,R x y→R y z→R x z)→(∀ s∈L,∀ x,(step x s).2=true→R x (step x s).1) →
    ∀ s∈L,s.2.2.contains (nd P s.1).cls=false∧∃ x,(step x s).2=true∧R (step x s).1 r
  | [],a,r,h,J,R,h1,h2,h3,s,hs=>by simp at hs
  | t::L,a,r,h,J,R,h1,h2,h3,s,hs=>by
    rw[ja] at h
    split at h
    · cases h
    · rename_i hc
      split at h
      · rename_i iD
        have ih:=VO h J R h1 h2 (fun u hu=>h3 u (by simp[hu]))
        rcases bZ.1 hs with e | hs
        · subst e
          refine⟨by simpa using hc,a,iD,?_⟩
          have mono:∀ (L:List dg) (x y:α),(∀ u∈L,∀ x,(step x u).2=true→R x (step x u).1)→ja P step L x=(y,true)→R x y:=by
            intro L
            induction L with
            | nil=>intro x y _ h;rw[ja] at h;cases h;exact h1 _
            | cons u L CO =>
              intro x y hm h
              rw[ja] at h
              split at h
              · cases h
              · split at h
                · rename_i hu;exact h2 _ _ _ (hm u (by simp) x hu) (CO _ _ (fun v hv=>hm v (by simp[hv])) h)
                · cases h
          exact mono L _ _ (fun u hu=>h3 u (by simp[hu])) h
        · exact ih s hs
      · cases h
theorem TX {m:ah} {P:List Nd} {n:Int} (h:lG m P=(n,true)):VM m∧iK m P=true∧ja P (gj m P) (vs P (root m)) 1099511627776=(n,true):=by
  unfold lG ph at h
  by_cases h2:dI m=0∧iK m P=true
  · rw[if_pos h2] at h
    split at h
    · rename_i h1
      refine⟨iJ.1 h2.1,h2.2,?_⟩
      have e:(ja P (gj m P) (vs P (root m)) 1099511627776).1=n:=congrArg Prod.fst h
      exact Prod.ext e h1
    · cases h
  · rw[if_neg h2] at h
    split at h
    · rename_i h1;cases h1
    · cases h
theorem VP {m:ah} {P:List Nd} (b:Int) (s:dg):(gj m P b s).1≤b:=by
  unfold gj
  split
  · exact eo _
  split
  · exact eo _
  · exact Int.min_le_left ..
theorem TY {m:ah} {P:List Nd} {n:Int} (h:ja P (gj m P) (vs P (root m)) 1099511627776=(n,true)):n≤1099511627776∧∀ s∈vs P (root m),s.2.2.contains (nd P s.1).cls=false∧((nd P s.1).cls = -1→if 0<(nd P s.1).cM.length then mr m (nd P s.1) s.2.1=true else n≤(iw m s.2.1 (nd P s.1).cY).1∧(iw m s.2.1 (nd P s.1).cY).2=0):=by
  have ad1:∀ (L:List dg) (a r:Int),ja P (gj m P) L a=(r,true)→r≤a:=by
    intro L
    induction L with
    | nil=>intro a r h;rw[ja] at h;cases h;exact eo _
    | cons s L ih =>
      intro a r h
      rw[ja] at h
      split at h
      · cases h
      · split at h
        · exact wH (ih _ _ h) (VP a s)
        · cases h
  refine⟨ad1 _ _ _ h,fun s hs=>?_⟩
  obtain ⟨h1,x,h2,h3⟩:=VO h (fun _=>True) (fun x y=>y≤x) (fun x=>eo _) (fun x y z h1 h2=>wH h2 h1) (fun s _ x _=>VP x s) s hs
  refine⟨h1,fun hc=>?_⟩
  unfold gj at h2 h3
  rw[if_neg (by omega)] at h2 h3
  split
  · rename_i hg
    rw[if_pos hg] at h2
    exact h2
  · rename_i hg
    rw[if_neg hg] at h2 h3
    dsimp only at h2 h3
    exact⟨by omega,by simpa using h2⟩
theorem adP {m:ah} {P:List Nd} (hm:VM m) (hs:iK m P=true) (h:∀ s∈vs P (root m),s.2.2.contains (nd P s.1).cls=false∧((nd P s.1).cls = -1→(nd P s.1).cM.length=0∧(iw m s.2.1 (nd P s.1).cY).2=0)) :
    ∃ n,lG m P=(n,true)∧∀ a,a≤1099511627776→(∀ s∈vs P (root m),(nd P s.1).cls = -1→a≤(iw m s.2.1 (nd P s.1).cY).1)→a≤n:=by
  have key:∀ (L:List dg) (b:Int),(∀ s∈L,s.2.2.contains (nd P s.1).cls=false∧((nd P s.1).cls = -1→(nd P s.1).cM.length=0∧(iw m s.2.1 (nd P s.1).cY).2=0)) →
      (ja P (gj m P) L b).2=true∧∀ a,a≤b→(∀ s∈L,(nd P s.1).cls = -1→a≤(iw m s.2.1 (nd P s.1).cY).1)→a≤(ja P (gj m P) L b).1:=by
    intro L
    induction L with
    | nil=>intro b _;exact⟨rfl,fun a h _=>h⟩
    | cons s L ih =>
      intro b h
      obtain ⟨h1,h2⟩:=h s (by simp)
      have uO:(gj m P b s).2=true:=by
        unfold gj
        by_cases hc:(nd P s.1).cls = -1
        · rw[if_neg (by omega),if_neg (by have:=(h2 hc).1;omega)]
          simp[(h2 hc).2]
        · rw[if_pos hc]
      rw[ja,h1,if_neg (by simp),if_pos uO]
      obtain ⟨i1,i2⟩:=ih (gj m P b s).1 fun t ht=>h t (by simp[ht])
      refine⟨i1,fun a ha hl=>i2 a ?_ fun t ht=>hl t (by simp[ht])⟩
      unfold gj
      by_cases hc:(nd P s.1).cls = -1
      · rw[if_neg (by omega),if_neg (by have:=(h2 hc).1;omega)]
        have:=hl s (by simp) hc
        show a≤min _ _
        omega
      · rw[if_pos hc];exact ha
  obtain ⟨k1,k2⟩:=key (vs P (root m)) 1099511627776 h
  refine⟨(ja P (gj m P) (vs P (root m)) 1099511627776).1,?_,k2⟩
  have hw:ph m P (gj m P) 1099511627776=ja P (gj m P) (vs P (root m)) 1099511627776:=if_pos ⟨iJ.2 hm,hs⟩
  unfold lG
  rw[hw,if_pos k1]
def ld (l:List Mv):Nd:=⟨-1,[],l,[],[]⟩
theorem I0 {P:List Nd} (hd:Down P) {s:dg} (hs:s.1<P.length) (hk:(nd P s.1).kids=[]):vs P s=[s]:=by
  rw[Cc hd hs]
  unfold ov g6
  rw[hk];rfl
theorem TZ {m:ah} (left:List (List Bool)):iw m left []=(mR m left (S0 m,T0 m),0):=rfl
end T

