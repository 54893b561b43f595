import Derived.Test.YtdipcmigdbnheaaGreatX26
import Derived.Test.YtdipcmigdbnheaaGreatX28
import Derived.Test.YtdipcmigdbnheaaGreatX20
import Derived.Test.YtdipcmigdbnheaaGreatX06
set_option linter.unusedVariables false
set_option linter.unusedSimpArgs false
set_option linter.unnecessarySimpa false
set_option linter.unusedSectionVars false
set_option maxHeartbeats 64000000
set_option maxRecDepth 20000
open Nat renaming zero_le→aM,reduceBEq→tH,le_of_eq→JW
open List renaming flatMap_cons→tF,cons_append→da,append_assoc→dI,getElem?_append_right→eK,map_take→xM,take_append_of_le_length→Ce,take_of_length_le→fN,length_cons→dH,set_append_right→Fk,set_cons_succ→uP,set_cons_zero→qW,flatMap_append→qU,mem_reverse→wi,length_append→bV
open Bool renaming and_eq_true→bk
open Go Go.Am Go.Proofs
open Nat (reduceEqDiff reduceAdd reduceLeDiff reduceMul)
open Int (reduceNeg reduceLE reduceToNat)
namespace T
structure ads (α:Type) (m:aj) (P:List Nd) (A B C:α→Ob) (aW:List AV) (g:FuncId) (step:α→eh→α × Bool) (Inv:α→List eh→Prop):Prop where
  ra:∀ (ρ:Nat→Nat),ρ 0=0→ρ 1=1→ρ 2=2→∀ a,bO ρ (A a)=A a∧bO ρ (B a)=B a∧bO ρ (C a)=C a
  rc:∀ (ρ:Nat→Nat),ρ 0=0→ρ 1=1→ρ 2=2→∀ v∈aW,a6 ρ v=v
  inv:∀ a s L,uF m P s→Inv a (s::L)→Inv (step a s).1 L
  call:VM m→∀ a s L,uF m P s→Inv a (s::L)→an Tryz.prog g (.agg [.lit (.int .i64 s.1),.tree 1 (rowsOf bg s.2.1)]::aW) [A a,B a,C a] (.lit (.bool (step a s).2)) [A (step a s).1,B (step a s).1,C (step a s).1]
theorem IS {σ:St} {kp:Nat→Prop} {ρ:Nat→Nat} {snap:Bool}:∀ (l:List AV),(∀ v∈l,a6 ρ v=v)→dY (aE σ kp ρ snap) l l
  | [],_=>trivial
  | v::l,h=>⟨.eq (h v (by simp)).symm,IS l fun x hx=>h x (by simp[hx])⟩
theorem adt {α:Type} (m:aj) (P:List Nd) (hm:MB m) (hP:PB P) (A B C:α→Ob) (aW:List AV) (g:FuncId) (step:α→eh→α × Bool) {Inv:α→List eh→Prop} (hE:ads α m P A B C aW g step Inv) (a:α) (hI:VM m→lN m P=true→Inv a (vs P (root m))) :
    an Tryz.prog 74 [.agg (ar m),.agg (cH P),.fn g aW] [A a,B a,C a] (.lit (.bool (rV m P step a).2)) [A (rV m P step a).1,B (rV m P step a).1,C (rV m P step a).1]:=by
  have hv:=qz m hm
  have s5:=hP.w0
  have oo:∀ n l a,bO (br n (0::1::2::l)) (A a)=A a:=fun n l a=>(hE.ra _ rfl rfl rfl a).1
  have ou:∀ n l a,bO (br n (0::1::2::l)) (B a)=B a:=fun n l a=>(hE.ra _ rfl rfl rfl a).2.1
  have ov:∀ n l a,bO (br n (0::1::2::l)) (C a)=C a:=fun n l a=>(hE.ra _ rfl rfl rfl a).2.2
  have An:∀ n l,a6 (br n (0::1::2::l)) (.fn g aW)=.fn g aW:=fun n l=>by
    rw[a6]
    refine congrArg _ ?_
    have h:=hE.rc (br n (0::1::2::l)) rfl rfl rfl
    rw[tM]
    exact (List.map_congr_left h).trans (List.map_id aW)
  have tS:∀ (σ:St) (kp:Nat→Prop) n l snap,aE σ kp (br n (0::1::2::l)) snap (.fn g aW) (.fn g aW):=fun σ kp n l snap=>.eq (An n l).symm
  generalize ao:rV m P step a=res
  unfold rV at ao
  refine an.aD (fn:=Tryz.f74) 88 3 [.tmp 6] Tryz.func74 rfl rfl rfl rfl rfl (by simp) ?_
  by_cases BB:dz m=0
  rotate_left
  · rw[if_neg (fun h=>BB h.1)] at ao
    ((repeat' (first|refine Vd @cH.eq_1 hv ?_|(refine V2 @cH.eq_1 ?_ ?_<;>try with_reducible intro hb)|(refine Xi ?_ ?_<;>try intro ht)|exact Xx|fail)))
    subst ao
    exact Xw false [0,1,2] (X3 @oo @ou @ov)
  rw[BB] at hv
  have dM:=eB.1 BB
  have zs:=adu m P dM hP
  cases hs:lN m P
  · rw[hs] at zs ao
    rw[if_neg (by simp)] at ao
    ((repeat' (first|refine Vd (X3 @cH.eq_1 @bne_self_eq_false.{0} @Bool.not_false) (X2 hv zs) ?_|(refine Xi ?_ ?_<;>try intro ht)|exact Xx|fail)))
    subst ao
    exact Xw false [0,1,2] (X3 @oo @ou @ov)
  rw[hs] at zs ao
  rw[if_pos ⟨BB,rfl⟩] at ao
  have fK:=acE m hm
  have UP:=Ew dM
  have tw:=Ev hs
  have sK:=TQ hs
  clear BB
  have hIn:=hI dM hs
  unfold root at ao hIn
  generalize dD m=al at *
  ((repeat' (first|refine Vd (X3 @cH.eq_1 @bne_self_eq_false.{0} @Bool.not_true) (X3 hv zs fK) ?_|(refine Xi ?_ ?_<;>try intro ht)|exact Xx|fail)))
  refine aU (fun z:List eh × List eh × α=>(⟨aw [(2,.fn g aW),(3,.ptr 3 0 0),(4,.ptr 4 0 0),(7,.ref 5 3 0 z.1.length)],[A z.2.2,B z.2.2,C z.2.2,.var (ar m),.var (cH P),.arr 3 (rowsOf ll (z.1.reverse++z.2.1))]⟩:St))
    (fun z=>(∀ s∈z.1,uF m P s)∧xl z.1∧Inv z.2.2 (z.1.flatMap (vs P))∧kT P step (z.1.flatMap (vs P)) z.2.2=res) (fun z=>(z.1.flatMap (vs P)).length) ([(0,al,[])],[],a) ⟨fun s hs=>by rw[List.mem_singleton] at hs;subst hs;exact⟨sK.1,UP,Nat.le_refl _⟩,⟨aM _,trivial⟩,by simpa using hIn,by simpa using ao⟩ (Xv @cH.eq_1) ?_
  clear ao UP hI hIn
  rintro ⟨T,J,a⟩ ⟨yi,gZ,EK,ao⟩ Ql aq av
  dsimp only at yi gZ EK ao ⊢
  cases T with
  | nil =>
    rw[List.flatMap_nil,kT] at ao
    ((repeat' (first|refine Va X0 ?_|(refine Xi ?_ ?_<;>try intro ht)|exact Xx|fail)))
    refine av _ _ rfl ?_;clear aq av Ql
    repeat (refine Xu ?_)
    refine Vb X0 ?_
    subst ao
    exact Xw false [0,1,2] (X3 @oo @ou @ov)
  | cons s T =>
    have qO:=yi s (by simp)
    have hgT:∀ t∈T,uF m P t:=fun t ht=>yi t (by simp[ht])
    have IT:=zl tw qO.1
    rw[tF,IT,da] at EK
    have UQ:=hE.inv a s _ qO EK
    rw[tF,IT,da,kT] at ao
    have rJ:(rowsOf ll ((s::T).reverse++J))[T.length]?=some (ll s):=by
      unfold rowsOf
      rw[List.getElem?_map,List.reverse_cons,dI,eK (by simp)];simp
    have rI:(rowsOf ll ((s::T).reverse++J)).take T.length=rowsOf ll T.reverse:=by
      unfold rowsOf
      rw[← xM,List.reverse_cons,dI,Ce (by simp),fN (by simp)]
    have fh:T.length+1≤((s::T).reverse++J).length:=by simp
    have Ix:(((T.length+1:Nat):Int) - 1).toNat=T.length:=by omega
    have lX:=acF
    rw[dH]
    generalize ow:(s::T).reverse++J=L at *
    obtain ⟨zp,gZ⟩:=gZ
    obtain ⟨i,left,ab⟩:=s
    dsimp only at zp
    have hi:i<P.length:=qO.1
    have dZ:eG m left:=qO.2.1
    have o9:ab.length≤i:=qO.2.2
    have cC:P.getD i default=nd P i:=rfl
    have cX:=aC (l:=P) (i:=i) (d:=default) hi
    have b1:=hP.kids _ cX
    have hdi:=tw i hi
    have xu:=fun o=>zk (o:=o) tw qO.1
    have IU:=fun o=>TR (o:=o) tw qO
    have j7:=Ii hs hi
    have BC:∀ o,mM P (i,left,ab) o=(((nd P i).kids.getD o 0).toNat,bT left (nd P i).cls.toNat o,ab++[(nd P i).cls]):=fun o=>rfl
    have IV:qN P (i,left,ab)=iI P (i,left,ab) (nd P i).kids.length:=rfl
    rw[cC] at b1 cX
    dsimp only at ao xu IU
    generalize bE:nd P i=x at *
    obtain ⟨c,kids,eU,dt,cells⟩:=x
    dsimp only at b1 hdi xu IU BC IV ao
    repeat' (first|((fail_if_success (first|refine ej 8 ?_|refine ek 8 ?_));refine Xr (X5 @rJ @ll.eq_1 @Ix @lX (X4 @cH.eq_1 @cC @cL.eq_1 @Option.map_none.{0,0})) ?_;intro K hK)|(refine hK _ ?_;clear hK K)|(refine Xi ?_ ?_<;>try intro ht)|refine Xy ?_|refine Xd ?_ ?_|exact Xx|fail)
    refine bJ (aB.l6 8 6 (cells:=[.lit (.int .i64 i),.tree 1 (rowsOf bg left),pS ab]) (by rfl) (by simp only[Kc,simprocAttr]) (by
      intro v hv
      simp only[List.mem_cons,List.not_mem_nil,or_false] at hv
      rcases hv with rfl | rfl | rfl
      · exact .inl ⟨_,rfl⟩
      · exact .inr ⟨_,_,rfl⟩
      · rcases TN ab with ⟨y,h,_⟩ | h
        · exact .inl ⟨y,h⟩
        · exact .inr h)) ?_
    refine bJ (aB.l6 9 7 (cells:=cL ⟨c,kids,eU,dt,cells⟩) (by rfl) (by simp only[Kc,simprocAttr]) (by simp[cL])) ?_
    refine bJ (σ':=⟨aw [(2,.fn g aW),(3,.ptr 3 0 0),(4,.ptr 4 0 0),(7,.ref 5 3 0 T.length),(8,.b7 [.lit (.int .i64 i),.tree 1 (rowsOf bg left),pS ab]),(9,.b7 (cL ⟨c,kids,eU,dt,cells⟩))],[A a,B a,C a,.var (ar m),.var (cH P),.arr 3 (rowsOf ll L)]⟩) (by ((refine aB.se [0,1,2,3,4,5] false (by simp only[Oc,simprocAttr,oo,ou,ov,cH]) ?_;simp only[Hr,↓reduceIte,reduceEqDiff,tH,reduceAdd,oo,ou,ov,cH];try (and_intros<;>first|exact .pure rfl|exact .eq rfl|exact .fz rfl (by simp only[Bc,Rc]))));(and_intros<;>first|exact tS ..|exact .pure rfl|exact .eq rfl)) ?_
    have jf:an Tryz.prog 122 [pS ab,.lit (.int .i64 c)] [] (.lit (.bool (ab.contains c))) []:=by
      have:=Tq ab c (by omega)
      cases ab with
      | nil=>exact an.Zu (pre:=[]) (post:=[.lit (.int .i64 c)]) this
      | cons x r=>exact this
    cases zt:ab.contains c
    rotate_left
    · rw[zt] at jf ao
      rw[if_pos rfl] at ao
      ((refine Va @cL.eq_1 ?_)<;>try with_reducible intro K hK)
      refine bZ jf (TO _ _) rfl ?_
      ((try revert hK K);(repeat' (first|refine Va @cL.eq_1 ?_|(refine Xi ?_ ?_<;>try intro ht)|exact Xx|fail)))
      repeat (refine Xu ?_)
      refine Vb X0 ?_
      rw[← ao]
      exact Xw false [0,1,2] (X3 @oo @ou @ov)
    rw[zt] at jf ao
    rw[if_neg (by simp)] at ao
    have jv:=hE.call dM a (i,left,ab) _ qO EK
    dsimp only at jv
    generalize gm:step a (i,left,ab)=sa at *
    obtain ⟨a2,b⟩:=sa
    dsimp only at jv ao UQ
    ((refine Va @cL.eq_1 ?_)<;>try with_reducible intro K hK)
    refine bZ jf (TO _ _) rfl ?_
    cases b
    · rw[if_neg (by simp)] at ao
      ((try revert hK K);(refine Va @cL.eq_1 ?_)<;>try with_reducible intro K hK)
      refine iz [0,1,2] jv (by decide) ⟨by rw[oo];rfl,by rw[ou];rfl,by rw[ov];rfl,trivial⟩ ⟨.pure rfl,IS aW (hE.rc _ rfl rfl rfl)⟩ ?_
      ((try revert hK K);(repeat' (first|refine Va (X4 @cL.eq_1 @oo @ou @ov) ?_|(refine Xi ?_ ?_<;>try intro ht)|exact Xx|fail)))
      repeat (refine Xu ?_)
      refine Vb X0 ?_
      rw[← ao]
      exact Xw false [0,1,2] (X3 @oo @ou @ov)
    rw[if_pos rfl] at ao
    ((try revert hK K);(refine Va @cL.eq_1 ?_)<;>try with_reducible intro K hK)
    refine iz [0,1,2] jv (by decide) ⟨by rw[oo];rfl,by rw[ou];rfl,by rw[ov];rfl,trivial⟩ ⟨.pure rfl,IS aW (hE.rc _ rfl rfl rfl)⟩ ?_
    ((try revert hK K);(repeat' (first|refine Va (X4 @cL.eq_1 @oo @ou @ov) ?_|(refine Xi ?_ ?_<;>try intro ht)|exact Xx|fail)))
    have tp:0<kids.length→0≤c∧c<m.cls.length∧kids.length=(m.cls.getD c.toNat default).length:=fun h=>by
      unfold lM ni at j7
      dsimp only at j7
      rw[bk] at j7
      have h1:=j7.1
      split at h1
      · rw[decide_eq_true_eq] at h1;omega
      · rw[decide_eq_true_eq] at h1;exact⟨h1.1,h1.2.1,h1.2.2.1⟩
    have IW:kids.length≤24:=by
      unfold lM at j7
      rw[bk] at j7
      exact Eh dM j7.1
    refine aU (fun z:Nat × List eh=>(⟨aw [(2,.fn g aW),(3,.ptr 3 0 0),(4,.ptr 4 0 0),(7,.ref 5 3 0 (T.length+z.1)),(8,.b7 [.lit (.int .i64 i),.tree 1 (rowsOf bg left),pS ab]),(9,.b7 (cL ⟨c,kids,eU,dt,cells⟩)),(60,.tree 1 (ints kids)),(61,.lit (.int .i64 kids.length)),(62,.lit (.int .i64 z.1))],[A a2,B a2,C a2,.var (ar m),.var (cH P),.arr 3 (rowsOf ll z.2)]⟩:St))
      (fun z=>z.1≤kids.length∧T.length+z.1≤z.2.length∧z.2.take (T.length+z.1)=T.reverse++iI P (i,left,ab) z.1) (fun z=>kids.length - z.1) (0,L) ⟨aM _,by dsimp only;omega,by
        dsimp only
        rw[← ow,Nat.add_zero,List.reverse_cons,dI,Ce (by simp),fN (by simp)]
        simp[iI]⟩ (Xv (X2 @cH.eq_1 @cL.eq_1)) ?_
    rintro ⟨o,L2⟩ ⟨ho,Bv,IX⟩ eo bP bM
    dsimp only at ho Bv IX ⊢
    by_cases cR:o<kids.length
    · obtain ⟨c1,c2,c3⟩:=tp (by omega)
      obtain ⟨k1,k2,k3⟩:=xu o cR
      have BC:=BC o
      have af3:(left.getD c.toNat default).length=kids.length:=by rw[c3];exact dZ.2 c.toNat (by have:=dZ.1;omega)
      have wv:=aaB left c.toNat o (by have:=dZ.1;omega) (by omega) (by have:=dZ.1;have:=dM.cls;omega) (by omega)
      rw[Int.toNat_of_nonneg c1] at wv
      have Bz:(rowsOf ll L2).take (T.length+o)=rowsOf ll (T.reverse++iI P (i,left,ab) o):=by unfold rowsOf;rw[← xM,IX]
      have cq:(T.reverse++iI P (i,left,ab) o).length=T.length+o:=by simp[iI]
      generalize iX:kids.getD o 0=k at *
      generalize bT left c.toNat o=on at *
      by_cases UR:ab=[]
      · subst UR
        ((repeat' (first|refine Vc (X5 @cL.eq_1 @iX (X2 @pS.eq_1 @pS.eq_2) @Bz @cq) (X2 wv aaA) ?_|(refine Xi ?_ ?_<;>try intro ht)|exact Xx|fail)))
        have oy:(rowsOf ll (T.reverse++iI P (i,left,[]) o)++[[AV.lit (.int .i64 k),.tree 1 (rowsOf bg on),.ref 7 1 0 1]])[T.length+o]?=some [AV.lit (.int .i64 k),.tree 1 (rowsOf bg on),.ref 7 1 0 1]:=by
          rw[eK (by simp[rowsOf,← cq])];simp[rowsOf,← cq]
        have BD:rowsOf ll (T.reverse++iI P (i,left,[]) (o+1))=(rowsOf ll (T.reverse++iI P (i,left,[]) o)++[[AV.lit (.int .i64 k),.tree 1 (rowsOf bg on),.ref 7 1 0 1]]).set (T.length+o) [AV.lit (.int .i64 k),.tree 1 (rowsOf bg on),.tree 1 [[AV.lit (.int .i64 c)]]]:=by
          rw[Fk _ _ (by simp[rowsOf,← cq]),TP,BC]
          have:(((k.toNat:Nat):Int))=k:=by omega
          simp[rowsOf,← cq,ll,pS,ints,this]
        have BE:(T.reverse++iI P (i,left,[]) (o+1)).length=T.length+(o+1):=by simp[iI]
        refine bP _ (o+1,T.reverse++iI P (i,left,[]) (o+1)) ⟨by dsimp only;omega,JW BE.symm,fN (JW BE)⟩ (by dsimp only;omega) ?_
        refine aB.trans (aB.GY 7 9 (T.length+o) 2 1 3 (rows:=[[AV.lit (.int .i64 c)]]) rfl oy rfl rfl (by decide) (by simp) (by simp)) ?_
        simp only[uP,qW]
        rw[← BD]
        ((refine aB.se [0,1,2,3,4,9] false (by simp only[Oc,simprocAttr,oo,ou,ov,cH]) ?_;simp only[Hr,↓reduceIte,reduceEqDiff,tH,reduceAdd,oo,ou,ov,cH];try (and_intros<;>first|exact .pure rfl|exact .eq rfl|exact .fz rfl (by simp only[Bc,Rc]))))
        and_intros<;>first|exact tS ..|exact .pure rfl|exact .eq rfl
      · have lT:0<ab.length:=by
          cases ab with
          | nil=>exact absurd rfl UR
          | cons=>simp
        have US:∀ l:List Int,0<l.length→pS l=.tree 1 (ints l):=fun l h=>by
          cases l with
          | nil=>simp at h
          | cons=>rfl
        have zu:=US ab lT
        have adx:=US (ab++[c]) (by simp)
        have cE:=Oz ab lT (by omega)
        have jc:(ints (ab++[c])).length=ab.length+1:=by simp[ints]
        have oy:(rowsOf ll (T.reverse++iI P (i,left,ab) o)++[[AV.lit (.int .i64 k),.tree 1 (rowsOf bg on),.ref 8 1 0 (ab.length+1)]])[T.length+o]?=some [AV.lit (.int .i64 k),.tree 1 (rowsOf bg on),.ref 8 1 0 (ab.length+1)]:=by
          rw[eK (by simp[rowsOf,← cq])];simp[rowsOf,← cq]
        have BD:rowsOf ll (T.reverse++iI P (i,left,ab) (o+1))=(rowsOf ll (T.reverse++iI P (i,left,ab) o)++[[AV.lit (.int .i64 k),.tree 1 (rowsOf bg on),.ref 8 1 0 (ab.length+1)]]).set (T.length+o) [AV.lit (.int .i64 k),.tree 1 (rowsOf bg on),.tree 1 (ints (ab++[c]))]:=by
          rw[Fk _ _ (by simp[rowsOf,← cq]),TP,BC]
          have:(((k.toNat:Nat):Int))=k:=by omega
          simp[rowsOf,← cq,ll,adx,this]
        have BE:(T.reverse++iI P (i,left,ab) (o+1)).length=T.length+(o+1):=by simp[iI]
        repeat' (first|((fail_if_success (first|refine ej 13 ?_|refine ek 13 ?_));refine Xr (X3 @cL.eq_1 @iX @zu) ?_;intro K hK)|(refine hK _ ?_;clear hK K)|(refine Xi ?_ ?_<;>try intro ht)|refine Xy ?_|refine Xd ?_ ?_|exact Xx|fail)
        refine jT [4,6,8,11,14] (.take 0 (.take 1 (.take 2 (.take 3 (.take 4 (.take 5 (.take 6 (.take 7 (.take 8 (.take 9 (.take 10 (.take 11 (.both 12 (.take 13 (.take 14 (.take 15 (.take 16 (.take 17 (.take 18 (.take 19 (.take 20 .nil)))))))) 13 (.take 14 (.both 12 (.take 15 (.take 16 (.take 17 (.take 18 (.take 19 (.take 20 .nil)))))) 15 (.take 12 (.take 16 (.take 17 (.take 18 (.take 19 (.take 20 .nil))))))))))))))))))))) rfl (by decide) (by decide +kernel) ?_
        simp (disch:=omega) only[Ac,↓Pc,simprocAttr,Pw,↓Lq,cL,iX,zu]
        refine bH wv rfl rfl ?_
        simp (disch:=omega) only[Ac,↓Pc,simprocAttr,Pw,↓Lq,cL,iX,zu]
        repeat' (with_reducible refine And.intro ?_ ?_)
        all_goals try (refine iz [] cE (by decide) trivial ⟨.pure rfl,trivial⟩ ?_;simp (disch:=omega) only[Ac,↓Pc,simprocAttr,Pw,↓Lq,cL,iX,zu,Nat.sub_self,Nat.sub_zero,Bz,cq,Cw])
        repeat' (first|with_reducible refine And.intro ?_ ?_|omega)
        all_goals
          repeat (refine Xu ?_)
          ((repeat' (first|refine Va X0 ?_|fail)))
        all_goals
          refine bP _ (o+1,T.reverse++iI P (i,left,ab) (o+1)) ⟨by dsimp only;omega,JW BE.symm,fN (JW BE)⟩ (by dsimp only;omega) ?_
          refine aB.trans (aB.GY 8 10 (T.length+o) 2 1 3 (rows:=ints (ab++[c])) rfl oy rfl (by rw[jc];rfl) (by decide) (oE _) (pw _)) ?_
          simp only[uP,qW]
          rw[← BD]
          ((refine aB.se [0,1,2,3,4,10] false (by simp only[Oc,simprocAttr,oo,ou,ov,cH,zu]) ?_;simp only[Hr,↓reduceIte,reduceEqDiff,tH,reduceAdd,oo,ou,ov,cH,zu];try (and_intros<;>first|exact .pure rfl|exact .eq rfl|exact .fz rfl (by simp only[Bc,Rc]))))
          and_intros<;>first|exact tS ..|exact .pure rfl|exact .eq rfl
    · obtain rfl:o=kids.length:=by omega
      ((repeat' (first|refine Va @cL.eq_1 ?_|(refine Xi ?_ ?_<;>try intro ht)|exact Xx|fail)))
      refine bM _ _ rfl ?_
      clear bP bM eo
      repeat (refine Xu ?_)
      ((skip))
      have cw:(iI P (i,left,ab) kids.length).length=kids.length:=by simp[iI]
      have hL3:T.reverse++iI P (i,left,ab) kids.length++L2.drop (T.length+kids.length)=L2:=by rw[← IX,List.take_append_drop]
      refine aq _ ((qN P (i,left,ab)).reverse++T,L2.drop (T.length+kids.length),a2) ⟨fun t ht=>?_,?_,by dsimp only;rw[qU];exact UQ,?_⟩ ?_ ?_
      · dsimp only at ht
        rw[List.mem_append] at ht
        rcases ht with ht | ht
        · obtain ⟨o,ho,rfl⟩:=xk (wi.1 ht)
          dsimp only at ho
          rw[bE] at ho
          exact IU o ho
        · exact hgT t ht
      · dsimp only
        refine xl.push gZ zp _ (fun t ht=>?_) (by rw[List.length_reverse,IV,cw];exact IW)
        obtain ⟨o,ho,rfl⟩:=xk (wi.1 ht)
        dsimp only at ho
        rw[bE] at ho
        exact (xu o ho).1
      · dsimp only
        rw[qU]
        exact ao
      · dsimp only
        rw[qU,tF,IT,bV,bV,dH]
        omega
      · dsimp only
        rw[List.reverse_append,List.reverse_reverse,IV,hL3,bV,List.length_reverse,cw,Nat.add_comm kids.length T.length]
        exact Xv @cH.eq_1
end T

