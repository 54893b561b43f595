import Derived.Test.YtdipcmigdbnheaaGreatX33
import Derived.Test.YtdipcmigdbnheaaGreatX25
import Derived.Test.YtdipcmigdbnheaaGreatX19
import Derived.Test.YtdipcmigdbnheaaGreatX27
import Derived.Test.YtdipcmigdbnheaaGreatX15
import Derived.Test.YtdipcmigdbnheaaGreatX40
import Derived.Test.YtdipcmigdbnheaaGreatX31
set_option linter.unusedVariables false
set_option linter.unusedSimpArgs false
set_option linter.unnecessarySimpa false
set_option linter.unusedSectionVars false
set_option maxHeartbeats 64000000
set_option maxRecDepth 20000
open Option renaming getD_some→gw,getD_none→G6,map_some→eC
open Bool renaming not_false→kl,not_true→hU
open Int renaming min_eq_left→Hj
open Go Go.Am Go.Proofs
open Nat (reduceEqDiff reduceAdd reduceLeDiff reduceMul)
open Int (reduceNeg reduceLE reduceToNat)
namespace T
theorem ahk {m:ae} {x:List (List Bool)} (hm:VM m) (h:dK m x):BB x:=by
  have hc:=hm.cls
  refine⟨by have:=h.1;omega,fun r hr=>?_⟩
  obtain ⟨i,hi,rfl⟩:=List.getElem_of_mem hr
  have h2:=h.2 i hi
  have h3:=hm.opt _ (az (l:=m.cls) (i:=i) (d:=default) (by have:=h.1;omega))
  rw[List.getD_eq_getElem?_getD,List.getElem?_eq_getElem hi,gw] at h2
  omega
theorem ahl {m:ae} {P:List Nd}:∀ (l:df) (x:List (List Bool)),dK m x→dK m (od P l x):=by
  intro l
  induction l with
  | nil=>exact fun x h=>h
  | cons a l ih=>exact fun x h=>ih _ (Cp h (Fg _ _ _))
theorem ahm {m:ae} {P:List Nd} {up:df} {i:Nat} (h:tc m P up i=none):∀ j,i≤j→tc m P up j=none:=by
  intro j hj
  induction j with
  | zero => obtain rfl : i = 0 := by omega
            exact h
  | succ q ih =>
    by_cases e:i=q+1
    · subst e;exact h
    · rw[YT,ih (by omega)];rfl
def Bn (m:ae) (P:List Nd):Int × Bool:=if dW m=0 then GK m P else (0,false)
theorem abV (m:ae) (P:List Nd) (hm:MB m) (hP:PB P)
    (ux:∀ x left,x∈P→VM m→dK m left→ao Tryz.prog 96 [.agg (au m),.agg (aL x),.tree 1 (rowsOf aK left)] [] (.lit (.bool (lL m x left))) []) :
    ao Tryz.prog 53 [.agg (au m),.agg (aM P)] [] (.bM [.lit (.int .i64 (Bn m P).1),.lit (.bool (Bn m P).2)]) []:=by
  have yK:=hP.Ay
  have h1:=yD m hm
  generalize aj:Bn m P=res
  unfold Bn at aj
  refine ao.aD (fn:=Tryz.f53) 68 0 [.tmp 4,.tmp 5] Tryz.func53 rfl rfl rfl rfl rfl (by simp) ?_
  by_cases hv:dW m=0
  rotate_left
  · rw[if_neg hv] at aj
    subst aj
    generalize dW m=e at *
    ((repeat' (first|refine Vd @aM.eq_1 h1 ?_|(refine Xi ?_ ?_<;>try intro ht)|exact Xx|fail)))
    exact aE rfl rfl
  rw[if_pos hv] at aj
  rw[hv] at h1
  have cu:=iu.1 hv
  have h2:=ahn m P cu hP
  unfold GK at aj
  unfold aM at h2
  cases hf:mj m P with
  | none =>
    rw[hf] at aj h2
    simp only[Option.isSome_none,Option.isSome_some,G6,gw] at h2
    dsimp only at aj
    subst aj
    ((repeat' (first|refine Vd (X4 @aM.eq_1 @bne_self_eq_false.{0} @kl @hU) (X2 h1 h2) ?_|(refine Xi ?_ ?_<;>try intro ht)|exact Xx|fail)))
    all_goals exact aE rfl rfl
  | some up =>
    rw[hf] at aj h2
    simp only[Option.isSome_none,Option.isSome_some,G6,gw] at h2
    dsimp only at aj
    have hlen:=(sK (Bo hf)).2
    ((repeat' (first|refine Vc (X4 @aM.eq_1 @bne_self_eq_false.{0} @kl @hU) (X2 h1 h2) ?_|(refine Xi ?_ ?_<;>try intro ht)|exact Xx|fail)))
    refine aG (fun z:Nat × Int=>(⟨aw [(2,.ptr 0 0 0),(3,.ptr 1 0 0),(6,.tree 2 (rowsOf bP up)),(8,.lit (.int .i64 z.2)),(9,.lit (.int .i64 z.1))],[.var (au m),.var (aM P)]⟩:St))
      (fun z=>z.1≤P.length∧tc m P up z.1=some z.2∧z.2≤1099511627776) (fun z=>P.length - z.1) (0,1099511627776) ⟨Nat.zero_le _,rfl,Int.le_refl _⟩ (Xv @aM.eq_1) ?_
    rintro ⟨i,b⟩ ⟨hi,nW,sX⟩ Ql ak aq
    dsimp only at hi nW sX ⊢
    by_cases ax:i<P.length
    rotate_left
    · obtain rfl:i=P.length:=by omega
      rw[nW] at aj
      dsimp only at aj
      ((repeat' (first|refine Va @aM.eq_1 ?_|(refine Xi ?_ ?_<;>try intro ht)|exact Xx|fail)))
      refine aq _ _ rfl ?_;clear ak aq Ql
      repeat (refine Xu ?_)
      subst aj
      refine Vb X0 ?_
      exact aE rfl rfl
    have cd:=az (l:=P) (i:=i) (d:=default) ax
    have b2:=hP.cX _ cd
    have b3:=hP.b5 _ cd
    have xC:=aho m P up i hm cu hP hf ax
    have dx:dK m (td m P up i):=ahl _ _ (Aw cu)
    have hJ:=ux _ (td m P up i) cd cu dx
    have mn:=YT m P up i
    rw[nW] at mn
    have mn:tc m P up (i+1)=(uI m (nd P i) (td m P up i)).map (min b):=mn
    have lJ:tc m P up (i+1)=none→res=(0,false):=fun h=>by
      rw[← aj,ahm h _ (by omega)]
    unfold nd at mn
    unfold aM at xC
    generalize eV:td m P up i=left at *
    have hval:=aez m left (P.getD i default).cX hm (ahk cu dx) b2
    have YU:AH m left (P.getD i default).cX=iw m left (P.getD i default).cX:=by
      unfold AH Fs
      rw[if_neg (by rw[if_neg (by rw[hv];simp),if_pos dx];simp)]
    rw[YU] at hval
    generalize bS:P.getD i default=x at *
    have oH:∀ n,uI m x left=some n→n≤1099511627776→True:=fun _ _ _=>trivial
    unfold uI at mn
    generalize oE:lL m x left=cr at *
    obtain ⟨c,kids,cX,b5,cells⟩:=x
    dsimp only at b2 b3 hval mn YU
    generalize iw m left cX=lt at *
    unfold aL at hJ
    dsimp only at hJ
    by_cases g6:c = -1
    rotate_left
    · rw[if_pos g6,eC,Hj sX] at mn
      ((repeat' (first|refine Va (X3 @aM.eq_1 @bS @aL.eq_1) ?_|(refine Xi ?_ ?_<;>try intro ht)|exact Xx|fail)))
      all_goals exact ak _ (i+1,b) ⟨by dsimp only;omega,mn,sX⟩ (by dsimp only;omega) (Xs false [0,1] @aM.eq_1)
    rw[if_neg (fun h=>h g6)] at mn
    by_cases hg:0<b5.length
    · rw[if_pos hg] at mn
      cases cr
      · have hr:=lJ mn
        subst hr
        ((repeat' (first|refine Vc (X5 @aM.eq_1 @bS @aL.eq_1 @kl @hU) (X2 xC hJ) ?_|(refine Xi ?_ ?_<;>try intro ht)|exact Xx|fail)))
        all_goals
          repeat (refine Xu ?_)
          refine Vb X0 ?_
          exact aE rfl rfl
      · rw[if_pos rfl,eC,Hj sX] at mn
        ((repeat' (first|refine Vc (X5 @aM.eq_1 @bS @aL.eq_1 @kl @hU) (X2 xC hJ) ?_|(refine Xi ?_ ?_<;>try intro ht)|exact Xx|fail)))
        all_goals exact ak _ (i+1,b) ⟨by dsimp only;omega,mn,sX⟩ (by dsimp only;omega) (Xs false [0,1] @aM.eq_1)
    · rw[if_neg hg] at mn
      obtain ⟨l1,l2⟩:=lt
      dsimp only at mn hval
      by_cases hz:l2=0
      · rw[if_pos hz,eC] at mn
        subst hz
        ((repeat' (first|refine Vc (X5 @aM.eq_1 @bS @aL.eq_1 @kl (X2 @hU @bne_self_eq_false.{0})) (X2 xC hval) ?_|(refine Xi ?_ ?_<;>try intro ht)|exact Xx|fail)))
        all_goals exact ak _ (i+1,min b l1) ⟨by dsimp only;omega,mn,by dsimp only;omega⟩ (by dsimp only;omega) (Xs false [0,1] @aM.eq_1)
      · rw[if_neg hz] at mn
        have hr:=lJ mn
        subst hr
        ((repeat' (first|refine Vc (X5 @aM.eq_1 @bS @aL.eq_1 @kl @hU) (X2 xC hval) ?_|(refine Xi ?_ ?_<;>try intro ht)|exact Xx|fail)))
        all_goals
          repeat (refine Xu ?_)
          refine Vb X0 ?_
          exact aE rfl rfl
theorem abX (m:ae) (P:List Nd):Bn m P=kD m P:=by
  unfold Bn
  by_cases hv:dW m=0
  · rw[if_pos hv,ahp (iu.1 hv)]
  · rw[if_neg hv]
    have hw:pD m P (gr m P) 1099511627776=(1099511627776,false):=if_neg fun h=>hv h.1
    unfold kD
    rw[hw,if_neg (by simp)]
end T

