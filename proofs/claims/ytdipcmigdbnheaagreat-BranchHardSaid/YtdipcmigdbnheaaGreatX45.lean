import Derived.Test.YtdipcmigdbnheaaGreatX37
import Derived.Test.YtdipcmigdbnheaaGreatX34
import Derived.Test.YtdipcmigdbnheaaGreatX22
import Derived.Test.YtdipcmigdbnheaaGreatX26
import Derived.Test.YtdipcmigdbnheaaGreatX29
import Derived.Test.YtdipcmigdbnheaaGreatX44
import Derived.Test.YtdipcmigdbnheaaGreatX36
set_option linter.unusedVariables false
set_option linter.unusedSimpArgs false
set_option linter.unnecessarySimpa false
set_option linter.unusedSectionVars false
set_option maxHeartbeats 64000000
set_option maxRecDepth 20000
open Option renaming getD_some→kW,getD_none→KM,map_some→ed
open Bool renaming not_false→jx,not_true→gQ
open Int renaming min_eq_left→Gy
open Go Go.Am Go.Proofs
open Nat (reduceEqDiff reduceAdd reduceLeDiff reduceMul)
open Int (reduceNeg reduceLE reduceToNat)
namespace T
theorem aeH {m:ah} {x:List (List Bool)} (hm:VM m) (h:dN m x):BB x:=by
  have hc:=hm.cls
  refine⟨by have:=h.1;omega,fun r hr=>?_⟩
  obtain ⟨i,hi,rfl⟩:=List.getElem_of_mem hr
  have h2:=h.2 i hi
  have h3:=hm.opt _ (az (l:=m.cls) (i:=i) (d:=default) (by have:=h.1;omega))
  rw[List.getD_eq_getElem?_getD,List.getElem?_eq_getElem hi,kW] at h2
  omega
theorem aeI {m:ah} {P:List Nd}:∀ (l:dh) (x:List (List Bool)),dN m x→dN m (nG P l x):=by
  intro l
  induction l with
  | nil=>exact fun x h=>h
  | cons a l ih=>exact fun x h=>ih _ (Bu h (Er _ _ _))
theorem aeJ {m:ah} {P:List Nd} {up:dh} {i:Nat} (h:sj m P up i=none):∀ j,i≤j→sj m P up j=none:=by
  intro j hj
  induction j with
  | zero => obtain rfl : i = 0 := by omega
            exact h
  | succ q ih =>
    by_cases e:i=q+1
    · subst e;exact h
    · rw[Wi,ih (by omega)];rfl
def Ah (m:ah) (P:List Nd):Int × Bool:=if dI m=0 then FN m P else (0,false)
theorem ZT (m:ah) (P:List Nd) (hm:MB m) (hP:PB P)
    (pg:∀ x left,x∈P→VM m→dN m left→ao Tryz.prog 96 [.agg (ar m),.agg (aM x),.tree 1 (rowsOf aE left)] [] (.lit (.bool (mr m x left))) []) :
    ao Tryz.prog 53 [.agg (ar m),.agg (aJ P)] [] (.bL [.lit (.int .i64 (Ah m P).1),.lit (.bool (Ah m P).2)]) []:=by
  have xE:=hP.zB
  have h1:=wg m hm
  generalize an:Ah m P=res
  unfold Ah at an
  refine ao.aF (fn:=Tryz.f53) 68 0 [.tmp 4,.tmp 5] Tryz.func53 rfl rfl rfl rfl rfl (by simp) ?_
  by_cases hv:dI m=0
  rotate_left
  · rw[if_neg hv] at an
    subst an
    generalize dI m=e at *
    ((repeat' (first|refine Vd @aJ.eq_1 h1 ?_|(refine Xi ?_ ?_<;>try intro ht)|exact Xx|fail)))
    exact aC rfl rfl
  rw[if_pos hv] at an
  rw[hv] at h1
  have b9:=iJ.1 hv
  have h2:=aeK m P b9 hP
  unfold FN at an
  unfold aJ at h2
  cases hf:lN m P with
  | none =>
    rw[hf] at an h2
    simp only[Option.isSome_none,Option.isSome_some,KM,kW] at h2
    dsimp only at an
    subst an
    ((repeat' (first|refine Vd (X4 @aJ.eq_1 @bne_self_eq_false.{0} @jx @gQ) (X2 h1 h2) ?_|(refine Xi ?_ ?_<;>try intro ht)|exact Xx|fail)))
    all_goals exact aC rfl rfl
  | some up =>
    rw[hf] at an h2
    simp only[Option.isSome_none,Option.isSome_some,KM,kW] at h2
    dsimp only at an
    have hlen:=(tE (Ai hf)).2
    ((repeat' (first|refine Vc (X4 @aJ.eq_1 @bne_self_eq_false.{0} @jx @gQ) (X2 h1 h2) ?_|(refine Xi ?_ ?_<;>try intro ht)|exact Xx|fail)))
    refine aI (fun z:Nat × Int=>(⟨av [(2,.ptr 0 0 0),(3,.ptr 1 0 0),(6,.tree 2 (rowsOf aG up)),(8,.lit (.int .i64 z.2)),(9,.lit (.int .i64 z.1))],[.var (ar m),.var (aJ P)]⟩:St))
      (fun z=>z.1≤P.length∧sj m P up z.1=some z.2∧z.2≤1099511627776) (fun z=>P.length - z.1) (0,1099511627776) ⟨Nat.zero_le _,rfl,Int.le_refl _⟩ (Xv @aJ.eq_1) ?_
    rintro ⟨i,b⟩ ⟨hi,pP,oB⟩ Ql ak aq
    dsimp only at hi pP oB ⊢
    by_cases hi':i<P.length
    rotate_left
    · obtain rfl:i=P.length:=by omega
      rw[pP] at an
      dsimp only at an
      ((repeat' (first|refine Va @aJ.eq_1 ?_|(refine Xi ?_ ?_<;>try intro ht)|exact Xx|fail)))
      refine aq _ _ rfl ?_;clear ak aq Ql
      repeat (refine Xu ?_)
      subst an
      refine Vb X0 ?_
      exact aC rfl rfl
    have cp:=az (l:=P) (i:=i) (d:=default) hi'
    have b2:=hP.cY _ cp
    have b3:=hP.cM _ cp
    have wq:=aeL m P up i hm b9 hP hf hi'
    have ec:dN m (sk m P up i):=aeI _ _ (BA b9)
    have Aj:=pg _ (sk m P up i) cp b9 ec
    have lO:=Wi m P up i
    rw[pP] at lO
    have lO:sj m P up (i+1)=(tI m (nd P i) (sk m P up i)).map (min b):=lO
    have lj:sj m P up (i+1)=none→res=(0,false):=fun h=>by
      rw[← an,aeJ h _ (by omega)]
    unfold nd at lO
    unfold aJ at wq
    generalize fA:sk m P up i=left at *
    have hval:=adl m left (P.getD i default).cY hm (aeH b9 ec) b2
    have Wj:zH m left (P.getD i default).cY=iw m left (P.getD i default).cY:=by
      unfold zH Ez
      rw[if_neg (by rw[if_neg (by rw[hv];simp),if_pos ec];simp)]
    rw[Wj] at hval
    generalize bA:P.getD i default=x at *
    have nY:∀ n,tI m x left=some n→n≤1099511627776→True:=fun _ _ _=>trivial
    unfold tI at lO
    generalize qv:mr m x left=cr at *
    obtain ⟨c,kids,cY,cM,cells⟩:=x
    dsimp only at b2 b3 hval lO Wj
    generalize iw m left cY=lt at *
    unfold aM at Aj
    dsimp only at Aj
    by_cases eB:c = -1
    rotate_left
    · rw[if_pos eB,ed,Gy oB] at lO
      ((repeat' (first|refine Va (X3 @aJ.eq_1 @bA @aM.eq_1) ?_|(refine Xi ?_ ?_<;>try intro ht)|exact Xx|fail)))
      all_goals exact ak _ (i+1,b) ⟨by dsimp only;omega,lO,oB⟩ (by dsimp only;omega) (Xs false [0,1] @aJ.eq_1)
    rw[if_neg (fun h=>h eB)] at lO
    by_cases hg:0<cM.length
    · rw[if_pos hg] at lO
      cases cr
      · have hr:=lj lO
        subst hr
        ((repeat' (first|refine Vc (X5 @aJ.eq_1 @bA @aM.eq_1 @jx @gQ) (X2 wq Aj) ?_|(refine Xi ?_ ?_<;>try intro ht)|exact Xx|fail)))
        all_goals
          repeat (refine Xu ?_)
          refine Vb X0 ?_
          exact aC rfl rfl
      · rw[if_pos rfl,ed,Gy oB] at lO
        ((repeat' (first|refine Vc (X5 @aJ.eq_1 @bA @aM.eq_1 @jx @gQ) (X2 wq Aj) ?_|(refine Xi ?_ ?_<;>try intro ht)|exact Xx|fail)))
        all_goals exact ak _ (i+1,b) ⟨by dsimp only;omega,lO,oB⟩ (by dsimp only;omega) (Xs false [0,1] @aJ.eq_1)
    · rw[if_neg hg] at lO
      obtain ⟨l1,l2⟩:=lt
      dsimp only at lO hval
      by_cases hz:l2=0
      · rw[if_pos hz,ed] at lO
        subst hz
        ((repeat' (first|refine Vc (X5 @aJ.eq_1 @bA @aM.eq_1 @jx (X2 @gQ @bne_self_eq_false.{0})) (X2 wq hval) ?_|(refine Xi ?_ ?_<;>try intro ht)|exact Xx|fail)))
        all_goals exact ak _ (i+1,min b l1) ⟨by dsimp only;omega,lO,by dsimp only;omega⟩ (by dsimp only;omega) (Xs false [0,1] @aJ.eq_1)
      · rw[if_neg hz] at lO
        have hr:=lj lO
        subst hr
        ((repeat' (first|refine Vc (X5 @aJ.eq_1 @bA @aM.eq_1 @jx @gQ) (X2 wq hval) ?_|(refine Xi ?_ ?_<;>try intro ht)|exact Xx|fail)))
        all_goals
          repeat (refine Xu ?_)
          refine Vb X0 ?_
          exact aC rfl rfl
theorem ZV (m:ah) (P:List Nd):Ah m P=lG m P:=by
  unfold Ah
  by_cases hv:dI m=0
  · rw[if_pos hv,aeM (iJ.1 hv)]
  · rw[if_neg hv]
    have hw:ph m P (gj m P) 1099511627776=(1099511627776,false):=if_neg fun h=>hv h.1
    unfold lG
    rw[hw,if_neg (by simp)]
end T

