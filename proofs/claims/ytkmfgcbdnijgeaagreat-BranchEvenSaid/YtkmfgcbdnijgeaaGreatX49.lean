import Derived.Test.YtkmfgcbdnijgeaaGreatX08
import Derived.Test.YtkmfgcbdnijgeaaGreatX18
import Derived.Test.YtkmfgcbdnijgeaaGreatX48
import Derived.Test.YtkmfgcbdnijgeaaGreatX42
import Derived.Test.YtkmfgcbdnijgeaaGreatX43
import Derived.Test.YtkmfgcbdnijgeaaGreatX30
import Derived.Test.YtkmfgcbdnijgeaaGreatX20
set_option linter.unusedVariables false
set_option linter.unusedSimpArgs false
set_option linter.unnecessarySimpa false
set_option linter.unusedSectionVars false
set_option maxHeartbeats 64000000
set_option maxRecDepth 20000
open Go Go.Am Go.Proofs
open Nat (reduceEqDiff reduceAdd reduceLeDiff reduceMul)
open Int (reduceNeg reduceLE reduceToNat)
namespace T
theorem refComplete_ok (m:Mdl) (plan:List Int) (hb:MB m) (hpl:plan.length<9223372036854775808):Holds Tryz.prog 43 [.agg (eMdl m),.tree 1 (ints plan)] [] (.lit (.int .i64 (comV m plan))) []:=by
  generalize hres:comV m plan=res
  rw[comV_eq] at hres
  have hm1:=hb.cls
  have hval:=refValid_ok m hb
  refine Holds.of_body' (fn:=Tryz.f43) 32 0 [.tmp 4] Tryz.func43 rfl rfl rfl rfl rfl (by simp) ?_
  ((repeat' (first|refine Vd X0 hval ?_|(refine Xi ?_ ?_<;>try intro ht)|fail)))
  · rw[if_pos (by assumption)] at hres
    exact RetOK_pure' rfl (by rw[hres])
  · rw[if_neg (by omega),if_pos (by omega)] at hres
    exact RetOK_pure' rfl (by rw[hres])
  rw[if_neg (by omega),if_neg (by omega)] at hres
  refine W_loopS (fun i:Nat=>(⟨slots [(1,.tree 1 (ints plan)),(2,.ptr 0 0 0),(6,.lit (.int .i64 i))],[.var (eMdl m)]⟩:St)) (fun i=>i≤plan.length∧(if cplL m i (plan.drop i)=false then 17 else 0)=res) (fun i=>plan.length - i) 0 ⟨Nat.zero_le _,hres⟩ (Xv X0) ?_
  rintro i ⟨hi,hr⟩ Ql hnl hel
  by_cases hi':i<plan.length
  · have hd:=getD_drop0 plan i 0 hi'
    generalize hcc:plan.getD i 0=o at *
    have hopt:=refOption_ok m i o
    rw[hd,cplL] at hr
    generalize optB m i o=ob at *
    ((repeat' (first|refine Vc @hcc hopt ?_|(refine Xi ?_ ?_<;>try intro ht)|exact Xx|fail)))
    · obtain rfl:ob=false:=by assumption
      refine Vb X0 ?_
      exact RetOK_pure' rfl (by rw[← hr];rfl)
    · obtain rfl:ob=true:=by assumption
      rw[Bool.true_and] at hr
      exact hnl _ (i+1) ⟨by omega,hr⟩ (by omega) (Xv X0)
  · ((repeat' (first|refine Va X0 ?_|(refine Xi ?_ ?_<;>try intro ht)|exact Xx|fail)))
    rw[List.drop_eq_nil_of_le (by omega),cplL] at hr
    refine hel _ _ rfl ?_;clear hnl hel Ql
    repeat (refine Xu ?_)
    refine Vb X0 ?_
    exact RetOK_pure' rfl (by rw[← hr];rfl)
theorem fits_way {m:Mdl} {P:List Nd}:∀ (l:UpL) (x:List (List Bool)),FitsP m x→FitsP m (wayF P l x):=by
  intro l
  induction l with
  | nil=>exact fun x h=>h
  | cons a l ih=>exact fun x h=>ih _ (fits_map h (onlyV_len _ _ _))
theorem refN_none {m:Mdl} {P:List Nd} {up:UpL} {i:Nat} (h:refN m P up i=none):∀ j,i≤j→refN m P up j=none:=by
  intro j hj
  induction j with
  | zero => obtain rfl : i = 0 := by omega
            exact h
  | succ q ih =>
    by_cases e:i=q+1
    · subst e;exact h
    · rw[refN_succ,ih (by omega)];rfl
def chkQ (m:Mdl) (P:List Nd):Int × Bool:=if validV m=0 then chkR m P else (0,false)
theorem refCheck_ok (m:Mdl) (P:List Nd) (hm:MB m) (hP:PB P)
    (hrt:∀ x left,x∈P→VM m→FitsP m left→Holds Tryz.prog 78 [.agg (eMdl m),.agg (eNd x),.tree 1 (rowsOf eBs left)] [] (.lit (.bool (crowdedB m x left))) []) :
    Holds Tryz.prog 42 [.agg (eMdl m),.agg (ePf P)] [] (.tup [.lit (.int .i64 (chkQ m P).1),.lit (.bool (chkQ m P).2)]) []:=by
  have hp0:=hP.nds
  have h1:=refValid_ok m hm
  generalize hres:chkQ m P=res
  unfold chkQ at hres
  refine Holds.of_body' (fn:=Tryz.f42) 68 0 [.tmp 4,.tmp 5] Tryz.func42 rfl rfl rfl rfl rfl (by simp) ?_
  by_cases hv:validV m=0
  rotate_left
  · rw[if_neg hv] at hres
    subst hres
    generalize validV m=e at *
    ((repeat' (first|refine Vd @ePf.eq_1 h1 ?_|(refine Xi ?_ ?_<;>try intro ht)|exact Xx|fail)))
    exact RetOK_pure' rfl rfl
  rw[if_pos hv] at hres
  rw[hv] at h1
  have hvm:=valid_iff.1 hv
  have h2:=formed_ok m P hvm hP
  unfold chkR at hres
  unfold ePf at h2
  cases hf:formedV m P with
  | none =>
    rw[hf] at hres h2
    simp only[Option.isSome_none,Option.isSome_some,Option.getD_none,Option.getD_some] at h2
    dsimp only at hres
    subst hres
    ((repeat' (first|refine Vd (X4 @ePf.eq_1 @bne_self_eq_false.{0} @Bool.not_false @Bool.not_true) (X2 h1 h2) ?_|(refine Xi ?_ ?_<;>try intro ht)|exact Xx|fail)))
    all_goals exact RetOK_pure' rfl rfl
  | some up =>
    rw[hf] at hres h2
    simp only[Option.isSome_none,Option.isSome_some,Option.getD_none,Option.getD_some] at h2
    dsimp only at hres
    have hlen:=(shaped_len (formed_shaped hf)).2
    ((repeat' (first|refine Vc (X4 @ePf.eq_1 @bne_self_eq_false.{0} @Bool.not_false @Bool.not_true) (X2 h1 h2) ?_|(refine Xi ?_ ?_<;>try intro ht)|exact Xx|fail)))
    refine W_loopS (fun z:Nat × Int=>(⟨slots [(2,.ptr 0 0 0),(3,.ptr 1 0 0),(6,.tree 2 (rowsOf eCh up)),(8,.lit (.int .i64 z.2)),(9,.lit (.int .i64 z.1))],[.var (eMdl m),.var (ePf P)]⟩:St))
      (fun z=>z.1≤P.length∧refN m P up z.1=some z.2∧z.2≤1099511627776) (fun z=>P.length - z.1) (0,1099511627776) ⟨Nat.zero_le _,rfl,Int.le_refl _⟩ (Xv @ePf.eq_1) ?_
    rintro ⟨i,b⟩ ⟨hi,hb0,hb1⟩ Ql hnl hel
    dsimp only at hi hb0 hb1 ⊢
    by_cases hi':i<P.length
    rotate_left
    · obtain rfl:i=P.length:=by omega
      rw[hb0] at hres
      dsimp only at hres
      ((repeat' (first|refine Va @ePf.eq_1 ?_|(refine Xi ?_ ?_<;>try intro ht)|exact Xx|fail)))
      refine hel _ _ rfl ?_;clear hnl hel Ql
      repeat (refine Xu ?_)
      subst hres
      refine Vb X0 ?_
      exact RetOK_pure' rfl rfl
    have hmem:=getD_mem (l:=P) (i:=i) (d:=default) hi'
    have b2:=hP.mvs _ hmem
    have b3:=hP.grp _ hmem
    have hlf:=refleft_ok m P up i hm hvm hP hf hi'
    have hfit:FitsP m (leftU m P up i):=fits_way _ _ (all_fits hvm)
    have hrx:=hrt _ (leftU m P up i) hmem hvm hfit
    have hsu:=refN_succ m P up i
    rw[hb0] at hsu
    have hsu:refN m P up (i+1)=(leafO m (nd P i) (leftU m P up i)).map (min b):=hsu
    have hbad:refN m P up (i+1)=none→res=(0,false):=fun h=>by
      rw[← hres,refN_none h _ (by omega)]
    unfold nd at hsu
    unfold ePf at hlf
    generalize hll:leftU m P up i=left at *
    have hval:=refValue_ok m left (P.getD i default).mvs hm (bb_fits2 hvm hfit) b2
    have hvt:valueT m left (P.getD i default).mvs=leafT m left (P.getD i default).mvs:=by
      unfold valueT startV
      rw[if_neg (by rw[if_neg (by rw[hv];simp),if_pos hfit];simp)]
    rw[hvt] at hval
    generalize hxx:P.getD i default=x at *
    have hlv:∀ n,leafO m x left=some n→n≤1099511627776→True:=fun _ _ _=>trivial
    unfold leafO at hsu
    generalize hcr:crowdedB m x left=cr at *
    obtain ⟨c,kids,mvs,grp,cells⟩:=x
    dsimp only at b2 b3 hval hsu hvt
    generalize leafT m left mvs=lt at *
    unfold eNd at hrx
    dsimp only at hrx
    by_cases hcn:c = -1
    rotate_left
    · rw[if_pos hcn,Option.map_some,Int.min_eq_left hb1] at hsu
      ((repeat' (first|refine Va (X3 @ePf.eq_1 @hxx @eNd.eq_1) ?_|(refine Xi ?_ ?_<;>try intro ht)|exact Xx|fail)))
      all_goals exact hnl _ (i+1,b) ⟨by dsimp only;omega,hsu,hb1⟩ (by dsimp only;omega) (Xs false [0,1] @ePf.eq_1)
    rw[if_neg (fun h=>h hcn)] at hsu
    by_cases hg:0<grp.length
    · rw[if_pos hg] at hsu
      cases cr
      · have hr:=hbad hsu
        subst hr
        ((repeat' (first|refine Vc (X5 @ePf.eq_1 @hxx @eNd.eq_1 @Bool.not_false @Bool.not_true) (X2 hlf hrx) ?_|(refine Xi ?_ ?_<;>try intro ht)|exact Xx|fail)))
        all_goals
          repeat (refine Xu ?_)
          refine Vb X0 ?_
          exact RetOK_pure' rfl rfl
      · rw[if_pos rfl,Option.map_some,Int.min_eq_left hb1] at hsu
        ((repeat' (first|refine Vc (X5 @ePf.eq_1 @hxx @eNd.eq_1 @Bool.not_false @Bool.not_true) (X2 hlf hrx) ?_|(refine Xi ?_ ?_<;>try intro ht)|exact Xx|fail)))
        all_goals exact hnl _ (i+1,b) ⟨by dsimp only;omega,hsu,hb1⟩ (by dsimp only;omega) (Xs false [0,1] @ePf.eq_1)
    · rw[if_neg hg] at hsu
      obtain ⟨l1,l2⟩:=lt
      dsimp only at hsu hval
      by_cases hz:l2=0
      · rw[if_pos hz,Option.map_some] at hsu
        subst hz
        ((repeat' (first|refine Vc (X5 @ePf.eq_1 @hxx @eNd.eq_1 @Bool.not_false (X2 @Bool.not_true @bne_self_eq_false.{0})) (X2 hlf hval) ?_|(refine Xi ?_ ?_<;>try intro ht)|exact Xx|fail)))
        all_goals exact hnl _ (i+1,min b l1) ⟨by dsimp only;omega,hsu,by dsimp only;omega⟩ (by dsimp only;omega) (Xs false [0,1] @ePf.eq_1)
      · rw[if_neg hz] at hsu
        have hr:=hbad hsu
        subst hr
        ((repeat' (first|refine Vc (X5 @ePf.eq_1 @hxx @eNd.eq_1 @Bool.not_false @Bool.not_true) (X2 hlf hval) ?_|(refine Xi ?_ ?_<;>try intro ht)|exact Xx|fail)))
        all_goals
          repeat (refine Xu ?_)
          refine Vb X0 ?_
          exact RetOK_pure' rfl rfl
theorem chk_same (m:Mdl) (P:List Nd):chkQ m P=chkV m P:=by
  unfold chkQ
  by_cases hv:validV m=0
  · rw[if_pos hv,check_eq (valid_iff.1 hv)]
  · rw[if_neg hv]
    have hw:walkV m P (chkS m P) 1099511627776=(1099511627776,false):=if_neg fun h=>hv h.1
    unfold chkV
    rw[hw,if_neg (by simp)]
end T

