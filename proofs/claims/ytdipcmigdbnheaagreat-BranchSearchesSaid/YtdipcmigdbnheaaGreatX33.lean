import Derived.Test.YtdipcmigdbnheaaGreatX30
import Derived.Test.YtdipcmigdbnheaaGreatX32
import Derived.Test.YtdipcmigdbnheaaGreatX20
set_option linter.unusedVariables false
set_option linter.unusedSimpArgs false
set_option linter.unnecessarySimpa false
set_option linter.unusedSectionVars false
set_option maxHeartbeats 64000000
set_option maxRecDepth 20000
open Nat renaming zero_le→aH,sub_self→iz
open List renaming replicate→aW,replicate_zero→D7,length_replicate→mo,append_assoc→dj,length_set→bF
open Go Go.Am Go.Proofs
open Nat (reduceEqDiff reduceAdd reduceLeDiff reduceMul)
open Int (reduceNeg reduceLE reduceToNat)
namespace T
def o0:cB:=⟨0,0,0,0,0,[]⟩
def m1:ae:=⟨[[o0,o0],[o0,o0]],[⟨0,1,0,[0,2,4,3]⟩],[],1⟩
theorem afQ (m:ae) (hm:MB m) (hv:VM m):ao Tryz.prog 146 [.agg (au m)] [] (.ref 0 1 0 (cQ m).length) (.arr 1 (jQ 1 (cQ m))::oZ (cQ m)):=by
  have h1:=yD m hm
  have me:=hm.cls
  have afR:cQ m=kG m:=if_pos (iu.2 hv)
  generalize aj:cQ m=res
  refine ao.aD (fn:=Tryz.f146) 38 0 [.tmp 2] Tryz.func146 rfl rfl rfl rfl rfl (by simp) ?_
  rw[iu.2 hv] at h1
  have nX:=hv.cls
  ((repeat' (first|refine Vd @bne_self_eq_false.{0} h1 ?_|(refine Xi ?_ ?_<;>try intro ht)|exact Xx|fail)))
  refine aG (fun z:Nat × List (List Bool) × List Ob × Nat × List (Nat × Nat)=>(⟨aw [(1,.ptr 0 0 0),(3,.ref z.2.2.2.1 1 0 z.2.2.2.2.length),(4,.lit (.int .i64 z.1))],z.2.2.1⟩:St))
    (fun z=>z.1≤m.cls.length∧z.2.1=(kG m).take z.1∧dy [(z.2.2.2.1,.arr 1 (rowsOf lR z.2.2.2.2)),(0,.var (au m))] z.2.2.2.2 z.2.1 z.2.2.1) (fun z=>m.cls.length - z.1) (0,[],[.var (au m),.arr 1 []],1,[]) ⟨aH _,rfl,dy.ae1 _⟩ ?_ ?_
  · refine aQ.trans (aQ.nil 3 1 (by simp only[Kc,simprocAttr]) (by decide)) ?_
    exact Xv X0
  rintro ⟨i,xs,os,oi,D⟩ ⟨hi,cl,hB⟩ Ql ak aq
  dsimp only at hi cl hB ⊢
  have sm:(kG m).length=m.cls.length:=by simp[kG]
  have zb:=hB.len
  have fo:=hB.b0
  have fm:=hB.b1
  dsimp only at fm fo
  by_cases ax:i<m.cls.length
  · have sV:xs.length=i:=by rw[cl,List.length_take];omega
    have ef:(kG m).take (i+1)=xs++[aW (m.cls.getD i default).length true]:=by
      rw[eU (by omega),← cl];unfold kG;rw[kH _ _ _ ax]
    have sW:=hv.opt _ (az (d:=default) ax)
    generalize aJ:m.cls.getD i default=c at *
    ((repeat' (first|refine Va (X3 @fm @aJ @bA.eq_1) ?_|(refine Xi ?_ ?_<;>try intro ht)|exact Xx|fail)))
    refine aG (fun z:Nat × List Ob=>(⟨aw [(1,.ptr 0 0 0),(3,.ref oi 1 0 D.length),(4,.lit (.int .i64 i)),(5,.ref os.length 1 0 c.length),(6,.lit (.int .i64 z.1))],z.2⟩:St))
      (fun z=>z.1≤c.length∧dy [(os.length,.arr 1 (bf (aW z.1 true++aW (c.length - z.1) false))),(oi,.arr 1 (rowsOf lR D)),(0,.var (au m))] D xs z.2) (fun z=>c.length - z.1)
      (0,os++[.arr 1 (bf (aW 0 true++aW (c.length - 0) false))]) ⟨aH _,(hB.app _).add (hC _ _ _) (hB.fresh (Nat.le_refl _))⟩ (by simp only[Nat.sub_zero,D7,List.nil_append];exact Xv X0) ?_
    rintro ⟨k,uG⟩ ⟨hk,rH⟩ cR ba bd
    dsimp only at hk rH ⊢
    have bX:(aW k true++aW (c.length - k) false).length=c.length:=by simp;omega
    have KQ:=rH.b0
    have Gt:=rH.b1
    have fm1:=rH.b2
    dsimp only at KQ Gt fm1
    by_cases aF:k<c.length
    · have k9:(aW k true++aW (c.length - k) false).set k true=aW (k+1) true++aW (c.length - (k+1)) false:=by
        rw[List.set_append_right _ _ (by simp),mo,iz,show c.length - k=(c.length - (k+1))+1 by omega,List.replicate_succ,List.set_cons_zero,List.replicate_succ',dj];rfl
      ((repeat' (first|refine Va (X3 @KQ @bX @tD) ?_|(refine Xi ?_ ?_<;>try intro ht)|exact Xx|fail)))
      rw[k9]
      exact ba _ (k+1,uG.set os.length (.arr 1 (bf (aW (k+1) true++aW (c.length - (k+1)) false)))) ⟨by dsimp only;omega,rH.put _⟩ (by dsimp only;omega) (Xv X0)
    · obtain rfl:k=c.length:=by omega
      ((repeat' (first|refine Va @KQ ?_|(refine Xi ?_ ?_<;>try intro ht)|exact Xx|fail)))
      refine bd _ _ rfl ?_
      clear ba bd cR
      repeat (refine Xu ?_)
      rw[iz,D7,List.append_nil] at *
      have pd:=rH.snoc
      rw[mo] at pd
      obtain ⟨oa,eE⟩:=pd.drop
      generalize os.length=p at *
      refine Va (X5 @Gt (bz Gt) (ke Gt) @Wj (X4 @gQ @dj.{0} @List.length_append.{0} @bF.{0})) ?_
      refine ak _ (i+1,xs++[aW c.length true],uG.set oi .gone++[.arr 1 [[.ref p 1 0 c.length]],.arr 1 (rowsOf lR (D++[(p,c.length)]))],uG.length+1,D++[(p,c.length)]) ⟨by dsimp only;omega,ef.symm,?_⟩ (by dsimp only;omega) ?_
      · refine ((oa.other eE .gone).app _).add ?_ ((oa.other eE .gone).fresh (by simp))
        have vn:(uG.set oi Ob.gone).length=uG.length:=bF ..
        rw[← vn,n6];rfl
      · exact Xv X0
  · rw[List.take_of_length_le (by omega)] at cl
    ((repeat' (first|refine Va @fm ?_|(refine Xi ?_ ?_<;>try intro ht)|exact Xx|fail)))
    refine aq _ _ rfl ?_;clear ak aq Ql
    repeat (refine Xu ?_)
    refine Vb X0 ?_
    have hJ:res=xs:=by rw[← aj,afR,cl]
    subst hJ
    have h3:=(hB.swap.drop).1
    rw[zb]
    exact h3.ae2 _
end T

