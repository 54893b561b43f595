import Derived.Test.YtmhloinjpcabcaaGreatX35
import Derived.Test.YtmhloinjpcabcaaGreatX21
import Derived.Test.YtmhloinjpcabcaaGreatX10
import Derived.Test.YtmhloinjpcabcaaGreatX48
set_option linter.unusedVariables false
set_option linter.unusedSimpArgs false
set_option linter.unnecessarySimpa false
set_option linter.unusedSectionVars false
set_option maxHeartbeats 64000000
set_option maxRecDepth 20000
open Go Go.Am Go.Proofs
open Nat (reduceEqDiff reduceAdd reduceLeDiff reduceMul)
open Int (reduceNeg reduceLE reduceToNat)
namespace T
def dice (L:List Int) (k:Nat):Ob:=.var [.tree 1 (ints L),.lit (.int .i64 k)]
theorem model_ok (L:List Int) (k:Nat) (classes options:Nat) (hk:k≤L.length) (hL:L.length<1000000) (hc:classes≤24) (ho:options≤24) (ho1:1≤options) :
    HoldsR Tryz.prog 22 [.ptr 0 0 0,.lit (.int .i64 classes),.lit (.int .i64 options)] [dice L k] (fun r os=>∃ m k',MM m classes options∧k'≤L.length∧r=.agg (eMdl m)∧os=[dice L k']):=by
  unfold dice
  refine HoldsR.of_body' (fn:=Tryz.f22) 199 1 [.cell 6 29] Tryz.func22 rfl rfl rfl rfl rfl (by simp) ?_
  ((refine Vb X0 ?_)<;>try with_reducible intro K hK)
  refine callK_sel [0] (next_ok L k 4 (by unfold In64;omega) hk hL) (by decide) ⟨rfl,trivial⟩ ⟨.eq rfl,.pure rfl,trivial⟩ ?_
  have hv:=nextV_range (L:=L) (k:=k) (n:=4) (by omega)
  have hk2:=nextA_le hk
  generalize nextV L k 4=v at *
  generalize nextA L k=k2 at *
  clear hk
  ((try revert hK K);(refine Vb X0 ?_)<;>try with_reducible intro K hK)
  refine callK_sel [0] (next_ok L k2 (classes+1) (by unfold In64;omega) hk2 hL) (by decide) ⟨rfl,trivial⟩ ⟨.eq rfl,.pure rfl,trivial⟩ ?_
  have hnv:=nextV_range (L:=L) (k:=k2) (n:=classes+1) (by omega)
  have hk3:=nextA_le hk2
  generalize nextV L k2 (classes+1)=n at *
  generalize nextA L k2=k3 at *
  clear hk2
  obtain ⟨c0,rfl⟩ :∃c0:Nat,n=c0:=⟨n.toNat,by omega⟩
  generalize hR:1+v=R
  have hR1:1≤R∧R≤4:=by omega
  ((try revert hK K);(refine Vb X0 ?_))
  refine W_loopS (fun z:Nat × Nat × List (List Opt)=>(⟨slots [(0,.ptr 0 0 0),(2,.lit (.int .i64 options)),(6,.ptr 1 0 0),(7,.ptr 2 0 0),(8,.lit (.int .i64 z.1))],mOs L z.2.1 z.2.2 [] [] R⟩:St))
    (fun z=>z.1+z.2.2.length≤classes∧z.2.1≤L.length∧∀ l∈z.2.2,(1≤l.length∧l.length≤options)∧COK R l) (fun z=>z.1) (c0,k3,[]) ⟨by simp;omega,hk3,by simp⟩ ?_ ?_
  · refine Turns.trans (Turns.nilC 2 0 1 rfl rfl (by decide)) ?_
    refine Turns.trans (Turns.nilC 2 1 4 rfl rfl (by decide)) ?_
    refine Turns.trans (Turns.nilC 2 2 4 rfl rfl (by decide)) ?_
    exact Xv X0
  clear hnv hk3
  rintro ⟨c,k,cls⟩ ⟨hcc,hk,hcls⟩ Ql hnl hel
  dsimp only at hcc hk hcls ⊢
  unfold mOs
  by_cases hc0:0<c
  · obtain ⟨c',rfl⟩ :∃c',c=c'+1:=⟨c - 1,by omega⟩
    have hc1:((c'+1:Nat):Int) - 1=c':=by omega
    ((repeat' (first|refine Va X0 ?_|(refine Xi ?_ ?_<;>try intro ht)|exact Xx|fail))<;>try with_reducible intro K hK)
    refine callK_sel [0] (next_ok L k options (by unfold In64;omega) hk hL) (by decide) ⟨rfl,trivial⟩ ⟨.eq rfl,.pure rfl,trivial⟩ ?_
    have hnv:=nextV_range (L:=L) (k:=k) (n:=options) (by omega)
    have hk2:=nextA_le hk
    generalize nextV L k options=n at *
    generalize nextA L k=k2 at *
    clear hk
    obtain ⟨e0,he0⟩ :∃e0:Nat,1+n=e0:=⟨(1+n).toNat,by omega⟩
    ((try revert hK K);(refine Va @he0 ?_))
    refine W_loopS (fun z:Nat × Nat × List Opt=>(⟨slots [(0,.ptr 0 0 0),(2,.lit (.int .i64 options)),(6,.ptr 1 0 0),(7,.ptr 2 0 0),(8,.lit (.int .i64 (c'+1:Nat))),(9,.ref 6 6 0 z.2.2.length),(10,.lit (.int .i64 z.1))],mOs L z.2.1 cls [] [] R++[.arr 6 (rowsOf eOpt z.2.2)]⟩:St))
      (fun z=>z.1+z.2.2.length=e0∧z.2.1≤L.length∧COK R z.2.2) (fun z=>z.1) (e0,k2,[]) ⟨by simp,hk2,by intro o ho;simp at ho⟩ ?_ ?_
    · refine Turns.trans (Turns.nil 9 6 (by simp only[Kc,simprocAttr]) (by decide)) ?_
      unfold mOs
      exact Xv X0
    clear hk2
    rintro ⟨e,k,l⟩ ⟨hee,hk,hl⟩ Ql2 hnl2 hel2
    dsimp only at hee hk hl ⊢
    unfold mOs
    simp only[List.cons_append,List.nil_append]
    by_cases he1:0<e
    · obtain ⟨e',rfl⟩ :∃e',e=e'+1:=⟨e - 1,by omega⟩
      have he2:((e'+1:Nat):Int) - 1=e':=by omega
      ((repeat' (first|refine Va X0 ?_|(refine Xi ?_ ?_<;>try intro ht)|exact Xx|fail))<;>try with_reducible intro K hK)
      refine callK_sel [0] (next_ok L k 3 (by unfold In64;omega) hk hL) (by decide) ⟨rfl,trivial⟩ ⟨.eq rfl,.pure rfl,trivial⟩ ?_
      have hn1:=nextV_range (L:=L) (k:=k) (n:=3) (by omega)
      have hk2:=nextA_le hk
      generalize nextV L k 3=n1 at *
      generalize nextA L k=k2 at *
      clear hk
      ((try revert hK K);(refine Va X0 ?_)<;>try with_reducible intro K hK)
      refine callK_sel [0] (next_ok L k2 2 (by unfold In64;omega) hk2 hL) (by decide) ⟨rfl,trivial⟩ ⟨.eq rfl,.pure rfl,trivial⟩ ?_
      have hk:=nextA_le hk2
      generalize nextV L k2 2=n2 at *
      generalize nextA L k2=k at *
      clear hk2
      ((try revert hK K);(refine Va X0 ?_)<;>try with_reducible intro K hK)
      refine callK_sel [0] (next_ok L k 3 (by unfold In64;omega) hk hL) (by decide) ⟨rfl,trivial⟩ ⟨.eq rfl,.pure rfl,trivial⟩ ?_
      have hk2:=nextA_le hk
      generalize nextV L k 3=n3 at *
      generalize nextA L k=k2 at *
      clear hk
      ((try revert hK K);(refine Va X0 ?_)<;>try with_reducible intro K hK)
      refine callK_sel [0] (next_ok L k2 3 (by unfold In64;omega) hk2 hL) (by decide) ⟨rfl,trivial⟩ ⟨.eq rfl,.pure rfl,trivial⟩ ?_
      have hn4:=nextV_range (L:=L) (k:=k2) (n:=3) (by omega)
      have hk:=nextA_le hk2
      generalize nextV L k2 3=n4 at *
      generalize nextA L k2=k at *
      clear hk2
      ((try revert hK K);(refine Va X0 ?_))
      generalize hw1:1+n1=w1
      generalize hw4:n4 - 1=w4
      refine W_loopS (fun z:Nat × Nat × List (Int × Int)=>(⟨slots [(0,.ptr 0 0 0),(2,.lit (.int .i64 options)),(6,.ptr 1 0 0),(7,.ptr 2 0 0),(8,.lit (.int .i64 (c'+1:Nat))),(9,.ref 6 6 0 l.length),(10,.lit (.int .i64 (e'+1:Nat))),(11,.ptr 7 0 0),(12,.lit (.int .i64 z.1))],
          mOs L z.2.1 cls [] [] R++[.arr 6 (rowsOf eOpt l),.var [.lit (.int .i64 w1),.lit (.int .i64 n2),.lit (.int .i64 n3),.lit (.int .i64 1),.lit (.int .i64 w4),.ref 8 2 0 z.2.2.length],.arr 2 (rowsOf eCh z.2.2)]⟩:St))
        (fun z=>(z.1:Int)≤R∧z.2.1≤L.length∧z.2.2.length≤z.1∧chL R none z.2.2=true∧∀ x∈z.2.2,x.1<z.1) (fun z=>R.toNat - z.1) (0,k,[]) ⟨by dsimp only;omega,hk,Nat.le_refl _,rfl,by simp⟩ ?_ ?_
      · refine Turns.trans (Turns.nilC 7 5 2 rfl rfl (by decide)) ?_
        unfold mOs
        exact Xv X0
      clear hk
      rintro ⟨u,k,ch⟩ ⟨hu,hk,hcl,hch,hlt⟩ Ql3 hnl3 hel3
      dsimp only at hu hk hcl hch hlt ⊢
      unfold mOs
      simp only[List.cons_append,List.nil_append]
      by_cases hu':(u:Int)<R
      · ((repeat' (first|refine Va X0 ?_|(refine Xi ?_ ?_<;>try intro ht)|exact Xx|fail))<;>try with_reducible intro K hK)
        refine callK_sel [0] (dcost_ok L k hk hL) (by decide) ⟨rfl,trivial⟩ ⟨.eq rfl,trivial⟩ ?_
        obtain ⟨hv1,hv2,hv3⟩:=costV_range L k
        have hk2:=costA_le hk
        generalize costV L k=cv at *
        generalize costA L k=k2 at *
        clear hk
        ((try revert hK K);(repeat' (first|refine Va X0 ?_|(refine V2 X0 ?_ ?_<;>try with_reducible intro hb)|(refine Xi ?_ ?_<;>try intro ht)|exact Xx|fail))<;>try with_reducible intro K hK)
        · refine callK_sel [0] (one_ok L k2 2 (by unfold In64;omega) (by decide) hk2 hL) (by decide) ⟨rfl,trivial⟩ ⟨.eq rfl,.pure rfl,trivial⟩ ?_
          have hk:=nextA_le hk2
          generalize oneV L k2 2=b at *
          generalize nextA L k2=k at *
          clear hk2
          ((try revert hK K);(repeat' (first|refine Va X0 ?_|(refine Xi ?_ ?_<;>try intro ht)|fail)))
          · refine hnl3 _ (u+1,k,ch++[((u:Int),cv)]) ⟨by dsimp only;omega,hk,by simp;omega,chL_app hch (by rw[ruleB,decide_eq_true_eq];omega) (hv3 (by omega)) (fun x hx=>hlt x hx) (by simp),fun x hx=>?_⟩ (by dsimp only;omega) ?_
            · rcases List.mem_append.1 hx with hx | hx
              · have:=hlt x hx;dsimp only;omega
              · simp only[List.mem_singleton] at hx;subst hx;dsimp only;omega
            · unfold mOs
              simp only[List.cons_append,List.nil_append]
              rw[show rowsOf eCh ch++[[AV.lit (.int .i64 u),AV.lit (.int .i64 cv)]]=rowsOf eCh (ch++[((u:Int),cv)]) from rows_app1 (enc:=eCh) ch ((u:Int),cv)]
              exact Xs false [0,1,2,3,4,5,6,7,10] X0
          · exact hnl3 _ (u+1,k,ch) ⟨by dsimp only;omega,hk,by dsimp only;omega,hch,fun x hx=>by have:=hlt x hx;dsimp only;omega⟩ (by dsimp only;omega) (by unfold mOs;exact Xv X0)
        · exact hnl3 _ (u+1,k2,ch) ⟨by dsimp only;omega,hk2,by dsimp only;omega,hch,fun x hx=>by have:=hlt x hx;dsimp only;omega⟩ (by dsimp only;omega) (by unfold mOs;exact Xv X0)
      · ((repeat' (first|refine Va X0 ?_|(refine Xi ?_ ?_<;>try intro ht)|exact Xx|fail)))
        refine hel3 _ _ rfl ?_
        clear hnl3 hel3 Ql3
        repeat (refine Xu ?_)
        refine W_turn (Turns.frzV 8 7 5 2 rfl rfl (by rw[rows_length];rfl) (rows_wid _) (rows_frz _)) ?_
        refine W_turn (σ':=⟨slots [(0,.ptr 0 0 0),(2,.lit (.int .i64 options)),(6,.ptr 1 0 0),(7,.ptr 2 0 0),(8,.lit (.int .i64 (c'+1:Nat))),(9,.ref 6 6 0 l.length),(10,.lit (.int .i64 (e'+1:Nat))),(11,.ptr 7 0 0)],
            mOs L k cls [] [] R++[.arr 6 (rowsOf eOpt l),.var (eOpt ⟨w1,n2,n3,1,w4,ch⟩),.gone]⟩) (by unfold mOs;exact Xv X0) ?_
        unfold mOs
        simp only[List.cons_append,List.nil_append]
        have he2:((e'+1:Nat):Int) - 1=e':=by omega
        refine Va @he2 ?_
        refine hnl2 _ (e',k,l++[⟨w1,n2,n3,1,w4,ch⟩]) ⟨by simp;omega,hk,?_⟩ (by dsimp only;omega) ?_
        · intro o ho
          rcases List.mem_append.1 ho with ho | ho
          · exact hl o ho
          · simp only[List.mem_singleton] at ho;subst ho;exact hch
        · unfold mOs
          simp only[List.cons_append,List.nil_append]
          rw[show rowsOf eOpt l++[[AV.lit (.int .i64 w1),AV.lit (.int .i64 n2),AV.lit (.int .i64 n3),AV.lit (.int .i64 1),AV.lit (.int .i64 w4),AV.tree 2 (rowsOf eCh ch)]]=rowsOf eOpt (l++[⟨w1,n2,n3,1,w4,ch⟩]) from rows_app1 (enc:=eOpt) l ⟨w1,n2,n3,1,w4,ch⟩]
          exact Xs false [0,1,2,3,4,5,10] X0
    · obtain rfl:e=0:=by omega
      ((repeat' (first|refine Va X0 ?_|(refine Xi ?_ ?_<;>try intro ht)|exact Xx|fail)))
      refine hel2 _ _ rfl ?_
      clear hnl2 hel2 Ql2
      repeat (refine Xu ?_)
      refine W_turn (σ':=⟨slots [(0,.ptr 0 0 0),(2,.lit (.int .i64 options)),(6,.ptr 1 0 0),(7,.ptr 2 0 0),(8,.lit (.int .i64 (c'+1:Nat))),(9,.tree 6 (rowsOf eOpt l))],mOs L k cls [] [] R⟩) ?_ ?_
      · unfold mOs
        exact Xs true [0,1,2,3,4,5] X0
      unfold mOs
      refine Va @hc1 ?_
      refine hnl _ (c',k,cls++[l]) ⟨by simp;omega,hk,?_⟩ (by dsimp only;omega) ?_
      · intro x hx
        rcases List.mem_append.1 hx with hx | hx
        · exact hcls x hx
        · simp only[List.mem_singleton] at hx;subst hx;exact⟨⟨by omega,by omega⟩,hl⟩
      · unfold mOs
        rw[show rowsOf eCls cls++[[AV.tree 6 (rowsOf eOpt l)]]=rowsOf eCls (cls++[l]) from rows_app1 (enc:=eCls) cls l]
        exact Xs false [0,1,2,7,4,5] X0
  obtain rfl:c=0:=by omega
  ((repeat' (first|refine Va X0 ?_|(refine Xi ?_ ?_<;>try intro ht)|exact Xx|fail)))
  refine hel _ _ rfl ?_;clear hnl hel Ql
  repeat (refine Xu ?_)
  clear hc0
  refine W_turn (σ':=⟨slots [(0,.ptr 0 0 0),(6,.ptr 1 0 0),(7,.ptr 2 0 0)],mOs L k cls [] [] R⟩) (by unfold mOs;exact Xv X0) ?_
  unfold mOs
  refine Va X0 ?_
  have hcl:cls.length≤24:=by omega
  have hgl:∀ i,(cls.getD i default).length≤24:=fun i=>by
    rcases Nat.lt_or_ge i cls.length with h | h
    · have:=(hcls _ (getD_mem (d:=default) h)).1;omega
    · rw[List.getD_eq_getElem?_getD,List.getElem?_eq_none h];decide
  refine W_loopS (fun z:Nat × Nat × List Pr=>(⟨slots [(0,.ptr 0 0 0),(6,.ptr 1 0 0),(7,.ptr 2 0 0),(14,.lit (.int .i64 z.1))],mOs L z.2.1 cls z.2.2 [] R⟩:St))
    (fun z=>(z.1:Int)≤R∧z.2.1≤L.length∧PInv cls R z.2.2 z.1 0 0) (fun z=>R.toNat - z.1) (0,k,[]) ⟨by dsimp only;omega,hk,rfl,by simp,by simp⟩ (by unfold mOs;exact Xv X0) ?_
  clear hk
  rintro ⟨u,k,prs⟩ ⟨hu,hk,hP⟩ Ql hnl hel
  dsimp only at hu hk hP ⊢
  unfold mOs
  by_cases hu':(u:Int)<R
  · ((repeat' (first|refine Va X0 ?_|(refine Xi ?_ ?_<;>try intro ht)|exact Xx|fail)))
    refine W_loopS (fun z:Nat × Nat × List Pr=>(⟨slots [(0,.ptr 0 0 0),(6,.ptr 1 0 0),(7,.ptr 2 0 0),(14,.lit (.int .i64 u)),(15,.lit (.int .i64 z.1))],mOs L z.2.1 cls z.2.2 [] R⟩:St))
      (fun z=>z.1≤cls.length∧z.2.1≤L.length∧PInv cls R z.2.2 u z.1 0) (fun z=>cls.length - z.1) (0,k,prs) ⟨by dsimp only;omega,hk,hP⟩ (by unfold mOs;exact Xv X0) ?_
    clear hk hP
    rintro ⟨i,k,prs⟩ ⟨hi,hk,hP⟩ Ql2 hnl2 hel2
    dsimp only at hi hk hP ⊢
    unfold mOs
    by_cases hi':i<cls.length
    · ((repeat' (first|refine Va X0 ?_|(refine Xi ?_ ?_<;>try intro ht)|exact Xx|fail)))
      refine W_loopS (fun z:Nat × Nat × List Pr=>(⟨slots [(0,.ptr 0 0 0),(6,.ptr 1 0 0),(7,.ptr 2 0 0),(14,.lit (.int .i64 u)),(15,.lit (.int .i64 i)),(16,.lit (.int .i64 z.1))],mOs L z.2.1 cls z.2.2 [] R⟩:St))
        (fun z=>i<z.1∧z.1≤cls.length∧z.2.1≤L.length∧PInv cls R z.2.2 u i z.1) (fun z=>cls.length - z.1) (i+1,k,prs) ⟨by dsimp only;omega,by dsimp only;omega,hk,hP.mono (by omega) (by omega)⟩ (by unfold mOs;exact Xv X0) ?_
      clear hk hP
      rintro ⟨j,k,prs⟩ ⟨hij,hj,hk,hP⟩ Ql3 hnl3 hel3
      dsimp only at hij hj hk hP ⊢
      unfold mOs
      by_cases hj':j<cls.length
      · ((repeat' (first|refine Va X0 ?_|(refine Xi ?_ ?_<;>try intro ht)|exact Xx|fail))<;>try with_reducible intro K hK)
        refine callK_sel [0] (one_ok L k 3 (by unfold In64;omega) (by decide) hk hL) (by decide) ⟨rfl,trivial⟩ ⟨.eq rfl,.pure rfl,trivial⟩ ?_
        have hk2:=nextA_le hk
        generalize oneV L k 3=b at *
        generalize nextA L k=k2 at *
        clear hk
        have g1:=hgl i
        have g2:=hgl j
        have hli:=(hcls _ (getD_mem (d:=default) hi')).1
        have hlj:=(hcls _ (getD_mem (d:=default) hj')).1
        have hmul:((cls.getD i default).length:Int) * (cls.getD j default).length=((cls.getD i default).length * (cls.getD j default).length:Nat):=by simp
        have hmle:(cls.getD i default).length * (cls.getD j default).length≤24 * 24:=Nat.mul_le_mul g1 g2
        generalize hnn:(cls.getD i default).length * (cls.getD j default).length=nn at *
        ((try revert hK K);(repeat' (first|refine Va @hmul ?_|(refine Xi ?_ ?_<;>try intro ht)|fail)))
        rotate_left
        · exact hnl3 _ (j+1,k2,prs) ⟨by dsimp only;omega,by dsimp only;omega,hk2,hP.mono (by omega) (by omega)⟩ (by dsimp only;omega) (by unfold mOs;exact Xv X0)
        refine W_loopS (fun z:Nat × Nat × List Int=>(⟨slots [(0,.ptr 0 0 0),(6,.ptr 1 0 0),(7,.ptr 2 0 0),(14,.lit (.int .i64 u)),(15,.lit (.int .i64 i)),(16,.lit (.int .i64 j)),(17,.ptr 6 0 0),(18,.lit (.int .i64 z.1))],
            mOs L z.2.1 cls prs [] R++[.var [.lit (.int .i64 i),.lit (.int .i64 j),.lit (.int .i64 u),.ref 7 1 0 z.2.2.length],.arr 1 (ints z.2.2)]⟩:St))
          (fun z=>z.1+z.2.2.length=nn∧z.2.1≤L.length∧∀ x∈z.2.2,0≤x∧(0<x→priceB x=true)) (fun z=>z.1) (nn,k2,[]) ⟨by simp,hk2,by simp⟩ ?_ ?_
        · refine Turns.trans (Turns.nilC 6 3 1 rfl rfl (by decide)) ?_
          unfold mOs
          exact Xv X0
        clear hk2
        rintro ⟨w,k,tab⟩ ⟨hw,hk,htab⟩ Ql4 hnl4 hel4
        dsimp only at hw hk htab ⊢
        unfold mOs
        simp only[List.cons_append,List.nil_append]
        by_cases hw0:0<w
        · obtain ⟨w',rfl⟩ :∃w',w=w'+1:=⟨w - 1,by omega⟩
          have hw1:((w'+1:Nat):Int) - 1=w':=by omega
          ((repeat' (first|refine Va X0 ?_|(refine Xi ?_ ?_<;>try intro ht)|exact Xx|fail)))
          refine W_draw [] (.take 2 (.both 0 (.both 1 (.take 3 (.take 4 (.take 5 (.take 6 (.take 7 .nil))))) 3 (.take 1 (.take 4 (.take 5 (.take 6 (.take 7 .nil)))))) 3 (.take 0 (.take 1 (.take 4 (.take 5 (.take 6 (.take 7 .nil)))))))) rfl (by decide) (by decide +kernel) ?_
          simp (disch:=omega) only[Ac,↓Pc,simprocAttr,planW_both,planW_take,planW_nil,stepAt,stepD]
          refine⟨⟨?_,?_⟩,?_⟩
          all_goals refine callK_sel [0] (dcost_ok L k hk hL) (by decide) ⟨rfl,trivial⟩ ⟨.eq rfl,trivial⟩ ?_
          all_goals obtain ⟨hv1,hv2,hv3⟩:=costV_range L k
          all_goals have hk2:=costA_le hk
          all_goals generalize costV L k=cv at *
          all_goals generalize costA L k=k2 at *
          all_goals simp (disch:=omega) only[Ac,↓Pc,simprocAttr,planW_both,planW_take,planW_nil,stepAt,stepD]
          all_goals refine⟨by omega,?_⟩
          all_goals repeat (refine Xu ?_)
          all_goals ((repeat' (first|refine Va @hw1 ?_|fail)))
          all_goals refine hnl4 _ (w',k2,tab++[cv]) ⟨by simp;omega,hk2,fun x hx=>?_⟩ (by dsimp only;omega) ?_
          all_goals first
            | (rcases List.mem_append.1 hx with hx | hx
               · exact htab x hx
               · simp only[List.mem_singleton] at hx;subst hx;exact⟨hv1,hv3⟩)
            | (unfold mOs;simp only[List.cons_append,List.nil_append];exact Xs false [0,1,2,3,4,5,6,9] X0)
        · obtain rfl:w=0:=by omega
          ((repeat' (first|refine Va X0 ?_|(refine Xi ?_ ?_<;>try intro ht)|exact Xx|fail)))
          refine hel4 _ _ rfl ?_
          clear hnl4 hel4 Ql4
          repeat (refine Xu ?_)
          refine W_turn (Turns.frzV 7 6 3 1 rfl rfl (by rw[ints_length];rfl) (ints_wid _) (ints_frz _)) ?_
          refine W_turn (σ':=⟨slots [(0,.ptr 0 0 0),(6,.ptr 1 0 0),(7,.ptr 2 0 0),(14,.lit (.int .i64 u)),(15,.lit (.int .i64 i)),(16,.lit (.int .i64 j)),(17,.ptr 6 0 0)],
              mOs L k cls prs [] R++[.var (ePr ⟨i,j,u,tab⟩),.gone]⟩) (by unfold mOs;exact Xv X0) ?_
          unfold mOs
          simp only[List.cons_append,List.nil_append]
          have hpl:=hP.len
          refine Va X0 ?_
          refine hnl3 _ (j+1,k,prs++[⟨i,j,u,tab⟩]) ⟨by dsimp only;omega,by dsimp only;omega,hk,hP.app (pairB_mk hu' hij hj' (by rw[hnn];omega) htab)⟩ (by dsimp only;omega) ?_
          unfold mOs
          rw[show rowsOf ePr prs++[[AV.lit (.int .i64 i),AV.lit (.int .i64 j),AV.lit (.int .i64 u),AV.tree 1 (ints tab)]]=rowsOf ePr (prs++[⟨i,j,u,tab⟩]) from rows_app1 (enc:=ePr) prs ⟨i,j,u,tab⟩]
          exact Xs false [0,1,2,3,9,5] X0
      · ((repeat' (first|refine Va X0 ?_|(refine Xi ?_ ?_<;>try intro ht)|exact Xx|fail)))
        refine hel3 _ _ rfl ?_
        clear hnl3 hel3 Ql3
        repeat (refine Xu ?_)
        refine Va X0 ?_
        exact hnl2 _ (i+1,k,prs) ⟨by dsimp only;omega,hk,hP.mono (by omega) (by omega)⟩ (by dsimp only;omega) (by unfold mOs;exact Xv X0)
    · ((repeat' (first|refine Va X0 ?_|(refine Xi ?_ ?_<;>try intro ht)|exact Xx|fail)))
      refine hel2 _ _ rfl ?_
      clear hnl2 hel2 Ql2
      repeat (refine Xu ?_)
      refine Va X0 ?_
      exact hnl _ (u+1,k,prs) ⟨by dsimp only;omega,hk,hP.mono (by omega) (by omega)⟩ (by dsimp only;omega) (by unfold mOs;exact Xv X0)
  have hpok:=hP.ok
  have hpln:prs.length≤4000:=by have:=hP.len;omega
  ((repeat' (first|refine Va X0 ?_|(refine Xi ?_ ?_<;>try intro ht)|exact Xx|fail)))
  refine hel _ _ rfl ?_;clear hnl hel Ql
  repeat (refine Xu ?_)
  refine W_turn (σ':=⟨slots [(0,.ptr 0 0 0),(6,.ptr 1 0 0),(7,.ptr 2 0 0)],mOs L k cls prs [] R⟩) (by unfold mOs;exact Xv X0) ?_
  clear hu' hu hP
  unfold mOs
  ((refine Va X0 ?_)<;>try with_reducible intro K hK)
  refine callK_sel [0] (next_ok L k 3 (by unfold In64;omega) hk hL) (by decide) ⟨rfl,trivial⟩ ⟨.eq rfl,.pure rfl,trivial⟩ ?_
  have hnv:=nextV_range (L:=L) (k:=k) (n:=3) (by omega)
  have hk2:=nextA_le hk
  generalize nextV L k 3=n at *
  generalize nextA L k=k2 at *
  clear hk
  obtain ⟨c1,rfl⟩ :∃c1:Nat,n=c1:=⟨n.toNat,by omega⟩
  ((try revert hK K);(refine Va X0 ?_))
  refine W_loopS (fun z:Nat × Nat × List Ct=>(⟨slots [(0,.ptr 0 0 0),(6,.ptr 1 0 0),(7,.ptr 2 0 0),(19,.lit (.int .i64 z.1))],mOs L z.2.1 cls prs z.2.2 R⟩:St))
    (fun z=>z.1+z.2.2.length≤2∧z.2.1≤L.length∧∀ x∈z.2.2,ctB ⟨cls,[],[],R⟩ x=true) (fun z=>z.1) (c1,k2,[]) ⟨by simp;omega,hk2,by simp⟩ (by unfold mOs;exact Xv X0) ?_
  clear hk2
  rintro ⟨c,k,cts⟩ ⟨hcc,hk,hcts⟩ Ql hnl hel
  dsimp only at hcc hk hcts ⊢
  unfold mOs
  by_cases hc0:0<c
  · obtain ⟨c',rfl⟩ :∃c',c=c'+1:=⟨c - 1,by omega⟩
    have hc1:((c'+1:Nat):Int) - 1=c':=by omega
    ((repeat' (first|refine Va X0 ?_|(refine Xi ?_ ?_<;>try intro ht)|exact Xx|fail))<;>try with_reducible intro K hK)
    refine callK_sel [0] (next_ok L k R (by unfold In64;omega) hk hL) (by decide) ⟨rfl,trivial⟩ ⟨.eq rfl,.pure rfl,trivial⟩ ?_
    have hn1:=nextV_range (L:=L) (k:=k) (n:=R) (by omega)
    have hk2:=nextA_le hk
    generalize nextV L k R=n1 at *
    generalize nextA L k=k2 at *
    clear hk
    ((try revert hK K);(refine Va X0 ?_)<;>try with_reducible intro K hK)
    refine callK_sel [0] (next_ok L k2 4 (by unfold In64;omega) hk2 hL) (by decide) ⟨rfl,trivial⟩ ⟨.eq rfl,.pure rfl,trivial⟩ ?_
    have hn2:=nextV_range (L:=L) (k:=k2) (n:=4) (by omega)
    have hk:=nextA_le hk2
    generalize nextV L k2 4=n2 at *
    generalize nextA L k2=k at *
    clear hk2
    ((try revert hK K);(refine Va X0 ?_)<;>try with_reducible intro K hK)
    refine callK_sel [0] (dcost_ok L k hk hL) (by decide) ⟨rfl,trivial⟩ ⟨.eq rfl,trivial⟩ ?_
    obtain ⟨hv1,hv2,hv3⟩:=costV_range L k
    have hk2:=costA_le hk
    generalize costV L k=cv at *
    generalize costA L k=k2 at *
    clear hk
    have hpen:priceB (max 1 cv)=true:=by
      by_cases h0:0<cv
      · rw[show max 1 cv=cv by omega];exact hv3 h0
      · rw[show max 1 cv=1 by omega];decide
    generalize hpp:max 1 cv=pen at *
    ((try revert hK K);(refine Va @hpp ?_))
    refine W_loopS (fun z:Nat × Nat × List Ld=>(⟨slots [(0,.ptr 0 0 0),(6,.ptr 1 0 0),(7,.ptr 2 0 0),(19,.lit (.int .i64 (c'+1:Nat))),(20,.ptr 6 0 0),(21,.lit (.int .i64 z.1))],
        mOs L z.2.1 cls prs cts R++[.var [.lit (.int .i64 n1),.ref 7 3 0 z.2.2.length,.lit (.int .i64 n2),.lit (.int .i64 pen)],.arr 3 (rowsOf eLd z.2.2)]⟩:St))
      (fun z=>z.1≤cls.length∧z.2.1≤L.length∧LInv cls R z.2.2 z.1 0) (fun z=>cls.length - z.1) (0,k2,[]) ⟨Nat.zero_le _,hk2,rfl,by simp,by simp⟩ ?_ ?_
    · refine Turns.trans (Turns.nilC 6 1 3 rfl rfl (by decide)) ?_
      unfold mOs
      exact Xv X0
    clear hk2
    rintro ⟨i,k,lds⟩ ⟨hi,hk,hI⟩ Ql2 hnl2 hel2
    dsimp only at hi hk hI ⊢
    unfold mOs
    simp only[List.cons_append,List.nil_append]
    by_cases hi':i<cls.length
    · have hli:=hgl i
      generalize hll:cls.getD i default=li at *
      ((repeat' (first|refine Va @hll ?_|(refine Xi ?_ ?_<;>try intro ht)|exact Xx|fail)))
      refine W_loopS (fun z:Nat × Nat × List Ld=>(⟨slots [(0,.ptr 0 0 0),(6,.ptr 1 0 0),(7,.ptr 2 0 0),(19,.lit (.int .i64 (c'+1:Nat))),(20,.ptr 6 0 0),(21,.lit (.int .i64 i)),(22,.lit (.int .i64 z.1))],
          mOs L z.2.1 cls prs cts R++[.var [.lit (.int .i64 n1),.ref 7 3 0 z.2.2.length,.lit (.int .i64 n2),.lit (.int .i64 pen)],.arr 3 (rowsOf eLd z.2.2)]⟩:St))
        (fun z=>z.1≤li.length∧z.2.1≤L.length∧LInv cls R z.2.2 i z.1) (fun z=>li.length - z.1) (0,k,lds) ⟨Nat.zero_le _,hk,hI⟩ (by unfold mOs;exact Xv (X2 @List.cons_append.{0} @List.nil_append.{0})) ?_
      clear hk hI
      rintro ⟨j,k,lds⟩ ⟨hj,hk,hI⟩ Ql3 hnl3 hel3
      dsimp only at hj hk hI ⊢
      unfold mOs
      simp only[List.cons_append,List.nil_append]
      have hlln:=hI.len
      by_cases hj':j<li.length
      · ((repeat' (first|refine Va @hll ?_|(refine Xi ?_ ?_<;>try intro ht)|exact Xx|fail))<;>try with_reducible intro K hK)
        refine callK_sel [0] (one_ok L k 2 (by unfold In64;omega) (by decide) hk hL) (by decide) ⟨rfl,trivial⟩ ⟨.eq rfl,.pure rfl,trivial⟩ ?_
        have hk2:=nextA_le hk
        generalize oneV L k 2=b at *
        generalize nextA L k=k2 at *
        clear hk
        ((try revert hK K);(repeat' (first|refine Va @hll ?_|(refine Xi ?_ ?_<;>try intro ht)|fail)))
        · refine W_draw [] (.take 2 (.take 3 (.take 4 (.both 0 (.both 1 (.take 5 (.take 6 (.take 7 (.take 8 (.take 9 (.take 10 (.take 11 .nil))))))) 5 (.take 1 (.take 6 (.take 7 (.take 8 (.take 9 (.take 10 (.take 11 .nil)))))))) 5 (.take 0 (.take 1 (.take 6 (.take 7 (.take 8 (.take 9 (.take 10 (.take 11 .nil)))))))))))) rfl (by decide) (by decide +kernel) ?_
          simp (disch:=omega) only[Ac,↓Pc,simprocAttr,planW_both,planW_take,planW_nil,stepAt,stepD]
          refine⟨⟨?_,?_⟩,?_⟩
          all_goals refine callK_sel [0] (next_ok L k2 3 (by unfold In64;omega) hk2 hL) (by decide) ⟨rfl,trivial⟩ ⟨.eq rfl,.pure rfl,trivial⟩ ?_
          all_goals have hn3:=nextV_range (L:=L) (k:=k2) (n:=3) (by omega)
          all_goals have hk:=nextA_le hk2
          all_goals generalize nextV L k2 3=n3 at *
          all_goals generalize nextA L k2=k at *
          all_goals clear hk2
          all_goals simp (disch:=omega) only[Ac,↓Pc,simprocAttr,planW_both,planW_take,planW_nil,stepAt,stepD]
          all_goals refine⟨⟨by omega,by omega⟩,by omega,?_⟩
          all_goals repeat (refine Xu ?_)
          all_goals ((repeat' (first|refine Va X0 ?_|fail)))
          all_goals refine hnl3 _ (j+1,k,lds++[⟨i,j,1+n3⟩]) ⟨by dsimp only;omega,hk,hI.app hi' (by rw[hll];exact hj') ⟨by omega,by omega⟩⟩ (by dsimp only;omega) ?_
          all_goals unfold mOs
          all_goals simp only[List.cons_append,List.nil_append]
          all_goals rw[show rowsOf eLd lds++[[AV.lit (.int .i64 i),AV.lit (.int .i64 j),AV.lit (.int .i64 (1+n3))]]=rowsOf eLd (lds++[⟨i,j,1+n3⟩]) from rows_app1 (enc:=eLd) lds ⟨i,j,1+n3⟩]
          all_goals exact Xs false [0,1,2,3,4,5,6,9] X0
        · exact hnl3 _ (j+1,k2,lds) ⟨by dsimp only;omega,hk2,hI.mono (by omega) (by omega)⟩ (by dsimp only;omega) (by unfold mOs;exact Xv (X2 @List.cons_append.{0} @List.nil_append.{0}))
      · ((repeat' (first|refine Va @hll ?_|(refine Xi ?_ ?_<;>try intro ht)|exact Xx|fail)))
        refine hel3 _ _ rfl ?_
        clear hnl3 hel3 Ql3
        repeat (refine Xu ?_)
        refine Va X0 ?_
        exact hnl2 _ (i+1,k,lds) ⟨by dsimp only;omega,hk,hI.mono (by omega) (by omega)⟩ (by dsimp only;omega) (by unfold mOs;exact Xv (X2 @List.cons_append.{0} @List.nil_append.{0}))
    · ((repeat' (first|refine Va X0 ?_|(refine Xi ?_ ?_<;>try intro ht)|exact Xx|fail)))
      refine hel2 _ _ rfl ?_
      clear hnl2 hel2 Ql2
      repeat (refine Xu ?_)
      refine W_turn (Turns.frzV 7 6 1 3 rfl rfl (by rw[rows_length];rfl) (rows_wid _) (rows_frz _)) ?_
      refine W_turn (σ':=⟨slots [(0,.ptr 0 0 0),(6,.ptr 1 0 0),(7,.ptr 2 0 0),(19,.lit (.int .i64 (c'+1:Nat))),(20,.ptr 6 0 0)],
          mOs L k cls prs cts R++[.var (eCt ⟨n1,lds,n2,pen⟩),.gone]⟩) (by unfold mOs;exact Xv X0) ?_
      unfold mOs
      simp only[List.cons_append,List.nil_append]
      refine Va @hc1 ?_
      refine hnl _ (c',k,cts++[⟨n1,lds,n2,pen⟩]) ⟨by simp;omega,hk,?_⟩ (by dsimp only;omega) ?_
      · intro x hx
        rcases List.mem_append.1 hx with hx | hx
        · exact hcts x hx
        · simp only[List.mem_singleton] at hx
          subst hx
          unfold ctB ruleB
          simp only[Bool.and_eq_true,decide_eq_true_eq]
          exact⟨⟨⟨by omega,by omega⟩,hpen⟩,hI.ok⟩
      · unfold mOs
        rw[show rowsOf eCt cts++[[AV.lit (.int .i64 n1),AV.tree 3 (rowsOf eLd lds),AV.lit (.int .i64 n2),AV.lit (.int .i64 pen)]]=rowsOf eCt (cts++[⟨n1,lds,n2,pen⟩]) from rows_app1 (enc:=eCt) cts ⟨n1,lds,n2,pen⟩]
        exact Xs false [0,1,2,3,4,9] X0
  obtain rfl:c=0:=by omega
  ((repeat' (first|refine Va X0 ?_|(refine Xi ?_ ?_<;>try intro ht)|exact Xx|fail)))
  refine hel _ _ rfl ?_;clear hnl hel Ql
  repeat (refine Xu ?_)
  refine Vb X0 ?_
  have hMM:MM ⟨cls,prs,cts,R⟩ classes options:=by
    refine⟨⟨by dsimp only;omega,fun l hl=>by have:=(hcls l hl).1;omega,hpln,by dsimp only;omega,by dsimp only;omega,fun l hl=>(hcls l hl).2,?_,fun x hx=>?_⟩,by dsimp only;omega,fun l hl=>(hcls l hl).1,hR1,by dsimp only;omega⟩
    · exact (prsL_same _ _).trans hpok
    · exact (ctB_same _).trans (hcts x hx)
  unfold retR
  simp only[resW,retV]
  simp (disch:=omega) only[Ac,↓Pc,simprocAttr]
  refine⟨_,_,⟨⟨cls,prs,cts,R⟩,k,hMM,hk,rfl,rfl⟩,?_⟩
  refine RetOK_sel [0] true (by decide) ⟨⟨by simp,.inr rfl⟩,trivial⟩ (by decide) (by decide) (ArgR.agg _ _ rfl (ArgsR.spec (R:=ArgR _ _ _ _) (cs:=eMdl ⟨cls,prs,cts,R⟩) (ds:=[.ref 3 1 0 cls.length,.ref 4 4 0 prs.length,.ref 5 4 0 cts.length,.lit (.int .i64 R)]) ⟨?_,?_,?_,.pure rfl,trivial⟩).2)
  · first|exact .pure rfl|exact .eq rfl|exact .fz rfl (by simp only[Bc,Rc])
  · first|exact .pure rfl|exact .eq rfl|exact .fz rfl (by simp only[Bc,Rc])
  · first|exact .pure rfl|exact .eq rfl|exact .fz rfl (by simp only[Bc,Rc])
theorem unB {P:Program} {N n0:Nat} {σ:St} {Q:Exit→St→Prop} {x:Code} {id:Nat} (h:∀ Q':Exit→St→Prop,(∀ s,Q .normal s→Q' .normal s)→W P N n0 x Q' σ):W P N n0 x (Bq id Q) σ:=h _ .n
theorem argsR_flat {σ:St} {kp:Nat→Prop}:∀ {l:List AV},(∀ v∈l,(∃ x,v=AV.lit x)∨∃ s r,v=AV.tree s r)→ArgsR (Frz σ kp) l l
  | [],_=>trivial
  | v::l,h=>⟨by rcases h v (by simp) with ⟨x,rfl⟩ | ⟨s,r,rfl⟩;exact .lit _;exact .tree _ _,argsR_flat fun x hx=>h x (by simp[hx])⟩
theorem rowsR_flat {σ:St} {kp:Nat→Prop}:∀ {rows:List (List AV)},(∀ row∈rows,∀ v∈row,(∃ x,v=AV.lit x)∨∃ s r,v=AV.tree s r)→RowsR (Frz σ kp) rows rows
  | [],_=>trivial
  | r::rows,h=>⟨argsR_flat (h r (by simp)),rowsR_flat fun x hx=>h x (by simp[hx])⟩
theorem rowsR_app {R:AV→AV→Prop}:∀ {a c:List (List AV)} {b d:List (List AV)},RowsR R a c→RowsR R b d→RowsR R (a++b) (c++d)
  | [],[],_,_,_,k=>k
  | _::_,_::_,_,_,h,k=>⟨h.1,rowsR_app h.2 k⟩
  | [],_::_,_,_,h,_=>h.elim
  | _::_,[],_,_,h,_=>h.elim
theorem rowsR_set0 {R:AV→AV→Prop}:∀ {a c:List (List AV)} {x y:List AV},RowsR R a c→ArgsR R x y→RowsR R (a.set 0 x) (c.set 0 y)
  | [],[],_,_,_,_=>trivial
  | _::_,_::_,_,_,h,k=>⟨k,h.2⟩
  | [],_::_,_,_,h,_=>h.elim
  | _::_,[],_,_,h,_=>h.elim
theorem rowsR_rep {R:AV→AV→Prop} {x y:List AV} (h:ArgsR R x y):∀ n,RowsR R (List.replicate n x) (List.replicate n y)
  | 0=>trivial
  | n+1=>⟨h,rowsR_rep h n⟩
theorem vm_tab' {m:Mdl} (h:VM m) {p:Pr} (hp:p∈m.prs):p.tab.length≤576:=by
  obtain ⟨_,h1,h2,h3,h4⟩:=pairB_iff (prsL_mem h.pr p hp)
  have a:=h.opt _ (getD_mem (l:=m.cls) (i:=p.fst.toNat) (d:=default) (by omega))
  have b:=h.opt _ (getD_mem (l:=m.cls) (i:=p.snd.toNat) (d:=default) (by omega))
  have:((m.cls.getD p.fst.toNat default).length:Int) * (m.cls.getD p.snd.toNat default).length≤24 * 24:=Int.mul_le_mul (by omega) (by omega) (by omega) (by omega)
  omega
theorem agg4 {σ:St} {kp:Nat→Prop} {ρ:Nat→Nat} {snap:Bool} {a b c d a' b' c' d':AV} (h1:ArgR σ kp ρ snap a a') (h2:ArgR σ kp ρ snap b b') (h3:ArgR σ kp ρ snap c c') (h4:ArgR σ kp ρ snap d d'):ArgR σ kp ρ snap (.agg [a,b,c,d]) (.agg [a',b',c',d']) :=
  .agg _ _ rfl (ArgsR.spec (R:=ArgR σ kp ρ snap) (cs:=[a,b,c,d]) (ds:=[a',b',c',d']) ⟨h1,h2,h3,h4,trivial⟩).2
structure OMq (q:Nat) (m:Mdl):Prop where
  mb:MB m
  few:m.cls.length≤q
  opt:∀ l∈m.cls,l.length≤25
theorem OMq.mono {q r:Nat} {m:Mdl} (h:OMq q m) (hr:q≤r):OMq r m:=⟨h.mb,Nat.le_trans h.few hr,h.opt⟩
theorem OMq.rules {q:Nat} {m:Mdl} (h:OMq q m) (r:Int):OMq q ⟨m.cls,m.prs,m.cts,r⟩:=⟨⟨h.mb.cls,h.mb.opt,h.mb.ch,h.mb.prs,h.mb.tab,h.mb.cts,h.mb.lds⟩,h.few,h.opt⟩
theorem OMq.prs {q:Nat} {m:Mdl} (h:OMq q m) {l:List Pr} (h1:l.length<9223372036854775808) (h2:∀ p∈l,p.tab.length<9223372036854775808):OMq q ⟨m.cls,l,m.cts,m.rules⟩:=⟨⟨h.mb.cls,h.mb.opt,h.mb.ch,h1,h2,h.mb.cts,h.mb.lds⟩,h.few,h.opt⟩
theorem OMq.cts {q:Nat} {m:Mdl} (h:OMq q m) {l:List Ct} (h1:l.length<9223372036854775808) (h2:∀ p∈l,p.loads.length<9223372036854775808):OMq q ⟨m.cls,m.prs,l,m.rules⟩:=⟨⟨h.mb.cls,h.mb.opt,h.mb.ch,h.mb.prs,h.mb.tab,h1,h2⟩,h.few,h.opt⟩
theorem OMq.cls {q:Nat} {m:Mdl} (h:OMq q m) (hq:q≤25) {l:List (List Opt)} (h1:l.length≤q) (h2:∀ x∈l,x.length≤25∧∀ o∈x,o.ch.length<9223372036854775808):OMq q ⟨l,m.prs,m.cts,m.rules⟩ :=
  ⟨⟨by dsimp only;omega,fun x hx=>by have:=(h2 x hx).1;omega,fun x hx=>(h2 x hx).2,h.mb.prs,h.mb.tab,h.mb.cts,h.mb.lds⟩,h1,fun x hx=>(h2 x hx).1⟩
theorem VM.omq {m:Mdl} (h:VM m) {q:Nat} (hl:m.cls.length≤q):OMq q m:=⟨h.mb,hl,fun l hl=>by have:=h.opt l hl;omega⟩
theorem OMq.pin {q:Nat} {m:Mdl} (h:OMq q m) (hp:0<m.prs.length):(m.prs.getD 0 default).tab.length<9223372036854775808:=h.mb.tab _ (getD_mem hp)
theorem odd_okq (q:Nat) (hq24:q≤24) (L:List Int) (k:Nat) (m:Mdl) (hm:VM m) (hq:m.cls.length≤q) (hk:k≤L.length) (hL:L.length<1000000) :
    HoldsR Tryz.prog 28 [.ptr 0 0 0,.agg (eMdl m)] [dice L k] (fun r os=>∃ m' k',OMq (q+1) m'∧k'≤L.length∧r=.agg (eMdl m')∧os=[dice L k']):=by
  have h1:=hm.cls
  have h2:=hm.opt
  have h3:=hm.prs
  have h4:=hm.cts
  have hom:OMq (q+1) m:=hm.omq (by omega)
  have h8:=next_ok L k 8 (by unfold In64;omega) hk hL
  have h8r:=nextV_range (L:=L) (k:=k) (n:=8) (by omega)
  have hk2:=nextA_le hk
  have r4:List.range 4=[0,1,2,3]:=by decide
  unfold dice at *
  generalize nextV L k 8=j at *
  generalize nextA L k=k2 at *
  refine HoldsR.of_body' (fn:=Tryz.f28) 126 1 [.cell 4 29] Tryz.func28 rfl rfl rfl rfl rfl (by simp) ?_
  ((try revert hK K);(repeat' (first|refine Va X0 ?_|(refine V2 X0 ?_ ?_<;>try with_reducible intro hb)|(refine Xi ?_ ?_<;>try intro ht)|refine VD ?_ ?_|exact Xx|fail))<;>try with_reducible intro K hK)
  (refine Xn [0] (h8) ?_;simp (disch:=omega) only[Ac,↓Pc,simprocAttr])
  ((try revert hK K);(repeat' (first|refine Va @r4 ?_|(refine V2 @r4 ?_ ?_<;>try with_reducible intro hb)|(refine Xi ?_ ?_<;>try intro ht)|refine VD ?_ ?_|exact Xx|fail))<;>try with_reducible intro K hK)
  ·
    have hnx:=next_ok L k2 4 (by unfold In64;omega) hk2 hL
    have hnr:=nextV_range (L:=L) (k:=k2) (n:=4) (by omega)
    have hk3:=nextA_le hk2
    unfold dice at *
    generalize nextV L k2 4=i at *
    generalize nextA L k2=k3 at *
    (refine Xn [0] (hnx) ?_;simp (disch:=omega) only[Ac,↓Pc,simprocAttr,r4])
    have hi:i=0∨i=1∨i=2∨i=3:=by omega
    rcases hi with rfl | rfl | rfl | rfl
    · simp (disch:=omega) only[Ac,↓Pc,simprocAttr]
      ((try revert hK K);(repeat' (first|refine Va X0 ?_|(refine V2 X0 ?_ ?_<;>try with_reducible intro hb)|(refine Xi ?_ ?_<;>try intro ht)|refine VD ?_ ?_|exact Xx|fail))<;>try with_reducible intro K hK)
      unfold retR
      simp only[resW,retV]
      simp (disch:=omega) only[Ac,↓Pc,simprocAttr]
      refine⟨_,_,⟨⟨m.cls,m.prs,m.cts,-1⟩,k3,hom.rules _,by omega,rfl,rfl⟩,?_⟩
      refine RetOK_sel [0] true (by decide) ⟨⟨by simp,.inr rfl⟩,trivial⟩ (by decide) (by decide) (agg4 (ArgR.pure rfl) (?_) (?_) (.pure rfl))
      all_goals first|exact .pure rfl|exact .eq rfl|exact .fz rfl (by simp only[Bc,Rc])
    · simp (disch:=omega) only[Ac,↓Pc,simprocAttr]
      ((try revert hK K);(repeat' (first|refine Va X0 ?_|(refine V2 X0 ?_ ?_<;>try with_reducible intro hb)|(refine Xi ?_ ?_<;>try intro ht)|refine VD ?_ ?_|exact Xx|fail))<;>try with_reducible intro K hK)
      unfold retR
      simp only[resW,retV]
      simp (disch:=omega) only[Ac,↓Pc,simprocAttr]
      refine⟨_,_,⟨⟨m.cls,m.prs,m.cts,0⟩,k3,hom.rules _,by omega,rfl,rfl⟩,?_⟩
      refine RetOK_sel [0] true (by decide) ⟨⟨by simp,.inr rfl⟩,trivial⟩ (by decide) (by decide) (agg4 (ArgR.pure rfl) (?_) (?_) (.pure rfl))
      all_goals first|exact .pure rfl|exact .eq rfl|exact .fz rfl (by simp only[Bc,Rc])
    · simp (disch:=omega) only[Ac,↓Pc,simprocAttr]
      ((try revert hK K);(repeat' (first|refine Va X0 ?_|(refine V2 X0 ?_ ?_<;>try with_reducible intro hb)|(refine Xi ?_ ?_<;>try intro ht)|refine VD ?_ ?_|exact Xx|fail))<;>try with_reducible intro K hK)
      unfold retR
      simp only[resW,retV]
      simp (disch:=omega) only[Ac,↓Pc,simprocAttr]
      refine⟨_,_,⟨⟨m.cls,m.prs,m.cts,56⟩,k3,hom.rules _,by omega,rfl,rfl⟩,?_⟩
      refine RetOK_sel [0] true (by decide) ⟨⟨by simp,.inr rfl⟩,trivial⟩ (by decide) (by decide) (agg4 (ArgR.pure rfl) (?_) (?_) (.pure rfl))
      all_goals first|exact .pure rfl|exact .eq rfl|exact .fz rfl (by simp only[Bc,Rc])
    · simp (disch:=omega) only[Ac,↓Pc,simprocAttr]
      ((try revert hK K);(repeat' (first|refine Va X0 ?_|(refine V2 X0 ?_ ?_<;>try with_reducible intro hb)|(refine Xi ?_ ?_<;>try intro ht)|refine VD ?_ ?_|exact Xx|fail))<;>try with_reducible intro K hK)
      unfold retR
      simp only[resW,retV]
      simp (disch:=omega) only[Ac,↓Pc,simprocAttr]
      refine⟨_,_,⟨⟨m.cls,m.prs,m.cts,57⟩,k3,hom.rules _,by omega,rfl,rfl⟩,?_⟩
      refine RetOK_sel [0] true (by decide) ⟨⟨by simp,.inr rfl⟩,trivial⟩ (by decide) (by decide) (agg4 (ArgR.pure rfl) (?_) (?_) (.pure rfl))
      all_goals first|exact .pure rfl|exact .eq rfl|exact .fz rfl (by simp only[Bc,Rc])
  ·
    have e:=rows_app1 (enc:=ePr) m.prs (m.prs.getD 0 default)
    simp only[ePr] at e
    rw[e]
    unfold retR
    simp only[resW,retV]
    simp (disch:=omega) only[Ac,↓Pc,simprocAttr]
    refine⟨_,_,⟨⟨m.cls,m.prs++[m.prs.getD 0 default],m.cts,m.rules⟩,k2,hom.prs (by simp;omega) (fun p hp=>(List.mem_append.1 hp).elim (hom.mb.tab p) fun h=>by rw[List.mem_singleton.1 h];exact hom.pin (by omega)),by omega,rfl,rfl⟩,?_⟩
    refine RetOK_sel [0] true (by decide) ⟨⟨by simp,.inr rfl⟩,trivial⟩ (by decide) (by decide) (agg4 (ArgR.pure rfl) (?_) (?_) (.pure rfl))
    all_goals first|exact .pure rfl|exact .eq rfl|exact .fz rfl (by simp only[Bc,Rc])
  ·
    unfold retR
    simp only[resW,retV]
    simp (disch:=omega) only[Ac,↓Pc,simprocAttr]
    refine⟨_,_,⟨m,k2,hom,by omega,rfl,rfl⟩,?_⟩
    refine RetOK_sel [0] true (by decide) ⟨⟨by simp,.inr rfl⟩,trivial⟩ (by decide) (by decide) (agg4 (ArgR.pure rfl) (?_) (?_) (.pure rfl))
    all_goals first|exact .pure rfl|exact .eq rfl|exact .fz rfl (by simp only[Bc,Rc])
  ·
    have hnx:=next_ok L k2 2 (by unfold In64;omega) hk2 hL
    have hnr:=nextV_range (L:=L) (k:=k2) (n:=2) (by omega)
    have hk3:=nextA_le hk2
    have hpin:(m.prs.getD 0 default).tab.length≤576:=vm_tab' hm (getD_mem (by omega))
    unfold dice at *
    generalize nextV L k2 2=x1 at *
    generalize nextA L k2=k3 at *
    refine unB ?_;intro Qb hnb
    refine join_here ⟨slots [(3,.ptr 1 0 0),(4,.ptr 2 0 0)],[.var [.tree 1 (ints L),.lit (.int .i64 k3)],.var [.tree 1 (rowsOf eCls m.cls),.ref 3 4 0 m.prs.length,.ref 4 4 0 m.cts.length,.lit (.int .i64 m.rules)],
      .var [.lit (.slice none 0 0),.lit (.slice none 0 0),.lit (.slice none 0 0),.lit (.int .i64 0)],
      .arr 4 ((rowsOf ePr m.prs).set 0 [.lit (.int .i64 (m.prs.getD 0 default).fst),.lit (.int .i64 (m.prs.getD 0 default).snd),.lit (.int .i64 (m.prs.getD 0 default).rule),.ref 6 1 0 (1+(m.prs.getD 0 default).tab.length)]),
      .arr 4 (rowsOf eCt m.cts),.gone,.arr 1 ([.lit (.int .i64 (x1 - 1))]::ints (m.prs.getD 0 default).tab)]⟩ (fun s h=>hnb _ (hn _ h)) ?_ (fun key=>?_)
    rotate_left
    · refine W_drawH 0 [] [3] (.take 2 (.take 6 (.take 7 (.take 8 (.take 9 (.take 10 (.both 0 (.both 1 (.take 3 (.take 4 (.take 5 (.take 11 (.take 12 (.take 13 (.take 14 .nil))))))) 3 (.take 4 (.both 1 (.take 5 (.take 11 (.take 12 (.take 13 (.take 14 .nil))))) 5 (.both 1 (.take 11 (.take 12 (.take 13 (.take 14 .nil)))) 11 (.take 1 (.take 12 (.take 13 (.take 14 .nil)))))))) 3 (.take 4 (.both 0 (.both 1 (.take 5 (.take 11 (.take 12 (.take 13 (.take 14 .nil))))) 5 (.both 1 (.take 11 (.take 12 (.take 13 (.take 14 .nil)))) 11 (.take 1 (.take 12 (.take 13 (.take 14 .nil)))))) 5 (.both 0 (.both 1 (.take 11 (.take 12 (.take 13 (.take 14 .nil)))) 11 (.take 1 (.take 12 (.take 13 (.take 14 .nil))))) 11 (.take 0 (.take 1 (.take 12 (.take 13 (.take 14 .nil))))))))))))))) rfl (by decide) (by decide +kernel) ?_
      simp (disch:=omega) only[Ac,↓Pc,simprocAttr,Hc,stepAtH]
      repeat' (first|with_reducible refine And.intro ?_ ?_|omega|with_reducible rfl|(refine callD_of (hnx) rfl rfl rfl rfl (by (repeat' (first|exact trivial|refine And.intro ?_ ?_))<;>first|exact .inl ⟨rfl,rfl⟩|exact .inr ⟨rfl,rfl⟩) ?_;simp (disch:=omega) only[Ac,↓Pc,simprocAttr,Hc,stepAtH]))
      all_goals refine key _ ?_
      all_goals exact Xv X0
    ((try revert hK K);(repeat' (first|refine Va X0 ?_|(refine V2 X0 ?_ ?_<;>try with_reducible intro hb)|(refine Xi ?_ ?_<;>try intro ht)|refine VD ?_ ?_|exact Xx|fail))<;>try with_reducible intro K hK)
    unfold retR
    simp only[resW,retV]
    simp (disch:=omega) only[Ac,↓Pc,simprocAttr]
    refine⟨_,_,⟨⟨m.cls,m.prs.set 0 ⟨(m.prs.getD 0 default).fst,(m.prs.getD 0 default).snd,(m.prs.getD 0 default).rule,[x1 - 1]++(m.prs.getD 0 default).tab⟩,m.cts,m.rules⟩,k3,hom.prs (by simp;omega) (fun p hp=>(List.mem_or_eq_of_mem_set hp).elim (hom.mb.tab p) fun h=>by rw[h];show ([x1 - 1]++(m.prs.getD 0 default).tab).length<_;rw[List.length_append,List.length_singleton];omega),by omega,rfl,rfl⟩,?_⟩
    refine RetOK_sel [0] true (by decide) ⟨⟨by simp,.inr rfl⟩,trivial⟩ (by decide) (by decide) (agg4 (ArgR.pure rfl) (.snap _ _ rfl ?_) (?_) (.pure rfl))
    · refine Frz.mk rfl (by simp only[Bc,Rc,List.length_set]) (not_kept (by decide)) (rows_wid _) ?_
      rw[← rows_set]
      exact rowsR_set0 (rowsR_flat (rows_frz _)) ⟨.lit _,.lit _,.lit _,Frz.mk rfl (by simp[ints];omega) (not_kept (by decide)) (ints_wid _) (rowsR_flat (ints_frz ([x1 - 1]++(m.prs.getD 0 default).tab))),trivial⟩
    · first|exact .pure rfl|exact .eq rfl|exact .fz rfl (by simp only[Bc,Rc])
  ·
    unfold retR
    simp only[resW,retV]
    simp (disch:=omega) only[Ac,↓Pc,simprocAttr]
    refine⟨_,_,⟨m,k2,hom,by omega,rfl,rfl⟩,?_⟩
    refine RetOK_sel [0] true (by decide) ⟨⟨by simp,.inr rfl⟩,trivial⟩ (by decide) (by decide) (agg4 (ArgR.pure rfl) (?_) (?_) (.pure rfl))
    all_goals first|exact .pure rfl|exact .eq rfl|exact .fz rfl (by simp only[Bc,Rc])
  ·
    have e:=rows_set (enc:=ePr) m.prs 0 ⟨(m.prs.getD 0 default).fst,(m.prs.getD 0 default).fst,(m.prs.getD 0 default).rule,(m.prs.getD 0 default).tab⟩
    simp only[ePr] at e
    rw[e]
    unfold retR
    simp only[resW,retV]
    simp (disch:=omega) only[Ac,↓Pc,simprocAttr]
    refine⟨_,_,⟨⟨m.cls,m.prs.set 0 ⟨(m.prs.getD 0 default).fst,(m.prs.getD 0 default).fst,(m.prs.getD 0 default).rule,(m.prs.getD 0 default).tab⟩,m.cts,m.rules⟩,k2,hom.prs (by simp;omega) (fun p hp=>(List.mem_or_eq_of_mem_set hp).elim (hom.mb.tab p) fun h=>by rw[h];exact hom.pin (by omega)),by omega,rfl,rfl⟩,?_⟩
    refine RetOK_sel [0] true (by decide) ⟨⟨by simp,.inr rfl⟩,trivial⟩ (by decide) (by decide) (agg4 (ArgR.pure rfl) (?_) (?_) (.pure rfl))
    all_goals first|exact .pure rfl|exact .eq rfl|exact .fz rfl (by simp only[Bc,Rc])
  ·
    unfold retR
    simp only[resW,retV]
    simp (disch:=omega) only[Ac,↓Pc,simprocAttr]
    refine⟨_,_,⟨m,k2,hom,by omega,rfl,rfl⟩,?_⟩
    refine RetOK_sel [0] true (by decide) ⟨⟨by simp,.inr rfl⟩,trivial⟩ (by decide) (by decide) (agg4 (ArgR.pure rfl) (?_) (?_) (.pure rfl))
    all_goals first|exact .pure rfl|exact .eq rfl|exact .fz rfl (by simp only[Bc,Rc])
  ·
    unfold retR
    simp only[resW,retV]
    simp (disch:=omega) only[Ac,↓Pc,simprocAttr]
    refine⟨_,_,⟨⟨m.cls,m.prs,m.cts++[⟨0,[],-1,1⟩],m.rules⟩,k2,hom.cts (by simp;omega) (fun p hp=>(List.mem_append.1 hp).elim (hom.mb.lds p) fun h=>by rw[List.mem_singleton.1 h];decide),by omega,rfl,rfl⟩,?_⟩
    refine RetOK_sel [0] true (by decide) ⟨⟨by simp,.inr rfl⟩,trivial⟩ (by decide) (by decide) (agg4 (ArgR.pure rfl) (?_) (.snap _ _ rfl ?_) (.pure rfl))
    · first|exact .pure rfl|exact .eq rfl|exact .fz rfl (by simp only[Bc,Rc])
    · refine Frz.mk rfl (by simp only[Bc,Rc]) (not_kept (by decide)) (rows_wid _) ?_
      rw[← rows_app1]
      exact rowsR_app (rowsR_flat (rows_frz _)) ⟨⟨.lit _,.nil 3,.lit _,.lit _,trivial⟩,trivial⟩
  ·
    have hnw:=next_ok L k2 3 (by unfold In64;omega) hk2 hL
    have hk3:=nextA_le hk2
    have hnx:=next_ok L (nextA L k2) 4 (by unfold In64;omega) hk3 hL
    have hk4:=nextA_le hk3
    have hny:=next_ok L (nextA L (nextA L k2)) 2 (by unfold In64;omega) hk4 hL
    have hk5:=nextA_le hk4
    have hnz:=next_ok L (nextA L (nextA L (nextA L k2))) 2 (by unfold In64;omega) hk5 hL
    have hk6:=nextA_le hk5
    unfold dice at *
    generalize nextV L k2 3=x1 at *
    generalize nextA L k2=k3 at *
    generalize nextV L k3 4=x2 at *
    generalize nextA L k3=k4 at *
    generalize nextV L k4 2=x3 at *
    generalize nextA L k4=k5 at *
    generalize nextV L k5 2=x4 at *
    generalize nextA L k5=k6 at *
    refine unB ?_;intro Qb hnb
    refine join_here ⟨slots [(3,.ptr 1 0 0),(4,.ptr 2 0 0)],[.var [.tree 1 (ints L),.lit (.int .i64 k6)],.var [.tree 1 (rowsOf eCls m.cls),.ref 3 4 0 m.prs.length,.ref 7 4 0 (m.cts.length+1),.lit (.int .i64 m.rules)],
      .var [.lit (.slice none 0 0),.lit (.slice none 0 0),.lit (.slice none 0 0),.lit (.int .i64 0)],.arr 4 (rowsOf ePr m.prs),.gone,.arr 3 [[.lit (.int .i64 x1),.lit (.int .i64 x2),.lit (.int .i64 x3)]],
      .arr 4 [[.lit (.int .i64 0),.ref 5 3 0 1,.lit (.int .i64 0),.lit (.int .i64 x4)]],.arr 4 (rowsOf eCt m.cts++[[.lit (.int .i64 0),.ref 5 3 0 1,.lit (.int .i64 0),.lit (.int .i64 x4)]])]⟩ (fun s h=>hnb _ (hn _ h)) ?_ (fun key=>?_)
    rotate_left
    · refine W_drawH 0 [] [3,5,7,11] (.take 0 (.take 1 (.take 2 (.take 3 (.take 4 (.take 5 (.take 6 (.take 7 (.take 8 (.take 10 (.both 9 (.take 11 (.take 12 (.take 13 (.take 14 (.take 15 (.take 16 .nil)))))) 11 (.take 9 (.take 12 (.take 13 (.take 14 (.take 15 (.take 16 .nil))))))))))))))))) rfl (by decide) (by decide +kernel) ?_
      simp (disch:=omega) only[Ac,↓Pc,simprocAttr,Hc,stepAtH]
      repeat' (first|with_reducible refine And.intro ?_ ?_|omega|with_reducible rfl|(refine callD_of (hnw) rfl rfl rfl rfl (by (repeat' (first|exact trivial|refine And.intro ?_ ?_))<;>first|exact .inl ⟨rfl,rfl⟩|exact .inr ⟨rfl,rfl⟩) ?_;simp (disch:=omega) only[Ac,↓Pc,simprocAttr,Hc,stepAtH])|(refine callD_of (hnx) rfl rfl rfl rfl (by (repeat' (first|exact trivial|refine And.intro ?_ ?_))<;>first|exact .inl ⟨rfl,rfl⟩|exact .inr ⟨rfl,rfl⟩) ?_;simp (disch:=omega) only[Ac,↓Pc,simprocAttr,Hc,stepAtH])|(refine callD_of (hny) rfl rfl rfl rfl (by (repeat' (first|exact trivial|refine And.intro ?_ ?_))<;>first|exact .inl ⟨rfl,rfl⟩|exact .inr ⟨rfl,rfl⟩) ?_;simp (disch:=omega) only[Ac,↓Pc,simprocAttr,Hc,stepAtH])|(refine callD_of (hnz) rfl rfl rfl rfl (by (repeat' (first|exact trivial|refine And.intro ?_ ?_))<;>first|exact .inl ⟨rfl,rfl⟩|exact .inr ⟨rfl,rfl⟩) ?_;simp (disch:=omega) only[Ac,↓Pc,simprocAttr,Hc,stepAtH]))
      all_goals refine key _ ?_
      all_goals exact Xv X0
    ((try revert hK K);(repeat' (first|refine Va X0 ?_|(refine V2 X0 ?_ ?_<;>try with_reducible intro hb)|(refine Xi ?_ ?_<;>try intro ht)|refine VD ?_ ?_|exact Xx|fail))<;>try with_reducible intro K hK)
    unfold retR
    simp only[resW,retV]
    simp (disch:=omega) only[Ac,↓Pc,simprocAttr]
    refine⟨_,_,⟨⟨m.cls,m.prs,m.cts++[⟨0,[⟨x1,x2,x3⟩],0,x4⟩],m.rules⟩,k6,hom.cts (by simp;omega) (fun p hp=>(List.mem_append.1 hp).elim (hom.mb.lds p) fun h=>by rw[List.mem_singleton.1 h];simp),by omega,rfl,rfl⟩,?_⟩
    refine RetOK_sel [0] true (by decide) ⟨⟨by simp,.inr rfl⟩,trivial⟩ (by decide) (by decide) (agg4 (ArgR.pure rfl) (?_) (.snap _ _ rfl ?_) (.pure rfl))
    · first|exact .pure rfl|exact .eq rfl|exact .fz rfl (by simp only[Bc,Rc])
    · refine Frz.mk rfl (by simp only[Bc,Rc]) (not_kept (by decide)) (rows_wid _) ?_
      rw[← rows_app1]
      exact rowsR_app (rowsR_flat (rows_frz _)) ⟨⟨.lit _,Frz.mk rfl rfl (not_kept (by decide)) (rows_wid _) ⟨⟨.lit _,.lit _,.lit _,trivial⟩,trivial⟩,.lit _,.lit _,trivial⟩,trivial⟩
  ·
    have hnx:=next_ok L k2 5 (by unfold In64;omega) hk2 hL
    have hk3:=nextA_le hk2
    have hny:=next_ok L (nextA L k2) 2 (by unfold In64;omega) hk3 hL
    have hk4:=nextA_le hk3
    unfold dice at *
    generalize nextV L k2 5=x1 at *
    generalize nextA L k2=k3 at *
    generalize nextV L k3 2=x2 at *
    generalize nextA L k3=k4 at *
    (refine Xn [0] (hnx) ?_;simp (disch:=omega) only[Ac,↓Pc,simprocAttr])
    (refine Xn [0] (hny) ?_;simp (disch:=omega) only[Ac,↓Pc,simprocAttr])
    ((try revert hK K);(repeat' (first|refine Va X0 ?_|(refine V2 X0 ?_ ?_<;>try with_reducible intro hb)|(refine Xi ?_ ?_<;>try intro ht)|refine VD ?_ ?_|exact Xx|fail))<;>try with_reducible intro K hK)
    unfold retR
    simp only[resW,retV]
    simp (disch:=omega) only[Ac,↓Pc,simprocAttr]
    refine⟨_,_,⟨⟨m.cls++[[⟨0,0,0,0,0,[(x1,x2)]⟩]],m.prs,m.cts,m.rules⟩,k4,hom.cls (by omega) (by simp;omega) (fun l hl=>(List.mem_append.1 hl).elim (fun h=>⟨hom.opt l h,hom.mb.ch l h⟩) fun h=>by rw[List.mem_singleton.1 h];exact⟨by simp,fun o ho=>by rw[List.mem_singleton.1 ho];simp⟩),by omega,rfl,rfl⟩,?_⟩
    refine RetOK_sel [0] true (by decide) ⟨⟨by simp,.inr rfl⟩,trivial⟩ (by decide) (by decide) (agg4 (.snap _ _ rfl ?_) (?_) (?_) (.pure rfl))
    · refine Frz.mk rfl (by simp only[Bc,Rc]) (not_kept (by decide)) (rows_wid _) ?_
      rw[← rows_app1]
      refine rowsR_app (rowsR_flat (rows_frz _)) ⟨⟨?_,trivial⟩,trivial⟩
      refine Frz.mk rfl rfl (not_kept (by decide)) (rows_wid _) ⟨⟨.lit _,.lit _,.lit _,.lit _,.lit _,?_,trivial⟩,trivial⟩
      exact Frz.mk rfl rfl (not_kept (by decide)) (rows_wid _) ⟨⟨.lit _,.lit _,trivial⟩,trivial⟩
    · first|exact .pure rfl|exact .eq rfl|exact .fz rfl (by simp only[Bc,Rc])
    · first|exact .pure rfl|exact .eq rfl|exact .fz rfl (by simp only[Bc,Rc])
  ·
    have hnx:=next_ok L k2 2 (by unfold In64;omega) hk2 hL
    have hnr:=nextV_range (L:=L) (k:=k2) (n:=2) (by omega)
    have hk3:=nextA_le hk2
    unfold dice at *
    generalize nextV L k2 2=x1 at *
    generalize nextA L k2=k3 at *
    (refine Xn [0] (hnx) ?_;simp (disch:=omega) only[Ac,↓Pc,simprocAttr])
    ((try revert hK K);(repeat' (first|refine Va X0 ?_|(refine V2 X0 ?_ ?_<;>try with_reducible intro hb)|(refine Xi ?_ ?_<;>try intro ht)|refine VD ?_ ?_|exact Xx|fail))<;>try with_reducible intro K hK)
    unfold retR
    simp only[resW,retV]
    simp (disch:=omega) only[Ac,↓Pc,simprocAttr]
    refine⟨_,_,⟨⟨m.cls++[List.replicate (24+x1).toNat ⟨0,0,0,0,0,[]⟩],m.prs,m.cts,m.rules⟩,k3,hom.cls (by omega) (by simp;omega) (fun l hl=>(List.mem_append.1 hl).elim (fun h=>⟨hom.opt l h,hom.mb.ch l h⟩) fun h=>by rw[List.mem_singleton.1 h];exact⟨by rw[List.length_replicate];omega,fun o ho=>by rw[List.eq_of_mem_replicate ho];decide⟩),by omega,rfl,rfl⟩,?_⟩
    refine RetOK_sel [0] true (by decide) ⟨⟨by simp,.inr rfl⟩,trivial⟩ (by decide) (by decide) (agg4 (.snap _ _ rfl ?_) (?_) (?_) (.pure rfl))
    · refine Frz.mk rfl (by simp only[Bc,Rc]) (not_kept (by decide)) (rows_wid _) ?_
      rw[← rows_app1]
      refine rowsR_app (rowsR_flat (rows_frz _)) ⟨⟨?_,trivial⟩,trivial⟩
      refine Frz.mk rfl (by rw[List.length_replicate]) (not_kept (by decide)) (rows_wid _) ?_
      rw[show rowsOf eOpt (List.replicate (24+x1).toNat ⟨0,0,0,0,0,[]⟩)=List.replicate (24+x1).toNat (eOpt ⟨0,0,0,0,0,[]⟩) by rw[rowsOf,List.map_replicate]]
      refine rowsR_rep ?_ _
      exact⟨.lit _,.lit _,.lit _,.lit _,.lit _,.nil 2,trivial⟩
    · first|exact .pure rfl|exact .eq rfl|exact .fz rfl (by simp only[Bc,Rc])
    · first|exact .pure rfl|exact .eq rfl|exact .fz rfl (by simp only[Bc,Rc])
end T

