import Derived.Test.YtdipcmigdbnheaaGreatX14
import Derived.Test.YtdipcmigdbnheaaGreatX11
set_option linter.unusedVariables false
set_option linter.unusedSimpArgs false
set_option linter.unnecessarySimpa false
set_option linter.unusedSectionVars false
set_option maxHeartbeats 64000000
set_option maxRecDepth 20000
open Nat renaming zero_le→aM,not_lt_zero→v9
open List renaming take_zero→p5,getElem_of_mem→sv,length_take→gV,getD_eq_getElem?_getD→aA,getElem?_eq_getElem→bX,all_eq_true→gU,take_length→ss,length_drop→v5
open Bool renaming eq_false_iff→Cc
open Go Go.Am Go.Proofs
open Nat (reduceEqDiff reduceAdd reduceLeDiff reduceMul)
open Int (reduceNeg reduceLE reduceToNat)
namespace T
theorem adz (n:Int):an Tryz.prog 169 [.lit (.int .i64 n)] [] (.lit (.bool (n != 1))) []:=by
  refine an.aD (fn:=Tryz.f169) 5 0 [.tmp 2] Tryz.func169 rfl rfl rfl rfl rfl (by simp) ?_
  refine Vb X0 ?_
  exact aK rfl rfl
theorem adu (m:aj) (P:List Nd) (hm:VM m) (hP:PB P):an Tryz.prog 125 [.agg (ar m),.agg (cH P)] [] (.lit (.bool (lN m P))) []:=by
  have s5:=hP.w0
  have rG:=hm.cls
  generalize ao:lN m P=res
  refine an.aD (fn:=Tryz.f125) 136 0 [.tmp 4] Tryz.func125 rfl rfl rfl rfl rfl (by simp) ?_
  by_cases a9:1≤P.length∧P.length≤20000
  rotate_left
  · rw[S' a9] at ao
    subst ao
    ((repeat' (first|refine Vb @cH.eq_1 ?_|(refine V2 @cH.eq_1 ?_ ?_<;>try with_reducible intro hb)|(refine Xi ?_ ?_<;>try intro ht)|exact Xx|fail)))
    all_goals exact aK rfl rfl
  obtain ⟨jS,iK⟩:=a9
  ((repeat' (first|refine Vb @cH.eq_1 ?_|(refine V2 @cH.eq_1 ?_ ?_<;>try with_reducible intro hb)|(refine Xi ?_ ?_<;>try intro ht)|exact Xx|fail)))
  refine aU (fun i:Nat=>(⟨aw [(2,.ptr 0 0 0),(3,.ptr 1 0 0),(5,.ref 2 1 0 P.length),(25,.tree 5 (rowsOf cL P)),(26,.lit (.int .i64 P.length)),(27,.lit (.int .i64 i))],[.var (ar m),.var (cH P),.arr 1 (ints (jN P.length (iW (P.take i))))]⟩:St))
    (fun i=>i≤P.length∧∀ a,a<i→lM m P.length a (P.getD a default)=true) (fun i=>P.length - i) 0 ⟨aM _,fun a ha=>absurd ha (v9 _)⟩ (by rw[p5];show aB _ _ ⟨_,[_,_,.arr 1 (ints (jN P.length []))]⟩;rw[abY];exact Xv (X2 @cH.eq_1 @xY)) ?_
  rintro i ⟨hi,kQ⟩ Ql aq av
  by_cases hi':i<P.length
  · have cX:=aC (l:=P) (i:=i) (d:=default) hi'
    have b1:=hP.kids _ cX
    have b2:=hP.eU _ cX
    have b3:=hP.dt _ cX
    have b4:=hP.cells _ cX
    have eN:=iD hi'
    have EL:∀ l,iW (P.take (i+1))=iW (P.take i)++l↔l=(P.getD i default).kids:=fun l=>by rw[eN,S8];exact⟨fun h=>(List.append_cancel_left h).symm,fun h=>by rw[h]⟩
    have xp:=S9 (m:=m) hi'
    have hlen:=S7 (n:=0) hm (P.take i) fun y hy=>by
      obtain ⟨a,ha,rfl⟩:=sv hy
      rw[gV] at ha
      have:=kQ a (by omega)
      unfold lM at this
      rw[Bool.and_eq_true,aA,bX (by omega)] at this
      simpa using this.1
    rw[gV] at hlen
    generalize bE:P.getD i default=x at *
    obtain ⟨c,kids,eU,dt,cells⟩:=x
    dsimp only at b1 b2 b3 b4 EL
    have EL:=(EL _).2 rfl
    have cC:¬(ni m ⟨c,kids,eU,dt,cells⟩=true)→res=false:=fun h=>by
      rw[← ao]
      refine xp ?_
      unfold lM
      rw[Cc.2 h,Bool.false_and]
    have s7:∀ j,j<kids.length→¬(o8 P.length i (kids.getD j 0)=true)→res=false:=fun j hj h=>by
      rw[← ao]
      refine xp ?_
      unfold lM
      have:kids.all (o8 P.length i)=false:=by
        rw[Cc]
        intro h2
        rw[gU] at h2
        exact h (h2 _ (aC hj))
      dsimp only
      rw[this,Bool.and_false]
    clear xp
    generalize xw:m.cls.getD c.toNat default=wl at *
    have BF:0≤c∧c<m.cls.length→wl.length≤24:=fun h=>by rw[← xw];exact hm.opt _ (aC (by omega))
    by_cases j7:ni m ⟨c,kids,eU,dt,cells⟩=true
    rotate_left
    · have hr:=cC j7
      unfold ni at j7
      dsimp only at j7
      rw[xw] at j7
      by_cases jf:c = -1
      · rw[if_pos jf,decide_eq_true_eq] at j7
        ((repeat' (first|refine Va (X3 @cH.eq_1 @bE @cL.eq_1) ?_|(refine V2 (X3 @cH.eq_1 @bE @cL.eq_1) ?_ ?_<;>try with_reducible intro hb)|(refine Xi ?_ ?_<;>try intro ht)|exact Xx|fail)))
        all_goals
          repeat (refine Xu ?_)
          ((repeat' (first|refine Vb X0 ?_|fail)))
          exact aK rfl (by rw[hr])
      · rw[if_neg jf,decide_eq_true_eq] at j7
        by_cases aJ:0≤c∧c<m.cls.length
        · have BF:=BF aJ
          ((repeat' (first|refine Va (X5 @cH.eq_1 @bE @cL.eq_1 @xw @bD.eq_1) ?_|(refine V2 (X5 @cH.eq_1 @bE @cL.eq_1 @xw @bD.eq_1) ?_ ?_<;>try with_reducible intro hb)|(refine Xi ?_ ?_<;>try intro ht)|exact Xx|fail)))
          all_goals
            repeat (refine Xu ?_)
            ((repeat' (first|refine Vb X0 ?_|fail)))
            exact aK rfl (by rw[hr])
        · ((repeat' (first|refine Va (X3 @cH.eq_1 @bE @cL.eq_1) ?_|(refine V2 (X3 @cH.eq_1 @bE @cL.eq_1) ?_ ?_<;>try with_reducible intro hb)|(refine Xi ?_ ?_<;>try intro ht)|exact Xx|fail)))
          all_goals
            repeat (refine Xu ?_)
            ((repeat' (first|refine Vb X0 ?_|fail)))
            exact aK rfl (by rw[hr])
    have IW:=Eh hm j7
    have adA:(∀ j,j<kids.length→o8 P.length i (kids.getD j 0)=true)→lM m P.length i ⟨c,kids,eU,dt,cells⟩=true:=fun h=>by
      unfold lM
      rw[j7,Bool.true_and,gU]
      intro k hk
      obtain ⟨j,hj,rfl⟩:=sv hk
      have:=h j hj
      rwa [aA,bX hj] at this
    dsimp only at IW
    repeat' (first|((fail_if_success (first|refine ej 7 ?_|refine ek 7 ?_));refine Xr (X3 @cH.eq_1 @bE @cL.eq_1) ?_;intro K hK)|(refine hK _ ?_;clear hK K)|(refine Xi ?_ ?_<;>try intro ht)|refine Xy ?_|refine Xd ?_ ?_|exact Xx|fail)
    (refine aaH ?_);intro Q0 dR oL
    refine CA ⟨aw [(2,.ptr 0 0 0),(3,.ptr 1 0 0),(5,.ref 2 1 0 P.length),(6,.lit (.int .i64 i)),(7,.ptr 3 0 0),(25,.tree 5 (rowsOf cL P)),(26,.lit (.int .i64 P.length)),(27,.lit (.int .i64 i))],[.var (ar m),.var (cH P),.arr 1 (ints (jN P.length (iW (P.take i)))),.var (cL ⟨c,kids,eU,dt,cells⟩)]⟩ dR ?_ (fun key=>?_)
    rotate_left
    · (try clear dR)
      unfold ni at j7
      dsimp only at j7
      rw[xw] at j7
      by_cases jf:c = -1
      · rw[if_pos jf,decide_eq_true_eq] at j7
        ((repeat' (first|refine Va (X3 @cH.eq_1 @bE @cL.eq_1) ?_|(refine V2 (X3 @cH.eq_1 @bE @cL.eq_1) ?_ ?_<;>try with_reducible intro hb)|(refine Xi ?_ ?_<;>try intro ht)|exact Xx|fail)))
        all_goals
          refine key _ ?_
          exact Xv (X2 @cH.eq_1 @cL.eq_1)
      · rw[if_neg jf,decide_eq_true_eq] at j7
        have BF:=BF ⟨j7.1,j7.2.1⟩
        ((repeat' (first|refine Va (X5 @cH.eq_1 @bE @cL.eq_1 @xw @bD.eq_1) ?_|(refine V2 (X5 @cH.eq_1 @bE @cL.eq_1 @xw @bD.eq_1) ?_ ?_<;>try with_reducible intro hb)|(refine Xi ?_ ?_<;>try intro ht)|exact Xx|fail)))
        all_goals
          refine key _ ?_
          exact Xv (X2 @cH.eq_1 @cL.eq_1)
    (try clear dR;try clear oL)
    refine Va (X2 @cH.eq_1 @cL.eq_1) ?_
    refine aU (fun j:Nat=>(⟨aw [(2,.ptr 0 0 0),(3,.ptr 1 0 0),(5,.ref 2 1 0 P.length),(6,.lit (.int .i64 i)),(25,.tree 5 (rowsOf cL P)),(26,.lit (.int .i64 P.length)),(27,.lit (.int .i64 i)),(108,.tree 1 (ints kids)),(109,.lit (.int .i64 kids.length)),(110,.lit (.int .i64 j))],[.var (ar m),.var (cH P),.arr 1 (ints (jN P.length (iW (P.take i)++kids.take j)))]⟩:St))
      (fun j=>j≤kids.length∧∀ a,a<j→o8 P.length i (kids.getD a 0)=true) (fun j=>kids.length - j) 0 ⟨aM _,fun a ha=>absurd ha (v9 _)⟩ (by rw[p5,List.append_nil];exact Xs false [0,1,2] @cH.eq_1) ?_
    rintro j ⟨hj,UT⟩ eo bP bM
    by_cases c9:j<kids.length
    · have rI:=iD c9
      have hkd:kids.getD j default=kids.getD j 0:=rfl
      have adC:=s7 j c9
      rw[hkd] at rI
      have sK:(iW (P.take i)++kids.take j).length≤24 * P.length+24:=by rw[List.length_append,gV];omega
      generalize iX:kids.getD j 0=k at *
      by_cases BG:o8 P.length i k=true
      rotate_left
      · have hr:=adC BG
        unfold o8 at BG
        rw[decide_eq_true_eq] at BG
        ((repeat' (first|refine Va (X2 @cH.eq_1 @iX) ?_|(refine V2 (X2 @cH.eq_1 @iX) ?_ ?_<;>try with_reducible intro hb)|(refine Xi ?_ ?_<;>try intro ht)|exact Xx|fail)))
        all_goals
          repeat (refine Xu ?_)
          ((repeat' (first|refine Vb X0 ?_|fail)))
          exact aK rfl (by rw[hr])
      have UU:=BG
      unfold o8 at UU
      rw[decide_eq_true_eq] at UU
      have L6:=abZ (n:=P.length) (l:=iW (P.take i)++kids.take j) (j:=k.toNat) (by omega)
      have cq:=Eg P.length (iW (P.take i)++kids.take j)
      have oH:=abX P.length (iW (P.take i)++kids.take j) k.toNat (by omega)
      rw[Int.toNat_of_nonneg (by omega),List.append_assoc,← rI] at oH
      ((repeat' (first|refine Va (X3 @cH.eq_1 @iX @cq) ?_|(refine V2 (X3 @cH.eq_1 @iX @cq) ?_ ?_<;>try with_reducible intro hb)|(refine Xi ?_ ?_<;>try intro ht)|exact Xx|fail)))
      refine bP _ (j+1) ⟨by omega,fun a ha=>?_⟩ (by omega) (by rw[oH];exact Xv @cH.eq_1)
      by_cases e:a=j
      · subst e;rw[iX];exact BG
      · exact UT a (by omega)
    · obtain rfl:j=kids.length:=by omega
      rw[ss,← EL]
      ((repeat' (first|refine Va X0 ?_|(refine V2 X0 ?_ ?_<;>try with_reducible intro hb)|(refine Xi ?_ ?_<;>try intro ht)|exact Xx|fail)))
      refine bM _ _ rfl ?_
      clear bP bM eo
      repeat (refine Xu ?_)
      refine Va X0 ?_
      refine aq _ (i+1) ⟨by omega,fun a ha=>?_⟩ (by omega) (Xv @cH.eq_1)
      by_cases e:a=i
      · subst e;rw[bE];exact adA UT
      · exact kQ a (by omega)
  · obtain rfl:i=P.length:=by omega
    rw[ss]
    have lJ:=Ta (m:=m) ⟨jS,iK⟩ kQ
    rw[ao] at lJ
    have IY:=R3 ((jN P.length (iW P)).drop 1) 169 [] [] (fun x=>x != 1) (by rw[v5,Eg];omega) (fun x _=>adz x)
    have cq:=Eg P.length (iW P)
    have nm:(ints (jN P.length (iW P))).drop 1=ints ((jN P.length (iW P)).drop 1):=by unfold ints;rw[List.map_drop]
    have xn:((jN P.length (iW P)).drop 1).length=P.length - 1:=by rw[v5,Eg]
    ((repeat' (first|refine Va X0 ?_|(refine Xi ?_ ?_<;>try intro ht)|exact Xx|fail)))
    refine av _ _ rfl ?_;clear aq av Ql
    repeat (refine Xu ?_)
    generalize jN P.length (iW P)=pc at *
    refine bJ (σ':=⟨aw [(5,.tree 1 (ints pc))],[]⟩) (by rw[← cq];exact Xs true [] X0) ?_
    ((repeat' (first|refine Vd (X4 @cq @nm @xn @Option.map_none.{0,0}) IY ?_|refine VD ?_ ?_|fail)))
    · intro _;trivial
    exact aK rfl (by rw[lJ])
end T

