import Derived.Test.YtdipcmigdbnheaaGreatX40
import Derived.Test.YtdipcmigdbnheaaGreatX38
set_option linter.unusedVariables false
set_option linter.unusedSimpArgs false
set_option linter.unnecessarySimpa false
set_option linter.unusedSectionVars false
set_option maxHeartbeats 64000000
set_option maxRecDepth 20000
open List renaming getElem?_eq_some_iff→aQ,getElem?_set_ne→bm,append_assoc→dI,length_append→bV,length_set→bI,getElem?_map→cm,getD_eq_getElem?_getD→aA,getElem?_eq_getElem→bX,set_set→Cf,set_cons_zero→qW,length_singleton→v8,Perm→p7,getElem?_set→b6,replicate→bY
open And renaming intro→fB
open Go Go.Am Go.Proofs
open Nat (reduceEqDiff reduceAdd reduceLeDiff reduceMul)
open Int (reduceNeg reduceLE reduceToNat)
namespace T
theorem EN:ty Tryz.prog 113 = { kind:=9,size:=1,bytes:=8,elem:=0,len:=0,zero:=some [.nilFunc],aL:=[] }:=by kernel_rfl
theorem ad7 (m:aj) (hm:VM m) (pv:AV) (t0:Int):∀ (f c:Nat) (left:List (List Bool)) (os:List Ob) (g:QS) (C:List (Nat × Ob)),left.length+1≤f+c→c≤left.length→eG m left→os.length=g.n→(0≤g.s.spl∧g.s.spl≤1000000)→(0≤g.s.room∧(g.R.length:Int)+g.s.room≤1000000)→g.s.aX≤t0→Fc (qB 103 m left pv t0 g C) os→∀ res,kq m f c left g=res →
    an Tryz.prog 103 [.lit (.int .i64 (c:Nat)),.ptr 8 0 0,.ptr 5 0 0,.ptr 0 0 0,.ptr 1 0 0,.ptr 2 0 0,.ptr 7 0 0,.ptr 6 0 0,.ptr 9 0 0] os (.lit (.int .i64 g.R.length)) (canon (qB 103 m left pv t0 res C) res.n):=by
  intro f
  induction f with
  | zero=>intro c left os g C hf hc;omega
  | succ f ih =>
    intro c left os g C hf hc dZ tT wj mC A6 hF res ao
    have eP:=dZ.1
    have rG:=hm.cls
    have m6:=aaf m left hm dZ
    obtain ⟨k1,k2,k3,k4⟩:=xo (left:=left) _ c rfl
    have f8:os[8]?=some (.var [.ref g.p 5 0 g.R.length]):=lv hF (b:=(8,.var [.ref g.p 5 0 g.R.length])) (by simp[bB])
    have fp:=I1 hF
    have hn9:9<g.n:=by rw[← tT];exact (aQ.1 (lv hF (b:=(9,.var [.fn 103 xy])) (by simp[bB]))).1
    have VH:g.p≠8:=U4 hF (b:=(8,.var [.ref g.p 5 0 g.R.length])) (by simp[bB])
    have g8:(os.set g.p .gone)[8]?=some (.var [.ref g.p 5 0 g.R.length]):=by rw[bm VH];exact f8
    have mN:=adG hF (g.n+2) (g.s.nodes++[lp []])
    have BM:=EM (dn:=103) (m:=m) (left:=left) (pv:=pv) (t0:=t0) (N:=left.length) (f+1) c left g C rfl hf hc (by rw[← tT];exact hF.fk)
    rw[ao] at BM
    rw[kq] at ao
    refine an.aD (fn:=Tryz.f103) 132 os.length [.tmp 10] Tryz.func103 rfl rfl rfl rfl rfl (by simp) ?_
    (((refine Va (X5 @f8 @fp @g8 (bK g8) (X5 (hU g8) (bK f8) (bK fp) (hU f8) (X5 (hU fp) @dC @dI.{0} @bV.{0} @bI.{0}))) ?_)))
    refine bJ (σ':=⟨aw [(0,.lit (.int .i64 (c:Nat))),(1,.ptr 8 0 0),(2,.ptr 5 0 0),(3,.ptr 0 0 0),(4,.ptr 1 0 0),(5,.ptr 2 0 0),(6,.ptr 7 0 0),(7,.ptr 6 0 0),(8,.ptr 9 0 0),(11,.lit (.int .i64 g.R.length))],(os.set g.p .gone).set 8 (.var [.ref (os.length+1) 5 0 (g.R.length+1)])++[.arr 5 [cj cK],.arr 5 (rowsOf cj (g.R++[cK]))]⟩) (by rw[← aaE];exact Xv X0) ?_
    have BQ:((os.set g.p .gone).set 8 (.var [.ref (os.length+1) 5 0 (g.R.length+1)])++[Ob.arr 5 [cj cK],Ob.arr 5 (rowsOf cj (g.R++[cK]))]).length=g.n+2:=by simp[tT]
    rw[show os.length+1=g.n+1 by omega] at mN BQ ⊢
    generalize (os.set g.p .gone).set 8 (.var [.ref (g.n+1) 5 0 (g.R.length+1)])++[Ob.arr 5 [cj cK],Ob.arr 5 (rowsOf cj (g.R++[cK]))]=o1 at *
    clear f8 fp VH g8 hF
    have fh:(g.R++[cK]).length=g.R.length+1:=by simp
    have hRg:(g.R++[cK]).getD g.R.length default=cK:=U1 g.R
    have c0:o1[0]?=some (.var (ar m)):=lv mN (b:=(0,.var (ar m))) (by simp[bB])
    have c4:o1[4]?=some (.arr 1 (rowsOf bg left)):=lv mN (b:=(4,.arr 1 (rowsOf bg left))) (by simp[bB])
    have c5:o1[5]?=some (.var [.ref 4 1 0 left.length]):=lv mN (b:=(5,.var [.ref 4 1 0 left.length])) (by simp[bB])
    have wY:∀ k,k<left.length→(rowsOf bg left)[k]?=some [.tree 1 (aY (left.getD k default))]:=fun k hk=>by
      unfold rowsOf;rw[cm,aA,bX hk];rfl
    have DD:∀ k,k<left.length→(left.getD k default).length≤24:=fun k hk=>by rw[dZ.2 k hk];exact hm.opt _ (aC (by omega))
    refine aU (fun k:Nat=>(⟨aw [(0,.lit (.int .i64 (k:Nat))),(1,.ptr 8 0 0),(2,.ptr 5 0 0),(3,.ptr 0 0 0),(4,.ptr 1 0 0),(5,.ptr 2 0 0),(6,.ptr 7 0 0),(7,.ptr 6 0 0),(8,.ptr 9 0 0),(11,.lit (.int .i64 g.R.length))],o1⟩:St)) (fun k=>c≤k∧k≤left.length∧cJ left k=cJ left c) (fun k=>left.length - k) c ⟨Nat.le_refl _,hc,rfl⟩ (Xv X0) ?_
    rintro k ⟨gy,bS,pT⟩ Ql aq av
    by_cases cQ:k<left.length∧(left.getD k default).length=1
    · have tz:=wY k cQ.1
      have BD:=IA cQ
      generalize left.getD k default=row at *
      ((repeat' (first|refine Va (X3 @c4 @c5 @tz) ?_|(refine V2 (X3 @c4 @c5 @tz) ?_ ?_<;>try with_reducible intro hb)|(refine Xi ?_ ?_<;>try intro ht)|exact Xx|fail)))
      all_goals exact aq _ (k+1) ⟨by omega,by omega,by rw[← BD,pT]⟩ (by omega) (Xv X0)
    have iX:k=cJ left c:=by rw[← pT,EA cQ]
    have VI:∀ st,aB os.length st ⟨aw [(0,.lit (.int .i64 (k:Nat))),(1,.ptr 8 0 0),(2,.ptr 5 0 0),(3,.ptr 0 0 0),(4,.ptr 1 0 0),(5,.ptr 2 0 0),(6,.ptr 7 0 0),(7,.ptr 6 0 0),(8,.ptr 9 0 0),(11,.lit (.int .i64 g.R.length))],o1⟩→Ql (.exit 0) st:=fun st eN=>by
      refine av _ _ rfl ?_
      clear aq av
      repeat (refine Xu ?_)
      refine bJ eN ?_
      clear eN st
      rw[← iX] at ao k1 k2 k3 k4
      clear iX pT
      have rH:dV o1 [] ([]:List Ob)=o1:=by simp[dV]
      ((refine Va (X2 @c0 @c5) ?_)<;>try with_reducible intro K hK)
      refine nI [] m6 (by decide) trivial ⟨.pure rfl,aE.fz c4 (by rw[b8]),trivial⟩ rfl (by simp) ?_
      rw[List.map_nil,rH]
      simp (disch:=omega) only[Ac,↓Pc,simprocAttr]
      refine hK _ ?_
      clear hK K
      generalize hv:dN m left=v at *
      have c1:o1[1]?=some (.var [dF pv t0 g.s,.lit (.int .i64 g.s.aX),.lit (.int .i64 g.s.b9),.lit (.slice none 0 0)]):=lv mN (b:=(1,rZ pv t0 g.s)) (by simp[bB,rZ,dF])
      have c2:o1[2]?=some (.var [.lit (.int .i64 g.s.spl)]):=lv mN (b:=(2,.var [.lit (.int .i64 g.s.spl)])) (by simp[bB])
      have c6:o1[6]?=some (.var [.lit (.bool g.s.whole)]):=lv mN (b:=(6,.var [.lit (.bool g.s.whole)])) (by simp[bB])
      have c7:o1[7]?=some (.var [.lit (.int .i64 g.s.room)]):=lv mN (b:=(7,.var [.lit (.int .i64 g.s.room)])) (by simp[bB])
      by_cases sH:g.s.aX≤v
      · rw[if_pos sH] at ao
        dsimp only at ao mN
        have qT:Fc (qB 103 m left pv t0 res C) (o1.set 1 (.var [dF pv t0 g.s,.lit (.int .i64 g.s.aX),.lit (.int .i64 (min g.s.b9 v)),.lit (.slice none 0 0)])):=by
          subst ao;exact vT mN
        have oh:res.n=o1.length:=by rw[← ao,BQ]
        clear ao
        have EP:=fun y:Ob=>iT (y:=y) c1
        repeat' (first|((fail_if_success (first|refine ej 8 ?_|refine ek 8 ?_));refine Xr (X2 @c1 @EP) ?_;intro K hK)|(refine hK _ ?_;clear hK K)|(refine Xi ?_ ?_<;>try intro ht)|refine Xy ?_|exact Xx|fail)
        refine bJ (σ':=⟨aw [(11,.lit (.int .i64 g.R.length))],o1.set 1 (.var [dF pv t0 g.s,.lit (.int .i64 g.s.aX),.lit (.int .i64 (min g.s.b9 v)),.lit (.slice none 0 0)])⟩) (Xv X0) ?_
        refine bJ (aB.canon qT) ?_
        dsimp only
        rw[bI,← oh]
        refine Vb X0 ?_
        exact fJ rfl (by rw[xb];omega) rfl
      rw[if_neg sH] at ao
      by_cases cw:k=left.length
      · rw[if_pos cw] at ao
        have ep:=Z2 left (by omega) (fun l hl=>by
          obtain ⟨i,hi,rfl⟩:=List.getElem_of_mem hl
          have:=DD i hi
          rwa [aA,bX hi] at this)
        have IY:dV o1 [] (List.map (bO (br o1.length [])) [Ob.arr 1 (ints (iQ left))])=o1++[Ob.arr 1 (ints (iQ left))]:=by simp[dV,oD]
        have xg:∀ x,(o1++[x])[1]?=some (.var [dF pv t0 g.s,.lit (.int .i64 g.s.aX),.lit (.int .i64 g.s.b9),.lit (.slice none 0 0)]):=fun x=>bK c1 _
        have VJ:∀ x y,((o1++[x]).set 1 y)[1]?=some y:=fun x y=>iT (xg x)
        have jS:∀ x y z,((o1++[x]).set 1 y).set 1 z=(o1++[x]).set 1 z:=fun x y z=>Cf ..
        have VK:1≠o1.length:=by omega
        have jc:(ints (iQ left)).length=left.length:=by simp[ints,iQ]
        dsimp only at ao mN
        have qT:Fc (qB 103 m left pv t0 res C) ((o1++[Ob.gone]).set 1 (.var [.tree 1 (ints (iQ left)),.lit (.int .i64 v),.lit (.int .i64 (min g.s.b9 v)),.lit (.slice none 0 0)])):=by
          subst ao
          exact vT (mN.app [Ob.gone]) (hy:=by simp[bB,rZ,dF,show v<t0 by omega])
        have oh:res.n=o1.length+1:=by rw[← ao,BQ]
        clear ao
        have kz:∀ X:Ob,((o1++[Ob.arr 1 (ints (iQ left))]).set 1 X)[o1.length]?=some (.arr 1 (ints (iQ left))):=fun X=>by rw[bm VK];exact mi _ _ _
        have gm:∀ X Y:Ob,(((o1++[Ob.arr 1 (ints (iQ left))]).set 1 X).set o1.length .gone).set 1 Y=(o1++[Ob.gone]).set 1 Y:=fun X Y=>by rw[List.set_comm _ _ VK,Cf,ze]
        repeat' (first|((fail_if_success (first|refine ej 10 ?_|refine ek 10 ?_));refine Xr (X3 @c1 @c4 @c5) ?_;intro K hK)|(refine hK _ ?_;clear hK K)|(refine Xi ?_ ?_<;>try intro ht)|refine Xy ?_|exact Xx|fail)
        refine jT [] (.take 0 (.take 2 (.take 5 (.both 1 (.take 3 (.take 4 (.take 6 (.take 7 (.take 8 (.take 9 (.take 10 (.take 11 (.take 12 .nil))))))))) 3 (.both 1 (.take 4 (.take 6 (.take 7 (.take 8 (.take 9 (.take 10 (.take 11 (.take 12 .nil)))))))) 4 (.take 1 (.take 6 (.take 7 (.take 8 (.take 9 (.take 10 (.take 11 (.take 12 .nil))))))))))))) rfl (by decide) (by decide +kernel) ?_
        simp (disch:=omega) only[Ac,↓Pc,simprocAttr,Pw,c1,c4,c5]
        repeat' (with_reducible refine fB ?_ ?_)
        all_goals
          refine nI [] ep (by decide) trivial ⟨aE.fz c4 (by rw[b8]),trivial⟩ rfl (by simp[tP,ints,flat]) ?_
          rw[IY]
          simp (disch:=omega) only[Ac,↓Pc,simprocAttr,Pw,c1,xg,VJ,jS]
        all_goals
          repeat (refine Xu ?_)
          refine bJ (σ':=⟨aw [(11,.lit (.int .i64 g.R.length))],(o1++[Ob.arr 1 (ints (iQ left))]).set 1 (.var [.ref o1.length 1 0 (ints (iQ left)).length,.lit (.int .i64 v),.lit (.int .i64 (min g.s.b9 v)),.lit (.slice none 0 0)])⟩) (by rw[jc];exact Xv X0) ?_
          refine bJ (aB.sM o1.length 1 0 1 (VJ _ _) (kz _) rfl (oE _) (pw _)) ?_
          simp only[qW]
          rw[gm]
          refine bJ (aB.canon qT) ?_
          dsimp only
          rw[bI,bV,v8,← oh]
          ((repeat' (first|refine Vb X0 ?_|fail)))
          exact fJ rfl (by rw[xb];omega) rfl
      rw[if_neg cw] at ao
      have cw:k<left.length:=by omega
      have tz:=wY k cw
      have dm:=k4 cw
      have a7:=DD k cw
      generalize cd:left.getD k default=row at *
      by_cases Jd:g.s.spl=0∨g.s.room<row.length
      · rw[if_pos Jd] at ao
        dsimp only at ao mN
        have qT:Fc (qB 103 m left pv t0 res C) ((o1.set 1 (.var [dF pv t0 g.s,.lit (.int .i64 g.s.aX),.lit (.int .i64 (min g.s.b9 v)),.lit (.slice none 0 0)])).set 6 (.var [.lit (.bool false)])):=by
          subst ao
          have h1:=vT (i:=1) (y:=(.var [dF pv t0 g.s,.lit (.int .i64 g.s.aX),.lit (.int .i64 (min g.s.b9 v)),.lit (.slice none 0 0)])) (left':=left) (g':=⟨g.n+2,g.n+1,g.R++[cK],{ g.s with nodes:=g.s.nodes++[lp []],b9:=min g.s.b9 v }⟩) mN
          exact vT h1
        have oh:res.n=o1.length:=by rw[← ao,BQ]
        clear ao
        have VL:∀ x,(o1.set 1 x)[6]?=some (.var [.lit (.bool g.s.whole)]):=fun x=>by rw[bm (by decide)];exact c6
        have EP:=fun y:Ob=>iT (y:=y) c1
        repeat' (first|((fail_if_success (first|refine ej 14 ?_|refine ek 14 ?_));refine Xr (X5 @c1 @c2 @c4 @c5 (X4 @c7 @tz @EP @VL)) ?_;intro K hK)|(refine hK _ ?_;clear hK K)|(refine Xg (X5 @c1 @c2 @c4 @c5 (X4 @c7 @tz @EP @VL)) ?_ ?_<;>try intro hb)|(refine Xi ?_ ?_<;>try intro ht)|refine Xy ?_|refine Xd ?_ ?_|exact Xx|fail)
        all_goals
          refine bJ (σ':=⟨aw [(11,.lit (.int .i64 g.R.length))],(o1.set 1 (.var [dF pv t0 g.s,.lit (.int .i64 g.s.aX),.lit (.int .i64 (min g.s.b9 v)),.lit (.slice none 0 0)])).set 6 (.var [.lit (.bool false)])⟩) (Xv X0) ?_
          refine bJ (aB.canon qT) ?_
          dsimp only
          rw[bI,bI,← oh]
          ((repeat' (first|refine Vb X0 ?_|fail)))
          exact fJ rfl (by rw[xb];omega) rfl
      rw[if_neg Jd] at ao
      rw[not_or] at Jd
      unfold j3 at ao
      rw[cd] at ao
      have c8:o1[8]?=some (.var [.ref (g.n+1) 5 0 (g.R.length+1)]):=lv mN (b:=(8,.var [.ref (g.n+1) 5 0 (g.R.length+1)])) (by simp[bB])
      have qT:Fc (qB 103 m left pv t0 ⟨g.n+2,g.n+1,g.R++[cK],⟨g.s.nodes++[lp []],g.s.room - row.length,g.s.spl - 1,g.s.whole,g.s.plan,g.s.aX,g.s.b9⟩⟩ C) ((o1.set 2 (.var [.lit (.int .i64 (g.s.spl - 1))])).set 7 (.var [.lit (.int .i64 (g.s.room - row.length))])):=by
        have h1:=vT (i:=2) (y:=(.var [.lit (.int .i64 (g.s.spl - 1))])) (left':=left) (g':=⟨g.n+2,g.n+1,g.R++[cK],{ g.s with nodes:=g.s.nodes++[lp []],spl:=g.s.spl - 1 }⟩) mN
        exact vT h1
      have Je:∀ x,(o1.set 2 x)[7]?=some (.var [.lit (.int .i64 g.s.room)]):=fun x=>by rw[bm (by decide)];exact c7
      have Jf:∀ x,(o1.set 2 x)[4]?=some (.arr 1 (rowsOf bg left)):=fun x=>by rw[bm (by decide)];exact c4
      have Jg:∀ x,(o1.set 2 x)[5]?=some (.var [.ref 4 1 0 left.length]):=fun x=>by rw[bm (by decide)];exact c5
      repeat' (first|((fail_if_success (first|refine ej 18 ?_|refine ek 18 ?_));refine Xr (X5 @c1 @c2 @c4 @c5 (X5 @c7 @tz @Je @Jf @Jg)) ?_;intro K hK)|(refine hK _ ?_;clear hK K)|(refine Xg (X5 @c1 @c2 @c4 @c5 (X5 @c7 @tz @Je @Jf @Jg)) ?_ ?_<;>try intro hb)|(refine Xi ?_ ?_<;>try intro ht)|refine Xy ?_|refine Xd ?_ ?_|exact Xx|fail)
      refine bJ (σ':=⟨aw [(0,.lit (.int .i64 (k:Nat))),(1,.ptr 8 0 0),(2,.ptr 5 0 0),(3,.ptr 0 0 0),(4,.ptr 1 0 0),(5,.ptr 2 0 0),(6,.ptr 7 0 0),(7,.ptr 6 0 0),(8,.ptr 9 0 0),(11,.lit (.int .i64 g.R.length)),(13,.tree 1 (aY row))],(o1.set 2 (.var [.lit (.int .i64 (g.s.spl - 1))])).set 7 (.var [.lit (.int .i64 (g.s.room - row.length))])⟩) (Xv X0) ?_
      have ER:((o1.set 2 (.var [.lit (.int .i64 (g.s.spl - 1))])).set 7 (.var [.lit (.int .i64 (g.s.room - row.length))])).length=g.n+2:=by simp[BQ]
      generalize (o1.set 2 (.var [.lit (.int .i64 (g.s.spl - 1))])).set 7 (.var [.lit (.int .i64 (g.s.room - row.length))])=o2 at *
      clear c0 c1 c2 c4 c5 c6 c7 c8 Je Jf Jg mN
      refine Va @dC ?_
      refine bJ (aB.ld o2.length 1 1 (mi _ _ _) rfl (by decide)) ?_
      simp only[List.set_cons_succ,qW,dI,List.cons_append,List.nil_append,bV,v8,ze]
      rw[ER]
      refine bJ (σ':=⟨aw [(0,.lit (.int .i64 (k:Nat))),(1,.ptr 8 0 0),(2,.ptr 5 0 0),(3,.ptr 0 0 0),(4,.ptr 1 0 0),(5,.ptr 2 0 0),(6,.ptr 7 0 0),(7,.ptr 6 0 0),(8,.ptr 9 0 0),(11,.lit (.int .i64 g.R.length)),(13,.tree 1 (aY row)),(14,.ptr (g.n+2) 0 0),(96,.tree 1 (aY row)),(97,.lit (.int .i64 row.length)),(98,.lit (.int .i64 (0:Nat)))],o2++[.var (cj ⟨k,some (g.n+3,[]),none⟩),.arr 1 (ints [])]⟩) (Xv X0) ?_
      have VN:Fc (qB 103 m (left.set k row) pv t0 ⟨g.n+4,g.n+1,g.R++[cK],⟨g.s.nodes++[lp []],g.s.room - row.length,g.s.spl - 1,g.s.whole,g.s.plan,g.s.aX,g.s.b9⟩⟩ ((g.n+3,.arr 1 (ints []))::(g.n+2,.var (cj ⟨k,some (g.n+3,[]),none⟩))::C)) (o2++[.var (cj ⟨k,some (g.n+3,[]),none⟩),.arr 1 (ints [])]):=by
        have e:left.set k row=left:=by rw[← cd];exact setRow_self cw
        rw[e]
        have qT:Fc (qB 103 m left pv t0 ⟨g.n+4,g.n+1,g.R++[cK],⟨g.s.nodes++[lp []],g.s.room - row.length,g.s.spl - 1,g.s.whole,g.s.plan,g.s.aX,g.s.b9⟩⟩ C) o2:=qT
        have h1:=(qT.app [Ob.var (cj ⟨k,some (g.n+3,[]),none⟩),Ob.arr 1 (ints [])]).add (k:=g.n+2) (x:=.var (cj ⟨k,some (g.n+3,[]),none⟩)) (by rw[← ER];exact mi _ _ _) (qT.fresh (by omega))
        have h2:=h1.add (k:=g.n+3) (x:=.arr 1 (ints [])) (by rw[show g.n+3=o2.length+1 by omega,nj];rfl) (by
          rw[List.map_cons,List.mem_cons,not_or]
          exact⟨by dsimp only;omega,qT.fresh (by omega)⟩)
        exact h2.perm ((p7.cons _ pU).trans pU)
      have VO:(o2++[Ob.var (cj ⟨k,some (g.n+3,[]),none⟩),Ob.arr 1 (ints [])]).length=g.n+4:=by simp[ER]
      generalize o2++[Ob.var (cj ⟨k,some (g.n+3,[]),none⟩),Ob.arr 1 (ints [])]=o3 at *
      clear qT ER o2
      generalize ow:jQ (kq m f (k+1)) left k row.length 0 ⟨g.n+4,g.n+1,g.R++[cK],⟨g.s.nodes++[lp []],g.s.room - row.length,g.s.spl - 1,g.s.whole,g.s.plan,g.s.aX,g.s.b9⟩⟩ (g.n+3) []=RR at *
      refine aU (fun z:Nat × QS × Nat × List Int × List Ob × List Bool=>(⟨aw [(0,.lit (.int .i64 (k:Nat))),(1,.ptr 8 0 0),(2,.ptr 5 0 0),(3,.ptr 0 0 0),(4,.ptr 1 0 0),(5,.ptr 2 0 0),(6,.ptr 7 0 0),(7,.ptr 6 0 0),(8,.ptr 9 0 0),(11,.lit (.int .i64 g.R.length)),(13,.tree 1 (aY row)),(14,.ptr (g.n+2) 0 0),(97,.lit (.int .i64 row.length)),(98,.lit (.int .i64 z.1))],z.2.2.2.2.1⟩:St))
        (fun z=>z.1≤row.length∧z.2.2.2.1.length=z.1∧g.R.length<z.2.1.R.length∧z.2.1.R.getD g.R.length default=cK∧z.2.2.2.2.1.length=z.2.1.n∧g.n≤z.2.1.n∧Fc (qB 103 m (left.set k z.2.2.2.2.2) pv t0 z.2.1 ((z.2.2.1,.arr 1 (ints z.2.2.2.1))::(g.n+2,.var (cj ⟨k,some (z.2.2.1,z.2.2.2.1),none⟩))::C)) z.2.2.2.2.1 ∧
          jQ (kq m f (k+1)) left k (row.length - z.1) z.1 z.2.1 z.2.2.1 z.2.2.2.1=RR∧(z.2.1.R.length:Int)+z.2.1.s.room=g.R.length+1+g.s.room - row.length+z.1∧0≤z.2.1.s.room∧(0≤z.2.1.s.spl∧z.2.1.s.spl≤1000000)∧z.2.1.s.aX≤t0) (fun z=>row.length - z.1)
        (0,⟨g.n+4,g.n+1,g.R++[cK],⟨g.s.nodes++[lp []],g.s.room - row.length,g.s.spl - 1,g.s.whole,g.s.plan,g.s.aX,g.s.b9⟩⟩,g.n+3,[],o3,row) ⟨Nat.zero_le _,rfl,by dsimp only;omega,hRg,VO,by dsimp only;omega,VN,ow,by dsimp only;rw[fh];omega,by dsimp only;omega,by dsimp only;omega,A6⟩ (Xv X0) ?_
      clear VN VO o3 ow
      rintro ⟨i,gg,q,ks,o,x⟩ ⟨hi,pT,ES,ET,fT,hgn,r9,hr,hbr,y7,mB,iv⟩ ma gM eV
      dsimp only at hi pT ES ET fT hgn r9 hr hbr y7 mB iv ⊢
      have d4:o[4]?=some (.arr 1 (rowsOf bg (left.set k x))):=lv r9 (b:=(4,.arr 1 (rowsOf bg (left.set k x)))) (by simp[bB])
      have d5:o[5]?=some (.var [.ref 4 1 0 left.length]):=lv r9 (b:=(5,.var [.ref 4 1 0 left.length])) (by simp[bB])
      have d9:o[9]?=some (.var [.fn 103 [.ptr 8 0 0,.ptr 5 0 0,.ptr 0 0 0,.ptr 1 0 0,.ptr 2 0 0,.ptr 7 0 0,.ptr 6 0 0,.ptr 9 0 0]]):=lv r9 (b:=(9,.var [.fn 103 xy])) (by simp[bB])
      have dv:o[g.n+2]?=some (.var (cj ⟨k,some (q,ks),none⟩)):=BI r9 (b:=(g.n+2,.var (cj ⟨k,some (q,ks),none⟩))) (by simp)
      have h4l:=(aQ.1 d4).1
      have aex:k<(left.set k x).length:=by rw[bI];exact cw
      have cF:(rowsOf bg (left.set k x)).length=left.length:=by rw[b8,bI]
      by_cases hi':i<row.length
      · have EU:(rowsOf bg (left.set k x))[k]?=some [.tree 1 (aY x)]:=by
          unfold rowsOf
          rw[cm,b6,if_pos rfl,if_pos cw];rfl
        have gm:∀ y,((rowsOf bg (left.set k x)).set k y)[k]?=some y:=fun y=>by rw[b6,if_pos rfl,if_pos (by rw[cF];exact cw)]
        have e4:∀ A B,((o++[A]).set 4 B)[4]?=some B:=fun A B=>iT (bK d4 _)
        have e5:∀ A B,((o++[A]).set 4 B)[5]?=some (.var [.ref 4 1 0 left.length]):=fun A B=>by rw[bm (by decide)];exact bK d5 _
        have eL:∀ A B,((o++[A]).set 4 B)[o.length]?=some A:=fun A B=>by rw[bm (by omega)];exact mi _ _ _
        have VP:=fun A=>bK d5 [A]
        have zy:=fun A=>bK d4 [A]
        have VQ:(aY (bY row.length false))[i]?=some [.lit (.bool false)]:=by
          unfold aY
          rw[cm,List.getElem?_replicate,if_pos hi'];rfl
        have vP:(aY (lI row.length i)).length=row.length:=by rw[wB,DF]
        have EV:bT left k i=left.set k (lI row.length i):=by unfold bT;rw[cd]
        repeat' (first|((fail_if_success (first|refine ej 24 ?_|refine ek 24 ?_));refine Xr (X5 @d4 @d5 @zy @VP (X5 @EU @gm @e4 @e5 (X5 @eL @cF @VQ @bI.{0} (X2 @bV.{0} @List.length_replicate.{0})))) ?_;intro K hK)|(refine hK _ ?_;clear hK K)|(refine Xi ?_ ?_<;>try intro ht)|refine Xy ?_|refine Xd ?_ ?_|exact Xx|fail)
        refine bJ (σ':=⟨aw [(0,.lit (.int .i64 (k:Nat))),(1,.ptr 8 0 0),(2,.ptr 5 0 0),(3,.ptr 0 0 0),(4,.ptr 1 0 0),(5,.ptr 2 0 0),(6,.ptr 7 0 0),(7,.ptr 6 0 0),(8,.ptr 9 0 0),(11,.lit (.int .i64 g.R.length)),(13,.tree 1 (aY row)),(14,.ptr (g.n+2) 0 0),(97,.lit (.int .i64 row.length)),(98,.lit (.int .i64 i))],((o++[Ob.arr 1 (aY (bY row.length false))]).set 4 (.arr 1 ((rowsOf bg (left.set k x)).set k [.ref o.length 1 0 row.length]))).set o.length (.arr 1 (aY (lI row.length i)))⟩) (by unfold lI;exact Xv X0) ?_
        refine bJ (aB.GY o.length 4 k 0 1 1 (R:=(rowsOf bg (left.set k x)).set k [.ref o.length 1 0 row.length]) (cells:=[.ref o.length 1 0 row.length]) (rows:=aY (lI row.length i)) (by rw[bm (by omega)];exact e4 _ _) (gm _) (iT (eL _ _)) (by rw[vP];rfl) (by omega) (zS _) (Cz _)) ?_
        have VR:∀ A B A' B':Ob,(((((o++[A]).set 4 B).set o.length A').set o.length Ob.gone).set 4 B')=(o++[Ob.gone]).set 4 B':=fun A B A' B'=>by
          rw[Cf,List.set_comm _ _ (show 4≠o.length by omega),Cf,ze]
        rw[VR,Cf]
        simp only[qW]
        rw[U',← EV]
        have zz:Fc (qB 103 m (bT left k i) pv t0 ⟨gg.n+1,gg.p,gg.R,gg.s⟩ ((q,.arr 1 (ints ks))::(g.n+2,.var (cj ⟨k,some (q,ks),none⟩))::C)) ((o++[Ob.gone]).set 4 (.arr 1 (rowsOf bg (bT left k i)))):=by
          rw[EV]
          exact vT (r9.app [Ob.gone])
        have Jh:((o++[Ob.gone]).set 4 (.arr 1 (rowsOf bg (bT left k i)))).length=gg.n+1:=by simp[fT]
        generalize (o++[Ob.gone]).set 4 (.arr 1 (rowsOf bg (bT left k i)))=o4 at *
        clear r9 d4 d5 d9 dv h4l aex cF EU gm e4 e5 eL VP zy VQ VR fT
        have Ex:(bT left k i).length=left.length:=by rw[EV,bI]
        have hG:=ih (k+1) (bT left k i) o4 ⟨gg.n+1,gg.p,gg.R,gg.s⟩ _ (by omega) (by omega) (Ij dZ (He _ _ _)) Jh mB ⟨y7,by dsimp only;omega⟩ iv zz _ rfl
        have Tg:=EM (dn:=103) (m:=m) (left:=bT left k i) (pv:=pv) (t0:=t0) (N:=left.length) f (k+1) (bT left k i) ⟨gg.n+1,gg.p,gg.R,gg.s⟩ _ Ex (by omega) (by omega) (by have:=zz.fk;rw[Jh] at this;exact this)
        have VS:=U6 m (N:=left.length) f (k+1) (bT left k i) ⟨gg.n+1,gg.p,gg.R,gg.s⟩ Ex (by omega) (by omega)
        have aey:=U8 m f (k+1) (bT left k i) ⟨gg.n+1,gg.p,gg.R,gg.s⟩
        rw[show row.length - i=(row.length - (i+1))+1 by omega,jQ] at hr
        have d9:o4[9]?=some (.var [.fn 103 [.ptr 8 0 0,.ptr 5 0 0,.ptr 0 0 0,.ptr 1 0 0,.ptr 2 0 0,.ptr 7 0 0,.ptr 6 0 0,.ptr 9 0 0]]):=lv zz (b:=(9,.var [.fn 103 xy])) (by simp[bB])
        have dv:o4[g.n+2]?=some (.var (cj ⟨k,some (q,ks),none⟩)):=BI zz (b:=(g.n+2,.var (cj ⟨k,some (q,ks),none⟩))) (by simp)
        generalize kq m f (k+1) (bT left k i) ⟨gg.n+1,gg.p,gg.R,gg.s⟩=r at *
        obtain ⟨x1,x2,x3,x4⟩:=Tg
        obtain ⟨y1,y2,y3,y4,y5⟩:=aey
        dsimp only at x1 x2 x3 VS y1 y2 y3 y4 y5 hG
        have qS:=x4.canon
        have xB:=xb (qB 103 m (bT left k i) pv t0 r ((q,.arr 1 (ints ks))::(g.n+2,.var (cj ⟨k,some (q,ks),none⟩))::C)) r.n
        generalize canon (qB 103 m (bT left k i) pv t0 r ((q,.arr 1 (ints ks))::(g.n+2,.var (cj ⟨k,some (q,ks),none⟩))::C)) r.n=o5 at *
        have dq:o5[q]?=some (.arr 1 (ints ks)):=BI qS (b:=(q,.arr 1 (ints ks))) (by simp)
        have BR:o5[g.n+2]?=some (.var (cj ⟨k,some (q,ks),none⟩)):=BI qS (b:=(g.n+2,.var (cj ⟨k,some (q,ks),none⟩))) (by simp)
        have BS:(o5.set q Ob.gone)[g.n+2]?=some (.var (cj ⟨k,some (q,ks),none⟩)):=Bf BR dq (by simp)
        have uG:=adI (X':=.var (cj ⟨k,some (r.n+1,ks++[(gg.R.length:Int)]),none⟩)) (.arr 1 [[.lit (.int .i64 gg.R.length)]]) qS (r.n+2) (.arr 1 (ints (ks++[(gg.R.length:Int)])))
        rw[xB] at uG
        have gy:((k+1:Nat):Int)=(k:Int)+1:=by omega
        have aez:os.length≤o5.length:=by rw[xB,tT];omega
        have aeA:o4.length≤o5.length:=by rw[xB,Jh];exact x3
        rw[gy] at hG
        have aeB:cj ⟨(k:Int),some (o5.length+1,ks++[(gg.R.length:Int)]),none⟩=[.lit (.int .i64 k),.ref (o5.length+1) 1 0 (ks.length+1),.lit (.slice none 0 0),.lit (.slice none 0 0),.lit (.slice none 0 0)]:=by unfold cj kE mE;simp
        unfold cj kE mE at dv BR BS
        dsimp only at dv BR BS
        refine jT [] (.take 2 (.take 3 (.take 4 (.both 0 (.both 1 (.take 5 (.take 6 (.take 7 (.take 8 (.take 9 .nil))))) 5 (.take 1 (.take 6 (.take 7 (.take 8 (.take 9 .nil)))))) 5 (.take 0 (.take 1 (.take 6 (.take 7 (.take 8 (.take 9 .nil)))))))))) rfl (by decide) (by decide +kernel) ?_
        simp (disch:=omega) only[Ac,↓Pc,simprocAttr,Pw,dv,d9,EN]
        repeat' (first|with_reducible refine fB ?_ ?_|omega)
        all_goals
          refine lB hG (by first|exact aeA|exact aez) ?_
          simp (disch:=omega) only[Ac,↓Pc,simprocAttr,Pw,EN,dq,BR,BS,bK dq,hU dq,bK BR,bK BS,hU BS,dC,dI,bV,bI,Cw]
          repeat' (first|with_reducible refine fB ?_ ?_|omega)
        all_goals
          repeat (refine Xu ?_)
          ((repeat' (first|refine Va X0 ?_|fail)))
          refine gM _ (i+1,⟨r.n+2,r.p,r.R,r.s⟩,r.n+1,ks++[(gg.R.length:Int)],(o5.set q Ob.gone).set (g.n+2) (.var (cj ⟨k,some (r.n+1,ks++[(gg.R.length:Int)]),none⟩))++[.arr 1 [[.lit (.int .i64 gg.R.length)]],.arr 1 (ints (ks++[(gg.R.length:Int)]))],lI row.length i) ⟨by dsimp only;omega,by dsimp only;rw[bV,pT];rfl,by dsimp only;omega,(x2 _ ES).trans ET,by dsimp only;simp[xB],by dsimp only;omega,?_,hr,by dsimp only;rw[VS];omega,by dsimp only;omega,by dsimp only;omega,by dsimp only;omega⟩ (by dsimp only;omega) (by dsimp only;rw[← xB,aeB];exact Xv X0)
          rw[← EV]
          exact uG
      · obtain rfl:i=row.length:=by omega
        rw[Nat.sub_self,jQ] at hr
        have G7:gg.p≠4:=U4 r9 (b:=(4,.arr 1 (rowsOf bg (left.set k x)))) (by simp[bB])
        have d8:o[8]?=some (.var [.ref gg.p 5 0 gg.R.length]):=lv r9 (b:=(8,.var [.ref gg.p 5 0 gg.R.length])) (by simp[bB])
        have dp:=I1 r9
        have EU:(rowsOf bg (left.set k x))[k]?=some [.tree 1 (aY x)]:=by
          unfold rowsOf
          rw[cm,b6,if_pos rfl,if_pos cw];rfl
        have Be:left.set k row=left:=by rw[← cd];exact setRow_self cw
        have gr:(rowsOf bg (left.set k x)).set k [.tree 1 (aY row)]=rowsOf bg left:=by rw[U',Be]
        have zz:Fc (qB 103 m left pv t0 gg ((q,.arr 1 (ints ks))::(g.n+2,.var (cj ⟨k,some (q,ks),none⟩))::C)) (o.set 4 (.arr 1 (rowsOf bg left))):=vT r9
        have qS:=((zz.perm pU.symm).perm ((p7.cons _ pU.symm).trans (p7.swap _ _ _))).drop.1.perm pU
        have uG:=adH (c:=(k:Int)) ES ET qS gg.n (tu k g.R.length (gg.s,ks)).nodes
        have lJ:Fc (qB 103 m left pv t0 res C) ((o.set 4 (.arr 1 (rowsOf bg left))).set gg.p (.arr 5 (rowsOf cj (gg.R.set g.R.length ⟨(k:Int),some (q,ks),none⟩)))):=by
          rw[← ao,← hr];exact uG
        have oh:res.n=o.length:=by rw[← ao,← hr];exact fT.symm
        have f5:=fun y=>(show (o.set 4 y)[5]?=some (.var [.ref 4 1 0 left.length]) by rw[bm (by decide)];exact d5)
        have f8:=fun y=>(show (o.set 4 y)[8]?=some (.var [.ref gg.p 5 0 gg.R.length]) by rw[bm (by decide)];exact d8)
        have fp:=fun y=>(show (o.set 4 y)[gg.p]?=some (.arr 5 (rowsOf cj gg.R)) by rw[bm (Ne.symm G7)];exact dp)
        have fv:=fun y=>(show (o.set 4 y)[g.n+2]?=some (.var (cj ⟨k,some (q,ks),none⟩)) by rw[bm (by omega)];exact dv)
        have rJ:=adJ ES ET
        have oI:=adK gg.R g.R.length ⟨(k:Int),some (q,ks),none⟩
        unfold cj kE mE at dv
        unfold cj kE mE cK at rJ
        dsimp only at dv rJ
        ((repeat' (first|refine Va X0 ?_|(refine Xi ?_ ?_<;>try intro ht)|exact Xx|fail)))
        refine eV _ _ rfl ?_
        clear gM eV
        repeat (refine Xu ?_)
        repeat' (first|((fail_if_success (first|refine ej 28 ?_|refine ek 28 ?_));refine Xr (X5 @d4 @d5 @cF @EU (X5 @gr @f5 @f8 @fp (X5 @fv @rJ @cj.eq_1 (X2 @kE.eq_1 @kE.eq_2) (X2 (X2 @mE.eq_1 @mE.eq_2) @OE)))) ?_;intro K hK)|(refine hK _ ?_;clear hK K)|refine Xy ?_|refine Xd ?_ ?_|exact Xx|fail)
        refine bJ (σ':=⟨aw [(11,.lit (.int .i64 g.R.length))],(o.set 4 (.arr 1 (rowsOf bg left))).set gg.p (.arr 5 (rowsOf cj (gg.R.set g.R.length ⟨(k:Int),some (q,ks),none⟩)))⟩) (by rw[← oI];exact Xv X0) ?_
        refine bJ (aB.canon lJ) ?_
        dsimp only
        rw[bI,bI,← oh]
        refine Vb X0 ?_
        exact fJ rfl (by rw[xb];omega) rfl
    by_cases cw:k<left.length
    · have tz:=wY k cw
      have dm:(left.getD k default).length≠1:=fun e=>cQ ⟨cw,e⟩
      generalize left.getD k default=row at *
      ((repeat' (first|refine Va (X3 @c4 @c5 @tz) ?_|(refine V2 (X3 @c4 @c5 @tz) ?_ ?_<;>try with_reducible intro hb)|(refine Xi ?_ ?_<;>try intro ht)|exact Xx|fail)))
      all_goals exact VI _ (Xv X0)
    · ((repeat' (first|refine Va (X2 @c4 @c5) ?_|(refine V2 (X2 @c4 @c5) ?_ ?_<;>try with_reducible intro hb)|(refine Xi ?_ ?_<;>try intro ht)|exact Xx|fail)))
      all_goals exact VI _ (Xv X0)
end T

