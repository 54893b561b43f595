import Derived.Test.YtdipcmigdbnheaaGreatX37
import Derived.Test.YtdipcmigdbnheaaGreatX35
import Derived.Test.YtdipcmigdbnheaaGreatX20
set_option linter.unusedVariables false
set_option linter.unusedSimpArgs false
set_option linter.unnecessarySimpa false
set_option linter.unusedSectionVars false
set_option maxHeartbeats 64000000
set_option maxRecDepth 20000
open List renaming getElem?_eq_some_iff→aY,getElem?_set_ne→cz,append_assoc→dj,length_append→bU,length_set→bF,getElem?_map→bR,getD_eq_getElem?_getD→ay,getElem?_eq_getElem→bm,set_set→r8,set_cons_zero→mY,length_singleton→xN,cons_append→fB,nil_append→fU,Perm→qK,getElem?_set→bO,replicate→aW,mem_of_getElem?→iy
open And renaming intro→nF
open Nat renaming zero_le→aH
open Go Go.Am Go.Proofs
open Nat (reduceEqDiff reduceAdd reduceLeDiff reduceMul)
open Int (reduceNeg reduceLE reduceToNat)
open Go Go.Am
namespace T
theorem Gz:ty Tryz.prog 113 = { kind:=9,size:=1,bytes:=8,elem:=0,len:=0,zero:=some [.nilFunc],aN:=[] }:=by kernel_rfl
theorem agU (m:ae) (hm:VM m) (pv:AV) (t0:Int):∀ (f c:Nat) (left:List (List Bool)) (os:List Ob) (g:QS) (C:List (Nat × Ob)),left.length+1≤f+c→c≤left.length→dK m left→os.length=g.n→(0≤g.s.bk∧g.s.bk≤1000000)→(0≤g.s.room∧(g.R.length:Int)+g.s.room≤1000000)→g.s.aU≤t0→Fc (qB 103 m left pv t0 g C) os→∀ res,kU m f c left g=res →
    ao Tryz.prog 103 [.lit (.int .i64 (c:Nat)),.ptr 8 0 0,.ptr 5 0 0,.ptr 0 0 0,.ptr 1 0 0,.ptr 2 0 0,.ptr 7 0 0,.ptr 6 0 0,.ptr 9 0 0] os (.lit (.int .i64 g.R.length)) (canon (qB 103 m left pv t0 res C) res.n):=by
  intro f
  induction f with
  | zero=>intro c left os g C hf hc;omega
  | succ f ih =>
    intro c left os g C hf hc dx u4 ot z' uf hF res aj
    have gB:=dx.1
    have nX:=hm.cls
    have qq:=afN m left hm dx
    obtain ⟨k1,k2,k3,k4⟩:=yE (left:=left) _ c rfl
    have f8:os[8]?=some (.var [.ref g.p 5 0 g.R.length]):=lT hF (b:=(8,.var [.ref g.p 5 0 g.R.length])) (by simp[bB])
    have fp:=Lj hF
    have hn9:9<g.n:=by rw[← u4];exact (aY.1 (lT hF (b:=(9,.var [.fn 103 zu])) (by simp[bB]))).1
    have Ys:g.p≠8:=Yt hF (b:=(8,.var [.ref g.p 5 0 g.R.length])) (by simp[bB])
    have g8:(os.set g.p .gone)[8]?=some (.var [.ref g.p 5 0 g.R.length]):=by rw[cz Ys];exact f8
    have nC:=agV hF (g.n+2) (g.s.nodes++[lH []])
    have DG:=GA (dn:=103) (m:=m) (left:=left) (pv:=pv) (t0:=t0) (N:=left.length) (f+1) c left g C rfl hf hc (by rw[← u4];exact hF.fk)
    rw[aj] at DG
    rw[kU] at aj
    refine ao.aD (fn:=Tryz.f103) 132 os.length [.tmp 10] Tryz.func103 rfl rfl rfl rfl rfl (by simp) ?_
    (((refine Va (X5 @f8 @fp @g8 (bz g8) (X5 (ke g8) (bz f8) (bz fp) (ke f8) (X5 (ke fp) @gQ @dj.{0} @bU.{0} @bF.{0}))) ?_)))
    refine dO (σ':=⟨aw [(0,.lit (.int .i64 (c:Nat))),(1,.ptr 8 0 0),(2,.ptr 5 0 0),(3,.ptr 0 0 0),(4,.ptr 1 0 0),(5,.ptr 2 0 0),(6,.ptr 7 0 0),(7,.ptr 6 0 0),(8,.ptr 9 0 0),(11,.lit (.int .i64 g.R.length))],(os.set g.p .gone).set 8 (.var [.ref (os.length+1) 5 0 (g.R.length+1)])++[.arr 5 [cf cE],.arr 5 (rowsOf cf (g.R++[cE]))]⟩) (by rw[← afg];exact Xv X0) ?_
    have DH:((os.set g.p .gone).set 8 (.var [.ref (os.length+1) 5 0 (g.R.length+1)])++[Ob.arr 5 [cf cE],Ob.arr 5 (rowsOf cf (g.R++[cE]))]).length=g.n+2:=by simp[u4]
    rw[show os.length+1=g.n+1 by omega] at nC DH ⊢
    generalize (os.set g.p .gone).set 8 (.var [.ref (g.n+1) 5 0 (g.R.length+1)])++[Ob.arr 5 [cf cE],Ob.arr 5 (rowsOf cf (g.R++[cE]))]=o1 at *
    clear f8 fp Ys g8 hF
    have Fl:(g.R++[cE]).length=g.R.length+1:=by simp
    have hRg:(g.R++[cE]).getD g.R.length default=cE:=Yu g.R
    have c0:o1[0]?=some (.var (au m)):=lT nC (b:=(0,.var (au m))) (by simp[bB])
    have c4:o1[4]?=some (.arr 1 (rowsOf aK left)):=lT nC (b:=(4,.arr 1 (rowsOf aK left))) (by simp[bB])
    have c5:o1[5]?=some (.var [.ref 4 1 0 left.length]):=lT nC (b:=(5,.var [.ref 4 1 0 left.length])) (by simp[bB])
    have y6:∀ k,k<left.length→(rowsOf aK left)[k]?=some [.tree 1 (bf (left.getD k default))]:=fun k hk=>by
      unfold rowsOf;rw[bR,ay,bm hk];rfl
    have DA:∀ k,k<left.length→(left.getD k default).length≤24:=fun k hk=>by rw[dx.2 k hk];exact hm.opt _ (az (by omega))
    refine aG (fun k:Nat=>(⟨aw [(0,.lit (.int .i64 (k:Nat))),(1,.ptr 8 0 0),(2,.ptr 5 0 0),(3,.ptr 0 0 0),(4,.ptr 1 0 0),(5,.ptr 2 0 0),(6,.ptr 7 0 0),(7,.ptr 6 0 0),(8,.ptr 9 0 0),(11,.lit (.int .i64 g.R.length))],o1⟩:St)) (fun k=>c≤k∧k≤left.length∧cC left k=cC left c) (fun k=>left.length - k) c ⟨Nat.le_refl _,hc,rfl⟩ (Xv X0) ?_
    rintro k ⟨fl,bG,oL⟩ Ql ak aq
    by_cases bE:k<left.length∧(left.getD k default).length=1
    · have rM:=y6 k bE.1
      have Cy:=IL bE
      generalize left.getD k default=row at *
      ((repeat' (first|refine Va (X3 @c4 @c5 @rM) ?_|(refine V2 (X3 @c4 @c5 @rM) ?_ ?_<;>try with_reducible intro hb)|(refine Xi ?_ ?_<;>try intro ht)|exact Xx|fail)))
      all_goals exact ak _ (k+1) ⟨by omega,by omega,by rw[← Cy,oL]⟩ (by omega) (Xv X0)
    have jN:k=cC left c:=by rw[← oL,E8 bE]
    have Yv:∀ st,aQ os.length st ⟨aw [(0,.lit (.int .i64 (k:Nat))),(1,.ptr 8 0 0),(2,.ptr 5 0 0),(3,.ptr 0 0 0),(4,.ptr 1 0 0),(5,.ptr 2 0 0),(6,.ptr 7 0 0),(7,.ptr 6 0 0),(8,.ptr 9 0 0),(11,.lit (.int .i64 g.R.length))],o1⟩→Ql (.exit 0) st:=fun st ef=>by
      refine aq _ _ rfl ?_
      clear ak aq
      repeat (refine Xu ?_)
      refine dO ef ?_
      clear ef st
      rw[← jN] at aj k1 k2 k3 k4
      clear jN oL
      have rI:dQ o1 [] ([]:List Ob)=o1:=by simp[dQ]
      ((refine Va (X2 @c0 @c5) ?_)<;>try with_reducible intro K hK)
      refine oz [] qq (by decide) trivial ⟨.pure rfl,aO.fz c4 (by rw[eP]),trivial⟩ rfl (by simp) ?_
      rw[List.map_nil,rI]
      simp (disch:=omega) only[Ac,↓Pc,simprocAttr]
      refine hK _ ?_
      clear hK K
      generalize hv:ey m left=v at *
      have c1:o1[1]?=some (.var [ek pv t0 g.s,.lit (.int .i64 g.s.aU),.lit (.int .i64 g.s.bH),.lit (.slice none 0 0)]):=lT nC (b:=(1,s9 pv t0 g.s)) (by simp[bB,s9,ek])
      have c2:o1[2]?=some (.var [.lit (.int .i64 g.s.bk)]):=lT nC (b:=(2,.var [.lit (.int .i64 g.s.bk)])) (by simp[bB])
      have c6:o1[6]?=some (.var [.lit (.bool g.s.whole)]):=lT nC (b:=(6,.var [.lit (.bool g.s.whole)])) (by simp[bB])
      have c7:o1[7]?=some (.var [.lit (.int .i64 g.s.room)]):=lT nC (b:=(7,.var [.lit (.int .i64 g.s.room)])) (by simp[bB])
      by_cases qU:g.s.aU≤v
      · rw[if_pos qU] at aj
        dsimp only at aj nC
        have rN:Fc (qB 103 m left pv t0 res C) (o1.set 1 (.var [ek pv t0 g.s,.lit (.int .i64 g.s.aU),.lit (.int .i64 (min g.s.bH v)),.lit (.slice none 0 0)])):=by
          subst aj;exact xA nC
        have zw:res.n=o1.length:=by rw[← aj,DH]
        clear aj
        have GC:=fun y:Ob=>oY (y:=y) c1
        repeat' (first|((fail_if_success (first|refine iV 8 ?_|refine iW 8 ?_));refine Xr (X2 @c1 @GC) ?_;intro K hK)|(refine hK _ ?_;clear hK K)|(refine Xi ?_ ?_<;>try intro ht)|refine Xy ?_|exact Xx|fail)
        refine dO (σ':=⟨aw [(11,.lit (.int .i64 g.R.length))],o1.set 1 (.var [ek pv t0 g.s,.lit (.int .i64 g.s.aU),.lit (.int .i64 (min g.s.bH v)),.lit (.slice none 0 0)])⟩) (Xv X0) ?_
        refine dO (aQ.canon rN) ?_
        dsimp only
        rw[bF,← zw]
        refine Vb X0 ?_
        exact fW rfl (by rw[zj];omega) rfl
      rw[if_neg qU] at aj
      by_cases eM:k=left.length
      · rw[if_pos eM] at aj
        have ej:=ab4 left (by omega) (fun l hl=>by
          obtain ⟨i,hi,rfl⟩:=List.getElem_of_mem hl
          have:=DA i hi
          rwa [ay,bm hi] at this)
        have IV:dQ o1 [] (List.map (bD (a9 o1.length [])) [Ob.arr 1 (ints (iO left))])=o1++[Ob.arr 1 (ints (iO left))]:=by simp[dQ,wg]
        have o7:∀ x,(o1++[x])[1]?=some (.var [ek pv t0 g.s,.lit (.int .i64 g.s.aU),.lit (.int .i64 g.s.bH),.lit (.slice none 0 0)]):=fun x=>bz c1 _
        have Yw:∀ x y,((o1++[x]).set 1 y)[1]?=some y:=fun x y=>oY (o7 x)
        have l0:∀ x y z,((o1++[x]).set 1 y).set 1 z=(o1++[x]).set 1 z:=fun x y z=>r8 ..
        have Yx:1≠o1.length:=by omega
        have jm:(ints (iO left)).length=left.length:=by simp[ints,iO]
        dsimp only at aj nC
        have rN:Fc (qB 103 m left pv t0 res C) ((o1++[Ob.gone]).set 1 (.var [.tree 1 (ints (iO left)),.lit (.int .i64 v),.lit (.int .i64 (min g.s.bH v)),.lit (.slice none 0 0)])):=by
          subst aj
          exact xA (nC.app [Ob.gone]) (hy:=by simp[bB,s9,ek,show v<t0 by omega])
        have zw:res.n=o1.length+1:=by rw[← aj,DH]
        clear aj
        have tw:∀ X:Ob,((o1++[Ob.arr 1 (ints (iO left))]).set 1 X)[o1.length]?=some (.arr 1 (ints (iO left))):=fun X=>by rw[cz Yx];exact hC _ _ _
        have dV:∀ X Y:Ob,(((o1++[Ob.arr 1 (ints (iO left))]).set 1 X).set o1.length .gone).set 1 Y=(o1++[Ob.gone]).set 1 Y:=fun X Y=>by rw[List.set_comm _ _ Yx,r8,rA]
        repeat' (first|((fail_if_success (first|refine iV 10 ?_|refine iW 10 ?_));refine Xr (X3 @c1 @c4 @c5) ?_;intro K hK)|(refine hK _ ?_;clear hK K)|(refine Xi ?_ ?_<;>try intro ht)|refine Xy ?_|exact Xx|fail)
        refine sj [] (.take 0 (.take 2 (.take 5 (.both 1 (.take 3 (.take 4 (.take 6 (.take 7 (.take 8 (.take 9 (.take 10 (.take 11 (.take 12 .nil))))))))) 3 (.both 1 (.take 4 (.take 6 (.take 7 (.take 8 (.take 9 (.take 10 (.take 11 (.take 12 .nil)))))))) 4 (.take 1 (.take 6 (.take 7 (.take 8 (.take 9 (.take 10 (.take 11 (.take 12 .nil))))))))))))) rfl (by decide) (by decide +kernel) ?_
        simp (disch:=omega) only[Ac,↓Pc,simprocAttr,Pw,c1,c4,c5]
        repeat' (with_reducible refine nF ?_ ?_)
        all_goals
          refine oz [] ej (by decide) trivial ⟨aO.fz c4 (by rw[eP]),trivial⟩ rfl (by simp[uS,ints,flat]) ?_
          rw[IV]
          simp (disch:=omega) only[Ac,↓Pc,simprocAttr,Pw,c1,o7,Yw,l0]
        all_goals
          repeat (refine Xu ?_)
          refine dO (σ':=⟨aw [(11,.lit (.int .i64 g.R.length))],(o1++[Ob.arr 1 (ints (iO left))]).set 1 (.var [.ref o1.length 1 0 (ints (iO left)).length,.lit (.int .i64 v),.lit (.int .i64 (min g.s.bH v)),.lit (.slice none 0 0)])⟩) (by rw[jm];exact Xv X0) ?_
          refine dO (aQ.EW o1.length 1 0 1 (Yw _ _) (tw _) rfl (oB _) (pw _)) ?_
          simp only[mY]
          rw[dV]
          refine dO (aQ.canon rN) ?_
          dsimp only
          rw[bF,bU,xN,← zw]
          ((repeat' (first|refine Vb X0 ?_|fail)))
          exact fW rfl (by rw[zj];omega) rfl
      rw[if_neg eM] at aj
      have eM:k<left.length:=by omega
      have rM:=y6 k eM
      have b8:=k4 eM
      have a6:=DA k eM
      generalize gH:left.getD k default=row at *
      by_cases Lk:g.s.bk=0∨g.s.room<row.length
      · rw[if_pos Lk] at aj
        dsimp only at aj nC
        have rN:Fc (qB 103 m left pv t0 res C) ((o1.set 1 (.var [ek pv t0 g.s,.lit (.int .i64 g.s.aU),.lit (.int .i64 (min g.s.bH v)),.lit (.slice none 0 0)])).set 6 (.var [.lit (.bool false)])):=by
          subst aj
          have h1:=xA (i:=1) (y:=(.var [ek pv t0 g.s,.lit (.int .i64 g.s.aU),.lit (.int .i64 (min g.s.bH v)),.lit (.slice none 0 0)])) (left':=left) (g':=⟨g.n+2,g.n+1,g.R++[cE],{ g.s with nodes:=g.s.nodes++[lH []],bH:=min g.s.bH v }⟩) nC
          exact xA h1
        have zw:res.n=o1.length:=by rw[← aj,DH]
        clear aj
        have Yy:∀ x,(o1.set 1 x)[6]?=some (.var [.lit (.bool g.s.whole)]):=fun x=>by rw[cz (by decide)];exact c6
        have GC:=fun y:Ob=>oY (y:=y) c1
        repeat' (first|((fail_if_success (first|refine iV 14 ?_|refine iW 14 ?_));refine Xr (X5 @c1 @c2 @c4 @c5 (X4 @c7 @rM @GC @Yy)) ?_;intro K hK)|(refine hK _ ?_;clear hK K)|(refine Xg (X5 @c1 @c2 @c4 @c5 (X4 @c7 @rM @GC @Yy)) ?_ ?_<;>try intro hb)|(refine Xi ?_ ?_<;>try intro ht)|refine Xy ?_|refine Xd ?_ ?_|exact Xx|fail)
        all_goals
          refine dO (σ':=⟨aw [(11,.lit (.int .i64 g.R.length))],(o1.set 1 (.var [ek pv t0 g.s,.lit (.int .i64 g.s.aU),.lit (.int .i64 (min g.s.bH v)),.lit (.slice none 0 0)])).set 6 (.var [.lit (.bool false)])⟩) (Xv X0) ?_
          refine dO (aQ.canon rN) ?_
          dsimp only
          rw[bF,bF,← zw]
          ((repeat' (first|refine Vb X0 ?_|fail)))
          exact fW rfl (by rw[zj];omega) rfl
      rw[if_neg Lk] at aj
      rw[not_or] at Lk
      unfold j5 at aj
      rw[gH] at aj
      have c8:o1[8]?=some (.var [.ref (g.n+1) 5 0 (g.R.length+1)]):=lT nC (b:=(8,.var [.ref (g.n+1) 5 0 (g.R.length+1)])) (by simp[bB])
      have rN:Fc (qB 103 m left pv t0 ⟨g.n+2,g.n+1,g.R++[cE],⟨g.s.nodes++[lH []],g.s.room - row.length,g.s.bk - 1,g.s.whole,g.s.plan,g.s.aU,g.s.bH⟩⟩ C) ((o1.set 2 (.var [.lit (.int .i64 (g.s.bk - 1))])).set 7 (.var [.lit (.int .i64 (g.s.room - row.length))])):=by
        have h1:=xA (i:=2) (y:=(.var [.lit (.int .i64 (g.s.bk - 1))])) (left':=left) (g':=⟨g.n+2,g.n+1,g.R++[cE],{ g.s with nodes:=g.s.nodes++[lH []],bk:=g.s.bk - 1 }⟩) nC
        exact xA h1
      have Ll:∀ x,(o1.set 2 x)[7]?=some (.var [.lit (.int .i64 g.s.room)]):=fun x=>by rw[cz (by decide)];exact c7
      have Lm:∀ x,(o1.set 2 x)[4]?=some (.arr 1 (rowsOf aK left)):=fun x=>by rw[cz (by decide)];exact c4
      have Ln:∀ x,(o1.set 2 x)[5]?=some (.var [.ref 4 1 0 left.length]):=fun x=>by rw[cz (by decide)];exact c5
      repeat' (first|((fail_if_success (first|refine iV 18 ?_|refine iW 18 ?_));refine Xr (X5 @c1 @c2 @c4 @c5 (X5 @c7 @rM @Ll @Lm @Ln)) ?_;intro K hK)|(refine hK _ ?_;clear hK K)|(refine Xg (X5 @c1 @c2 @c4 @c5 (X5 @c7 @rM @Ll @Lm @Ln)) ?_ ?_<;>try intro hb)|(refine Xi ?_ ?_<;>try intro ht)|refine Xy ?_|refine Xd ?_ ?_|exact Xx|fail)
      refine dO (σ':=⟨aw [(0,.lit (.int .i64 (k:Nat))),(1,.ptr 8 0 0),(2,.ptr 5 0 0),(3,.ptr 0 0 0),(4,.ptr 1 0 0),(5,.ptr 2 0 0),(6,.ptr 7 0 0),(7,.ptr 6 0 0),(8,.ptr 9 0 0),(11,.lit (.int .i64 g.R.length)),(13,.tree 1 (bf row))],(o1.set 2 (.var [.lit (.int .i64 (g.s.bk - 1))])).set 7 (.var [.lit (.int .i64 (g.s.room - row.length))])⟩) (Xv X0) ?_
      have GD:((o1.set 2 (.var [.lit (.int .i64 (g.s.bk - 1))])).set 7 (.var [.lit (.int .i64 (g.s.room - row.length))])).length=g.n+2:=by simp[DH]
      generalize (o1.set 2 (.var [.lit (.int .i64 (g.s.bk - 1))])).set 7 (.var [.lit (.int .i64 (g.s.room - row.length))])=o2 at *
      clear c0 c1 c2 c4 c5 c6 c7 c8 Ll Lm Ln nC
      refine Va @gQ ?_
      refine dO (aQ.q7 o2.length 1 1 (hC _ _ _) rfl (by decide)) ?_
      simp only[List.set_cons_succ,mY,dj,fB,fU,bU,xN,rA]
      rw[GD]
      refine dO (σ':=⟨aw [(0,.lit (.int .i64 (k:Nat))),(1,.ptr 8 0 0),(2,.ptr 5 0 0),(3,.ptr 0 0 0),(4,.ptr 1 0 0),(5,.ptr 2 0 0),(6,.ptr 7 0 0),(7,.ptr 6 0 0),(8,.ptr 9 0 0),(11,.lit (.int .i64 g.R.length)),(13,.tree 1 (bf row)),(14,.ptr (g.n+2) 0 0),(96,.tree 1 (bf row)),(97,.lit (.int .i64 row.length)),(98,.lit (.int .i64 (0:Nat)))],o2++[.var (cf ⟨k,some (g.n+3,[]),none⟩),.arr 1 (ints [])]⟩) (Xv X0) ?_
      have Yz:Fc (qB 103 m (left.set k row) pv t0 ⟨g.n+4,g.n+1,g.R++[cE],⟨g.s.nodes++[lH []],g.s.room - row.length,g.s.bk - 1,g.s.whole,g.s.plan,g.s.aU,g.s.bH⟩⟩ ((g.n+3,.arr 1 (ints []))::(g.n+2,.var (cf ⟨k,some (g.n+3,[]),none⟩))::C)) (o2++[.var (cf ⟨k,some (g.n+3,[]),none⟩),.arr 1 (ints [])]):=by
        have e:left.set k row=left:=by rw[← gH];exact setRow_self eM
        rw[e]
        have rN:Fc (qB 103 m left pv t0 ⟨g.n+4,g.n+1,g.R++[cE],⟨g.s.nodes++[lH []],g.s.room - row.length,g.s.bk - 1,g.s.whole,g.s.plan,g.s.aU,g.s.bH⟩⟩ C) o2:=rN
        have h1:=(rN.app [Ob.var (cf ⟨k,some (g.n+3,[]),none⟩),Ob.arr 1 (ints [])]).add (k:=g.n+2) (x:=.var (cf ⟨k,some (g.n+3,[]),none⟩)) (by rw[← GD];exact hC _ _ _) (rN.fresh (by omega))
        have h2:=h1.add (k:=g.n+3) (x:=.arr 1 (ints [])) (by rw[show g.n+3=o2.length+1 by omega,n6];rfl) (by
          rw[List.map_cons,List.mem_cons,not_or]
          exact⟨by dsimp only;omega,rN.fresh (by omega)⟩)
        exact h2.perm ((qK.cons _ qA).trans qA)
      have YA:(o2++[Ob.var (cf ⟨k,some (g.n+3,[]),none⟩),Ob.arr 1 (ints [])]).length=g.n+4:=by simp[GD]
      generalize o2++[Ob.var (cf ⟨k,some (g.n+3,[]),none⟩),Ob.arr 1 (ints [])]=o3 at *
      clear rN GD o2
      generalize Fm:jR (kU m f (k+1)) left k row.length 0 ⟨g.n+4,g.n+1,g.R++[cE],⟨g.s.nodes++[lH []],g.s.room - row.length,g.s.bk - 1,g.s.whole,g.s.plan,g.s.aU,g.s.bH⟩⟩ (g.n+3) []=RR at *
      refine aG (fun z:Nat × QS × Nat × List Int × List Ob × List Bool=>(⟨aw [(0,.lit (.int .i64 (k:Nat))),(1,.ptr 8 0 0),(2,.ptr 5 0 0),(3,.ptr 0 0 0),(4,.ptr 1 0 0),(5,.ptr 2 0 0),(6,.ptr 7 0 0),(7,.ptr 6 0 0),(8,.ptr 9 0 0),(11,.lit (.int .i64 g.R.length)),(13,.tree 1 (bf row)),(14,.ptr (g.n+2) 0 0),(97,.lit (.int .i64 row.length)),(98,.lit (.int .i64 z.1))],z.2.2.2.2.1⟩:St))
        (fun z=>z.1≤row.length∧z.2.2.2.1.length=z.1∧g.R.length<z.2.1.R.length∧z.2.1.R.getD g.R.length default=cE∧z.2.2.2.2.1.length=z.2.1.n∧g.n≤z.2.1.n∧Fc (qB 103 m (left.set k z.2.2.2.2.2) pv t0 z.2.1 ((z.2.2.1,.arr 1 (ints z.2.2.2.1))::(g.n+2,.var (cf ⟨k,some (z.2.2.1,z.2.2.2.1),none⟩))::C)) z.2.2.2.2.1 ∧
          jR (kU m f (k+1)) left k (row.length - z.1) z.1 z.2.1 z.2.2.1 z.2.2.2.1=RR∧(z.2.1.R.length:Int)+z.2.1.s.room=g.R.length+1+g.s.room - row.length+z.1∧0≤z.2.1.s.room∧(0≤z.2.1.s.bk∧z.2.1.s.bk≤1000000)∧z.2.1.s.aU≤t0) (fun z=>row.length - z.1)
        (0,⟨g.n+4,g.n+1,g.R++[cE],⟨g.s.nodes++[lH []],g.s.room - row.length,g.s.bk - 1,g.s.whole,g.s.plan,g.s.aU,g.s.bH⟩⟩,g.n+3,[],o3,row) ⟨aH _,rfl,by dsimp only;omega,hRg,YA,by dsimp only;omega,Yz,Fm,by dsimp only;rw[Fl];omega,by dsimp only;omega,by dsimp only;omega,uf⟩ (Xv X0) ?_
      clear Yz YA o3 Fm
      rintro ⟨i,gg,q,ks,o,x⟩ ⟨hi,oL,GF,GG,fG,hgn,ta,hr,hbr,nW,lE,Fh⟩ mh eS eI
      dsimp only at hi oL GF GG fG hgn ta hr hbr nW lE Fh ⊢
      have d4:o[4]?=some (.arr 1 (rowsOf aK (left.set k x))):=lT ta (b:=(4,.arr 1 (rowsOf aK (left.set k x)))) (by simp[bB])
      have d5:o[5]?=some (.var [.ref 4 1 0 left.length]):=lT ta (b:=(5,.var [.ref 4 1 0 left.length])) (by simp[bB])
      have d9:o[9]?=some (.var [.fn 103 [.ptr 8 0 0,.ptr 5 0 0,.ptr 0 0 0,.ptr 1 0 0,.ptr 2 0 0,.ptr 7 0 0,.ptr 6 0 0,.ptr 9 0 0]]):=lT ta (b:=(9,.var [.fn 103 zu])) (by simp[bB])
      have dv:o[g.n+2]?=some (.var (cf ⟨k,some (q,ks),none⟩)):=DI ta (b:=(g.n+2,.var (cf ⟨k,some (q,ks),none⟩))) (by simp)
      have h4l:=(aY.1 d4).1
      have ag0:k<(left.set k x).length:=by rw[bF];exact eM
      have bX:(rowsOf aK (left.set k x)).length=left.length:=by rw[eP,bF]
      by_cases ax:i<row.length
      · have GH:(rowsOf aK (left.set k x))[k]?=some [.tree 1 (bf x)]:=by
          unfold rowsOf
          rw[bR,bO,if_pos rfl,if_pos eM];rfl
        have dV:∀ y,((rowsOf aK (left.set k x)).set k y)[k]?=some y:=fun y=>by rw[bO,if_pos rfl,if_pos (by rw[bX];exact eM)]
        have e4:∀ A B,((o++[A]).set 4 B)[4]?=some B:=fun A B=>oY (bz d4 _)
        have e5:∀ A B,((o++[A]).set 4 B)[5]?=some (.var [.ref 4 1 0 left.length]):=fun A B=>by rw[cz (by decide)];exact bz d5 _
        have eL:∀ A B,((o++[A]).set 4 B)[o.length]?=some A:=fun A B=>by rw[cz (by omega)];exact hC _ _ _
        have YB:=fun A=>bz d5 [A]
        have YC:=fun A=>bz d4 [A]
        have YD:(bf (aW row.length false))[i]?=some [.lit (.bool false)]:=by
          unfold bf
          rw[bR,List.getElem?_replicate,if_pos ax];rfl
        have y9:(bf (lG row.length i)).length=row.length:=by rw[zS,Kw]
        have GJ:bq left k i=left.set k (lG row.length i):=by unfold bq;rw[gH]
        repeat' (first|((fail_if_success (first|refine iV 24 ?_|refine iW 24 ?_));refine Xr (X5 @d4 @d5 @YC @YB (X5 @GH @dV @e4 @e5 (X5 @eL @bX @YD @bF.{0} (X2 @bU.{0} @List.length_replicate.{0})))) ?_;intro K hK)|(refine hK _ ?_;clear hK K)|(refine Xi ?_ ?_<;>try intro ht)|refine Xy ?_|refine Xd ?_ ?_|exact Xx|fail)
        refine dO (σ':=⟨aw [(0,.lit (.int .i64 (k:Nat))),(1,.ptr 8 0 0),(2,.ptr 5 0 0),(3,.ptr 0 0 0),(4,.ptr 1 0 0),(5,.ptr 2 0 0),(6,.ptr 7 0 0),(7,.ptr 6 0 0),(8,.ptr 9 0 0),(11,.lit (.int .i64 g.R.length)),(13,.tree 1 (bf row)),(14,.ptr (g.n+2) 0 0),(97,.lit (.int .i64 row.length)),(98,.lit (.int .i64 i))],((o++[Ob.arr 1 (bf (aW row.length false))]).set 4 (.arr 1 ((rowsOf aK (left.set k x)).set k [.ref o.length 1 0 row.length]))).set o.length (.arr 1 (bf (lG row.length i)))⟩) (by unfold lG;exact Xv X0) ?_
        refine dO (aQ.I2 o.length 4 k 0 1 1 (R:=(rowsOf aK (left.set k x)).set k [.ref o.length 1 0 row.length]) (cells:=[.ref o.length 1 0 row.length]) (rows:=bf (lG row.length i)) (by rw[cz (by omega)];exact e4 _ _) (dV _) (oY (eL _ _)) (by rw[y9];rfl) (by omega) (HD _) (NP _)) ?_
        have YE:∀ A B A' B':Ob,(((((o++[A]).set 4 B).set o.length A').set o.length Ob.gone).set 4 B')=(o++[Ob.gone]).set 4 B':=fun A B A' B'=>by
          rw[r8,List.set_comm _ _ (show 4≠o.length by omega),r8,rA]
        rw[YE,r8]
        simp only[mY]
        rw[YF,← GJ]
        have Bm:Fc (qB 103 m (bq left k i) pv t0 ⟨gg.n+1,gg.p,gg.R,gg.s⟩ ((q,.arr 1 (ints ks))::(g.n+2,.var (cf ⟨k,some (q,ks),none⟩))::C)) ((o++[Ob.gone]).set 4 (.arr 1 (rowsOf aK (bq left k i)))):=by
          rw[GJ]
          exact xA (ta.app [Ob.gone])
        have Lo:((o++[Ob.gone]).set 4 (.arr 1 (rowsOf aK (bq left k i)))).length=gg.n+1:=by simp[fG]
        generalize (o++[Ob.gone]).set 4 (.arr 1 (rowsOf aK (bq left k i)))=o4 at *
        clear ta d4 d5 d9 dv h4l ag0 bX GH dV e4 e5 eL YB YC YD YE fG
        have pM:(bq left k i).length=left.length:=by rw[GJ,bF]
        have hG:=ih (k+1) (bq left k i) o4 ⟨gg.n+1,gg.p,gg.R,gg.s⟩ _ (by omega) (by omega) (Cp dx (Fg _ _ _)) Lo lE ⟨nW,by dsimp only;omega⟩ Fh Bm _ rfl
        have Rn:=GA (dn:=103) (m:=m) (left:=bq left k i) (pv:=pv) (t0:=t0) (N:=left.length) f (k+1) (bq left k i) ⟨gg.n+1,gg.p,gg.R,gg.s⟩ _ pM (by omega) (by omega) (by have:=Bm.fk;rw[Lo] at this;exact this)
        have YG:=YH m (N:=left.length) f (k+1) (bq left k i) ⟨gg.n+1,gg.p,gg.R,gg.s⟩ pM (by omega) (by omega)
        have ag1:=YI m f (k+1) (bq left k i) ⟨gg.n+1,gg.p,gg.R,gg.s⟩
        rw[show row.length - i=(row.length - (i+1))+1 by omega,jR] at hr
        have d9:o4[9]?=some (.var [.fn 103 [.ptr 8 0 0,.ptr 5 0 0,.ptr 0 0 0,.ptr 1 0 0,.ptr 2 0 0,.ptr 7 0 0,.ptr 6 0 0,.ptr 9 0 0]]):=lT Bm (b:=(9,.var [.fn 103 zu])) (by simp[bB])
        have dv:o4[g.n+2]?=some (.var (cf ⟨k,some (q,ks),none⟩)):=DI Bm (b:=(g.n+2,.var (cf ⟨k,some (q,ks),none⟩))) (by simp)
        generalize kU m f (k+1) (bq left k i) ⟨gg.n+1,gg.p,gg.R,gg.s⟩=r at *
        obtain ⟨x1,x2,x3,x4⟩:=Rn
        obtain ⟨y1,y2,y3,y4,y5⟩:=ag1
        dsimp only at x1 x2 x3 YG y1 y2 y3 y4 y5 hG
        have rO:=x4.canon
        have zx:=zj (qB 103 m (bq left k i) pv t0 r ((q,.arr 1 (ints ks))::(g.n+2,.var (cf ⟨k,some (q,ks),none⟩))::C)) r.n
        generalize canon (qB 103 m (bq left k i) pv t0 r ((q,.arr 1 (ints ks))::(g.n+2,.var (cf ⟨k,some (q,ks),none⟩))::C)) r.n=o5 at *
        have dq:o5[q]?=some (.arr 1 (ints ks)):=DI rO (b:=(q,.arr 1 (ints ks))) (by simp)
        have DJ:o5[g.n+2]?=some (.var (cf ⟨k,some (q,ks),none⟩)):=DI rO (b:=(g.n+2,.var (cf ⟨k,some (q,ks),none⟩))) (by simp)
        have DK:(o5.set q Ob.gone)[g.n+2]?=some (.var (cf ⟨k,some (q,ks),none⟩)):=yV DJ dq (by simp)
        have vP:=ag2 (X':=.var (cf ⟨k,some (r.n+1,ks++[(gg.R.length:Int)]),none⟩)) (.arr 1 [[.lit (.int .i64 gg.R.length)]]) rO (r.n+2) (.arr 1 (ints (ks++[(gg.R.length:Int)])))
        rw[zx] at vP
        have fl:((k+1:Nat):Int)=(k:Int)+1:=by omega
        have ag3:os.length≤o5.length:=by rw[zx,u4];omega
        have ag4:o4.length≤o5.length:=by rw[zx,Lo];exact x3
        rw[fl] at hG
        have ag5:cf ⟨(k:Int),some (o5.length+1,ks++[(gg.R.length:Int)]),none⟩=[.lit (.int .i64 k),.ref (o5.length+1) 1 0 (ks.length+1),.lit (.slice none 0 0),.lit (.slice none 0 0),.lit (.slice none 0 0)]:=by unfold cf kE mE;simp
        unfold cf kE mE at dv DJ DK
        dsimp only at dv DJ DK
        refine sj [] (.take 2 (.take 3 (.take 4 (.both 0 (.both 1 (.take 5 (.take 6 (.take 7 (.take 8 (.take 9 .nil))))) 5 (.take 1 (.take 6 (.take 7 (.take 8 (.take 9 .nil)))))) 5 (.take 0 (.take 1 (.take 6 (.take 7 (.take 8 (.take 9 .nil)))))))))) rfl (by decide) (by decide +kernel) ?_
        simp (disch:=omega) only[Ac,↓Pc,simprocAttr,Pw,dv,d9,Gz]
        repeat' (first|with_reducible refine nF ?_ ?_|omega)
        all_goals
          refine mu hG (by first|exact ag4|exact ag3) ?_
          simp (disch:=omega) only[Ac,↓Pc,simprocAttr,Pw,Gz,dq,DJ,DK,bz dq,ke dq,bz DJ,bz DK,ke DK,gQ,dj,bU,bF,Ei]
          repeat' (first|with_reducible refine nF ?_ ?_|omega)
        all_goals
          repeat (refine Xu ?_)
          ((repeat' (first|refine Va X0 ?_|fail)))
          refine eS _ (i+1,⟨r.n+2,r.p,r.R,r.s⟩,r.n+1,ks++[(gg.R.length:Int)],(o5.set q Ob.gone).set (g.n+2) (.var (cf ⟨k,some (r.n+1,ks++[(gg.R.length:Int)]),none⟩))++[.arr 1 [[.lit (.int .i64 gg.R.length)]],.arr 1 (ints (ks++[(gg.R.length:Int)]))],lG row.length i) ⟨by dsimp only;omega,by dsimp only;rw[bU,oL];rfl,by dsimp only;omega,(x2 _ GF).trans GG,by dsimp only;simp[zx],by dsimp only;omega,?_,hr,by dsimp only;rw[YG];omega,by dsimp only;omega,by dsimp only;omega,by dsimp only;omega⟩ (by dsimp only;omega) (by dsimp only;rw[← zx,ag5];exact Xv X0)
          rw[← GJ]
          exact vP
      · obtain rfl:i=row.length:=by omega
        rw[Nat.sub_self,jR] at hr
        have hRp:gg.p≠4:=Yt ta (b:=(4,.arr 1 (rowsOf aK (left.set k x)))) (by simp[bB])
        have d8:o[8]?=some (.var [.ref gg.p 5 0 gg.R.length]):=lT ta (b:=(8,.var [.ref gg.p 5 0 gg.R.length])) (by simp[bB])
        have dp:=Lj ta
        have GH:(rowsOf aK (left.set k x))[k]?=some [.tree 1 (bf x)]:=by
          unfold rowsOf
          rw[bR,bO,if_pos rfl,if_pos eM];rfl
        have CE:left.set k row=left:=by rw[← gH];exact setRow_self eM
        have k9:(rowsOf aK (left.set k x)).set k [.tree 1 (bf row)]=rowsOf aK left:=by rw[YF,CE]
        have Bm:Fc (qB 103 m left pv t0 gg ((q,.arr 1 (ints ks))::(g.n+2,.var (cf ⟨k,some (q,ks),none⟩))::C)) (o.set 4 (.arr 1 (rowsOf aK left))):=xA ta
        have rO:=((Bm.perm qA.symm).perm ((qK.cons _ qA.symm).trans (qK.swap _ _ _))).drop.1.perm qA
        have vP:=ag7 (c:=(k:Int)) GF GG rO gg.n (tW k g.R.length (gg.s,ks)).nodes
        have kJ:Fc (qB 103 m left pv t0 res C) ((o.set 4 (.arr 1 (rowsOf aK left))).set gg.p (.arr 5 (rowsOf cf (gg.R.set g.R.length ⟨(k:Int),some (q,ks),none⟩)))):=by
          rw[← aj,← hr];exact vP
        have zw:res.n=o.length:=by rw[← aj,← hr];exact fG.symm
        have f5:=fun y=>(show (o.set 4 y)[5]?=some (.var [.ref 4 1 0 left.length]) by rw[cz (by decide)];exact d5)
        have f8:=fun y=>(show (o.set 4 y)[8]?=some (.var [.ref gg.p 5 0 gg.R.length]) by rw[cz (by decide)];exact d8)
        have fp:=fun y=>(show (o.set 4 y)[gg.p]?=some (.arr 5 (rowsOf cf gg.R)) by rw[cz (Ne.symm hRp)];exact dp)
        have fv:=fun y=>(show (o.set 4 y)[g.n+2]?=some (.var (cf ⟨k,some (q,ks),none⟩)) by rw[cz (by omega)];exact dv)
        have jx:=ag8 GF GG
        have BY:=ag9 gg.R g.R.length ⟨(k:Int),some (q,ks),none⟩
        unfold cf kE mE at dv
        unfold cf kE mE cE at jx
        dsimp only at dv jx
        ((repeat' (first|refine Va X0 ?_|(refine Xi ?_ ?_<;>try intro ht)|exact Xx|fail)))
        refine eI _ _ rfl ?_
        clear eS eI
        repeat (refine Xu ?_)
        repeat' (first|((fail_if_success (first|refine iV 28 ?_|refine iW 28 ?_));refine Xr (X5 @d4 @d5 @bX @GH (X5 @k9 @f5 @f8 @fp (X5 @fv @jx @cf.eq_1 (X2 @kE.eq_1 @kE.eq_2) (X2 (X2 @mE.eq_1 @mE.eq_2) @Wu)))) ?_;intro K hK)|(refine hK _ ?_;clear hK K)|refine Xy ?_|refine Xd ?_ ?_|exact Xx|fail)
        refine dO (σ':=⟨aw [(11,.lit (.int .i64 g.R.length))],(o.set 4 (.arr 1 (rowsOf aK left))).set gg.p (.arr 5 (rowsOf cf (gg.R.set g.R.length ⟨(k:Int),some (q,ks),none⟩)))⟩) (by rw[← BY];exact Xv X0) ?_
        refine dO (aQ.canon kJ) ?_
        dsimp only
        rw[bF,bF,← zw]
        refine Vb X0 ?_
        exact fW rfl (by rw[zj];omega) rfl
    by_cases eM:k<left.length
    · have rM:=y6 k eM
      have b8:(left.getD k default).length≠1:=fun e=>bE ⟨eM,e⟩
      generalize left.getD k default=row at *
      ((repeat' (first|refine Va (X3 @c4 @c5 @rM) ?_|(refine V2 (X3 @c4 @c5 @rM) ?_ ?_<;>try with_reducible intro hb)|(refine Xi ?_ ?_<;>try intro ht)|exact Xx|fail)))
      all_goals exact Yv _ (Xv X0)
    · ((repeat' (first|refine Va (X2 @c4 @c5) ?_|(refine V2 (X2 @c4 @c5) ?_ ?_<;>try with_reducible intro hb)|(refine Xi ?_ ?_<;>try intro ht)|exact Xx|fail)))
      all_goals exact Yv _ (Xv X0)
end T
namespace T
theorem aha (m:ae) (cu:VM m):ao Tryz.prog 102 [.agg (au m)] [] (.ref 0 1 0 (cQ m).length) [.arr 1 (rowsOf aK (cQ m))]:=by
  have hm:=cu.mb
  have h1:=sI m hm
  have me:=hm.cls
  generalize aj:cQ m=res
  unfold cQ at aj
  refine ao.aD (fn:=Tryz.f102) 25 0 [.tmp 2] Tryz.func102 rfl rfl rfl rfl rfl (by simp) ?_
  have hv:dW m=0:=iu.2 cu
  rw[if_pos hv] at aj
  rw[hv] at h1
  have nX:=cu.cls
  ((repeat' (first|refine Vd @bne_self_eq_false.{0} h1 ?_|(refine Xi ?_ ?_<;>try intro ht)|exact Xx|fail)))
  refine aG (fun z:Nat × List (List Bool)=>(⟨aw [(1,.ptr 0 0 0),(3,.ref 1 1 0 z.2.length),(10,.tree 1 (rowsOf bA m.cls)),(11,.lit (.int .i64 m.cls.length)),(12,.lit (.int .i64 z.1))],[.var (au m),.arr 1 (rowsOf aK z.2)]⟩:St))
    (fun z=>z.1≤m.cls.length∧z.2=(kG m).take z.1) (fun z=>m.cls.length - z.1) (0,[]) ⟨aH _,rfl⟩ ?_ ?_
  · refine aQ.trans (aQ.nil 3 1 (by simp only[Kc,simprocAttr]) (by decide)) ?_
    exact Xv X0
  rintro ⟨i,xs⟩ ⟨hi,cl⟩ Ql ak aq
  dsimp only at hi cl ⊢
  have sm:(kG m).length=m.cls.length:=by simp[kG]
  by_cases ax:i<m.cls.length
  · have sV:xs.length=i:=by rw[cl,List.length_take];omega
    have ef:(kG m).take (i+1)=xs++[aW (m.cls.getD i default).length true]:=by
      rw[eU (by omega),← cl];unfold kG;rw[kH _ _ _ ax]
    have sW:=cu.opt _ (az (d:=default) ax)
    generalize aJ:m.cls.getD i default=c at *
    have Da:=VH true c.length (by omega)
    repeat' (first|((fail_if_success (first|refine iV 7 ?_|refine iW 7 ?_));refine Xr (X2 @aJ @bA.eq_1) ?_;intro K hK)|(refine hK _ ?_;clear hK K)|(refine Xi ?_ ?_<;>try intro ht)|refine Xy ?_|refine Xd ?_ ?_|exact Xx|fail)
    refine JF 5 (by decide) ?_
    intro K K1 hK xi
    simp (disch:=omega) only[Ac,↓Pc,simprocAttr,List.take]
    refine oz [] Da (by decide) trivial ⟨aO.fz (rows:=rowsOf lu [true]) rfl rfl (by simp),.pure rfl,trivial⟩ rfl (by simp[uS,lu,rowsOf,flat]) ?_
    simp (disch:=omega) only[Ac,↓Pc,simprocAttr]
    refine xi _ ⟨aw [(1,.ptr 0 0 0),(3,.ref 1 1 0 xs.length),(10,.tree 1 (rowsOf bA m.cls)),(11,.lit (.int .i64 m.cls.length)),(12,.lit (.int .i64 i)),(16,.ref 1 1 0 xs.length),(20,.tree 1 (bf (aW c.length true)))],[.var (au m),.arr 1 (rowsOf aK xs)]⟩ ?_ ?_
    · rw[← VG]
      exact Xs true [0,1] X0
    clear xi K1
    simp (disch:=omega) only[Ac,↓Pc,simprocAttr,List.drop,VI]
    repeat' (first|with_reducible refine nF ?_ ?_|omega)
    refine hK _ ?_;clear hK K
    repeat (refine Xu ?_)
    refine Va X0 ?_
    refine ak _ (i+1,xs++[aW c.length true]) ⟨by dsimp only;omega,ef.symm⟩ (by dsimp only;omega) ?_
    exact Xs false [0,3] X0
  · rw[List.take_of_length_le (by omega)] at cl
    ((repeat' (first|refine Va X0 ?_|(refine Xi ?_ ?_<;>try intro ht)|exact Xx|fail)))
    refine aq _ _ rfl ?_;clear ak aq Ql
    repeat (refine Xu ?_)
    refine Vb X0 ?_
    rw[cl,aj]
    exact Xw false [1] X0
end T
namespace T
variable {σ:St} {kp:Nat→Prop}
theorem ahb {id n:Nat} {xs:List Int} (ho:σ.aa[id]?=some (.arr 1 (ints xs))) (hn:n=xs.length) (hk:¬ kp id):cw σ kp (.tree 1 (ints xs)) (.ref id 1 0 n) :=
  cw.mk ho (by rw[hn];simp[ints]) hk (oB _) (iL.zf (f:=fun _=>[]) (g:=fun _=>[]) rfl fun j c d hc hd=>by rw[hc] at hd;cases hd;exact Gd (fun v hv=>pw _ _ (iy hc) v hv) rfl)
theorem ahc {α:Type} {enc:α→List AV} {w:Nat} [Row enc w] {id n:Nat} {xs:List α} (ho:σ.aa[id]?=some (.arr w (rowsOf enc xs))) (hn:n=xs.length) (hk:¬ kp id):cw σ kp (.tree w (rowsOf enc xs)) (.ref id w 0 n) :=
  cw.mk ho (by rw[hn,eP]) hk (kC _) (iL.zf (f:=fun _=>[]) (g:=fun _=>[]) rfl fun j c d hc hd=>by rw[hc] at hd;cases hd;exact Gd (fun v hv=>tL _ _ (iy hc) v hv) rfl)
theorem ahd (x:Option (Nat × List Int)) (h:∀ b∈kO x,σ.aa[b.1]?=some b.2) (hk:∀ i,¬ kp i):cw σ kp (.tree 1 (ints ((x.map (·.2)).getD []))) (kE x):=by
  cases x with
  | none=>exact .nil 1
  | some y=>exact ahb (h (y.1,.arr 1 (ints y.2)) (by simp[kO])) rfl (hk _)
theorem ahe (x:Option (Nat × List Mv)) (h:∀ b∈mO x,σ.aa[b.1]?=some b.2) (hk:∀ i,¬ kp i):cw σ kp (.tree 4 (rowsOf fZ ((x.map (·.2)).getD []))) (mE x):=by
  cases x with
  | none=>exact .nil 4
  | some y=>exact ahc (h (y.1,.arr 4 (rowsOf fZ y.2)) (by simp[mO])) rfl (hk _)
theorem ahf (r:Rw) (h:∀ b∈mi r,σ.aa[b.1]?=some b.2) (hk:∀ i,¬ kp i):iK (cw σ kp) (aL (DM r)) (cf r) :=
  ⟨.lit _,ahd r.Bf (fun b hb=>h b (by unfold mi;simp[hb])) hk,ahe r.mv (fun b hb=>h b (by unfold mi;simp[hb])) hk,.nil 1,.nil 1,trivial⟩
theorem YJ (hk:∀ i,¬ kp i):∀ (R:List Rw),(∀ b∈fy R,σ.aa[b.1]?=some b.2)→iL (cw σ kp) (rowsOf aL (R.map DM)) (rowsOf cf R)
  | [],_=>trivial
  | r::R,h=>⟨ahf r (fun b hb=>h b (by unfold fy;simp[hb])) hk,YJ hk R (fun b hb=>h b (by unfold fy at hb ⊢;rw[List.flatMap_cons,List.mem_append];exact .inr hb))⟩
theorem Ap {p:Nat} {R:List Rw} (hp:σ.aa[p]?=some (.arr 5 (rowsOf cf R))) (h:∀ b∈fy R,σ.aa[b.1]?=some b.2) (hk:∀ i,¬ kp i):cw σ kp (.tree 5 (rowsOf aL (R.map DM))) (.ref p 5 0 R.length) :=
  cw.mk hp (by rw[Wu]) (hk _) (kC _) (YJ hk R h)
end T
namespace T
def g0 (bk:Int) (p0:List Int) (t0:Int):QS:=⟨11,10,[],⟨[],19999,bk,true,p0,t0,1099511627776⟩⟩
def wL (m:ae) (bk:Int) (p0:List Int) (t0:Int):DS:=j4 m (m.cls.length+1) 0 (cQ m) ⟨[],19999,bk,true,p0,t0,1099511627776⟩
theorem IH {pv:AV} {t0:Int} {s:DS} (h:gy pv=true):gy (ek pv t0 s)=true:=by
  unfold ek
  split
  · rfl
  · exact h
theorem Qq (m:ae) (hm:VM m) (bk:Int) (ot:0≤bk∧bk≤1000000) (p0:List Int) (t0:Int) (pv:AV) (KP:gy pv=true) (fS:cm pv=true) (b0:Int) :
    ao Tryz.prog 56 [.agg (au m),.agg [pv,.lit (.int .i64 t0),.lit (.int .i64 b0),.lit (.slice none 0 0)],.lit (.int .i64 bk)] []
      (.bM [.agg [ek pv t0 (wL m bk p0 t0),.lit (.int .i64 (wL m bk p0 t0).aU),.lit (.int .i64 (wL m bk p0 t0).bH),.tree 5 (rowsOf aL (wL m bk p0 t0).nodes)],.lit (.bool (wL m bk p0 t0).whole)]) []:=by
  have fJ:=aha m hm
  have dx:=Aw hm
  have nX:=hm.cls
  have Ag:=YK m (m.cls.length+1) 0 (cQ m) (g0 bk p0 t0) rfl
  have Lp:Fc (qB 103 m (cQ m) pv t0 (g0 bk p0 t0) [(3,.var [.lit (.slice none 0 0),.lit (.int .i64 0),.lit (.int .i64 0),.lit (.slice none 0 0)])])
      [.var (au m),.var [pv,.lit (.int .i64 t0),.lit (.int .i64 1099511627776),.lit (.slice none 0 0)],.var [.lit (.int .i64 bk)],.var [.lit (.slice none 0 0),.lit (.int .i64 0),.lit (.int .i64 0),.lit (.slice none 0 0)],.arr 1 (rowsOf aK (cQ m)),.var [.ref 4 1 0 (cQ m).length],.var [.lit (.bool true)],.var [.lit (.int .i64 19999)],.var [.ref 10 5 0 0],.var [.fn 103 zu],.arr 5 []]:=by
    refine⟨?_,(show ([0,1,2,4,5,6,7,9,8,10,3]:List Nat).Nodup by decide)⟩
    unfold qB bB s9 ek g0 fy
    simp[rowsOf]
  have uc:=agU m hm pv t0 (m.cls.length+1) 0 (cQ m) _ (g0 bk p0 t0) _ (by rw[dx.1];simp) (aH _) dx rfl ot ⟨by show (0:Int)≤19999;omega,by show (0:Int)+19999≤1000000;omega⟩ (Int.le_refl _) Lp _ rfl
  have DG:=GA (dn:=103) (m:=m) (left:=cQ m) (pv:=pv) (t0:=t0) (N:=m.cls.length) (m.cls.length+1) 0 (cQ m) (g0 bk p0 t0) _ dx.1 (by omega) (aH _) Lp.fk
  have bC:wL m bk p0 t0=(kU m (m.cls.length+1) 0 (cQ m) (g0 bk p0 t0)).s:=Ag.2.symm
  have j2:=Ag.1
  unfold rP at j2
  rw[bC]
  generalize kU m (m.cls.length+1) 0 (cQ m) (g0 bk p0 t0)=r at *
  have rO:=DG.fk.canon
  have fG:=DG.ol
  have zx:=zj (qB 103 m (cQ m) pv t0 r [(3,.var [.lit (.slice none 0 0),.lit (.int .i64 0),.lit (.int .i64 0),.lit (.slice none 0 0)])]) r.n
  unfold g0 at uc fG
  dsimp only at uc fG
  generalize canon (qB 103 m (cQ m) pv t0 r [(3,.var [.lit (.slice none 0 0),.lit (.int .i64 0),.lit (.int .i64 0),.lit (.slice none 0 0)])]) r.n=o5 at *
  refine ao.aD (fn:=Tryz.f56) 24 0 [.cell 6 41,.tmp 7] Tryz.func56 rfl rfl rfl rfl rfl (by simp) ?_
  ((refine Vb @fS ?_)<;>try with_reducible intro K hK)
  (refine Xn [] (fJ) ?_;simp (disch:=omega) only[Ac,↓Pc,simprocAttr,Ai])
  repeat' (first|((fail_if_success (first|refine iV 7 ?_|refine iW 7 ?_));refine Xr (X2 @fS @Gz) ?_;intro K hK)|(refine hK _ ?_;clear hK K)|refine XY ?_|fail)
  refine dO (aQ.q7 8 0 5 rfl rfl (by decide)) ?_
  refine dO (σ':=⟨aw [(3,.ptr 0 0 0),(4,.ptr 1 0 0),(6,.ptr 3 0 0),(7,.lit (.bool false)),(9,.ptr 6 0 0),(11,.ptr 8 0 0),(12,.ptr 9 0 0)],[.var (au m),.var [pv,.lit (.int .i64 t0),.lit (.int .i64 1099511627776),.lit (.slice none 0 0)],.var [.lit (.int .i64 bk)],.var [.lit (.slice none 0 0),.lit (.int .i64 0),.lit (.int .i64 0),.lit (.slice none 0 0)],.arr 1 (rowsOf aK (cQ m)),.var [.ref 4 1 0 (cQ m).length],.var [.lit (.bool true)],.var [.lit (.int .i64 19999)],.var [.ref 10 5 0 0],.var [.fn 103 zu],.arr 5 []]⟩) (Xv X0) ?_
  unfold zu at uc ⊢
  ((refine Vb @Gz ?_)<;>try with_reducible intro K hK)
  refine mu uc (by rw[zx];exact fG) ?_
  have e8:o5[8]?=some (.var [.ref r.p 5 0 r.R.length]):=lT rO (b:=(8,.var [.ref r.p 5 0 r.R.length])) (by simp[bB])
  have e1:o5[1]?=some (.var [ek pv t0 r.s,.lit (.int .i64 r.s.aU),.lit (.int .i64 r.s.bH),.lit (.slice none 0 0)]):=lT rO (b:=(1,s9 pv t0 r.s)) (by simp[bB])
  have e6:o5[6]?=some (.var [.lit (.bool r.s.whole)]):=lT rO (b:=(6,.var [.lit (.bool r.s.whole)])) (by simp[bB])
  have e3:o5[3]?=some (.var [.lit (.slice none 0 0),.lit (.int .i64 0),.lit (.int .i64 0),.lit (.slice none 0 0)]):=DI rO (b:=(3,.var [.lit (.slice none 0 0),.lit (.int .i64 0),.lit (.int .i64 0),.lit (.slice none 0 0)])) (by simp)
  have jK:cm (ek pv t0 r.s)=true:=by unfold ek;split<;>first|rfl|exact fS
  have wM:=IH (t0:=t0) (s:=r.s) KP
  have vP:=rO.perm qA.symm
  unfold qB bB at vP
  simp only[fB,fU] at vP
  have Lr:=(((vP.front [_,_]).put (.var [ek pv t0 r.s,.lit (.int .i64 r.s.aU),.lit (.int .i64 r.s.bH),.ref r.p 5 0 r.R.length])).perm (qK.swap _ _ _)).put (.var [ek pv t0 r.s,.lit (.int .i64 r.s.aU),.lit (.int .i64 r.s.bH),.ref r.p 5 0 r.R.length])
  have mc:=Lr.at_ (r.p,.arr 5 (rowsOf cf r.R)) (by simp)
  have hfb:∀ b∈fy r.R,_:=fun b hb=>Lr.at_ b (by simp[hb])
  clear vP rO Lr DG Lp fJ uc
  generalize hP:ek pv t0 r.s=pa at *
  have d6:=fun x=>(show (o5.set 1 x)[6]?=some (.var [.lit (.bool r.s.whole)]) by rw[cz (by decide)];exact e6)
  have d1:=fun x=>(show (o5.set 1 x)[1]?=some x from oY e1)
  have d3:=fun x=>(show (o5.set 1 x)[3]?=some (.var [.lit (.slice none 0 0),.lit (.int .i64 0),.lit (.int .i64 0),.lit (.slice none 0 0)]) by rw[cz (by decide)];exact e3)
  have d33:=fun x y=>(show ((o5.set 1 x).set 3 y)[3]?=some y from oY (d3 x))
  have d36:=fun x y=>(show ((o5.set 1 x).set 3 y)[6]?=some (.var [.lit (.bool r.s.whole)]) by rw[cz (by decide)];exact d6 x)
  simp (disch:=omega) only[Ac,↓Pc,simprocAttr]
  refine hK _ ?_
  clear hK K
  repeat (refine Xu ?_)
  refine Vb (X5 @e8 @e1 @d1 @d6 (X4 @d3 @d33 @jK @fS)) ?_
  refine sj [] (.take 0 (.both 1 (.take 2 (.take 3 .nil)) 2 (.take 1 (.take 3 .nil)))) rfl (by decide) (by decide +kernel) ?_
  simp (disch:=omega) only[Ac,↓Pc,simprocAttr,Pw,d1,d6,d3,d33,d36,jK,fS]
  all_goals
    repeat (refine Xu ?_)
    refine Vb (X3 @d33 @jK @fS) ?_
    simp (disch:=omega) only[Ac,↓Pc,simprocAttr,rowOf,d33]
  all_goals
    refine dR [] true (by decide) trivial (by decide) (by decide) (aO.qL (aO.agg _ _ rfl (iK.spec (R:=aO _ _ _ _) (cs:=[pa,.lit (.int .i64 r.s.aU),.lit (.int .i64 r.s.bH),.tree 5 (rowsOf aL r.s.nodes)]) (ds:=[pa,.lit (.int .i64 r.s.aU),.lit (.int .i64 r.s.bH),.ref r.p 5 0 r.R.length]) ⟨.pure wM,.pure rfl,.pure rfl,.snap _ _ rfl ?_,trivial⟩).2) (.pure rfl))
    rw[j2]
    exact Ap mc hfb (fun i h=>by obtain ⟨j,hj,_⟩:=h;cases hj)
end T

