import Derived.Test.YtdipcmigdbnheaaGreatX49
import Derived.Test.YtdipcmigdbnheaaGreatX40
import Derived.Test.YtdipcmigdbnheaaGreatX21
set_option linter.unusedVariables false
set_option linter.unusedSimpArgs false
set_option linter.unnecessarySimpa false
set_option linter.unusedSectionVars false
set_option maxHeartbeats 64000000
set_option maxRecDepth 20000
open List renaming getElem?_eq_some_iff→aS,getElem?_set_ne→bu,append_assoc→cI,length_append→bJ,length_set→bm,getElem?_map→bN,getD_eq_getElem?_getD→ay,getElem?_eq_getElem→bI,set_set→wG,set_cons_zero→pA,length_singleton→wD,cons_append→dG,nil_append→dK,Perm→qa,getElem?_set→bS,replicate→bq,mem_of_getElem?→gw
open And renaming intro→kD
open Nat renaming zero_le→aD
open Go Go.Am Go.Proofs
open Nat (reduceEqDiff reduceAdd reduceLeDiff reduceMul)
open Int (reduceNeg reduceLE reduceToNat)
open Go Go.Am
namespace T
theorem Ei:ty Tryz.prog 113 = { kind:=9,size:=1,bytes:=8,elem:=0,len:=0,zero:=some [.nilFunc],aL:=[] }:=by kernel_rfl
theorem aah (m:ah) (hm:VM m) (pv:AV) (t0:Int):∀ (f c:Nat) (left:List (List Bool)) (os:List Ob) (g:QS) (C:List (Nat × Ob)),left.length+1≤f+c→c≤left.length→dN m left→os.length=g.n→(0≤g.s.cw∧g.s.cw≤1000000)→(0≤g.s.room∧(g.R.length:Int)+g.s.room≤1000000)→g.s.bO≤t0→Fc (qB 103 m left pv t0 g C) os→∀ res,kj m f c left g=res →
    ao Tryz.prog 103 [.lit (.int .i64 (c:Nat)),.ptr 8 0 0,.ptr 5 0 0,.ptr 0 0 0,.ptr 1 0 0,.ptr 2 0 0,.ptr 7 0 0,.ptr 6 0 0,.ptr 9 0 0] os (.lit (.int .i64 g.R.length)) (canon (qB 103 m left pv t0 res C) res.n):=by
  intro f
  induction f with
  | zero=>intro c left os g C hf hc;omega
  | succ f ih =>
    intro c left os g C hf hc ec uj wL y8 Bn hF res an
    have eW:=ec.1
    have mc:=hm.cls
    have n8:=aai m left hm ec
    obtain ⟨k1,k2,k3,k4⟩:=zw (left:=left) _ c rfl
    have f8:os[8]?=some (.var [.ref g.p 5 0 g.R.length]):=k9 hF (b:=(8,.var [.ref g.p 5 0 g.R.length])) (by simp[bB])
    have fp:=HV hF
    have hn9:9<g.n:=by rw[← uj];exact (aS.1 (k9 hF (b:=(9,.var [.fn 103 xu])) (by simp[bB]))).1
    have NU:g.p≠8:=NV hF (b:=(8,.var [.ref g.p 5 0 g.R.length])) (by simp[bB])
    have g8:(os.set g.p .gone)[8]?=some (.var [.ref g.p 5 0 g.R.length]):=by rw[bu NU];exact f8
    have mN:=aaj hF (g.n+2) (g.s.nodes++[ld []])
    have Bo:=Ej (dn:=103) (m:=m) (left:=left) (pv:=pv) (t0:=t0) (N:=left.length) (f+1) c left g C rfl hf hc (by rw[← uj];exact hF.fk)
    rw[an] at Bo
    rw[kj] at an
    refine ao.aF (fn:=Tryz.f103) 132 os.length [.tmp 10] Tryz.func103 rfl rfl rfl rfl rfl (by simp) ?_
    (((refine Va (X5 @f8 @fp @g8 (a7 g8) (X5 (fj g8) (a7 f8) (a7 fp) (fj f8) (X5 (fj fp) @cZ @cI.{0} @bJ.{0} @bm.{0}))) ?_)))
    refine cA (σ':=⟨av [(0,.lit (.int .i64 (c:Nat))),(1,.ptr 8 0 0),(2,.ptr 5 0 0),(3,.ptr 0 0 0),(4,.ptr 1 0 0),(5,.ptr 2 0 0),(6,.ptr 7 0 0),(7,.ptr 6 0 0),(8,.ptr 9 0 0),(11,.lit (.int .i64 g.R.length))],(os.set g.p .gone).set 8 (.var [.ref (os.length+1) 5 0 (g.R.length+1)])++[.arr 5 [b6 cD],.arr 5 (rowsOf b6 (g.R++[cD]))]⟩) (by rw[← aak];exact Xv X0) ?_
    have Bp:((os.set g.p .gone).set 8 (.var [.ref (os.length+1) 5 0 (g.R.length+1)])++[Ob.arr 5 [b6 cD],Ob.arr 5 (rowsOf b6 (g.R++[cD]))]).length=g.n+2:=by simp[uj]
    rw[show os.length+1=g.n+1 by omega] at mN Bp ⊢
    generalize (os.set g.p .gone).set 8 (.var [.ref (g.n+1) 5 0 (g.R.length+1)])++[Ob.arr 5 [b6 cD],Ob.arr 5 (rowsOf b6 (g.R++[cD]))]=o1 at *
    clear f8 fp NU g8 hF
    have gI:(g.R++[cD]).length=g.R.length+1:=by simp
    have hRg:(g.R++[cD]).getD g.R.length default=cD:=NW g.R
    have c0:o1[0]?=some (.var (ar m)):=k9 mN (b:=(0,.var (ar m))) (by simp[bB])
    have c4:o1[4]?=some (.arr 1 (rowsOf aE left)):=k9 mN (b:=(4,.arr 1 (rowsOf aE left))) (by simp[bB])
    have c5:o1[5]?=some (.var [.ref 4 1 0 left.length]):=k9 mN (b:=(5,.var [.ref 4 1 0 left.length])) (by simp[bB])
    have uv:∀ k,k<left.length→(rowsOf aE left)[k]?=some [.tree 1 (bg (left.getD k default))]:=fun k hk=>by
      unfold rowsOf;rw[bN,ay,bI hk];rfl
    have Br:∀ k,k<left.length→(left.getD k default).length≤24:=fun k hk=>by rw[ec.2 k hk];exact hm.opt _ (az (by omega))
    refine aI (fun k:Nat=>(⟨av [(0,.lit (.int .i64 (k:Nat))),(1,.ptr 8 0 0),(2,.ptr 5 0 0),(3,.ptr 0 0 0),(4,.ptr 1 0 0),(5,.ptr 2 0 0),(6,.ptr 7 0 0),(7,.ptr 6 0 0),(8,.ptr 9 0 0),(11,.lit (.int .i64 g.R.length))],o1⟩:St)) (fun k=>c≤k∧k≤left.length∧cE left k=cE left c) (fun k=>left.length - k) c ⟨Nat.le_refl _,hc,rfl⟩ (Xv X0) ?_
    rintro k ⟨gv,bQ,pM⟩ Ql ak aq
    by_cases bD:k<left.length∧(left.getD k default).length=1
    · have sW:=uv k bD.1
      have Bs:=HW bD
      generalize left.getD k default=row at *
      ((repeat' (first|refine Va (X3 @c4 @c5 @sW) ?_|(refine V2 (X3 @c4 @c5 @sW) ?_ ?_<;>try with_reducible intro hb)|(refine Xi ?_ ?_<;>try intro ht)|exact Xx|fail)))
      all_goals exact ak _ (k+1) ⟨by omega,by omega,by rw[← Bs,pM]⟩ (by omega) (Xv X0)
    have iT:k=cE left c:=by rw[← pM,HX bD]
    have NX:∀ st,aA os.length st ⟨av [(0,.lit (.int .i64 (k:Nat))),(1,.ptr 8 0 0),(2,.ptr 5 0 0),(3,.ptr 0 0 0),(4,.ptr 1 0 0),(5,.ptr 2 0 0),(6,.ptr 7 0 0),(7,.ptr 6 0 0),(8,.ptr 9 0 0),(11,.lit (.int .i64 g.R.length))],o1⟩→Ql (.exit 0) st:=fun st cS=>by
      refine aq _ _ rfl ?_
      clear ak aq
      repeat (refine Xu ?_)
      refine cA cS ?_
      clear cS st
      rw[← iT] at an k1 k2 k3 k4
      clear iT pM
      have rQ:dM o1 [] ([]:List Ob)=o1:=by simp[dM]
      ((refine Va (X2 @c0 @c5) ?_)<;>try with_reducible intro K hK)
      refine nR [] n8 (by decide) trivial ⟨.pure rfl,aN.fz c4 (by rw[b5]),trivial⟩ rfl (by simp) ?_
      rw[List.map_nil,rQ]
      simp (disch:=omega) only[Ac,↓Pc,simprocAttr]
      refine hK _ ?_
      clear hK K
      generalize hv:eO m left=v at *
      have c1:o1[1]?=some (.var [df pv t0 g.s,.lit (.int .i64 g.s.bO),.lit (.int .i64 g.s.cu),.lit (.slice none 0 0)]):=k9 mN (b:=(1,rR pv t0 g.s)) (by simp[bB,rR,df])
      have c2:o1[2]?=some (.var [.lit (.int .i64 g.s.cw)]):=k9 mN (b:=(2,.var [.lit (.int .i64 g.s.cw)])) (by simp[bB])
      have c6:o1[6]?=some (.var [.lit (.bool g.s.whole)]):=k9 mN (b:=(6,.var [.lit (.bool g.s.whole)])) (by simp[bB])
      have c7:o1[7]?=some (.var [.lit (.int .i64 g.s.room)]):=k9 mN (b:=(7,.var [.lit (.int .i64 g.s.room)])) (by simp[bB])
      by_cases qw:g.s.bO≤v
      · rw[if_pos qw] at an
        dsimp only at an mN
        have qD:Fc (qB 103 m left pv t0 res C) (o1.set 1 (.var [df pv t0 g.s,.lit (.int .i64 g.s.bO),.lit (.int .i64 (min g.s.cu v)),.lit (.slice none 0 0)])):=by
          subst an;exact vO mN
        have n9:res.n=o1.length:=by rw[← an,Bp]
        clear an
        have Ek:=fun y:Ob=>jk (y:=y) c1
        repeat' (first|((fail_if_success (first|refine im 8 ?_|refine iq 8 ?_));refine Xr (X2 @c1 @Ek) ?_;intro K hK)|(refine hK _ ?_;clear hK K)|(refine Xi ?_ ?_<;>try intro ht)|refine Xy ?_|exact Xx|fail)
        refine cA (σ':=⟨av [(11,.lit (.int .i64 g.R.length))],o1.set 1 (.var [df pv t0 g.s,.lit (.int .i64 g.s.bO),.lit (.int .i64 (min g.s.cu v)),.lit (.slice none 0 0)])⟩) (Xv X0) ?_
        refine cA (aA.canon qD) ?_
        dsimp only
        rw[bm,← n9]
        refine Vb X0 ?_
        exact gR rfl (by rw[xw];omega) rfl
      rw[if_neg qw] at an
      by_cases dx:k=left.length
      · rw[if_pos dx] at an
        have gJ:=aam left (by omega) (fun l hl=>by
          obtain ⟨i,hi,rfl⟩:=List.getElem_of_mem hl
          have:=Br i hi
          rwa [ay,bI hi] at this)
        have HY:dM o1 [] (List.map (bC (bd o1.length [])) [Ob.arr 1 (ints (jl left))])=o1++[Ob.arr 1 (ints (jl left))]:=by simp[dM,ry]
        have xy:∀ x,(o1++[x])[1]?=some (.var [df pv t0 g.s,.lit (.int .i64 g.s.bO),.lit (.int .i64 g.s.cu),.lit (.slice none 0 0)]):=fun x=>a7 c1 _
        have NY:∀ x y,((o1++[x]).set 1 y)[1]?=some y:=fun x y=>jk (xy x)
        have jL:∀ x y z,((o1++[x]).set 1 y).set 1 z=(o1++[x]).set 1 z:=fun x y z=>wG ..
        have NZ:1≠o1.length:=by omega
        have fi:(ints (jl left)).length=left.length:=by simp[ints,jl]
        dsimp only at an mN
        have qD:Fc (qB 103 m left pv t0 res C) ((o1++[Ob.gone]).set 1 (.var [.tree 1 (ints (jl left)),.lit (.int .i64 v),.lit (.int .i64 (min g.s.cu v)),.lit (.slice none 0 0)])):=by
          subst an
          exact vO (mN.app [Ob.gone]) (hy:=by simp[bB,rR,df,show v<t0 by omega])
        have n9:res.n=o1.length+1:=by rw[← an,Bp]
        clear an
        have lS:∀ X:Ob,((o1++[Ob.arr 1 (ints (jl left))]).set 1 X)[o1.length]?=some (.arr 1 (ints (jl left))):=fun X=>by rw[bu NZ];exact jO _ _ _
        have dP:∀ X Y:Ob,(((o1++[Ob.arr 1 (ints (jl left))]).set 1 X).set o1.length .gone).set 1 Y=(o1++[Ob.gone]).set 1 Y:=fun X Y=>by rw[List.set_comm _ _ NZ,wG,zx]
        repeat' (first|((fail_if_success (first|refine im 10 ?_|refine iq 10 ?_));refine Xr (X3 @c1 @c4 @c5) ?_;intro K hK)|(refine hK _ ?_;clear hK K)|(refine Xi ?_ ?_<;>try intro ht)|refine Xy ?_|exact Xx|fail)
        refine oT [] (.take 0 (.take 2 (.take 5 (.both 1 (.take 3 (.take 4 (.take 6 (.take 7 (.take 8 (.take 9 (.take 10 (.take 11 (.take 12 .nil))))))))) 3 (.both 1 (.take 4 (.take 6 (.take 7 (.take 8 (.take 9 (.take 10 (.take 11 (.take 12 .nil)))))))) 4 (.take 1 (.take 6 (.take 7 (.take 8 (.take 9 (.take 10 (.take 11 (.take 12 .nil))))))))))))) rfl (by decide) (by decide +kernel) ?_
        simp (disch:=omega) only[Ac,↓Pc,simprocAttr,Pw,c1,c4,c5]
        repeat' (with_reducible refine kD ?_ ?_)
        all_goals
          refine nR [] gJ (by decide) trivial ⟨aN.fz c4 (by rw[b5]),trivial⟩ rfl (by simp[tY,ints,flat]) ?_
          rw[HY]
          simp (disch:=omega) only[Ac,↓Pc,simprocAttr,Pw,c1,xy,NY,jL]
        all_goals
          repeat (refine Xu ?_)
          refine cA (σ':=⟨av [(11,.lit (.int .i64 g.R.length))],(o1++[Ob.arr 1 (ints (jl left))]).set 1 (.var [.ref o1.length 1 0 (ints (jl left)).length,.lit (.int .i64 v),.lit (.int .i64 (min g.s.cu v)),.lit (.slice none 0 0)])⟩) (by rw[fi];exact Xv X0) ?_
          refine cA (aA.vF o1.length 1 0 1 (NY _ _) (lS _) rfl (qq _) (sL _)) ?_
          simp only[pA]
          rw[dP]
          refine cA (aA.canon qD) ?_
          dsimp only
          rw[bm,bJ,wD,← n9]
          ((repeat' (first|refine Vb X0 ?_|fail)))
          exact gR rfl (by rw[xw];omega) rfl
      rw[if_neg dx] at an
      have dx:k<left.length:=by omega
      have sW:=uv k dx
      have dL:=k4 dx
      have a6:=Br k dx
      generalize eV:left.getD k default=row at *
      by_cases HZ:g.s.cw=0∨g.s.room<row.length
      · rw[if_pos HZ] at an
        dsimp only at an mN
        have qD:Fc (qB 103 m left pv t0 res C) ((o1.set 1 (.var [df pv t0 g.s,.lit (.int .i64 g.s.bO),.lit (.int .i64 (min g.s.cu v)),.lit (.slice none 0 0)])).set 6 (.var [.lit (.bool false)])):=by
          subst an
          have h1:=vO (i:=1) (y:=(.var [df pv t0 g.s,.lit (.int .i64 g.s.bO),.lit (.int .i64 (min g.s.cu v)),.lit (.slice none 0 0)])) (left':=left) (g':=⟨g.n+2,g.n+1,g.R++[cD],{ g.s with nodes:=g.s.nodes++[ld []],cu:=min g.s.cu v }⟩) mN
          exact vO h1
        have n9:res.n=o1.length:=by rw[← an,Bp]
        clear an
        have N0:∀ x,(o1.set 1 x)[6]?=some (.var [.lit (.bool g.s.whole)]):=fun x=>by rw[bu (by decide)];exact c6
        have Ek:=fun y:Ob=>jk (y:=y) c1
        repeat' (first|((fail_if_success (first|refine im 14 ?_|refine iq 14 ?_));refine Xr (X5 @c1 @c2 @c4 @c5 (X4 @c7 @sW @Ek @N0)) ?_;intro K hK)|(refine hK _ ?_;clear hK K)|(refine Xg (X5 @c1 @c2 @c4 @c5 (X4 @c7 @sW @Ek @N0)) ?_ ?_<;>try intro hb)|(refine Xi ?_ ?_<;>try intro ht)|refine Xy ?_|refine Xd ?_ ?_|exact Xx|fail)
        all_goals
          refine cA (σ':=⟨av [(11,.lit (.int .i64 g.R.length))],(o1.set 1 (.var [df pv t0 g.s,.lit (.int .i64 g.s.bO),.lit (.int .i64 (min g.s.cu v)),.lit (.slice none 0 0)])).set 6 (.var [.lit (.bool false)])⟩) (Xv X0) ?_
          refine cA (aA.canon qD) ?_
          dsimp only
          rw[bm,bm,← n9]
          ((repeat' (first|refine Vb X0 ?_|fail)))
          exact gR rfl (by rw[xw];omega) rfl
      rw[if_neg HZ] at an
      rw[not_or] at HZ
      unfold kk at an
      rw[eV] at an
      have c8:o1[8]?=some (.var [.ref (g.n+1) 5 0 (g.R.length+1)]):=k9 mN (b:=(8,.var [.ref (g.n+1) 5 0 (g.R.length+1)])) (by simp[bB])
      have qD:Fc (qB 103 m left pv t0 ⟨g.n+2,g.n+1,g.R++[cD],⟨g.s.nodes++[ld []],g.s.room - row.length,g.s.cw - 1,g.s.whole,g.s.plan,g.s.bO,g.s.cu⟩⟩ C) ((o1.set 2 (.var [.lit (.int .i64 (g.s.cw - 1))])).set 7 (.var [.lit (.int .i64 (g.s.room - row.length))])):=by
        have h1:=vO (i:=2) (y:=(.var [.lit (.int .i64 (g.s.cw - 1))])) (left':=left) (g':=⟨g.n+2,g.n+1,g.R++[cD],{ g.s with nodes:=g.s.nodes++[ld []],cw:=g.s.cw - 1 }⟩) mN
        exact vO h1
      have H0:∀ x,(o1.set 2 x)[7]?=some (.var [.lit (.int .i64 g.s.room)]):=fun x=>by rw[bu (by decide)];exact c7
      have H2:∀ x,(o1.set 2 x)[4]?=some (.arr 1 (rowsOf aE left)):=fun x=>by rw[bu (by decide)];exact c4
      have H3:∀ x,(o1.set 2 x)[5]?=some (.var [.ref 4 1 0 left.length]):=fun x=>by rw[bu (by decide)];exact c5
      repeat' (first|((fail_if_success (first|refine im 18 ?_|refine iq 18 ?_));refine Xr (X5 @c1 @c2 @c4 @c5 (X5 @c7 @sW @H0 @H2 @H3)) ?_;intro K hK)|(refine hK _ ?_;clear hK K)|(refine Xg (X5 @c1 @c2 @c4 @c5 (X5 @c7 @sW @H0 @H2 @H3)) ?_ ?_<;>try intro hb)|(refine Xi ?_ ?_<;>try intro ht)|refine Xy ?_|refine Xd ?_ ?_|exact Xx|fail)
      refine cA (σ':=⟨av [(0,.lit (.int .i64 (k:Nat))),(1,.ptr 8 0 0),(2,.ptr 5 0 0),(3,.ptr 0 0 0),(4,.ptr 1 0 0),(5,.ptr 2 0 0),(6,.ptr 7 0 0),(7,.ptr 6 0 0),(8,.ptr 9 0 0),(11,.lit (.int .i64 g.R.length)),(13,.tree 1 (bg row))],(o1.set 2 (.var [.lit (.int .i64 (g.s.cw - 1))])).set 7 (.var [.lit (.int .i64 (g.s.room - row.length))])⟩) (Xv X0) ?_
      have El:((o1.set 2 (.var [.lit (.int .i64 (g.s.cw - 1))])).set 7 (.var [.lit (.int .i64 (g.s.room - row.length))])).length=g.n+2:=by simp[Bp]
      generalize (o1.set 2 (.var [.lit (.int .i64 (g.s.cw - 1))])).set 7 (.var [.lit (.int .i64 (g.s.room - row.length))])=o2 at *
      clear c0 c1 c2 c4 c5 c6 c7 c8 H0 H2 H3 mN
      refine Va @cZ ?_
      refine cA (aA.ma o2.length 1 1 (jO _ _ _) rfl (by decide)) ?_
      simp only[List.set_cons_succ,pA,cI,dG,dK,bJ,wD,zx]
      rw[El]
      refine cA (σ':=⟨av [(0,.lit (.int .i64 (k:Nat))),(1,.ptr 8 0 0),(2,.ptr 5 0 0),(3,.ptr 0 0 0),(4,.ptr 1 0 0),(5,.ptr 2 0 0),(6,.ptr 7 0 0),(7,.ptr 6 0 0),(8,.ptr 9 0 0),(11,.lit (.int .i64 g.R.length)),(13,.tree 1 (bg row)),(14,.ptr (g.n+2) 0 0),(96,.tree 1 (bg row)),(97,.lit (.int .i64 row.length)),(98,.lit (.int .i64 (0:Nat)))],o2++[.var (b6 ⟨k,some (g.n+3,[]),none⟩),.arr 1 (ints [])]⟩) (Xv X0) ?_
      have N1:Fc (qB 103 m (left.set k row) pv t0 ⟨g.n+4,g.n+1,g.R++[cD],⟨g.s.nodes++[ld []],g.s.room - row.length,g.s.cw - 1,g.s.whole,g.s.plan,g.s.bO,g.s.cu⟩⟩ ((g.n+3,.arr 1 (ints []))::(g.n+2,.var (b6 ⟨k,some (g.n+3,[]),none⟩))::C)) (o2++[.var (b6 ⟨k,some (g.n+3,[]),none⟩),.arr 1 (ints [])]):=by
        have e:left.set k row=left:=by rw[← eV];exact setRow_self dx
        rw[e]
        have qD:Fc (qB 103 m left pv t0 ⟨g.n+4,g.n+1,g.R++[cD],⟨g.s.nodes++[ld []],g.s.room - row.length,g.s.cw - 1,g.s.whole,g.s.plan,g.s.bO,g.s.cu⟩⟩ C) o2:=qD
        have h1:=(qD.app [Ob.var (b6 ⟨k,some (g.n+3,[]),none⟩),Ob.arr 1 (ints [])]).add (k:=g.n+2) (x:=.var (b6 ⟨k,some (g.n+3,[]),none⟩)) (by rw[← El];exact jO _ _ _) (qD.fresh (by omega))
        have h2:=h1.add (k:=g.n+3) (x:=.arr 1 (ints [])) (by rw[show g.n+3=o2.length+1 by omega,me];rfl) (by
          rw[List.map_cons,List.mem_cons,not_or]
          exact⟨by dsimp only;omega,qD.fresh (by omega)⟩)
        exact h2.perm ((qa.cons _ pN).trans pN)
      have N2:(o2++[Ob.var (b6 ⟨k,some (g.n+3,[]),none⟩),Ob.arr 1 (ints [])]).length=g.n+4:=by simp[El]
      generalize o2++[Ob.var (b6 ⟨k,some (g.n+3,[]),none⟩),Ob.arr 1 (ints [])]=o3 at *
      clear qD El o2
      generalize pO:jF (kj m f (k+1)) left k row.length 0 ⟨g.n+4,g.n+1,g.R++[cD],⟨g.s.nodes++[ld []],g.s.room - row.length,g.s.cw - 1,g.s.whole,g.s.plan,g.s.bO,g.s.cu⟩⟩ (g.n+3) []=RR at *
      refine aI (fun z:Nat × QS × Nat × List Int × List Ob × List Bool=>(⟨av [(0,.lit (.int .i64 (k:Nat))),(1,.ptr 8 0 0),(2,.ptr 5 0 0),(3,.ptr 0 0 0),(4,.ptr 1 0 0),(5,.ptr 2 0 0),(6,.ptr 7 0 0),(7,.ptr 6 0 0),(8,.ptr 9 0 0),(11,.lit (.int .i64 g.R.length)),(13,.tree 1 (bg row)),(14,.ptr (g.n+2) 0 0),(97,.lit (.int .i64 row.length)),(98,.lit (.int .i64 z.1))],z.2.2.2.2.1⟩:St))
        (fun z=>z.1≤row.length∧z.2.2.2.1.length=z.1∧g.R.length<z.2.1.R.length∧z.2.1.R.getD g.R.length default=cD∧z.2.2.2.2.1.length=z.2.1.n∧g.n≤z.2.1.n∧Fc (qB 103 m (left.set k z.2.2.2.2.2) pv t0 z.2.1 ((z.2.2.1,.arr 1 (ints z.2.2.2.1))::(g.n+2,.var (b6 ⟨k,some (z.2.2.1,z.2.2.2.1),none⟩))::C)) z.2.2.2.2.1 ∧
          jF (kj m f (k+1)) left k (row.length - z.1) z.1 z.2.1 z.2.2.1 z.2.2.2.1=RR∧(z.2.1.R.length:Int)+z.2.1.s.room=g.R.length+1+g.s.room - row.length+z.1∧0≤z.2.1.s.room∧(0≤z.2.1.s.cw∧z.2.1.s.cw≤1000000)∧z.2.1.s.bO≤t0) (fun z=>row.length - z.1)
        (0,⟨g.n+4,g.n+1,g.R++[cD],⟨g.s.nodes++[ld []],g.s.room - row.length,g.s.cw - 1,g.s.whole,g.s.plan,g.s.bO,g.s.cu⟩⟩,g.n+3,[],o3,row) ⟨aD _,rfl,by dsimp only;omega,hRg,N2,by dsimp only;omega,N1,pO,by dsimp only;rw[gI];omega,by dsimp only;omega,by dsimp only;omega,Bn⟩ (Xv X0) ?_
      clear N1 N2 o3 pO
      rintro ⟨i,gg,q,ks,o,x⟩ ⟨hi,pM,Em,En,jh,hgn,rS,hr,hbr,pP,k7,jP⟩ lH fl eX
      dsimp only at hi pM Em En jh hgn rS hr hbr pP k7 jP ⊢
      have d4:o[4]?=some (.arr 1 (rowsOf aE (left.set k x))):=k9 rS (b:=(4,.arr 1 (rowsOf aE (left.set k x)))) (by simp[bB])
      have d5:o[5]?=some (.var [.ref 4 1 0 left.length]):=k9 rS (b:=(5,.var [.ref 4 1 0 left.length])) (by simp[bB])
      have d9:o[9]?=some (.var [.fn 103 [.ptr 8 0 0,.ptr 5 0 0,.ptr 0 0 0,.ptr 1 0 0,.ptr 2 0 0,.ptr 7 0 0,.ptr 6 0 0,.ptr 9 0 0]]):=k9 rS (b:=(9,.var [.fn 103 xu])) (by simp[bB])
      have dv:o[g.n+2]?=some (.var (b6 ⟨k,some (q,ks),none⟩)):=Bt rS (b:=(g.n+2,.var (b6 ⟨k,some (q,ks),none⟩))) (by simp)
      have h4l:=(aS.1 d4).1
      have aaq:k<(left.set k x).length:=by rw[bm];exact dx
      have cK:(rowsOf aE (left.set k x)).length=left.length:=by rw[b5,bm]
      by_cases hi':i<row.length
      · have Eo:(rowsOf aE (left.set k x))[k]?=some [.tree 1 (bg x)]:=by
          unfold rowsOf
          rw[bN,bS,if_pos rfl,if_pos dx];rfl
        have dP:∀ y,((rowsOf aE (left.set k x)).set k y)[k]?=some y:=fun y=>by rw[bS,if_pos rfl,if_pos (by rw[cK];exact dx)]
        have e4:∀ A B,((o++[A]).set 4 B)[4]?=some B:=fun A B=>jk (a7 d4 _)
        have e5:∀ A B,((o++[A]).set 4 B)[5]?=some (.var [.ref 4 1 0 left.length]):=fun A B=>by rw[bu (by decide)];exact a7 d5 _
        have eL:∀ A B,((o++[A]).set 4 B)[o.length]?=some A:=fun A B=>by rw[bu (by omega)];exact jO _ _ _
        have N3:=fun A=>a7 d5 [A]
        have zy:=fun A=>a7 d4 [A]
        have N4:(bg (bq row.length false))[i]?=some [.lit (.bool false)]:=by
          unfold bg
          rw[bN,List.getElem?_replicate,if_pos hi'];rfl
        have uw:(bg (lI row.length i)).length=row.length:=by rw[yP,H4]
        have Ep:bF left k i=left.set k (lI row.length i):=by unfold bF;rw[eV]
        repeat' (first|((fail_if_success (first|refine im 24 ?_|refine iq 24 ?_));refine Xr (X5 @d4 @d5 @zy @N3 (X5 @Eo @dP @e4 @e5 (X5 @eL @cK @N4 @bm.{0} (X2 @bJ.{0} @List.length_replicate.{0})))) ?_;intro K hK)|(refine hK _ ?_;clear hK K)|(refine Xi ?_ ?_<;>try intro ht)|refine Xy ?_|refine Xd ?_ ?_|exact Xx|fail)
        refine cA (σ':=⟨av [(0,.lit (.int .i64 (k:Nat))),(1,.ptr 8 0 0),(2,.ptr 5 0 0),(3,.ptr 0 0 0),(4,.ptr 1 0 0),(5,.ptr 2 0 0),(6,.ptr 7 0 0),(7,.ptr 6 0 0),(8,.ptr 9 0 0),(11,.lit (.int .i64 g.R.length)),(13,.tree 1 (bg row)),(14,.ptr (g.n+2) 0 0),(97,.lit (.int .i64 row.length)),(98,.lit (.int .i64 i))],((o++[Ob.arr 1 (bg (bq row.length false))]).set 4 (.arr 1 ((rowsOf aE (left.set k x)).set k [.ref o.length 1 0 row.length]))).set o.length (.arr 1 (bg (lI row.length i)))⟩) (by unfold lI;exact Xv X0) ?_
        refine cA (aA.H5 o.length 4 k 0 1 1 (R:=(rowsOf aE (left.set k x)).set k [.ref o.length 1 0 row.length]) (cells:=[.ref o.length 1 0 row.length]) (rows:=bg (lI row.length i)) (by rw[bu (by omega)];exact e4 _ _) (dP _) (jk (eL _ _)) (by rw[uw];rfl) (by omega) (G0 _) (MK _)) ?_
        have N5:∀ A B A' B':Ob,(((((o++[A]).set 4 B).set o.length A').set o.length Ob.gone).set 4 B')=(o++[Ob.gone]).set 4 B':=fun A B A' B'=>by
          rw[wG,List.set_comm _ _ (show 4≠o.length by omega),wG,zx]
        rw[N5,wG]
        simp only[pA]
        rw[N6,← Ep]
        have zz:Fc (qB 103 m (bF left k i) pv t0 ⟨gg.n+1,gg.p,gg.R,gg.s⟩ ((q,.arr 1 (ints ks))::(g.n+2,.var (b6 ⟨k,some (q,ks),none⟩))::C)) ((o++[Ob.gone]).set 4 (.arr 1 (rowsOf aE (bF left k i)))):=by
          rw[Ep]
          exact vO (rS.app [Ob.gone])
        have H6:((o++[Ob.gone]).set 4 (.arr 1 (rowsOf aE (bF left k i)))).length=gg.n+1:=by simp[jh]
        generalize (o++[Ob.gone]).set 4 (.arr 1 (rowsOf aE (bF left k i)))=o4 at *
        clear rS d4 d5 d9 dv h4l aaq cK Eo dP e4 e5 eL N3 zy N4 N5 jh
        have oY:(bF left k i).length=left.length:=by rw[Ep,bm]
        have hG:=ih (k+1) (bF left k i) o4 ⟨gg.n+1,gg.p,gg.R,gg.s⟩ _ (by omega) (by omega) (Bu ec (Er _ _ _)) H6 k7 ⟨pP,by dsimp only;omega⟩ jP zz _ rfl
        have N7:=Ej (dn:=103) (m:=m) (left:=bF left k i) (pv:=pv) (t0:=t0) (N:=left.length) f (k+1) (bF left k i) ⟨gg.n+1,gg.p,gg.R,gg.s⟩ _ oY (by omega) (by omega) (by have:=zz.fk;rw[H6] at this;exact this)
        have N8:=N9 m (N:=left.length) f (k+1) (bF left k i) ⟨gg.n+1,gg.p,gg.R,gg.s⟩ oY (by omega) (by omega)
        have aar:=N' m f (k+1) (bF left k i) ⟨gg.n+1,gg.p,gg.R,gg.s⟩
        rw[show row.length - i=(row.length - (i+1))+1 by omega,jF] at hr
        have d9:o4[9]?=some (.var [.fn 103 [.ptr 8 0 0,.ptr 5 0 0,.ptr 0 0 0,.ptr 1 0 0,.ptr 2 0 0,.ptr 7 0 0,.ptr 6 0 0,.ptr 9 0 0]]):=k9 zz (b:=(9,.var [.fn 103 xu])) (by simp[bB])
        have dv:o4[g.n+2]?=some (.var (b6 ⟨k,some (q,ks),none⟩)):=Bt zz (b:=(g.n+2,.var (b6 ⟨k,some (q,ks),none⟩))) (by simp)
        generalize kj m f (k+1) (bF left k i) ⟨gg.n+1,gg.p,gg.R,gg.s⟩=r at *
        obtain ⟨x1,x2,x3,x4⟩:=N7
        obtain ⟨y1,y2,y3,y4,y5⟩:=aar
        dsimp only at x1 x2 x3 N8 y1 y2 y3 y4 y5 hG
        have qE:=x4.canon
        have xz:=xw (qB 103 m (bF left k i) pv t0 r ((q,.arr 1 (ints ks))::(g.n+2,.var (b6 ⟨k,some (q,ks),none⟩))::C)) r.n
        generalize canon (qB 103 m (bF left k i) pv t0 r ((q,.arr 1 (ints ks))::(g.n+2,.var (b6 ⟨k,some (q,ks),none⟩))::C)) r.n=o5 at *
        have dq:o5[q]?=some (.arr 1 (ints ks)):=Bt qE (b:=(q,.arr 1 (ints ks))) (by simp)
        have Bv:o5[g.n+2]?=some (.var (b6 ⟨k,some (q,ks),none⟩)):=Bt qE (b:=(g.n+2,.var (b6 ⟨k,some (q,ks),none⟩))) (by simp)
        have Bw:(o5.set q Ob.gone)[g.n+2]?=some (.var (b6 ⟨k,some (q,ks),none⟩)):=xA Bv dq (by simp)
        have ux:=aas (X':=.var (b6 ⟨k,some (r.n+1,ks++[(gg.R.length:Int)]),none⟩)) (.arr 1 [[.lit (.int .i64 gg.R.length)]]) qE (r.n+2) (.arr 1 (ints (ks++[(gg.R.length:Int)])))
        rw[xz] at ux
        have gv:((k+1:Nat):Int)=(k:Int)+1:=by omega
        have aat:os.length≤o5.length:=by rw[xz,uj];omega
        have aau:o4.length≤o5.length:=by rw[xz,H6];exact x3
        rw[gv] at hG
        have aav:b6 ⟨(k:Int),some (o5.length+1,ks++[(gg.R.length:Int)]),none⟩=[.lit (.int .i64 k),.ref (o5.length+1) 1 0 (ks.length+1),.lit (.slice none 0 0),.lit (.slice none 0 0),.lit (.slice none 0 0)]:=by unfold b6 kE mE;simp
        unfold b6 kE mE at dv Bv Bw
        dsimp only at dv Bv Bw
        refine oT [] (.take 2 (.take 3 (.take 4 (.both 0 (.both 1 (.take 5 (.take 6 (.take 7 (.take 8 (.take 9 .nil))))) 5 (.take 1 (.take 6 (.take 7 (.take 8 (.take 9 .nil)))))) 5 (.take 0 (.take 1 (.take 6 (.take 7 (.take 8 (.take 9 .nil)))))))))) rfl (by decide) (by decide +kernel) ?_
        simp (disch:=omega) only[Ac,↓Pc,simprocAttr,Pw,dv,d9,Ei]
        repeat' (first|with_reducible refine kD ?_ ?_|omega)
        all_goals
          refine mD hG (by first|exact aau|exact aat) ?_
          simp (disch:=omega) only[Ac,↓Pc,simprocAttr,Pw,Ei,dq,Bv,Bw,a7 dq,fj dq,a7 Bv,a7 Bw,fj Bw,cZ,cI,bJ,bm,DB]
          repeat' (first|with_reducible refine kD ?_ ?_|omega)
        all_goals
          repeat (refine Xu ?_)
          ((repeat' (first|refine Va X0 ?_|fail)))
          refine fl _ (i+1,⟨r.n+2,r.p,r.R,r.s⟩,r.n+1,ks++[(gg.R.length:Int)],(o5.set q Ob.gone).set (g.n+2) (.var (b6 ⟨k,some (r.n+1,ks++[(gg.R.length:Int)]),none⟩))++[.arr 1 [[.lit (.int .i64 gg.R.length)]],.arr 1 (ints (ks++[(gg.R.length:Int)]))],lI row.length i) ⟨by dsimp only;omega,by dsimp only;rw[bJ,pM];rfl,by dsimp only;omega,(x2 _ Em).trans En,by dsimp only;simp[xz],by dsimp only;omega,?_,hr,by dsimp only;rw[N8];omega,by dsimp only;omega,by dsimp only;omega,by dsimp only;omega⟩ (by dsimp only;omega) (by dsimp only;rw[← xz,aav];exact Xv X0)
          rw[← Ep]
          exact ux
      · obtain rfl:i=row.length:=by omega
        rw[Nat.sub_self,jF] at hr
        have H7:gg.p≠4:=NV rS (b:=(4,.arr 1 (rowsOf aE (left.set k x)))) (by simp[bB])
        have d8:o[8]?=some (.var [.ref gg.p 5 0 gg.R.length]):=k9 rS (b:=(8,.var [.ref gg.p 5 0 gg.R.length])) (by simp[bB])
        have dp:=HV rS
        have Eo:(rowsOf aE (left.set k x))[k]?=some [.tree 1 (bg x)]:=by
          unfold rowsOf
          rw[bN,bS,if_pos rfl,if_pos dx];rfl
        have Bx:left.set k row=left:=by rw[← eV];exact setRow_self dx
        have iS:(rowsOf aE (left.set k x)).set k [.tree 1 (bg row)]=rowsOf aE left:=by rw[N6,Bx]
        have zz:Fc (qB 103 m left pv t0 gg ((q,.arr 1 (ints ks))::(g.n+2,.var (b6 ⟨k,some (q,ks),none⟩))::C)) (o.set 4 (.arr 1 (rowsOf aE left))):=vO rS
        have qE:=((zz.perm pN.symm).perm ((qa.cons _ pN.symm).trans (qa.swap _ _ _))).drop.1.perm pN
        have ux:=aaw (c:=(k:Int)) Em En qE gg.n (sX k g.R.length (gg.s,ks)).nodes
        have lg:Fc (qB 103 m left pv t0 res C) ((o.set 4 (.arr 1 (rowsOf aE left))).set gg.p (.arr 5 (rowsOf b6 (gg.R.set g.R.length ⟨(k:Int),some (q,ks),none⟩)))):=by
          rw[← an,← hr];exact ux
        have n9:res.n=o.length:=by rw[← an,← hr];exact jh.symm
        have f5:=fun y=>(show (o.set 4 y)[5]?=some (.var [.ref 4 1 0 left.length]) by rw[bu (by decide)];exact d5)
        have f8:=fun y=>(show (o.set 4 y)[8]?=some (.var [.ref gg.p 5 0 gg.R.length]) by rw[bu (by decide)];exact d8)
        have fp:=fun y=>(show (o.set 4 y)[gg.p]?=some (.arr 5 (rowsOf b6 gg.R)) by rw[bu (Ne.symm H7)];exact dp)
        have fv:=fun y=>(show (o.set 4 y)[g.n+2]?=some (.var (b6 ⟨k,some (q,ks),none⟩)) by rw[bu (by omega)];exact dv)
        have jm:=aax Em En
        have AY:=aay gg.R g.R.length ⟨(k:Int),some (q,ks),none⟩
        unfold b6 kE mE at dv
        unfold b6 kE mE cD at jm
        dsimp only at dv jm
        ((repeat' (first|refine Va X0 ?_|(refine Xi ?_ ?_<;>try intro ht)|exact Xx|fail)))
        refine eX _ _ rfl ?_
        clear fl eX
        repeat (refine Xu ?_)
        repeat' (first|((fail_if_success (first|refine im 28 ?_|refine iq 28 ?_));refine Xr (X5 @d4 @d5 @cK @Eo (X5 @iS @f5 @f8 @fp (X5 @fv @jm @b6.eq_1 (X2 @kE.eq_1 @kE.eq_2) (X2 (X2 @mE.eq_1 @mE.eq_2) @Oa)))) ?_;intro K hK)|(refine hK _ ?_;clear hK K)|refine Xy ?_|refine Xd ?_ ?_|exact Xx|fail)
        refine cA (σ':=⟨av [(11,.lit (.int .i64 g.R.length))],(o.set 4 (.arr 1 (rowsOf aE left))).set gg.p (.arr 5 (rowsOf b6 (gg.R.set g.R.length ⟨(k:Int),some (q,ks),none⟩)))⟩) (by rw[← AY];exact Xv X0) ?_
        refine cA (aA.canon lg) ?_
        dsimp only
        rw[bm,bm,← n9]
        refine Vb X0 ?_
        exact gR rfl (by rw[xw];omega) rfl
    by_cases dx:k<left.length
    · have sW:=uv k dx
      have dL:(left.getD k default).length≠1:=fun e=>bD ⟨dx,e⟩
      generalize left.getD k default=row at *
      ((repeat' (first|refine Va (X3 @c4 @c5 @sW) ?_|(refine V2 (X3 @c4 @c5 @sW) ?_ ?_<;>try with_reducible intro hb)|(refine Xi ?_ ?_<;>try intro ht)|exact Xx|fail)))
      all_goals exact NX _ (Xv X0)
    · ((repeat' (first|refine Va (X2 @c4 @c5) ?_|(refine V2 (X2 @c4 @c5) ?_ ?_<;>try with_reducible intro hb)|(refine Xi ?_ ?_<;>try intro ht)|exact Xx|fail)))
      all_goals exact NX _ (Xv X0)
end T
namespace T
theorem aaz (m:ah) (b9:VM m):ao Tryz.prog 102 [.agg (ar m)] [] (.ref 0 1 0 (ef m).length) [.arr 1 (rowsOf aE (ef m))]:=by
  have hm:=b9.mb
  have h1:=vI m hm
  have qF:=hm.cls
  generalize an:ef m=res
  unfold ef at an
  refine ao.aF (fn:=Tryz.f102) 25 0 [.tmp 2] Tryz.func102 rfl rfl rfl rfl rfl (by simp) ?_
  have hv:dI m=0:=iJ.2 b9
  rw[if_pos hv] at an
  rw[hv] at h1
  have mc:=b9.cls
  ((repeat' (first|refine Vd @bne_self_eq_false.{0} h1 ?_|(refine Xi ?_ ?_<;>try intro ht)|exact Xx|fail)))
  refine aI (fun z:Nat × List (List Bool)=>(⟨av [(1,.ptr 0 0 0),(3,.ref 1 1 0 z.2.length),(10,.tree 1 (rowsOf bn m.cls)),(11,.lit (.int .i64 m.cls.length)),(12,.lit (.int .i64 z.1))],[.var (ar m),.arr 1 (rowsOf aE z.2)]⟩:St))
    (fun z=>z.1≤m.cls.length∧z.2=(kI m).take z.1) (fun z=>m.cls.length - z.1) (0,[]) ⟨aD _,rfl⟩ ?_ ?_
  · refine aA.trans (aA.nil 3 1 (by simp only[Kc,simprocAttr]) (by decide)) ?_
    exact Xv X0
  rintro ⟨i,xs⟩ ⟨hi,cF⟩ Ql ak aq
  dsimp only at hi cF ⊢
  have ik:(kI m).length=m.cls.length:=by simp[kI]
  by_cases hi':i<m.cls.length
  · have uy:xs.length=i:=by rw[cF,List.length_take];omega
    have cS:(kI m).take (i+1)=xs++[bq (m.cls.getD i default).length true]:=by
      rw[eu (by omega),← cF];unfold kI;rw[iu _ _ _ hi']
    have qG:=b9.opt _ (az (d:=default) hi')
    generalize aO:m.cls.getD i default=c at *
    have By:=Od true c.length (by omega)
    repeat' (first|((fail_if_success (first|refine im 7 ?_|refine iq 7 ?_));refine Xr (X2 @aO @bn.eq_1) ?_;intro K hK)|(refine hK _ ?_;clear hK K)|(refine Xi ?_ ?_<;>try intro ht)|refine Xy ?_|refine Xd ?_ ?_|exact Xx|fail)
    refine HR 5 (by decide) ?_
    intro K K1 hK vM
    simp (disch:=omega) only[Ac,↓Pc,simprocAttr,List.take]
    refine nR [] By (by decide) trivial ⟨aN.fz (rows:=rowsOf kJ [true]) rfl rfl (by simp),.pure rfl,trivial⟩ rfl (by simp[tY,kJ,rowsOf,flat]) ?_
    simp (disch:=omega) only[Ac,↓Pc,simprocAttr]
    refine vM _ ⟨av [(1,.ptr 0 0 0),(3,.ref 1 1 0 xs.length),(10,.tree 1 (rowsOf bn m.cls)),(11,.lit (.int .i64 m.cls.length)),(12,.lit (.int .i64 i)),(16,.ref 1 1 0 xs.length),(20,.tree 1 (bg (bq c.length true)))],[.var (ar m),.arr 1 (rowsOf aE xs)]⟩ ?_ ?_
    · rw[← Oe]
      exact Xs true [0,1] X0
    clear vM K1
    simp (disch:=omega) only[Ac,↓Pc,simprocAttr,List.drop,Of]
    repeat' (first|with_reducible refine kD ?_ ?_|omega)
    refine hK _ ?_;clear hK K
    repeat (refine Xu ?_)
    refine Va X0 ?_
    refine ak _ (i+1,xs++[bq c.length true]) ⟨by dsimp only;omega,cS.symm⟩ (by dsimp only;omega) ?_
    exact Xs false [0,3] X0
  · rw[List.take_of_length_le (by omega)] at cF
    ((repeat' (first|refine Va X0 ?_|(refine Xi ?_ ?_<;>try intro ht)|exact Xx|fail)))
    refine aq _ _ rfl ?_;clear ak aq Ql
    repeat (refine Xu ?_)
    refine Vb X0 ?_
    rw[cF,an]
    exact Xw false [1] X0
end T
namespace T
variable {σ:St} {kp:Nat→Prop}
theorem aaA {id n:Nat} {xs:List Int} (ho:σ.aa[id]?=some (.arr 1 (ints xs))) (hn:n=xs.length) (hk:¬ kp id):bV σ kp (.tree 1 (ints xs)) (.ref id 1 0 n) :=
  bV.mk ho (by rw[hn];simp[ints]) hk (qq _) (iF.xB (f:=fun _=>[]) (g:=fun _=>[]) rfl fun j c d hc hd=>by rw[hc] at hd;cases hd;exact Es (fun v hv=>sL _ _ (gw hc) v hv) rfl)
theorem aaB {α:Type} {enc:α→List AV} {w:Nat} [Row enc w] {id n:Nat} {xs:List α} (ho:σ.aa[id]?=some (.arr w (rowsOf enc xs))) (hn:n=xs.length) (hk:¬ kp id):bV σ kp (.tree w (rowsOf enc xs)) (.ref id w 0 n) :=
  bV.mk ho (by rw[hn,b5]) hk (fZ _) (iF.xB (f:=fun _=>[]) (g:=fun _=>[]) rfl fun j c d hc hd=>by rw[hc] at hd;cases hd;exact Es (fun v hv=>l9 _ _ (gw hc) v hv) rfl)
theorem aaC (x:Option (Nat × List Int)) (h:∀ b∈kO x,σ.aa[b.1]?=some b.2) (hk:∀ i,¬ kp i):bV σ kp (.tree 1 (ints ((x.map (·.2)).getD []))) (kE x):=by
  cases x with
  | none=>exact .nil 1
  | some y=>exact aaA (h (y.1,.arr 1 (ints y.2)) (by simp[kO])) rfl (hk _)
theorem aaD (x:Option (Nat × List Mv)) (h:∀ b∈mO x,σ.aa[b.1]?=some b.2) (hk:∀ i,¬ kp i):bV σ kp (.tree 4 (rowsOf fO ((x.map (·.2)).getD []))) (mE x):=by
  cases x with
  | none=>exact .nil 4
  | some y=>exact aaB (h (y.1,.arr 4 (rowsOf fO y.2)) (by simp[mO])) rfl (hk _)
theorem aaE (r:Rw) (h:∀ b∈lJ r,σ.aa[b.1]?=some b.2) (hk:∀ i,¬ kp i):fD (bV σ kp) (aM (Bz r)) (b6 r) :=
  ⟨.lit _,aaC r.zA (fun b hb=>h b (by unfold lJ;simp[hb])) hk,aaD r.mv (fun b hb=>h b (by unfold lJ;simp[hb])) hk,.nil 1,.nil 1,trivial⟩
theorem Og (hk:∀ i,¬ kp i):∀ (R:List Rw),(∀ b∈eY R,σ.aa[b.1]?=some b.2)→iF (bV σ kp) (rowsOf aM (R.map Bz)) (rowsOf b6 R)
  | [],_=>trivial
  | r::R,h=>⟨aaE r (fun b hb=>h b (by unfold eY;simp[hb])) hk,Og hk R (fun b hb=>h b (by unfold eY at hb ⊢;rw[List.flatMap_cons,List.mem_append];exact .inr hb))⟩
theorem vN {p:Nat} {R:List Rw} (hp:σ.aa[p]?=some (.arr 5 (rowsOf b6 R))) (h:∀ b∈eY R,σ.aa[b.1]?=some b.2) (hk:∀ i,¬ kp i):bV σ kp (.tree 5 (rowsOf aM (R.map Bz))) (.ref p 5 0 R.length) :=
  bV.mk hp (by rw[Oa]) (hk _) (fZ _) (Og hk R h)
end T
namespace T
def g0 (cw:Int) (p0:List Int) (t0:Int):QS:=⟨11,10,[],⟨[],19999,cw,true,p0,t0,1099511627776⟩⟩
def vJ (m:ah) (cw:Int) (p0:List Int) (t0:Int):DS:=ns m (m.cls.length+1) 0 (ef m) ⟨[],19999,cw,true,p0,t0,1099511627776⟩
theorem Ec {pv:AV} {t0:Int} {s:DS} (h:gT pv=true):gT (df pv t0 s)=true:=by
  unfold df
  split
  · rfl
  · exact h
theorem NK (m:ah) (hm:VM m) (cw:Int) (wL:0≤cw∧cw≤1000000) (p0:List Int) (t0:Int) (pv:AV) (H8:gT pv=true) (fH:cm pv=true) (b0:Int) :
    ao Tryz.prog 56 [.agg (ar m),.agg [pv,.lit (.int .i64 t0),.lit (.int .i64 b0),.lit (.slice none 0 0)],.lit (.int .i64 cw)] []
      (.bL [.agg [df pv t0 (vJ m cw p0 t0),.lit (.int .i64 (vJ m cw p0 t0).bO),.lit (.int .i64 (vJ m cw p0 t0).cu),.tree 5 (rowsOf aM (vJ m cw p0 t0).nodes)],.lit (.bool (vJ m cw p0 t0).whole)]) []:=by
  have fq:=aaz m hm
  have ec:=BA hm
  have mc:=hm.cls
  have zj:=Oh m (m.cls.length+1) 0 (ef m) (g0 cw p0 t0) rfl
  have H9:Fc (qB 103 m (ef m) pv t0 (g0 cw p0 t0) [(3,.var [.lit (.slice none 0 0),.lit (.int .i64 0),.lit (.int .i64 0),.lit (.slice none 0 0)])])
      [.var (ar m),.var [pv,.lit (.int .i64 t0),.lit (.int .i64 1099511627776),.lit (.slice none 0 0)],.var [.lit (.int .i64 cw)],.var [.lit (.slice none 0 0),.lit (.int .i64 0),.lit (.int .i64 0),.lit (.slice none 0 0)],.arr 1 (rowsOf aE (ef m)),.var [.ref 4 1 0 (ef m).length],.var [.lit (.bool true)],.var [.lit (.int .i64 19999)],.var [.ref 10 5 0 0],.var [.fn 103 xu],.arr 5 []]:=by
    refine⟨?_,(show ([0,1,2,4,5,6,7,9,8,10,3]:List Nat).Nodup by decide)⟩
    unfold qB bB rR df g0 eY
    simp[rowsOf]
  have sY:=aah m hm pv t0 (m.cls.length+1) 0 (ef m) _ (g0 cw p0 t0) _ (by rw[ec.1];simp) (aD _) ec rfl wL ⟨by show (0:Int)≤19999;omega,by show (0:Int)+19999≤1000000;omega⟩ (Int.le_refl _) H9 _ rfl
  have Bo:=Ej (dn:=103) (m:=m) (left:=ef m) (pv:=pv) (t0:=t0) (N:=m.cls.length) (m.cls.length+1) 0 (ef m) (g0 cw p0 t0) _ ec.1 (by omega) (aD _) H9.fk
  have bR:vJ m cw p0 t0=(kj m (m.cls.length+1) 0 (ef m) (g0 cw p0 t0)).s:=zj.2.symm
  have jN:=zj.1
  unfold qH at jN
  rw[bR]
  generalize kj m (m.cls.length+1) 0 (ef m) (g0 cw p0 t0)=r at *
  have qE:=Bo.fk.canon
  have jh:=Bo.ol
  have xz:=xw (qB 103 m (ef m) pv t0 r [(3,.var [.lit (.slice none 0 0),.lit (.int .i64 0),.lit (.int .i64 0),.lit (.slice none 0 0)])]) r.n
  unfold g0 at sY jh
  dsimp only at sY jh
  generalize canon (qB 103 m (ef m) pv t0 r [(3,.var [.lit (.slice none 0 0),.lit (.int .i64 0),.lit (.int .i64 0),.lit (.slice none 0 0)])]) r.n=o5 at *
  refine ao.aF (fn:=Tryz.f56) 24 0 [.cell 6 41,.tmp 7] Tryz.func56 rfl rfl rfl rfl rfl (by simp) ?_
  ((refine Vb @fH ?_)<;>try with_reducible intro K hK)
  (refine Xn [] (fq) ?_;simp (disch:=omega) only[Ac,↓Pc,simprocAttr,zo])
  repeat' (first|((fail_if_success (first|refine im 7 ?_|refine iq 7 ?_));refine Xr (X2 @fH @Ei) ?_;intro K hK)|(refine hK _ ?_;clear hK K)|refine XY ?_|fail)
  refine cA (aA.ma 8 0 5 rfl rfl (by decide)) ?_
  refine cA (σ':=⟨av [(3,.ptr 0 0 0),(4,.ptr 1 0 0),(6,.ptr 3 0 0),(7,.lit (.bool false)),(9,.ptr 6 0 0),(11,.ptr 8 0 0),(12,.ptr 9 0 0)],[.var (ar m),.var [pv,.lit (.int .i64 t0),.lit (.int .i64 1099511627776),.lit (.slice none 0 0)],.var [.lit (.int .i64 cw)],.var [.lit (.slice none 0 0),.lit (.int .i64 0),.lit (.int .i64 0),.lit (.slice none 0 0)],.arr 1 (rowsOf aE (ef m)),.var [.ref 4 1 0 (ef m).length],.var [.lit (.bool true)],.var [.lit (.int .i64 19999)],.var [.ref 10 5 0 0],.var [.fn 103 xu],.arr 5 []]⟩) (Xv X0) ?_
  unfold xu at sY ⊢
  ((refine Vb @Ei ?_)<;>try with_reducible intro K hK)
  refine mD sY (by rw[xz];exact jh) ?_
  have e8:o5[8]?=some (.var [.ref r.p 5 0 r.R.length]):=k9 qE (b:=(8,.var [.ref r.p 5 0 r.R.length])) (by simp[bB])
  have e1:o5[1]?=some (.var [df pv t0 r.s,.lit (.int .i64 r.s.bO),.lit (.int .i64 r.s.cu),.lit (.slice none 0 0)]):=k9 qE (b:=(1,rR pv t0 r.s)) (by simp[bB])
  have e6:o5[6]?=some (.var [.lit (.bool r.s.whole)]):=k9 qE (b:=(6,.var [.lit (.bool r.s.whole)])) (by simp[bB])
  have e3:o5[3]?=some (.var [.lit (.slice none 0 0),.lit (.int .i64 0),.lit (.int .i64 0),.lit (.slice none 0 0)]):=Bt qE (b:=(3,.var [.lit (.slice none 0 0),.lit (.int .i64 0),.lit (.int .i64 0),.lit (.slice none 0 0)])) (by simp)
  have kh:cm (df pv t0 r.s)=true:=by unfold df;split<;>first|rfl|exact fH
  have vK:=Ec (t0:=t0) (s:=r.s) H8
  have ux:=qE.perm pN.symm
  unfold qB bB at ux
  simp only[dG,dK] at ux
  have H':=(((ux.front [_,_]).put (.var [df pv t0 r.s,.lit (.int .i64 r.s.bO),.lit (.int .i64 r.s.cu),.ref r.p 5 0 r.R.length])).perm (qa.swap _ _ _)).put (.var [df pv t0 r.s,.lit (.int .i64 r.s.bO),.lit (.int .i64 r.s.cu),.ref r.p 5 0 r.R.length])
  have rP:=H'.at_ (r.p,.arr 5 (rowsOf b6 r.R)) (by simp)
  have hfb:∀ b∈eY r.R,_:=fun b hb=>H'.at_ b (by simp[hb])
  clear ux qE H' Bo H9 fq sY
  generalize hP:df pv t0 r.s=pa at *
  have d6:=fun x=>(show (o5.set 1 x)[6]?=some (.var [.lit (.bool r.s.whole)]) by rw[bu (by decide)];exact e6)
  have d1:=fun x=>(show (o5.set 1 x)[1]?=some x from jk e1)
  have d3:=fun x=>(show (o5.set 1 x)[3]?=some (.var [.lit (.slice none 0 0),.lit (.int .i64 0),.lit (.int .i64 0),.lit (.slice none 0 0)]) by rw[bu (by decide)];exact e3)
  have d33:=fun x y=>(show ((o5.set 1 x).set 3 y)[3]?=some y from jk (d3 x))
  have d36:=fun x y=>(show ((o5.set 1 x).set 3 y)[6]?=some (.var [.lit (.bool r.s.whole)]) by rw[bu (by decide)];exact d6 x)
  simp (disch:=omega) only[Ac,↓Pc,simprocAttr]
  refine hK _ ?_
  clear hK K
  repeat (refine Xu ?_)
  refine Vb (X5 @e8 @e1 @d1 @d6 (X4 @d3 @d33 @kh @fH)) ?_
  refine oT [] (.take 0 (.both 1 (.take 2 (.take 3 .nil)) 2 (.take 1 (.take 3 .nil)))) rfl (by decide) (by decide +kernel) ?_
  simp (disch:=omega) only[Ac,↓Pc,simprocAttr,Pw,d1,d6,d3,d33,d36,kh,fH]
  all_goals
    repeat (refine Xu ?_)
    refine Vb (X3 @d33 @kh @fH) ?_
    simp (disch:=omega) only[Ac,↓Pc,simprocAttr,rowOf,d33]
  all_goals
    refine eA [] true (by decide) trivial (by decide) (by decide) (aN.oS (aN.agg _ _ rfl (fD.spec (R:=aN _ _ _ _) (cs:=[pa,.lit (.int .i64 r.s.bO),.lit (.int .i64 r.s.cu),.tree 5 (rowsOf aM r.s.nodes)]) (ds:=[pa,.lit (.int .i64 r.s.bO),.lit (.int .i64 r.s.cu),.ref r.p 5 0 r.R.length]) ⟨.pure vK,.pure rfl,.pure rfl,.snap _ _ rfl ?_,trivial⟩).2) (.pure rfl))
    rw[jN]
    exact vN rP hfb (fun i h=>by obtain ⟨j,hj,_⟩:=h;cases hj)
end T

