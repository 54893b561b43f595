import Derived.Test.YtdipcmigdbnheaaGreatX20
import Derived.Test.YtdipcmigdbnheaaGreatX15
set_option linter.unusedVariables false
set_option linter.unusedSimpArgs false
set_option linter.unnecessarySimpa false
set_option linter.unusedSectionVars false
set_option maxHeartbeats 64000000
set_option maxRecDepth 20000
open Nat renaming zero_le→aM
open Int renaming le_refl→dE
open List renaming drop_eq_nil_of_le→cB
open Go Go.Am Go.Proofs
open Nat (reduceEqDiff reduceAdd reduceLeDiff reduceMul)
open Int (reduceNeg reduceLE reduceToNat)
namespace T
theorem Z9 {l:List Ld} (hw:∀ x∈l,1≤x.wt∧x.wt≤1000) (c:Int) (row:List Bool):0≤nX l c row∧nX l c row≤1000:=by
  have h:∀ (l:List Ld) (z:Int × Int),(∀ x∈l,1≤x.wt∧x.wt≤1000)→z.2≤1000→(kl c row l z).2≤1000:=by
    intro l
    induction l with
    | nil=>intro z _ h;exact h
    | cons x r ih =>
      intro z h1 h2
      rw[kl]
      refine ih _ (fun y hy=>h1 y (by simp[hy])) ?_
      have:=h1 x (by simp)
      split
      · dsimp only;split<;>omega
      · exact h2
  have:=h l (nY row 0,-1) hw (by dsimp only;omega)
  unfold nX
  split<;>omega
theorem aaa (c:Ct) (k:Int) (row:List Bool) (DD:row.length≤24) (yp:∀ x∈c.aS,x.cls=k→0≤x.opt∧x.opt<row.length) (hl:c.aS.length≤576) :
    an Tryz.prog 186 [.agg (aO c),.lit (.int .i64 k),.tree 1 (aY row)] [] (.lit (.int .i64 (nX c.aS k row))) []:=by
  generalize ao:nX c.aS k row=res
  unfold nX at ao
  refine an.aD (fn:=Tryz.f186) 61 0 [.tmp 6] Tryz.func186 rfl rfl rfl rfl rfl (by simp) ?_
  refine Vb @aO.eq_1 ?_
  generalize hM:nY row 0=M at *
  refine aU (fun z:Nat × Int=>(⟨aw [(1,.lit (.int .i64 k)),(2,.tree 1 (aY row)),(3,.ptr 0 0 0),(7,.lit (.int .i64 z.2)),(8,.lit (.int .i64 (-1))),(13,.tree 1 (aY row)),(14,.lit (.int .i64 row.length)),(15,.lit (.int .i64 z.1))],[.var (aO c)]⟩:St))
    (fun z=>z.1≤row.length∧0≤z.2∧z.2≤z.1∧nY (row.drop z.1) z.2=M) (fun z=>row.length - z.1) (0,0) ⟨aM _,dE _,dE _,hM⟩ (Xv @aO.eq_1) ?_
  rintro ⟨i,n⟩ ⟨hi,dR,e9,hr⟩ Ql aq av
  dsimp only at hi dR e9 hr ⊢
  by_cases hi':i<row.length
  · have hd:=cA row i false hi'
    generalize yK:row.getD i false=a at *
    rw[hd,nY] at hr
    cases a
    · rw[if_neg (by simp)] at hr
      ((repeat' (first|refine Va @yK ?_|(refine Xi ?_ ?_<;>try intro ht)|exact Xx|fail)))
      all_goals exact aq _ (i+1,n) ⟨by dsimp only;omega,dR,by dsimp only;omega,hr⟩ (by dsimp only;omega) (Xv X0)
    · rw[if_pos rfl] at hr
      ((repeat' (first|refine Va @yK ?_|(refine Xi ?_ ?_<;>try intro ht)|exact Xx|fail)))
      all_goals exact aq _ (i+1,n+1) ⟨by dsimp only;omega,by dsimp only;omega,by dsimp only;omega,hr⟩ (by dsimp only;omega) (Xv X0)
  rw[cB (by omega),nY] at hr
  subst hr
  ((repeat' (first|refine Va X0 ?_|(refine Xi ?_ ?_<;>try intro ht)|exact Xx|fail)))
  refine av _ _ rfl ?_;clear aq av Ql
  repeat (refine Xu ?_)
  refine Va @aO.eq_1 ?_
  generalize hZ:kl k row c.aS (n,-1)=Z at *
  refine aU (fun z:Nat × Int × Int=>(⟨aw [(1,.lit (.int .i64 k)),(2,.tree 1 (aY row)),(7,.lit (.int .i64 z.2.1)),(8,.lit (.int .i64 z.2.2)),(24,.tree 3 (rowsOf g6 c.aS)),(25,.lit (.int .i64 c.aS.length)),(26,.lit (.int .i64 z.1))],[]⟩:St))
    (fun z=>z.1≤c.aS.length∧-(z.1:Int)≤z.2.1∧z.2.1≤24∧kl k row (c.aS.drop z.1) z.2=Z) (fun z=>c.aS.length - z.1) (0,n,-1) ⟨aM _,by dsimp only;omega,by dsimp only;omega,hZ⟩ (Xs false [] X0) ?_
  rintro ⟨j,y,w⟩ ⟨hj,hy0,G9,hr⟩ Ql aq av
  dsimp only at hj hy0 G9 hr ⊢
  by_cases c9:j<c.aS.length
  · have hd:=cA c.aS j default c9
    have hm:=yp _ (aC (d:=default) c9)
    generalize bE:c.aS.getD j default=x at *
    rw[hd,kl] at hr
    by_cases hc:x.cls=k
    · have hm:=hm hc
      generalize gn:row.getD x.opt.toNat false=b at *
      cases b
      · rw[if_neg (by simp)] at hr
        ((repeat' (first|refine Va (X3 @bE @g6.eq_1 @gn) ?_|(refine V2 (X3 @bE @g6.eq_1 @gn) ?_ ?_<;>try with_reducible intro hb)|(refine Xi ?_ ?_<;>try intro ht)|exact Xx|fail)))
        all_goals exact aq _ (j+1,y,w) ⟨by dsimp only;omega,by dsimp only;omega,G9,hr⟩ (by dsimp only;omega) (Xs false [] X0)
      · rw[if_pos ⟨hc,rfl⟩] at hr
        by_cases hw:w<0∨x.wt<w
        · rw[if_pos hw] at hr
          ((repeat' (first|refine Va (X3 @bE @g6.eq_1 @gn) ?_|(refine V2 (X3 @bE @g6.eq_1 @gn) ?_ ?_<;>try with_reducible intro hb)|(refine Xi ?_ ?_<;>try intro ht)|exact Xx|fail)))
          all_goals exact aq _ (j+1,y - 1,x.wt) ⟨by dsimp only;omega,by dsimp only;omega,by dsimp only;omega,hr⟩ (by dsimp only;omega) (Xs false [] X0)
        · rw[if_neg hw] at hr
          ((repeat' (first|refine Va (X3 @bE @g6.eq_1 @gn) ?_|(refine V2 (X3 @bE @g6.eq_1 @gn) ?_ ?_<;>try with_reducible intro hb)|(refine Xi ?_ ?_<;>try intro ht)|exact Xx|fail)))
          all_goals exact aq _ (j+1,y - 1,w) ⟨by dsimp only;omega,by dsimp only;omega,by dsimp only;omega,hr⟩ (by dsimp only;omega) (Xs false [] X0)
    · rw[if_neg (fun h=>hc h.1)] at hr
      ((repeat' (first|refine Va (X2 @bE @g6.eq_1) ?_|(refine V2 (X2 @bE @g6.eq_1) ?_ ?_<;>try with_reducible intro hb)|(refine Xi ?_ ?_<;>try intro ht)|exact Xx|fail)))
      all_goals exact aq _ (j+1,y,w) ⟨by dsimp only;omega,by dsimp only;omega,G9,hr⟩ (by dsimp only;omega) (Xs false [] X0)
  rw[cB (by omega),kl] at hr
  rw[← hr] at ao
  dsimp only at ao
  by_cases he:0<y∨w<0
  · rw[if_pos he] at ao
    ((repeat' (first|refine Va X0 ?_|(refine V2 X0 ?_ ?_<;>try with_reducible intro hb)|(refine Xi ?_ ?_<;>try intro ht)|exact Xx|fail)))
    refine av _ _ rfl ?_;clear aq av Ql
    repeat (refine Xu ?_)
    ((repeat' (first|refine Vb X0 ?_|(refine V2 X0 ?_ ?_<;>try with_reducible intro hb)|(refine Xi ?_ ?_<;>try intro ht)|exact Xx|fail)))
    all_goals exact aK rfl (by rw[ao])
  · rw[if_neg he] at ao
    ((repeat' (first|refine Va X0 ?_|(refine V2 X0 ?_ ?_<;>try with_reducible intro hb)|(refine Xi ?_ ?_<;>try intro ht)|exact Xx|fail)))
    refine av _ _ rfl ?_;clear aq av Ql
    repeat (refine Xu ?_)
    ((repeat' (first|refine Vb X0 ?_|(refine V2 X0 ?_ ?_<;>try with_reducible intro hb)|(refine Xi ?_ ?_<;>try intro ht)|exact Xx|fail)))
    all_goals exact aK rfl (by rw[ao])
theorem aac (m:aj) (c:Ct) (left:List (List Bool)) (hm:VM m) (hc:fY m c=true) (hf:eG m left) :
    an Tryz.prog 159 [.agg (aO c),.tree 1 (rowsOf bg left)] [] (.lit (.int .i64 (m8 left c))) []:=by
  obtain ⟨q1,q2,q3,q4⟩:=lj hc
  have hl:=yL hm q4
  have cX:=nZ q4
  have eP:=hf.1
  have cE:=hm.cls
  have hw:∀ x∈c.aS,1≤x.wt∧x.wt≤1000:=fun x hx=>(cX x hx).2
  have vx:=fun k row=>Z9 hw k row
  generalize ao:m8 left c=res
  unfold m8 at ao
  generalize hG:pK c.aS left none c.aS (-c.most)=G at *
  refine an.aD (fn:=Tryz.f159) 50 0 [.tmp 4] Tryz.func159 rfl rfl rfl rfl rfl (by simp) ?_
  refine Vb @aO.eq_1 ?_
  refine aU (fun z:Nat × Int=>(⟨aw [(1,.tree 1 (rowsOf bg left)),(2,.ptr 0 0 0),(5,.lit (.int .i64 z.2)),(12,.tree 3 (rowsOf g6 c.aS)),(13,.lit (.int .i64 c.aS.length)),(14,.lit (.int .i64 z.1))],[.var (aO c)]⟩:St))
    (fun z=>z.1≤c.aS.length∧-1048576≤z.2∧z.2≤1000 * (z.1:Int)∧pK c.aS left ((kH c.aS z.1).map (·.cls)) (c.aS.drop z.1) z.2=G) (fun z=>c.aS.length - z.1) (0,-c.most) ⟨aM _,by dsimp only;omega,by dsimp only;omega,hG⟩ (Xv @aO.eq_1) ?_
  rintro ⟨i,n⟩ ⟨hi,dR,e9,hr⟩ Ql aq av
  dsimp only at hi dR e9 hr ⊢
  by_cases hi':i<c.aS.length
  · have hd:=cA c.aS i default hi'
    have hx:=cX _ (aC (d:=default) hi')
    have AQ:=fZ.1 hx.1
    have G':(kH c.aS (i+1)).map (·.cls)=some (c.aS.getD i default).cls:=by rw[s0];rfl
    have Dw:0<i→(kH c.aS i).map (·.cls)=some (c.aS.getD (i - 1) default).cls:=fun h=>by unfold kH;rw[if_neg (by omega)];rfl
    have s5:i=0→(kH c.aS i).map (·.cls)=none:=fun h=>by unfold kH;rw[if_pos h];rfl
    rw[hd,pK] at hr
    have cF:=hf.2 (c.aS.getD i default).cls.toNat (by omega)
    have DD:=hm.opt _ (aC (l:=m.cls) (i:=(c.aS.getD i default).cls.toNat) (d:=default) (by omega))
    have bw:=aaa c (c.aS.getD i default).cls (left.getD (c.aS.getD i default).cls.toNat default) (by omega) (fun y hy e=>by
      have:=fZ.1 (cX y hy).1
      rw[e] at this
      omega) hl
    have yM:=vx (c.aS.getD i default).cls (left.getD (c.aS.getD i default).cls.toNat default)
    have gN:0<i→((i:Int) - 1).toNat=i - 1:=fun h=>by omega
    generalize cT:(kH c.aS i).map (·.cls)=pq at *
    generalize bE:c.aS.getD i default=x at *
    generalize mH:c.aS.getD (i - 1) default=y at *
    generalize a7:left.getD x.cls.toNat default=row at *
    generalize nX c.aS x.cls row=g at *
    rcases Nat.eq_zero_or_pos i with h0 | h0
    · rw[s5 h0,if_neg (by simp)] at hr
      subst h0
      ((repeat' (first|refine Vc (X5 @bE @g6.eq_1 @a7 @bg.eq_1 @aO.eq_1) bw ?_|(refine Xi ?_ ?_<;>try intro ht)|exact Xx|fail)))
      all_goals exact aq _ (0+1,n+g) ⟨by dsimp only;omega,by dsimp only;omega,by dsimp only;omega,by dsimp only;rw[G'];exact hr⟩ (by dsimp only;omega) (Xs false [0] @aO.eq_1)
    · rw[Dw h0] at hr
      have gN:=gN h0
      by_cases he:y.cls=x.cls
      · rw[if_pos (by rw[he])] at hr
        ((repeat' (first|refine Vc (X5 @bE @mH @gN @g6.eq_1 (X3 @a7 @bg.eq_1 @aO.eq_1)) bw ?_|(refine V2 (X5 @bE @mH @gN @g6.eq_1 (X3 @a7 @bg.eq_1 @aO.eq_1)) ?_ ?_<;>try with_reducible intro hb)|(refine Xi ?_ ?_<;>try intro ht)|exact Xx|fail)))
        all_goals exact aq _ (i+1,n) ⟨by dsimp only;omega,dR,by dsimp only;omega,by dsimp only;rw[G'];exact hr⟩ (by dsimp only;omega) (Xs false [0] @aO.eq_1)
      · rw[if_neg (fun e=>he (by injection e))] at hr
        ((repeat' (first|refine Vc (X5 @bE @mH @gN @g6.eq_1 (X3 @a7 @bg.eq_1 @aO.eq_1)) bw ?_|(refine V2 (X5 @bE @mH @gN @g6.eq_1 (X3 @a7 @bg.eq_1 @aO.eq_1)) ?_ ?_<;>try with_reducible intro hb)|(refine Xi ?_ ?_<;>try intro ht)|exact Xx|fail)))
        all_goals exact aq _ (i+1,n+g) ⟨by dsimp only;omega,by dsimp only;omega,by dsimp only;omega,by dsimp only;rw[G'];exact hr⟩ (by dsimp only;omega) (Xs false [0] @aO.eq_1)
  · rw[cB (by omega),pK] at hr
    subst hr
    have uS:=aad (max n 0) c.bL (by omega) q3
    rw[ao] at uS
    ((repeat' (first|refine Va X0 ?_|(refine V2 X0 ?_ ?_<;>try with_reducible intro hb)|(refine Xi ?_ ?_<;>try intro ht)|exact Xx|fail)))
    refine av _ _ rfl ?_;clear aq av Ql
    repeat (refine Xu ?_)
    refine Vd @aO.eq_1 uS ?_
    all_goals exact aK rfl rfl
theorem aae (left:List (List Bool)) {c:Ct} (hp:iR c.bL=true):0≤m8 left c∧m8 left c≤1099511627776:=by
  have:=jY hp
  unfold bF at this
  unfold m8 w9
  have h:0≤max (pK c.aS left none c.aS (-c.most)) 0:=by omega
  generalize max (pK c.aS left none c.aS (-c.most)) 0=n at *
  have:=Int.mul_nonneg h this.1
  split<;>omega
theorem aaf (m:aj) (left:List (List Bool)) (hm:VM m) (hf:eG m left):an Tryz.prog 104 [.agg (ar m),.tree 1 (rowsOf bg left)] [] (.lit (.int .i64 (dN m left))) []:=by
  have eP:=hf.1
  have rG:=hm.cls
  have yN:=hm.ae
  have CU:=hm.au
  generalize ao:dN m left=res
  unfold dN at ao
  generalize hA:mc left 0 m.cls 0=A at *
  refine an.aD (fn:=Tryz.f104) 85 0 [.tmp 4] Tryz.func104 rfl rfl rfl rfl rfl (by simp) ?_
  refine Vb X0 ?_
  refine aU (fun z:Nat × Int=>(⟨aw [(1,.tree 1 (rowsOf bg left)),(2,.ptr 0 0 0),(5,.lit (.int .i64 z.2)),(18,.tree 1 (rowsOf bD m.cls)),(19,.lit (.int .i64 m.cls.length)),(20,.lit (.int .i64 z.1))],[.var (ar m)]⟩:St))
    (fun z=>z.1≤m.cls.length∧0≤z.2∧z.2≤1099511627776 * (z.1:Int)∧mc left z.1 (m.cls.drop z.1) z.2=A) (fun z=>m.cls.length - z.1) (0,0) ⟨aM _,dE _,by dsimp only;omega,hA⟩ (Xv X0) ?_
  rintro ⟨i,n⟩ ⟨hi,dR,e9,hr⟩ Ql aq av
  dsimp only at hi dR e9 hr ⊢
  by_cases hi':i<m.cls.length
  · have hd:=cA m.cls i default hi'
    have hc:=hm.opt _ (aC (d:=default) hi')
    have ep:=hm.kI _ (aC (d:=default) hi')
    have cF:=hf.2 i (by omega)
    have aag:=hm.im
    generalize aR:m.cls.getD i default=c at *
    generalize a7:left.getD i default=row at *
    rw[hd,mc,a7] at hr
    have ZI:=Ha (jL c) row 1099511627776 (fun x hx=>by
      obtain ⟨o,ho,rfl⟩:=List.mem_map.1 hx
      exact (AR (ep o ho)).1) (by omega)
    generalize hX:iS (jL c) row 1099511627776=X at *
    ((repeat' (first|refine Va (X2 @aR @bD.eq_1) ?_|(refine Xi ?_ ?_<;>try intro ht)|exact Xx|fail)))
    refine aU (fun z:Nat × Int=>(⟨aw [(1,.tree 1 (rowsOf bg left)),(2,.ptr 0 0 0),(5,.lit (.int .i64 n)),(6,.lit (.int .i64 i)),(8,.lit (.int .i64 z.2)),(18,.tree 1 (rowsOf bD m.cls)),(19,.lit (.int .i64 m.cls.length)),(20,.lit (.int .i64 i)),(25,.tree 6 (rowsOf cD c)),(26,.lit (.int .i64 c.length)),(27,.lit (.int .i64 z.1))],[.var (ar m)]⟩:St))
      (fun z=>z.1≤c.length∧iS (jL (c.drop z.1)) (row.drop z.1) z.2=X) (fun z=>c.length - z.1) (0,1099511627776) ⟨aM _,hX⟩ (Xv X0) ?_
    rintro ⟨k,x⟩ ⟨hk,iA⟩ eo bP bM
    dsimp only at hk iA ⊢
    by_cases aH:k<c.length
    · have s6:=cA c k default aH
      have n5:=cA row k false (by omega)
      have ho:=aC (l:=c) (d:=default) aH
      have how:=aai (c.getD k default) (Hb (ep _ ho)) (by have:=AS aag.1 (ep _ ho);omega)
      generalize lH:c.getD k default=o at *
      generalize gn:row.getD k false=b at *
      rw[s6,n5,show jL (o::c.drop (k+1))=jg o::jL (c.drop (k+1)) from rfl,iS] at iA
      cases b
      · rw[if_neg (by simp)] at iA
        ((repeat' (first|refine Va (X4 @lH @a7 @gn @bg.eq_1) ?_|(refine Xi ?_ ?_<;>try intro ht)|exact Xx|fail)))
        all_goals exact bP _ (k+1,x) ⟨by dsimp only;omega,iA⟩ (by dsimp only;omega) (Xs false [0] X0)
      · rw[if_pos rfl] at iA
        ((repeat' (first|refine Vc (X4 @lH @a7 @gn @bg.eq_1) how ?_|(refine Xi ?_ ?_<;>try intro ht)|exact Xx|fail)))
        all_goals exact bP _ (k+1,min x (jg o)) ⟨by dsimp only;omega,iA⟩ (by dsimp only;omega) (Xs false [0] X0)
    · rw[show c.drop k=[] from cB (by omega)] at iA
      have hxX:x=X:=by rw[← iA];cases row.drop k<;>rfl
      clear iA
      subst hxX
      by_cases hF:x=1099511627776
      · rw[if_pos hF] at hr
        ((repeat' (first|refine Va X0 ?_|(refine Xi ?_ ?_<;>try intro ht)|exact Xx|fail)))
        refine bM _ _ rfl ?_
        clear bP bM
        repeat (refine Xu ?_)
        ((repeat' (first|refine Va X0 ?_|(refine Xi ?_ ?_<;>try intro ht)|exact Xx|fail)))
        all_goals
          repeat (refine Xu ?_)
          rw[← hr] at ao
          refine Vb X0 ?_
          exact aK rfl (by rw[← ao];rfl)
      · rw[if_neg hF] at hr
        ((repeat' (first|refine Va X0 ?_|(refine Xi ?_ ?_<;>try intro ht)|exact Xx|fail)))
        refine bM _ _ rfl ?_
        clear bP bM
        repeat (refine Xu ?_)
        ((repeat' (first|refine Va X0 ?_|(refine Xi ?_ ?_<;>try intro ht)|exact Xx|fail)))
        all_goals exact aq _ (i+1,n+x) ⟨by dsimp only;omega,by dsimp only;omega,by dsimp only;omega,hr⟩ (by dsimp only;omega) (Xv X0)
  rw[show m.cls.drop i=[] from cB (by omega),mc] at hr
  subst hr
  have nN:n≤1099511627776 * 24:=by omega
  clear e9
  rw[vy] at ao
  generalize hB:mI m left m.ae n=B at *
  ((repeat' (first|refine Va X0 ?_|(refine Xi ?_ ?_<;>try intro ht)|exact Xx|fail)))
  refine av _ _ rfl ?_;clear aq av Ql
  repeat (refine Xu ?_)
  refine Va X0 ?_
  refine aU (fun z:Nat × Int=>(⟨aw [(1,.tree 1 (rowsOf bg left)),(2,.ptr 0 0 0),(5,.lit (.int .i64 z.2)),(51,.tree 4 (rowsOf bu m.ae)),(52,.lit (.int .i64 m.ae.length)),(53,.lit (.int .i64 z.1))],[.var (ar m)]⟩:St))
    (fun z=>z.1≤m.ae.length∧0≤z.2∧z.2≤1099511627776 * 24+1099511627776 * (z.1:Int)∧mI m left (m.ae.drop z.1) z.2=B) (fun z=>m.ae.length - z.1) (0,n) ⟨aM _,dR,by dsimp only;omega,hB⟩ (Xv X0) ?_
  (try clear dR;clear hi nN hB i)
  rintro ⟨i,n⟩ ⟨hi,dR,e9,hr⟩ Ql aq av
  dsimp only at hi dR e9 hr ⊢
  by_cases hi':i<m.ae.length
  · have hd:=cA m.ae i default hi'
    have dG:=jh hm.pr _ (aC (d:=default) hi')
    have AT:=aak m _ left hm dG hf
    have rJ:=aal hm dG hf
    generalize cT:m.ae.getD i default=p at *
    rw[hd,mI] at hr
    generalize n6 m left p=x at *
    by_cases hF:x=1099511627776
    · rw[if_pos hF] at hr
      ((repeat' (first|refine Vc (X2 @cT @bu.eq_1) AT ?_|(refine Xi ?_ ?_<;>try intro ht)|exact Xx|fail)))
      all_goals
        repeat (refine Xu ?_)
        rw[← hr] at ao
        refine Vb X0 ?_
        exact aK rfl (by rw[← ao];rfl)
    · rw[if_neg hF] at hr
      ((repeat' (first|refine Vc (X2 @cT @bu.eq_1) AT ?_|(refine Xi ?_ ?_<;>try intro ht)|exact Xx|fail)))
      all_goals exact aq _ (i+1,n+x) ⟨by dsimp only;omega,by dsimp only;omega,by dsimp only;omega,hr⟩ (by dsimp only;omega) (Xs false [0] X0)
  rw[show m.ae.drop i=[] from cB (by omega),mI] at hr
  subst hr
  have nN:n≤1099511627776 * 5000:=by omega
  clear e9
  rw[vz] at ao
  generalize hB:me left m.au n=B at *
  ((repeat' (first|refine Va X0 ?_|(refine Xi ?_ ?_<;>try intro ht)|exact Xx|fail)))
  refine av _ _ rfl ?_;clear aq av Ql
  repeat (refine Xu ?_)
  refine Va X0 ?_
  refine aU (fun z:Nat × Int=>(⟨aw [(1,.tree 1 (rowsOf bg left)),(2,.ptr 0 0 0),(5,.lit (.int .i64 z.2)),(68,.tree 4 (rowsOf aO m.au)),(69,.lit (.int .i64 m.au.length)),(70,.lit (.int .i64 z.1))],[.var (ar m)]⟩:St))
    (fun z=>z.1≤m.au.length∧0≤z.2∧z.2≤1099511627776 * 5000+1099511627776 * (z.1:Int)∧me left (m.au.drop z.1) z.2=B) (fun z=>m.au.length - z.1) (0,n) ⟨aM _,dR,by dsimp only;omega,hB⟩ (Xv X0) ?_
  (try clear dR;clear hi nN hB i)
  rintro ⟨i,n⟩ ⟨hi,dR,e9,hr⟩ Ql aq av
  dsimp only at hi dR e9 hr ⊢
  by_cases hi':i<m.au.length
  · have hd:=cA m.au i default hi'
    have rK:=hm.ct _ (aC (d:=default) hi')
    have AT:=aac m _ left hm rK hf
    have rJ:=aae left (lj rK).2.2.1
    generalize cT:m.au.getD i default=p at *
    rw[hd,me] at hr
    generalize m8 left p=x at *
    by_cases hF:x=1099511627776
    · rw[if_pos hF] at hr
      ((repeat' (first|refine Vc (X2 @cT @aO.eq_1) AT ?_|(refine Xi ?_ ?_<;>try intro ht)|exact Xx|fail)))
      all_goals
        repeat (refine Xu ?_)
        rw[← hr] at ao
        refine Vb X0 ?_
        exact aK rfl (by rw[← ao];rfl)
    · rw[if_neg hF] at hr
      ((repeat' (first|refine Vc (X2 @cT @aO.eq_1) AT ?_|(refine Xi ?_ ?_<;>try intro ht)|exact Xx|fail)))
      all_goals exact aq _ (i+1,n+x) ⟨by dsimp only;omega,by dsimp only;omega,by dsimp only;omega,hr⟩ (by dsimp only;omega) (Xs false [0] X0)
  rw[show m.au.drop i=[] from cB (by omega),me] at hr
  rw[← hr] at ao
  have DE:=Hd n
  rw[show min n 1099511627776=res from ao] at DE
  ((repeat' (first|refine Va X0 ?_|(refine Xi ?_ ?_<;>try intro ht)|exact Xx|fail)))
  refine av _ _ rfl ?_;clear aq av Ql
  repeat (refine Xu ?_)
  refine Vd X0 DE ?_
  exact aK rfl rfl
end T

