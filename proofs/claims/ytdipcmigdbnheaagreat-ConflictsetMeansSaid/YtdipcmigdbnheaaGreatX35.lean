import Derived.Test.YtdipcmigdbnheaaGreatX11
import Derived.Test.YtdipcmigdbnheaaGreatX34
import Derived.Test.YtdipcmigdbnheaaGreatX32
import Derived.Test.YtdipcmigdbnheaaGreatX06
import Derived.Test.YtdipcmigdbnheaaGreatX20
set_option linter.unusedVariables false
set_option linter.unusedSimpArgs false
set_option linter.unnecessarySimpa false
set_option linter.unusedSectionVars false
set_option maxHeartbeats 64000000
set_option maxRecDepth 20000
open Nat renaming zero_le→aM,le_refl→aG,zero_add→fi,lt_succ_self→ny,add_zero→jr,reduceEqDiff→xO,reduceBEq→tH,lt_irrefl→xN
open List renaming cons_append→da,nil_append→dh,drop_eq_nil_of_le→cB,length_append→bV,length_set→bI,getElem?_append_left→cn,getElem?_set_ne→bm,getElem?_eq_some_iff→aQ,mem_append→cr,getD_eq_getElem?_getD→aA,set_append_left→Fx,filter_append→xR,take_length→ss,mem_of_mem_drop→sq,length_take→gV,replicate→bY,append_nil→gA,append_assoc→dI,map_take→xM,take_append_of_le_length→Ce,length_map→ey,eq_of_mem_replicate→zE,range→aN,map_congr_left→kU,take→kW,drop→ky,getElem?_set_self→Fu,length→su,eq_nil_of_length_eq_zero→ph,getElem?_map→cm,getElem?_eq_getElem→bX,getElem?_eq_none→eS
open Bool renaming not_false→nw,not_true→lR
open Option renaming map_none→nu,map_some→gf
open Go Go.Am Go.Proofs
open Nat (reduceEqDiff reduceAdd reduceLeDiff reduceMul)
open Int (reduceNeg reduceLE reduceToNat)
namespace T
theorem Wf (l:List (Int × Int)) (g:FuncId) (aW:List AV) (aa:List Ob) (p:(Int × Int)→Bool) (hl:l.length<9223372036854775808) (hg:∀ x∈l,an Tryz.prog g ([.agg (bA x)]++aW) aa (.lit (.bool (p x))) aa) :
    an Tryz.prog 92 [.tree 2 (rowsOf bA l),.fn g aW] aa (.lit (.int .i64 (ed p 0 l))) aa:=by
  generalize ao:ed p 0 l=res
  refine an.aD (fn:=Tryz.f92) 19 aa.length [.tmp 4] Tryz.func92 rfl rfl rfl rfl rfl (by simp) ?_
  refine Vb (X3 @b8 @iB @bA.eq_1) ?_
  refine aU (fun k:Nat=>(⟨aw [(0,.tree 2 (rowsOf bA l)),(1,.fn g aW),(7,.lit (.int .i64 l.length)),(8,.lit (.int .i64 k))],aa⟩:St)) (fun k=>k≤l.length∧ed p k (l.drop k)=res) (fun k=>l.length - k) 0 ⟨aM _,ao⟩ (Xv X0) ?_
  rintro k ⟨hk,hr⟩ Ql aq av
  by_cases aH:k<l.length
  · have hx:=hg _ (aC (d:=default) aH)
    have hd:=cA l k default aH
    generalize bE:l.getD k default=x at *
    rw[hd,ed] at hr
    simp only[da,dh,bA] at hx
    ((repeat' (first|refine Vb (X4 @b8 @iB @bA.eq_1 @bE) ?_|(refine Xi ?_ ?_<;>try intro ht)|exact Xx|fail))<;>try with_reducible intro K hK)
    refine lB hx (aG _) ?_
    ((try revert hK K);(repeat' (first|refine Vb (X3 @b8 @iB @bA.eq_1) ?_|(refine Xi ?_ ?_<;>try intro ht)|fail)))
    · rw[if_pos (by assumption)] at hr
      rw[← hr]
      exact fJ rfl (aG _) rfl
    · rw[if_neg (by simp_all)] at hr
      exact aq _ (k+1) ⟨by omega,hr⟩ (by omega) (Xv X0)
  · ((repeat' (first|refine Vb (X3 @b8 @iB @bA.eq_1) ?_|(refine Xi ?_ ?_<;>try intro ht)|exact Xx|fail)))
    rw[cB (by omega),ed] at hr
    rw[← hr]
    exact fJ rfl (aG _) rfl
theorem E0 {α:Type} (p:α→Bool):∀ (l:List α) (k:Nat),ed p k l = -1→l.filter (fun x=>!p x)=l
  | [],k,_=>rfl
  | x::r,k,h=>by
    rw[ed] at h
    split at h
    · omega
    · rename_i hp
      rw[List.filter_cons_of_pos (by simpa using hp),E0 p r (k+1) h]
theorem E1 {α:Type} (p:α→Bool):∀ (l:List α) (k:Nat),ed p k l≠-1→∃ i,ed p k l=((k+i:Nat):Int)∧i<l.length∧(l.take (i+1)).filter (fun x=>!p x)=l.take i
  | [],k,h=>absurd rfl h
  | x::r,k,h=>by
    rw[ed] at h ⊢
    by_cases hp:p x=true
    · rw[if_pos hp]
      exact⟨0,rfl,by simp,by simp[hp]⟩
    · rw[if_neg hp] at h ⊢
      obtain ⟨i,h1,h2,h3⟩:=E1 p r (k+1) h
      refine⟨i+1,by rw[h1];congr 1;omega,by simp;omega,?_⟩
      rw[List.take_succ_cons,List.filter_cons_of_pos (by simpa using hp),h3];rfl
theorem Jt {α:Type} {Y:List α} {i:Nat} {x:α} (h:i<Y.length):(Y.set i x).take (i+1)=Y.take i++[x]:=by
  rw[List.take_succ_eq_append_getElem (by simpa using h),List.take_set_of_le (aG _)];simp
theorem dY.E2 {σ:St} {kp:Nat→Prop} {ρ:Nat→Nat} {snap:Bool}:∀ {l:List AV},gX l=true→dY (aE σ kp ρ snap) l l
  | [],_=>trivial
  | v::l,h=>by
    simp only[gX,Bool.and_eq_true] at h
    exact⟨.pure h.1,dY.E2 h.2⟩
def ku (b:Nat) (os ob:List Ob):Prop:=os.length≤ob.length∧∀ k,k≠b→k<os.length→ob[k]?=os[k]?
theorem ku.refl (b:Nat) (os:List Ob):ku b os os:=⟨aG _,fun _ _ _=>rfl⟩
theorem ku.step {b:Nat} {os ob:List Ob} (h:ku b os ob) (y:Ob) (L:List Ob):ku b os (ob.set b y++L) :=
  ⟨by rw[bV,bI];have:=h.1;omega,fun k h1 h2=>by
    rw[cn (by rw[bI];have:=h.1;omega),bm (Ne.symm h1)];exact h.2 k h1 h2⟩
theorem ku.app {b:Nat} {os ob:List Ob} (h:ku b os ob) (L:List Ob):ku b os (ob++L) :=
  ⟨by rw[bV];have:=h.1;omega,fun k h1 h2=>by rw[cn (by have:=h.1;omega)];exact h.2 k h1 h2⟩
theorem aeW (xs:List (Int × Int)) (rest:List (List AV)) (g:FuncId) (aW:List AV) (p:(Int × Int)→Bool) (os:List Ob) (b:Nat) (hb:os[b]?=some (.arr 2 (rowsOf bA xs++rest))) (hw:∀ row∈rest,row.length=2) (hl:xs.length<1000000)
    (vY:gX aW=true) (hg:∀ x∈xs,an Tryz.prog g ([.agg (bA x)]++aW) [] (.lit (.bool (p x))) []) :
    eO Tryz.prog 47 [.ref b 2 0 xs.length,.fn g aW] os (fun r ob=>r=.ref b 2 0 (xs.filter fun x=>!p x).length∧ku b os ob∧∃ oR,ob[b]?=some (.arr 2 (rowsOf bA (xs.filter fun x=>!p x)++oR))∧∀ row∈oR,row.length=2):=by
  have gN:=Wf xs g aW [] p (by omega) hg
  have nJ:=(aQ.1 hb).1
  have BX:∀ row∈rowsOf bA xs++rest,row.length=2:=fun row hr=>by
    rcases cr.1 hr with h | h
    · exact eT _ row h
    · exact hw row h
  have kz:∀ e:Nat→AV,cg ⟨e,os⟩ (·∈([]:List Nat)) (.tree 2 (rowsOf bA xs)) (.ref b 2 0 xs.length):=fun e =>
    fX.bW (.inr ⟨b,rest,by rw[b8],aM _,nJ,hb,BX⟩) (fun i _ _=>by simp) (jy _)
  refine eO.aD (fn:=Tryz.f47) 42 os.length [.tmp 4] Tryz.func47 rfl rfl rfl rfl rfl (by simp) ?_
  ((refine Va X0 ?_)<;>try with_reducible intro K hK)
  refine nI [] gN (by decide) trivial ⟨aE.snap _ _ rfl (kz _),.pure (by simpa [eZ] using vY),trivial⟩ rfl (by simp) ?_
  simp (disch:=omega) only[Ac,↓Pc,simprocAttr]
  by_cases sd:ed p 0 xs = -1
  · have eP:=E0 p xs 0 sd
    rw[sd]
    ((try revert hK K);(repeat' (first|refine Va X0 ?_|(refine Xi ?_ ?_<;>try intro ht)|exact Xx|fail)))
    unfold fU
    simp only[dX,dQ]
    simp (disch:=omega) only[Ac,↓Pc,simprocAttr]
    exact⟨_,_,⟨by rw[eP],ku.refl _ _,rest,by rw[eP];exact hb,hw⟩,fJ rfl (aG _) rfl⟩
  · obtain ⟨i0,h1,h2,h3⟩:=E1 p xs 0 sd
    rw[fi] at h1
    rw[h1]
    clear gN kz
    ((try revert hK K);(repeat' (first|refine Va X0 ?_|(refine Xi ?_ ?_<;>try intro ht)|exact Xx|fail)))
    refine aU (fun z:Nat × Nat × List (Int × Int) × List Ob=>(⟨aw [(0,.ref b 2 0 xs.length),(1,.fn g aW),(5,.lit (.int .i64 z.2.1)),(6,.lit (.int .i64 z.1))],z.2.2.2⟩:St))
      (fun z=>z.1≤xs.length∧z.2.1<z.1∧z.2.2.1.length=xs.length∧(xs.take z.1).filter (fun x=>!p x)=z.2.2.1.take z.2.1∧(∀ k,z.1≤k→z.2.2.1.getD k default=xs.getD k default)∧ku b os z.2.2.2∧z.2.2.2[b]?=some (.arr 2 (rowsOf bA z.2.2.1++rest)))
      (fun z=>xs.length - z.1) (i0+1,i0,xs,os) ⟨h2,ny _,rfl,h3,fun _ _=>rfl,ku.refl _ _,hb⟩ (Xv X0) ?_
    rintro ⟨j,i,Y,ob⟩ ⟨hj,pO,hY,iP,nm,iv,aT⟩ Ql aq av
    dsimp only at hj pO hY iP nm iv aT ⊢
    have fh:(rowsOf bA Y++rest).length=xs.length+rest.length:=by rw[bV,b8,hY]
    have fK:=bK aT
    have fF:=fun l y=>hU aT l (y:=y)
    by_cases c9:j<xs.length
    · have qF:=aC (l:=xs) (d:=default) c9
      have hx:=hg _ qF
      have a7:(rowsOf bA Y++rest)[j]?=some (bA (xs.getD j default)):=by
        rw[cn (by rw[b8];omega),vd _ _ (by omega),nm j (aG _)]
      have BY:(rowsOf bA Y++rest).getD j []=bA (xs.getD j default):=by rw[aA,a7];rfl
      have BZ:(rowsOf bA Y++rest)[i]?=some (bA (Y.getD i default)):=by
        rw[cn (by rw[b8];omega),vd _ _ (by omega)]
      generalize Y.getD i default=y0 at *
      have eN:=iD c9
      generalize bE:xs.getD j default=x at *
      simp only[da,dh,bA] at hx
      have gr:(rowsOf bA Y++rest).set i [.lit (.int .i64 x.1),.lit (.int .i64 x.2)]=rowsOf bA (Y.set i x)++rest:=by
        rw[Fx _ _ (by rw[b8];omega),← yx];rfl
      generalize ow:rowsOf bA Y++rest=R at *
      repeat' (first|((fail_if_success (first|refine ej 8 ?_|refine ek 8 ?_));refine Xr (X5 @aT @fh @a7 @BY (X2 @bA.eq_1 @dC)) ?_;intro K hK)|(refine hK _ ?_;clear hK K)|(refine Xi ?_ ?_<;>try intro ht)|refine Xy ?_|refine Xd ?_ ?_|exact Xx|fail)
      ((refine Va @dC ?_)<;>try with_reducible intro K hK)
      refine iz [] hx (by decide) trivial ⟨.pure rfl,dY.E2 vY⟩ ?_
      simp (disch:=omega) only[Ac,↓Pc,simprocAttr,dC]
      have vP:=(aQ.1 aT).1
      cases jZ:p x
      · ((try revert hK K);(repeat' (first|refine Va (X5 @aT @fK @fF @fh (X5 @BZ @bA.eq_1 @gr @jZ (X2 @dC @nw))) ?_|(refine Xi ?_ ?_<;>try intro ht)|exact Xx|fail)))
        all_goals try (exfalso;simp_all;done)
        all_goals
          exact aq _ (j+1,i+1,Y.set i x,ob.set b (.arr 2 (rowsOf bA (Y.set i x)++rest))++[.var (bA x)]) ⟨by dsimp only;omega,by dsimp only;omega,by simpa using hY,by
            dsimp only
            rw[eN,xR,iP,Jt (by omega)]
            simp[jZ],fun k hk=>by
            dsimp only at hk ⊢
            rw[aA,bm (by omega),← aA]
            exact nm k (by omega),iv.step _ _,bK (iT aT) _⟩ (by dsimp only;omega) (Xv @bA.eq_1)
      · ((try revert hK K);(repeat' (first|refine Va (X5 @aT @fK @fF @fh (X3 @jZ @dC @lR)) ?_|(refine Xi ?_ ?_<;>try intro ht)|exact Xx|fail)))
        all_goals try (exfalso;simp_all;done)
        all_goals
          exact aq _ (j+1,i,Y,ob++[.var (bA x)]) ⟨by dsimp only;omega,by dsimp only;omega,hY,by
            dsimp only
            rw[eN,xR,iP]
            simp[jZ],fun k hk=>nm k (by dsimp only at hk;omega),iv.app _,by dsimp only;rw[ow];exact bK aT _⟩ (by dsimp only;omega) (Xv @bA.eq_1)
    · obtain rfl:j=xs.length:=by omega
      rw[ss] at iP
      ((repeat' (first|refine Va (X2 @aT @fh) ?_|(refine Xi ?_ ?_<;>try intro ht)|exact Xx|fail)))
      refine av _ _ rfl ?_;clear aq av Ql
      repeat (refine Xu ?_)
      have mB:=fun y=>iT (y:=y) aT
      have B0:∀ row∈(rowsOf bA Y++rest).drop (i+(xs.length - i)),row.length=2:=fun row hr=>by
        rcases cr.1 (sq hr) with h | h
        · exact eT _ row h
        · exact hw row h
      refine Va (X5 @aT @fh @mB @nu.{0,0} @gf.{0,0}) ?_
      unfold fU
      simp only[dX,dQ]
      simp (disch:=omega) only[Ac,↓Pc,simprocAttr]
      have jc:(xs.filter fun x=>!p x).length=i:=by rw[iP,gV];omega
      refine⟨_,_,⟨by rw[jc],by have:=iv.step (.arr 2 ((rowsOf bA Y++rest).take i++bY (xs.length - i) [.lit (.int .i64 0),.lit (.int .i64 0)]++(rowsOf bA Y++rest).drop (i+(xs.length - i)))) [];rwa [gA] at this,bY (xs.length - i) [.lit (.int .i64 0),.lit (.int .i64 0)]++(rowsOf bA Y++rest).drop (i+(xs.length - i)),?_,fun row hr=>?_⟩,fJ rfl (by rw[bI];exact iv.1) rfl⟩
      · rw[mB,← dI,iP]
        congr 4
        unfold rowsOf
        rw[xM,Ce (by rw[ey];omega)]
      · rcases cr.1 hr with h | h
        · rw[zE h];rfl
        · exact B0 row h
def iq (n:Int):List AV:=[.lit (.int .i64 n)]
instance:Row iq 1:=⟨fun _=>rfl,fun _=>ve rfl⟩
theorem Oq (l:List Int) (g:FuncId) (aW:List AV) (aa:List Ob) (p:Int→Bool) (hl:l.length<9223372036854775808) (hg:∀ x∈l,an Tryz.prog g ([.lit (.int .i64 x)]++aW) aa (.lit (.bool (p x))) aa) :
    an Tryz.prog 164 [.tree 1 (ints l),.fn g aW] aa (.lit (.int .i64 (ed p 0 l))) aa:=by
  generalize ao:ed p 0 l=res
  refine an.aD (fn:=Tryz.f164) 19 aa.length [.tmp 4] Tryz.func164 rfl rfl rfl rfl rfl (by simp) ?_
  refine Vb @jr ?_
  refine aU (fun k:Nat=>(⟨aw [(0,.tree 1 (ints l)),(1,.fn g aW),(7,.lit (.int .i64 l.length)),(8,.lit (.int .i64 k))],aa⟩:St)) (fun k=>k≤l.length∧ed p k (l.drop k)=res) (fun k=>l.length - k) 0 ⟨aM _,ao⟩ (Xv X0) ?_
  rintro k ⟨hk,hr⟩ Ql aq av
  by_cases aH:k<l.length
  · have hx:=hg _ (aC (d:=0) aH)
    have hd:=cA l k 0 aH
    generalize bE:l.getD k 0=x at *
    rw[hd,ed] at hr
    simp only[da,dh] at hx
    ((repeat' (first|refine Vb (X2 @jr @bE) ?_|(refine Xi ?_ ?_<;>try intro ht)|exact Xx|fail))<;>try with_reducible intro K hK)
    refine lB hx (aG _) ?_
    ((try revert hK K);(repeat' (first|refine Vb @jr ?_|(refine Xi ?_ ?_<;>try intro ht)|fail)))
    · rw[if_pos (by assumption)] at hr
      rw[← hr]
      exact fJ rfl (aG _) rfl
    · rw[if_neg (by simp_all)] at hr
      exact aq _ (k+1) ⟨by omega,hr⟩ (by omega) (Xv X0)
  · ((repeat' (first|refine Vb @jr ?_|(refine Xi ?_ ?_<;>try intro ht)|exact Xx|fail)))
    rw[cB (by omega),ed] at hr
    rw[← hr]
    exact fJ rfl (aG _) rfl
theorem ZU (xs:List Int) (rest:List (List AV)) (g:FuncId) (aW:List AV) (p:Int→Bool) (os:List Ob) (b:Nat) (hb:os[b]?=some (.arr 1 (rowsOf iq xs++rest))) (hw:∀ row∈rest,row.length=1) (hl:xs.length<1000000)
    (vY:gX aW=true) (hg:∀ x∈xs,an Tryz.prog g ([.lit (.int .i64 x)]++aW) [] (.lit (.bool (p x))) []) :
    eO Tryz.prog 109 [.ref b 1 0 xs.length,.fn g aW] os (fun r ob=>r=.ref b 1 0 (xs.filter fun x=>!p x).length∧ku b os ob∧∃ oR,ob[b]?=some (.arr 1 (rowsOf iq (xs.filter fun x=>!p x)++oR))∧∀ row∈oR,row.length=1):=by
  have gN:=Oq xs g aW [] p (by omega) hg
  have nJ:=(aQ.1 hb).1
  have BX:∀ row∈rowsOf iq xs++rest,row.length=1:=fun row hr=>by
    rcases cr.1 hr with h | h
    · exact eT _ row h
    · exact hw row h
  have kz:∀ e:Nat→AV,cg ⟨e,os⟩ (·∈([]:List Nat)) (.tree 1 (rowsOf iq xs)) (.ref b 1 0 xs.length):=fun e =>
    fX.bW (.inr ⟨b,rest,by rw[b8],aM _,nJ,hb,BX⟩) (fun i _ _=>by simp) (jy _)
  refine eO.aD (fn:=Tryz.f109) 42 os.length [.tmp 4] Tryz.func109 rfl rfl rfl rfl rfl (by simp) ?_
  ((refine Va X0 ?_)<;>try with_reducible intro K hK)
  refine nI [] gN (by decide) trivial ⟨aE.snap _ _ rfl (kz _),.pure (by simpa [eZ] using vY),trivial⟩ rfl (by simp) ?_
  simp (disch:=omega) only[Ac,↓Pc,simprocAttr]
  by_cases sd:ed p 0 xs = -1
  · have eP:=E0 p xs 0 sd
    rw[sd]
    ((try revert hK K);(repeat' (first|refine Va X0 ?_|(refine Xi ?_ ?_<;>try intro ht)|exact Xx|fail)))
    unfold fU
    simp only[dX,dQ]
    simp (disch:=omega) only[Ac,↓Pc,simprocAttr]
    exact⟨_,_,⟨by rw[eP],ku.refl _ _,rest,by rw[eP];exact hb,hw⟩,fJ rfl (aG _) rfl⟩
  · obtain ⟨i0,h1,h2,h3⟩:=E1 p xs 0 sd
    rw[fi] at h1
    rw[h1]
    clear gN kz
    ((try revert hK K);(repeat' (first|refine Va X0 ?_|(refine Xi ?_ ?_<;>try intro ht)|exact Xx|fail)))
    refine aU (fun z:Nat × Nat × List Int × List Ob=>(⟨aw [(0,.ref b 1 0 xs.length),(1,.fn g aW),(5,.lit (.int .i64 z.2.1)),(6,.lit (.int .i64 z.1))],z.2.2.2⟩:St))
      (fun z=>z.1≤xs.length∧z.2.1<z.1∧z.2.2.1.length=xs.length∧(xs.take z.1).filter (fun x=>!p x)=z.2.2.1.take z.2.1∧(∀ k,z.1≤k→z.2.2.1.getD k default=xs.getD k default)∧ku b os z.2.2.2∧z.2.2.2[b]?=some (.arr 1 (rowsOf iq z.2.2.1++rest)))
      (fun z=>xs.length - z.1) (i0+1,i0,xs,os) ⟨h2,ny _,rfl,h3,fun _ _=>rfl,ku.refl _ _,hb⟩ (Xv X0) ?_
    rintro ⟨j,i,Y,ob⟩ ⟨hj,pO,hY,iP,nm,iv,aT⟩ Ql aq av
    dsimp only at hj pO hY iP nm iv aT ⊢
    have fh:(rowsOf iq Y++rest).length=xs.length+rest.length:=by rw[bV,b8,hY]
    have fK:=bK aT
    have fF:=fun l y=>hU aT l (y:=y)
    by_cases c9:j<xs.length
    · have qF:=aC (l:=xs) (d:=default) c9
      have hx:=hg _ qF
      have a7:(rowsOf iq Y++rest)[j]?=some (iq (xs.getD j default)):=by
        rw[cn (by rw[b8];omega),vd _ _ (by omega),nm j (aG _)]
      have BY:(rowsOf iq Y++rest).getD j []=iq (xs.getD j default):=by rw[aA,a7];rfl
      have BZ:(rowsOf iq Y++rest)[i]?=some (iq (Y.getD i default)):=by
        rw[cn (by rw[b8];omega),vd _ _ (by omega)]
      generalize Y.getD i default=y0 at *
      have eN:=iD c9
      generalize bE:xs.getD j default=x at *
      simp only[da,dh,iq] at hx
      have gr:(rowsOf iq Y++rest).set i [.lit (.int .i64 x)]=rowsOf iq (Y.set i x)++rest:=by
        rw[Fx _ _ (by rw[b8];omega),← yx];rfl
      generalize ow:rowsOf iq Y++rest=R at *
      repeat' (first|((fail_if_success (first|refine ej 8 ?_|refine ek 8 ?_));refine Xr (X5 @aT @fh @a7 @BY (X2 @iq.eq_1 @dC)) ?_;intro K hK)|(refine hK _ ?_;clear hK K)|(refine Xi ?_ ?_<;>try intro ht)|refine Xy ?_|refine Xd ?_ ?_|exact Xx|fail)
      ((refine Va @dC ?_)<;>try with_reducible intro K hK)
      refine iz [] hx (by decide) trivial ⟨.pure rfl,dY.E2 vY⟩ ?_
      simp (disch:=omega) only[Ac,↓Pc,simprocAttr,dC]
      have vP:=(aQ.1 aT).1
      cases jZ:p x
      · ((try revert hK K);(repeat' (first|refine Va (X5 @aT @fK @fF @fh (X5 @BZ @iq.eq_1 @gr @jZ (X2 @dC @nw))) ?_|(refine Xi ?_ ?_<;>try intro ht)|exact Xx|fail)))
        all_goals try (exfalso;simp_all;done)
        all_goals
          exact aq _ (j+1,i+1,Y.set i x,ob.set b (.arr 1 (rowsOf iq (Y.set i x)++rest))) ⟨by dsimp only;omega,by dsimp only;omega,by simpa using hY,by
            dsimp only
            rw[eN,xR,iP,Jt (by omega)]
            simp[jZ],fun k hk=>by
            dsimp only at hk ⊢
            rw[aA,bm (by omega),← aA]
            exact nm k (by omega),(by have:=iv.step (.arr 1 (rowsOf iq (Y.set i x)++rest)) [];rwa [gA] at this),iT aT⟩ (by dsimp only;omega) (Xv @iq.eq_1)
      · ((try revert hK K);(repeat' (first|refine Va (X5 @aT @fK @fF @fh (X3 @jZ @dC @lR)) ?_|(refine Xi ?_ ?_<;>try intro ht)|exact Xx|fail)))
        all_goals try (exfalso;simp_all;done)
        all_goals
          exact aq _ (j+1,i,Y,ob) ⟨by dsimp only;omega,by dsimp only;omega,hY,by
            dsimp only
            rw[eN,xR,iP]
            simp[jZ],fun k hk=>nm k (by dsimp only at hk;omega),iv,by dsimp only;rw[ow];exact aT⟩ (by dsimp only;omega) (Xv @iq.eq_1)
    · obtain rfl:j=xs.length:=by omega
      rw[ss] at iP
      ((repeat' (first|refine Va (X2 @aT @fh) ?_|(refine Xi ?_ ?_<;>try intro ht)|exact Xx|fail)))
      refine av _ _ rfl ?_;clear aq av Ql
      repeat (refine Xu ?_)
      have mB:=fun y=>iT (y:=y) aT
      have B0:∀ row∈(rowsOf iq Y++rest).drop (i+(xs.length - i)),row.length=1:=fun row hr=>by
        rcases cr.1 (sq hr) with h | h
        · exact eT _ row h
        · exact hw row h
      refine Va (X5 @aT @fh @mB @nu.{0,0} @gf.{0,0}) ?_
      unfold fU
      simp only[dX,dQ]
      simp (disch:=omega) only[Ac,↓Pc,simprocAttr]
      rw[show ints (bY (xs.length - i) 0)=bY (xs.length - i) [AV.lit (.int .i64 0)] by simp[ints]]
      have jc:(xs.filter fun x=>!p x).length=i:=by rw[iP,gV];omega
      refine⟨_,_,⟨by rw[jc],by have:=iv.step (.arr 1 ((rowsOf iq Y++rest).take i++bY (xs.length - i) [.lit (.int .i64 0)]++(rowsOf iq Y++rest).drop (i+(xs.length - i)))) [];rwa [gA] at this,bY (xs.length - i) [.lit (.int .i64 0)]++(rowsOf iq Y++rest).drop (i+(xs.length - i)),?_,fun row hr=>?_⟩,fJ rfl (by rw[bI];exact iv.1) rfl⟩
      · rw[mB,← dI,iP]
        congr 4
        unfold rowsOf
        rw[xM,Ce (by rw[ey];omega)]
      · rcases cr.1 hr with h | h
        · rw[zE h];rfl
        · exact B0 row h
theorem ZT (xs:List Int) (h:0<xs.length) (hl:xs.length<549755813888):an Tryz.prog 110 [.tree 1 (ints xs)] [] (.ref 0 1 0 xs.length) [.arr 1 (ints xs)]:=by
  refine an.aD (fn:=Tryz.f110) 8 0 [.tmp 2] Tryz.func110 rfl rfl rfl rfl rfl (by simp) ?_
  ((repeat' (first|refine Vb @xZ ?_|(refine Xi ?_ ?_<;>try intro ht)|exact Xx|fail)))
  exact Xw false [1] X0
theorem ZS:an Tryz.prog 110 [.tree 1 []] [] (.tree 1 []) []:=by
  refine an.empty (pre:=[]) (post:=[]) (fun a cap=>?_)
  rw[dh]
  cases a with
  | none =>
    refine an.aD (fn:=Tryz.f110) 8 0 [.tmp 2] Tryz.func110 rfl rfl rfl rfl rfl (by simp) ?_
    ((repeat' (first|refine Vb @Option.isNone_none.{0} ?_|(refine Xi ?_ ?_<;>try intro ht)|exact Xx|fail)))
    all_goals first|(refine cP [] true (by decide) trivial (by decide) (by decide) ?_;exact aE.nil)|(exfalso;simp at *;done)
  | some ad =>
    refine an.aD (fn:=Tryz.f110) 8 0 [.tmp 2] Tryz.func110 rfl rfl rfl rfl rfl (by simp) ?_
    refine tU (by decide) ?_
    intro K hK
    simp (disch:=omega) only[Ac,↓Pc,simprocAttr]
    refine hK _ ?_
    clear hK K
    refine Wk ?_
    intro Q hn he
    ((refine tU (by decide) ?_);intro K hK;simp (disch:=omega) only[Ac,↓Pc,simprocAttr,Option.isNone_some];skip);(refine hK _ ?_;clear hK K)
    refine z5 (t:=false) (by simp only[mD,Lc,↓reduceIte,xO,tH]) (fun ht=>by simp at ht) (fun ht=>?_)
    refine z4 ?_
    refine hn _ ?_
    (try clear hn;try clear he;try clear Q;clear ht)
    refine bJ (aB.As 0 1 (by (simp only[mD,oW,Rc,↓reduceIte,xO,tH,ev,dS,St.put];exact rfl))) ?_
    refine Vb (X3 @List.length_nil.{0} @gA.{0} @List.all_nil.{0}) ?_
    refine cP [] true (by decide) trivial (by decide) (by decide) ?_
    exact aE.bW (rows:=[]) rfl (by simp) rfl (gK (by decide)) (by simp)
theorem aeX (xs:List Ct) (rest:List (List AV)) (g:FuncId) (aW:List AV) (p:Ct→Bool) (os:List Ob) (b:Nat) (hb:os[b]?=some (.arr 4 (rowsOf aO xs++rest))) (hw:∀ row∈rest,row.length=4) (hl:xs.length<1000000)
    (vY:gX aW=true) (hg:∀ x∈xs,an Tryz.prog g ([.agg (aO x)]++aW) [] (.lit (.bool (p x))) []) :
    eO Tryz.prog 49 [.ref b 4 0 xs.length,.fn g aW] os (fun r ob=>r=.ref b 4 0 (xs.filter fun x=>!p x).length∧ku b os ob∧∃ oR,ob[b]?=some (.arr 4 (rowsOf aO (xs.filter fun x=>!p x)++oR))∧∀ row∈oR,row.length=4):=by
  have gN:=R0 xs g aW [] p (by omega) hg
  have nJ:=(aQ.1 hb).1
  have BX:∀ row∈rowsOf aO xs++rest,row.length=4:=fun row hr=>by
    rcases cr.1 hr with h | h
    · exact eT _ row h
    · exact hw row h
  have kz:∀ e:Nat→AV,cg ⟨e,os⟩ (·∈([]:List Nat)) (.tree 4 (rowsOf aO xs)) (.ref b 4 0 xs.length):=fun e =>
    fX.bW (.inr ⟨b,rest,by rw[b8],aM _,nJ,hb,BX⟩) (fun i _ _=>by simp) (jy _)
  refine eO.aD (fn:=Tryz.f49) 42 os.length [.tmp 4] Tryz.func49 rfl rfl rfl rfl rfl (by simp) ?_
  ((refine Va X0 ?_)<;>try with_reducible intro K hK)
  refine nI [] gN (by decide) trivial ⟨aE.snap _ _ rfl (kz _),.pure (by simpa [eZ] using vY),trivial⟩ rfl (by simp) ?_
  simp (disch:=omega) only[Ac,↓Pc,simprocAttr]
  by_cases sd:ed p 0 xs = -1
  · have eP:=E0 p xs 0 sd
    rw[sd]
    ((try revert hK K);(repeat' (first|refine Va X0 ?_|(refine Xi ?_ ?_<;>try intro ht)|exact Xx|fail)))
    unfold fU
    simp only[dX,dQ]
    simp (disch:=omega) only[Ac,↓Pc,simprocAttr]
    exact⟨_,_,⟨by rw[eP],ku.refl _ _,rest,by rw[eP];exact hb,hw⟩,fJ rfl (aG _) rfl⟩
  · obtain ⟨i0,h1,h2,h3⟩:=E1 p xs 0 sd
    rw[fi] at h1
    rw[h1]
    clear gN kz
    ((try revert hK K);(repeat' (first|refine Va X0 ?_|(refine Xi ?_ ?_<;>try intro ht)|exact Xx|fail)))
    refine aU (fun z:Nat × Nat × List Ct × List Ob=>(⟨aw [(0,.ref b 4 0 xs.length),(1,.fn g aW),(5,.lit (.int .i64 z.2.1)),(6,.lit (.int .i64 z.1))],z.2.2.2⟩:St))
      (fun z=>z.1≤xs.length∧z.2.1<z.1∧z.2.2.1.length=xs.length∧(xs.take z.1).filter (fun x=>!p x)=z.2.2.1.take z.2.1∧(∀ k,z.1≤k→z.2.2.1.getD k default=xs.getD k default)∧ku b os z.2.2.2∧z.2.2.2[b]?=some (.arr 4 (rowsOf aO z.2.2.1++rest)))
      (fun z=>xs.length - z.1) (i0+1,i0,xs,os) ⟨h2,ny _,rfl,h3,fun _ _=>rfl,ku.refl _ _,hb⟩ (Xv X0) ?_
    rintro ⟨j,i,Y,ob⟩ ⟨hj,pO,hY,iP,nm,iv,aT⟩ Ql aq av
    dsimp only at hj pO hY iP nm iv aT ⊢
    have fh:(rowsOf aO Y++rest).length=xs.length+rest.length:=by rw[bV,b8,hY]
    have fK:=bK aT
    have fF:=fun l y=>hU aT l (y:=y)
    by_cases c9:j<xs.length
    · have qF:=aC (l:=xs) (d:=default) c9
      have hx:=hg _ qF
      have a7:(rowsOf aO Y++rest)[j]?=some (aO (xs.getD j default)):=by
        rw[cn (by rw[b8];omega),vd _ _ (by omega),nm j (aG _)]
      have BY:(rowsOf aO Y++rest).getD j []=aO (xs.getD j default):=by rw[aA,a7];rfl
      have BZ:(rowsOf aO Y++rest)[i]?=some (aO (Y.getD i default)):=by
        rw[cn (by rw[b8];omega),vd _ _ (by omega)]
      generalize Y.getD i default=y0 at *
      have eN:=iD c9
      generalize bE:xs.getD j default=x at *
      simp only[da,dh,aO] at hx
      have gr:(rowsOf aO Y++rest).set i [.lit (.int .i64 x.aV),.tree 3 (rowsOf g6 x.aS),.lit (.int .i64 x.most),.lit (.int .i64 x.bL)]=rowsOf aO (Y.set i x)++rest:=by
        rw[Fx _ _ (by rw[b8];omega),← yx];rfl
      generalize ow:rowsOf aO Y++rest=R at *
      repeat' (first|((fail_if_success (first|refine ej 8 ?_|refine ek 8 ?_));refine Xr (X5 @aT @fh @a7 @BY (X2 @aO.eq_1 @dC)) ?_;intro K hK)|(refine hK _ ?_;clear hK K)|(refine Xi ?_ ?_<;>try intro ht)|refine Xy ?_|refine Xd ?_ ?_|exact Xx|fail)
      ((refine Va @dC ?_)<;>try with_reducible intro K hK)
      refine iz [] hx (by decide) trivial ⟨.pure rfl,dY.E2 vY⟩ ?_
      simp (disch:=omega) only[Ac,↓Pc,simprocAttr,dC]
      have vP:=(aQ.1 aT).1
      cases jZ:p x
      · ((try revert hK K);(repeat' (first|refine Va (X5 @aT @fK @fF @fh (X5 @BZ @aO.eq_1 @gr @jZ (X2 @dC @nw))) ?_|(refine Xi ?_ ?_<;>try intro ht)|exact Xx|fail)))
        all_goals try (exfalso;simp_all;done)
        all_goals
          exact aq _ (j+1,i+1,Y.set i x,ob.set b (.arr 4 (rowsOf aO (Y.set i x)++rest))++[.var (aO x)]) ⟨by dsimp only;omega,by dsimp only;omega,by simpa using hY,by
            dsimp only
            rw[eN,xR,iP,Jt (by omega)]
            simp[jZ],fun k hk=>by
            dsimp only at hk ⊢
            rw[aA,bm (by omega),← aA]
            exact nm k (by omega),iv.step _ _,bK (iT aT) _⟩ (by dsimp only;omega) (Xv @aO.eq_1)
      · ((try revert hK K);(repeat' (first|refine Va (X5 @aT @fK @fF @fh (X3 @jZ @dC @lR)) ?_|(refine Xi ?_ ?_<;>try intro ht)|exact Xx|fail)))
        all_goals try (exfalso;simp_all;done)
        all_goals
          exact aq _ (j+1,i,Y,ob++[.var (aO x)]) ⟨by dsimp only;omega,by dsimp only;omega,hY,by
            dsimp only
            rw[eN,xR,iP]
            simp[jZ],fun k hk=>nm k (by dsimp only at hk;omega),iv.app _,by dsimp only;rw[ow];exact bK aT _⟩ (by dsimp only;omega) (Xv @aO.eq_1)
    · obtain rfl:j=xs.length:=by omega
      rw[ss] at iP
      ((repeat' (first|refine Va (X2 @aT @fh) ?_|(refine Xi ?_ ?_<;>try intro ht)|exact Xx|fail)))
      refine av _ _ rfl ?_;clear aq av Ql
      repeat (refine Xu ?_)
      have mB:=fun y=>iT (y:=y) aT
      have B0:∀ row∈(rowsOf aO Y++rest).drop (i+(xs.length - i)),row.length=4:=fun row hr=>by
        rcases cr.1 (sq hr) with h | h
        · exact eT _ row h
        · exact hw row h
      refine Va (X5 @aT @fh @mB @nu.{0,0} @gf.{0,0}) ?_
      unfold fU
      simp only[dX,dQ]
      simp (disch:=omega) only[Ac,↓Pc,simprocAttr]
      have jc:(xs.filter fun x=>!p x).length=i:=by rw[iP,gV];omega
      refine⟨_,_,⟨by rw[jc],by have:=iv.step (.arr 4 ((rowsOf aO Y++rest).take i++bY (xs.length - i) [.lit (.int .i64 0),.lit (.slice none 0 0),.lit (.int .i64 0),.lit (.int .i64 0)]++(rowsOf aO Y++rest).drop (i+(xs.length - i)))) [];rwa [gA] at this,bY (xs.length - i) [.lit (.int .i64 0),.lit (.slice none 0 0),.lit (.int .i64 0),.lit (.int .i64 0)]++(rowsOf aO Y++rest).drop (i+(xs.length - i)),?_,fun row hr=>?_⟩,fJ rfl (by rw[bI];exact iv.1) rfl⟩
      · rw[mB,← dI,iP]
        congr 4
        unfold rowsOf
        rw[xM,Ce (by rw[ey];omega)]
      · rcases cr.1 hr with h | h
        · rw[zE h];rfl
        · exact B0 row h
theorem Wg (x:Int × Int):an Tryz.prog 48 [.agg (bA x)] [] (.lit (.bool (!j6 x.2))) []:=by
  unfold j6
  refine an.aD (fn:=Tryz.f48) 6 0 [.tmp 2] Tryz.func48 rfl rfl rfl rfl rfl (by simp) ?_
  refine Vb @bA.eq_1 ?_
  exact aK rfl rfl
theorem aeY (x:Ct):an Tryz.prog 50 [.agg (aO x)] [] (.lit (.bool (!j6 x.bL))) []:=by
  unfold j6
  refine an.aD (fn:=Tryz.f50) 6 0 [.tmp 2] Tryz.func50 rfl rfl rfl rfl rfl (by simp) ?_
  refine Vb @aO.eq_1 ?_
  exact aK rfl rfl
theorem aeZ (g:FuncId) (hg:∀ x:Int × Int,an Tryz.prog g [.agg (bA x)] [] (.lit (.bool (!j6 x.2))) []):an Tryz.prog 47 [.tree 2 [],.fn g []] [] (.tree 2 []) []:=by
  have gN:=Wf [] g [] [] (fun x=>!j6 x.2) (by decide) (fun x hx=>by cases hx)
  rw[show ed (fun x:Int × Int=>!j6 x.2) 0 [] = -1 from rfl,show rowsOf bA []=[] from rfl] at gN
  refine an.aD (fn:=Tryz.f47) 42 0 [.tmp 4] Tryz.func47 rfl rfl rfl rfl rfl (by simp) ?_
  ((repeat' (first|refine Vd X0 gN ?_|(refine Xi ?_ ?_<;>try intro ht)|exact Xx|fail)))
  exact aK rfl rfl
theorem ae0 (o:bx):iH (fI o)=iH o:=rfl
theorem ae1 (A:Nat→List AV) (C:Nat→AV) {n k:Nat} (hk:k<n) (v:AV):((aN n).map fun q=>A q++[C q]).set k (A k++[v])=(aN n).map fun q=>A q++[if q=k then v else C q]:=by
  rw[ab9]
  refine kU fun q _=>?_
  by_cases e:q=k
  · subst e;rw[if_pos rfl,if_pos rfl]
  · rw[if_neg e,if_neg e]
theorem Wh {L:List bx} {q:Nat} (hq:q<L.length):(L.map fI).getD q default=fI (L.getD q default):=iG _ _ _ hq
theorem ae2 {L:List bx} {os:List Ob} {l r ac hi:Nat} {C:Nat→AV} (zt:ac<r)
    (h:cy 6 (fun q=>uB (if q<L.length then (fI (L.getD q default)).ch else (L.getD q default).ch)) os ac l hi L.length (fun q=>iH (L.getD q default)) C):uD (L.map fI) os l r (.ref ac 6 0 L.length):=by
  refine⟨ac,hi,C,by rw[ey],zt,?_⟩
  rw[ey]
  refine h.zh (fun q hq=>?_) (fun _ _=>rfl) (fun q hq os l r v hv=>?_)
  · rw[Wh hq,ae0]
  · rw[Wh hq]
    rw[if_pos hq] at hv
    exact hv
theorem Om (m:aj) (hm:VM m):an Tryz.prog 15 [.agg (ar m)] [] (.bG [.agg (ar (aI m)),.lit (.int .i64 0)]) []:=by
  have h1:=qz m hm.mb
  rw[eB.2 hm] at h1
  have Wi:=aeR m hm
  have rG:=hm.cls
  have yN:=hm.ae
  have ht4:=hm.au
  refine an.aD (fn:=Tryz.f15) 73 0 [.cell 2 29,.tmp 3] Tryz.func15 rfl rfl rfl rfl rfl (by simp) ?_
  repeat' (first|((fail_if_success (first|refine ej 4 ?_|refine ek 4 ?_));refine Xq X0 ?_;intro K hK)|refine Xo X0 ?_|refine Xc (h1) ?_|(refine hK _ ?_;clear hK K)|(refine Xi ?_ ?_<;>try intro ht)|refine Xy ?_|exact Xx|fail)
  refine bJ (aB.l6 1 0 (cells:=ar m) (by rfl) (by simp only[Kc,simprocAttr]) (by simp[ar])) ?_
  refine bJ (σ':=⟨aw [(1,.b7 (ar m)),(2,.ptr 0 0 0),(3,.lit (.int .i64 0))],[.var zM]⟩) (Xs false [1] @zM.eq_1) ?_
  refine qv 1 (by decide) _ rfl ?_
  intro K hK
  simp (disch:=omega) only[Ac,↓Pc,simprocAttr,kW,ky,ar]
  refine⟨rfl,(show lZ Tryz.prog 46 [.agg (ar m)] (some 20) _ _ from ?_)⟩
  refine vo Wi ?_
  rintro r os ⟨f0,a,b,d,rfl,wI,C,l2,h2,C2,hC,hP,agi,hd,hbd⟩
  refine⟨Nat.succ_le_of_lt (aQ.1 f0).1,?_⟩
  have agk:=(aQ.1 f0).1
  have ae3:=hC.len
  have ae4:=hP.len
  have agl:=(aQ.1 hd).1
  simp (disch:=omega) only[Ac,↓Pc,simprocAttr,dC]
  refine hK _ ?_;clear hK K
  repeat (refine Xu ?_)
  have gq:(os++[Ob.var [.ref a 1 0 m.cls.length,.ref b 4 0 m.ae.length,.ref d 4 0 m.au.length,.lit (.int .i64 m.rules)]])[os.length]?=some (.var [.ref a 1 0 m.cls.length,.ref b 4 0 m.ae.length,.ref d 4 0 m.au.length,.lit (.int .i64 m.rules)]):=mi _ _ _
  have E3:=cy.same (fun c=>tj _) hC (eR.app (by have:=hC.at_;omega) [Ob.var [.ref a 1 0 m.cls.length,.ref b 4 0 m.ae.length,.ref d 4 0 m.au.length,.lit (.int .i64 m.rules)]] _) (cn ae3)
  have Ju:=cy.same (fun c=>uC _) hP (eR.app (by have:=hP.at_;omega) [Ob.var [.ref a 1 0 m.cls.length,.ref b 4 0 m.ae.length,.ref d 4 0 m.au.length,.lit (.int .i64 m.rules)]] _) (cn ae4)
  have f1:=bK f0 [Ob.var [.ref a 1 0 m.cls.length,.ref b 4 0 m.ae.length,.ref d 4 0 m.au.length,.lit (.int .i64 m.rules)]]
  have gd:=bK hd [Ob.var [.ref a 1 0 m.cls.length,.ref b 4 0 m.ae.length,.ref d 4 0 m.au.length,.lit (.int .i64 m.rules)]]
  have hql:os.length+1≤(os++[Ob.var [.ref a 1 0 m.cls.length,.ref b 4 0 m.ae.length,.ref d 4 0 m.au.length,.lit (.int .i64 m.rules)]]).length:=by simp
  clear hC hP f0 hd Wi
  have V6:=E3.at_
  have EX:=Ju.at_
  have EY:=Ju.qM
  generalize os++[Ob.var [.ref a 1 0 m.cls.length,.ref b 4 0 m.ae.length,.ref d 4 0 m.au.length,.lit (.int .i64 m.rules)]]=o1 at *
  generalize os.length=q at *
  have kc:=E3.arr
  refine bJ (σ':=⟨aw [(2,.ptr 0 0 0),(5,.ptr q 0 0)],o1⟩) (Xv X0) ?_
  refine Va (X2 @gq @kc) ?_
  refine aU (fun z:Nat × List Ob=>(⟨aw [(2,.ptr 0 0 0),(5,.ptr q 0 0),(22,.ref a 1 0 m.cls.length),(23,.lit (.int .i64 m.cls.length)),(24,.lit (.int .i64 z.1))],z.2⟩:St))
    (fun z=>z.1≤m.cls.length∧eR wI (q+1) o1 z.2∧z.2[0]?=some (.var zM)∧q+1≤z.2.length∧cy 1 (fun c=>uD (if c<z.1 then (m.cls.getD c default).map fI else m.cls.getD c default)) z.2 a 1 wI m.cls.length (fun _=>[]) C)
    (fun z=>m.cls.length - z.1) (0,o1) ⟨aM _,fun _ _ _=>rfl,f1,hql,E3⟩ (Xv X0) ?_
  rintro ⟨i,ob⟩ ⟨hi,il,k0,cw,E4⟩ Ql aq av
  dsimp only at hi il k0 cw E4 ⊢
  by_cases hi':i<m.cls.length
  · have gp:=aC (d:=default) hi'
    have vH:=hm.opt _ gp
    have Bt:=fun o ho=>V4 hm gp (o:=o) ho
    obtain ⟨l,r,hl,hr,hO,yu⟩:=E4.at (fun c=>tj _) hi'
    have Jv:uD (m.cls.getD i default) ob l r (C i):=by
      have:=hO
      rw[if_neg (xN i)] at this
      exact this
    clear hO
    obtain ⟨ac,hi3,CC,Wj,zt,hR⟩:=Jv
    have agm:=hR.len
    have agn:=hR.at_
    have ago:=hR.qM
    have pg:=E4.arr
    have tA:((aN m.cls.length).map fun c=>([]:List AV)++[C c])[i]?=some [AV.ref ac 6 0 (m.cls.getD i default).length]:=by
      rw[pI _ hi',Wj];rfl
    have fh:=xF (fun c=>([]:List AV)++[C c]) m.cls.length
    have hr6:=hR.arr
    generalize yn:(aN m.cls.length).map (fun c=>([]:List AV)++[C c])=R1 at pg tA fh
    generalize hLL:m.cls.getD i default=L at *
    ((repeat' (first|refine Va (X4 @pg @tA @fh @hr6) ?_|(refine Xi ?_ ?_<;>try intro ht)|exact Xx|fail)))
    refine aU (fun z:Nat × List Ob=>(⟨aw [(2,.ptr 0 0 0),(5,.ptr q 0 0),(22,.ref a 1 0 m.cls.length),(23,.lit (.int .i64 m.cls.length)),(24,.lit (.int .i64 i)),(7,.ref ac 6 0 L.length),(28,.ref ac 6 0 L.length),(29,.lit (.int .i64 L.length)),(30,.lit (.int .i64 z.1))],z.2⟩:St))
      (fun z=>z.1≤L.length∧ob.length≤z.2.length∧(∀ j,j<ob.length→(j<l∨r≤j)→z.2[j]?=ob[j]?)∧∃ CC,cy 6 (fun q=>uB (if q<z.1 then (fI (L.getD q default)).ch else (L.getD q default).ch)) z.2 ac l hi3 L.length (fun q=>iH (L.getD q default)) CC)
      (fun z=>L.length - z.1) (0,ob) ⟨aM _,aG _,fun _ _ _=>rfl,CC,hR⟩ (Xv X0) ?_
    rintro ⟨k,ot⟩ ⟨hk,hlen,dK,CD,hS⟩ eo bP bM
    dsimp only at hk hlen dK hS ⊢
    by_cases aH:k<L.length
    · have eu:=aC (l:=L) (d:=default) aH
      have cE:=Bt _ eu
      obtain ⟨l',r',ix,qY,hH,ae9⟩:=hS.at (fun q=>Eo _) aH
      have hH2:fX 2 ot l' r' (CD k) (rowsOf bA (L.getD k default).ch):=by
        have:=hH
        unfold uB at this
        rw[if_neg (xN k)] at this
        exact this
      clear hH
      have fF:=hS.len
      have agp:=hS.at_
      have E5:=hS.arr
      have uI:((aN L.length).map fun q=>iH (L.getD q default)++[CD q])[k]?=some (iH (L.getD k default)++[CD k]):=pI _ aH
      have E6:=xF (fun q=>iH (L.getD q default)++[CD q]) L.length
      have hRs:=fun v=>ae1 (fun q=>iH (L.getD q default)) CD aH v
      have lJ:∀ (v:AV) (o2:List Ob),fX 2 o2 l' r' v (rowsOf bA (fI (L.getD k default)).ch)→(∀ j,j<ot.length→(j<l'∨r'≤j)→o2[j]?=ot[j]?)→ot.length≤o2.length→∀ st,
          aB 0 st ⟨aw [(2,.ptr 0 0 0),(5,.ptr q 0 0),(22,.ref a 1 0 m.cls.length),(23,.lit (.int .i64 m.cls.length)),(24,.lit (.int .i64 i)),(7,.ref ac 6 0 L.length),(28,.ref ac 6 0 L.length),(29,.lit (.int .i64 L.length)),(30,.lit (.int .i64 (k+1:Nat)))],o2.set ac (.arr 6 (((aN L.length).map fun q=>iH (L.getD q default)++[CD q]).set k (iH (L.getD k default)++[v])))⟩→eo .normal st:=by
        intro v o2 hv qQ k7 st eN
        rw[hRs] at eN
        refine bP st (k+1,o2.set ac (.arr 6 ((aN L.length).map fun q=>iH (L.getD q default)++[if q=k then v else CD q]))) ⟨aH,by dsimp only;rw[bI];omega,fun j h1 h2=>?_,fun q=>if q=k then v else CD q,?_⟩ (by dsimp only;omega) eN
        · dsimp only
          rw[bm (by omega),qQ j (by omega) (by omega)]
          exact dK j h1 h2
        · refine ae9 _ v _ ?_ ?_ (fun j h1 h2 h3=>?_) (fun j h1 h2 os l r w hw=>?_)
          · exact Fu (by omega)
          · show uB _ _ _ _ _
            rw[if_pos (ny k)]
            exact fX.same hv (eR.set (.inr (by omega)) _)
          · rw[bm (by omega)]
            exact qQ j (by omega) h3
          · show uB _ _ _ _ _
            by_cases e:j<k
            · rw[if_pos e] at hw
              rw[if_pos (by omega)];exact hw
            · rw[if_neg e] at hw
              rw[if_neg (by omega)];exact hw
      generalize lH:L.getD k default=o at *
      have Jw:iH o=[.lit (.int .i64 o.wk),.lit (.int .i64 o.day),.lit (.int .i64 o.st),.lit (.int .i64 o.len),.lit (.int .i64 o.room)]:=rfl
      rw[Jw] at uI
      generalize ow:(aN L.length).map (fun q=>iH (L.getD q default)++[CD q])=R6 at *
      rcases hH2 with ⟨hv,hx⟩ | ⟨bc,rest,hv,Jx,vK,zn,zy⟩
      · have jf:=aeZ 48 Wg
        rw[hv,hx] at uI
        simp only[da,dh] at uI
        have BV:o.ch=[]:=by
          have:=congrArg su hx
          rw[b8] at this
          exact ph this
        ((repeat' (first|refine Vc (X3 @E5 @uI @E6) jf ?_|(refine Xi ?_ ?_<;>try intro ht)|exact Xx|fail)))
        exact lJ (.tree 2 []) ot (.inl ⟨by unfold fI;rw[BV];rfl,by unfold fI;rw[BV];rfl⟩) (fun _ _ _=>rfl) (aG _) _ (by rw[Jw];exact Xv X0)
      · have jf:=aeW o.ch rest 48 [] (fun c=>!j6 c.2) ot bc zn (fun row hr=>zy row (by simp[hr])) (by omega) rfl (fun x _=>Wg x)
        have Jy:(o.ch.filter fun x=>!(fun c:Int × Int=>!j6 c.2) x)=(fI o).ch:=by
          unfold fI
          dsimp only
          congr 1
          funext x
          exact Bool.not_not _
        rw[Jy] at jf
        rw[hv,b8] at uI
        simp only[da,dh] at uI
        repeat' (first|((fail_if_success (first|refine ej 11 ?_|refine ek 11 ?_));refine Xr (X3 @E5 @uI @E6) ?_;intro K hK)|(refine hK _ ?_;clear hK K)|(refine Xi ?_ ?_<;>try intro ht)|refine Xy ?_|exact Xx|fail)
        refine qv 7 (by decide) _ rfl ?_
        intro K hK
        simp (disch:=omega) only[Ac,↓Pc,simprocAttr,kW,ky,E5,uI,E6]
        refine⟨⟨by omega,by omega⟩,rfl,(show lZ Tryz.prog 47 [.ref bc 2 0 o.ch.length,.fn 48 []] (some 40) _ _ from ?_)⟩
        refine vo jf ?_
        rintro r1 o2 ⟨rfl,rF,oR,aT,nM⟩
        refine⟨rF.1,?_⟩
        have afb:o2[ac]?=some (.arr 6 R6):=(rF.2 ac (by omega) fF).trans E5
        simp (disch:=omega) only[Ac,↓Pc,simprocAttr,afb,uI,E6]
        refine⟨⟨by omega,by omega⟩,hK _ ?_⟩
        clear hK K
        repeat (refine Xu ?_)
        refine Va X0 ?_
        exact lJ (.ref bc 2 0 (fI o).ch.length) o2 (.inr ⟨bc,oR,by rw[b8],Jx,vK,aT,fun row hr=>by
          rcases cr.1 hr with h | h
          · exact eT _ row h
          · exact nM row h⟩) (fun j h1 h2=>rF.2 j (by omega) h1) rF.1 _ (by rw[Jw];exact Xv X0)
    · obtain rfl:k=L.length:=by omega
      ((repeat' (first|refine Va X0 ?_|(refine Xi ?_ ?_<;>try intro ht)|exact Xx|fail)))
      refine bM _ _ rfl ?_
      clear bP bM
      repeat (refine Xu ?_)
      refine Va X0 ?_
      have e9:=(yu (fun c=>uD (if c<i+1 then (m.cls.getD c default).map fI else m.cls.getD c default)) (C i) ot (by
          rw[dK a (by omega) (by omega),pg,← yn]
          congr 2
          refine kU fun j _=>?_
          by_cases e:j=i
          · rw[if_pos e,e]
          · rw[if_neg e]) (by
          rw[if_pos (ny i),hLL,Wj]
          exact ae2 zt hS) (fun j h1 h2 h3=>dK j (by omega) h3) (fun j h1 h2 os l r w hw=>by
          by_cases e:j<i
          · rw[if_pos e] at hw
            rw[if_pos (by omega)];exact hw
          · rw[if_neg e] at hw
            rw[if_neg (by omega)];exact hw)).zh (C':=C) (Pd':=fun c=>uD (if c<i+1 then (m.cls.getD c default).map fI else m.cls.getD c default)) (A':=fun _=>[]) (fun _ _=>rfl) (fun j _=>by
          by_cases e:j=i
          · rw[if_pos e,e]
          · rw[if_neg e]) (fun _ _ _ _ _ _ h=>h)
      exact aq _ (i+1,ot) ⟨by dsimp only;omega,fun j h1 h2=>(dK j (by omega) (by omega)).trans (il j h1 h2),(dK 0 (by omega) (by omega)).trans k0,by dsimp only;omega,e9⟩ (by dsimp only;omega) (Xv X0)
  obtain rfl:i=m.cls.length:=by omega
  ((repeat' (first|refine Va X0 ?_|(refine Xi ?_ ?_<;>try intro ht)|exact Xx|fail)))
  refine av _ _ rfl ?_;clear aq av Ql
  repeat (refine Xu ?_)
  clear E3 kc
  have Wl:=(il q (by omega) (by omega)).trans gq
  have gd1:=(il d (by omega) (by omega)).trans gd
  have Wm:=cy.same (fun c=>uC _) Ju (il.mono (by omega) (by omega)) (il b (by omega) (by omega))
  have m6:=Wm.arr
  have agq:=xF (fun i=>jn (m.ae.getD i default)++[C2 i]) m.ae.length
  refine Va (X2 @Wl @m6) ?_
  refine aU (fun z:Nat × List Ob=>(⟨aw [(2,.ptr 0 0 0),(5,.ptr q 0 0),(46,.ref b 4 0 m.ae.length),(47,.lit (.int .i64 m.ae.length)),(48,.lit (.int .i64 z.1))],z.2⟩:St))
    (fun z=>z.1≤m.ae.length∧eR 0 l2 ob z.2∧eR h2 (q+1) ob z.2∧q+1≤z.2.length∧cy 4 (fun c=>th (if c<z.1 then (iw (m.ae.getD c default)).az else (m.ae.getD c default).az)) z.2 b l2 h2 m.ae.length (fun c=>jn (m.ae.getD c default)) C2)
    (fun z=>m.ae.length - z.1) (0,ob) ⟨aM _,fun _ _ _=>rfl,fun _ _ _=>rfl,cw,Wm⟩ (Xv X0) ?_
  rintro ⟨i,ot⟩ ⟨hi,jS,iK,hlen,B1⟩ Ql aq av
  dsimp only at hi jS iK hlen B1 ⊢
  by_cases hi':i<m.ae.length
  · have xr:=aC (l:=m.ae) (d:=default) hi'
    have cq:=Jo hm xr
    obtain ⟨l,r,hl,hr,hO,yu⟩:=B1.at (fun c=>uC _) hi'
    have Jv:fX 1 ot l r (C2 i) (ints (m.ae.getD i default).az):=by
      have:=hO
      unfold th at this
      rw[if_neg (xN i)] at this
      exact this
    clear hO
    have pg:=B1.arr
    have afd:=B1.len
    have tA:((aN m.ae.length).map fun c=>jn (m.ae.getD c default)++[C2 c])[i]?=some (jn (m.ae.getD i default)++[C2 i]):=pI _ hi'
    have fh:=xF (fun c=>jn (m.ae.getD c default)++[C2 c]) m.ae.length
    have lJ:∀ o2:List Ob,fX 1 o2 l r (C2 i) (ints (iw (m.ae.getD i default)).az)→(∀ j,j<ot.length→(j<l∨r≤j)→o2[j]?=ot[j]?)→ot.length≤o2.length→∀ st,
        aB 0 st ⟨aw [(2,.ptr 0 0 0),(5,.ptr q 0 0),(46,.ref b 4 0 m.ae.length),(47,.lit (.int .i64 m.ae.length)),(48,.lit (.int .i64 (i+1:Nat)))],o2⟩→Ql .normal st:=by
      intro o2 hv qQ k7 st eN
      have e9:=(yu (fun c=>th (if c<i+1 then (iw (m.ae.getD c default)).az else (m.ae.getD c default).az)) (C2 i) o2 (by
          rw[qQ b afd (by omega),pg]
          congr 2
          refine kU fun j _=>?_
          by_cases e:j=i
          · rw[if_pos e,e]
          · rw[if_neg e]) (by
          show th _ _ _ _ _
          rw[if_pos (ny i)]
          exact hv) (fun j h1 h2 h3=>qQ j (by omega) h3) (fun j h1 h2 os l r w hw=>by
          show th _ _ _ _ _
          by_cases e:j<i
          · rw[if_pos e] at hw
            rw[if_pos (by omega)];exact hw
          · rw[if_neg e] at hw
            rw[if_neg (by omega)];exact hw)).zh (C':=C2) (Pd':=fun c=>th (if c<i+1 then (iw (m.ae.getD c default)).az else (m.ae.getD c default).az)) (A':=fun c=>jn (m.ae.getD c default)) (fun _ _=>rfl) (fun j _=>by
          by_cases e:j=i
          · rw[if_pos e,e]
          · rw[if_neg e]) (fun _ _ _ _ _ _ h=>h)
      exact aq st (i+1,o2) ⟨hi',fun j h1 h2=>(qQ j (by omega) (by omega)).trans (jS j h1 h2),fun j h1 h2=>(qQ j (by omega) (by omega)).trans (iK j h1 h2),by dsimp only;omega,e9⟩ (by dsimp only;omega) eN
    clear yu
    generalize cT:m.ae.getD i default=p at *
    have DI:jn p=[.lit (.int .i64 p.fst),.lit (.int .i64 p.snd),.lit (.int .i64 p.aV)]:=rfl
    rw[DI] at tA
    simp only[da,dh] at tA
    generalize ow:(aN m.ae.length).map (fun c=>jn (m.ae.getD c default)++[C2 c])=R2 at *
    rcases Jv with ⟨hv,hx⟩ | ⟨tb,rest,hv,Jx,vK,zn,zy⟩
    · have ht0:p.az=[]:=by
        have:=congrArg su hx
        rw[kd] at this
        exact ph this
      rw[hv] at tA
      rw[ht0] at tA
      ((repeat' (first|refine Va (X4 @pg @tA @fh @dC) ?_|(refine Xi ?_ ?_<;>try intro ht)|exact Xx|fail)))
      refine aU (fun z:Unit=>(⟨aw [(2,.ptr 0 0 0),(5,.ptr q 0 0),(46,.ref b 4 0 m.ae.length),(47,.lit (.int .i64 m.ae.length)),(48,.lit (.int .i64 i)),(54,.lit (.int .i64 0)),(55,.lit (.int .i64 0))],ot++[.var [.lit (.int .i64 p.fst),.lit (.int .i64 p.snd),.lit (.int .i64 p.aV),.tree 1 (ints [])]]⟩:St)) (fun _=>True) (fun _=>0) () trivial (Xv X0) ?_
      rintro ⟨⟩ _ eo bP bM
      ((repeat' (first|refine Va X0 ?_|(refine Xi ?_ ?_<;>try intro ht)|exact Xx|fail)))
      refine bM _ _ rfl ?_
      clear bP bM
      repeat (refine Xu ?_)
      refine Va X0 ?_
      refine lJ (ot++[.var [.lit (.int .i64 p.fst),.lit (.int .i64 p.snd),.lit (.int .i64 p.aV),.tree 1 (ints [])]]) (.inl ⟨?_,?_⟩) (fun j h1 _=>cn h1) (by simp) _ (Xv X0)
      · rw[hv,ht0];unfold iw;rw[ht0];rfl
      · unfold iw;rw[ht0];rfl
    · rw[kd] at hv
      rw[hv] at tA
      have zo:=(aQ.1 zn).1
      have Wn:=bK zn
      ((repeat' (first|refine Va (X5 @pg @tA @fh @dC @Wn) ?_|(refine Xi ?_ ?_<;>try intro ht)|exact Xx|fail)))
      have nA:(ot++[Ob.var [.lit (.int .i64 p.fst),.lit (.int .i64 p.snd),.lit (.int .i64 p.aV),.ref tb 1 0 p.az.length]])[ot.length]?=some (.var [.lit (.int .i64 p.fst),.lit (.int .i64 p.snd),.lit (.int .i64 p.aV),.ref tb 1 0 p.az.length]):=mi _ _ _
      refine aU (fun z:Nat × List Int × List Ob=>(⟨aw [(2,.ptr 0 0 0),(5,.ptr q 0 0),(46,.ref b 4 0 m.ae.length),(47,.lit (.int .i64 m.ae.length)),(48,.lit (.int .i64 i)),(10,.ptr ot.length 0 0),(53,.ref tb 1 0 p.az.length),(54,.lit (.int .i64 p.az.length)),(55,.lit (.int .i64 z.1))],z.2.2⟩:St))
        (fun z=>z.1≤p.az.length∧z.2.1.length=p.az.length∧(∀ j,j<p.az.length→z.2.1.getD j 0=if j<z.1 then lu (p.az.getD j 0) else p.az.getD j 0)∧ku tb (ot++[Ob.var [.lit (.int .i64 p.fst),.lit (.int .i64 p.snd),.lit (.int .i64 p.aV),.ref tb 1 0 p.az.length]]) z.2.2∧z.2.2[tb]?=some (.arr 1 (ints z.2.1++rest)))
        (fun z=>p.az.length - z.1) (0,p.az,ot++[Ob.var [.lit (.int .i64 p.fst),.lit (.int .i64 p.snd),.lit (.int .i64 p.aV),.ref tb 1 0 p.az.length]]) ⟨aM _,rfl,fun _ _=>by simp,ku.refl _ _,Wn _⟩ (Xv X0) ?_
      rintro ⟨k,X,ox⟩ ⟨hk,hX,fC,iv,aT⟩ eo bP bM
      dsimp only at hk hX fC iv aT ⊢
      have Aa:ox[ot.length]?=some (.var [.lit (.int .i64 p.fst),.lit (.int .i64 p.snd),.lit (.int .i64 p.aV),.ref tb 1 0 p.az.length]):=(iv.2 _ (by omega) (by simp)).trans nA
      by_cases aH:k<p.az.length
      · have a7:(ints X++rest)[k]?=some [.lit (.int .i64 (p.az.getD k 0))]:=by
          have h5:=fC k aH
          rw[if_neg (xN k)] at h5
          rw[cn (by rw[kd];omega),← h5]
          unfold ints
          rw[cm,aA,bX (by omega)];rfl
        have cF:(ints X++rest).length=p.az.length+rest.length:=by rw[bV,kd,hX]
        have gr:(ints X++rest).set k [.lit (.int .i64 0)]=ints (X.set k 0)++rest:=by
          rw[Fx _ _ (by rw[kd];omega)]
          unfold ints
          rw[← List.map_set]
        generalize bE:p.az.getD k 0=x at *
        have Dk:∀ j,j<p.az.length→j≠k→X.getD j 0=if j<k+1 then lu (p.az.getD j 0) else p.az.getD j 0:=fun j h1 h2=>by
          rw[fC j h1]
          by_cases e:j<k
          · rw[if_pos e,if_pos (by omega)]
          · rw[if_neg e,if_neg (by omega)]
        by_cases hF:x=1099511627776
        · ((repeat' (first|refine Va (X4 @Aa @aT @a7 @cF) ?_|(refine Xi ?_ ?_<;>try intro ht)|exact Xx|fail)))
          all_goals try (exfalso;simp_all;done)
          all_goals
            refine bP _ (k+1,X,ox) ⟨aH,hX,fun j hj=>?_,iv,aT⟩ (by dsimp only;omega) (Xv X0)
            by_cases e:j=k
            · subst e
              have:=fC j hj
              dsimp only
              rw[this,bE,if_neg (xN _),if_pos (ny _),hF];rfl
            · exact Dk j hj e
        · ((repeat' (first|refine Va (X5 @Aa @aT @a7 @cF @gr) ?_|(refine Xi ?_ ?_<;>try intro ht)|exact Xx|fail)))
          all_goals try (exfalso;simp_all;done)
          all_goals
            refine bP _ (k+1,X.set k 0,ox.set tb (.arr 1 (ints (X.set k 0)++rest))) ⟨aH,by dsimp only;rw[bI];exact hX,fun j hj=>?_,by have:=iv.step (.arr 1 (ints (X.set k 0)++rest)) [];rwa [gA] at this,iT aT⟩ (by dsimp only;omega) (Xv X0)
            dsimp only
            by_cases e:j=k
            · subst e
              rw[aA,Fu (by omega),bE,if_pos (ny _)]
              unfold lu;rw[if_neg hF];rfl
            · rw[aA,bm (Ne.symm e),← aA]
              exact Dk j hj e
      · obtain rfl:k=p.az.length:=by omega
        ((repeat' (first|refine Va X0 ?_|(refine Xi ?_ ?_<;>try intro ht)|exact Xx|fail)))
        refine bM _ _ rfl ?_
        clear bP bM
        repeat (refine Xu ?_)
        refine Va X0 ?_
        have hXe:X=p.az.map lu:=by
          apply List.ext_getElem?
          intro j
          by_cases e:j<p.az.length
          · have:=fC j e
            rw[if_pos e,aA,aA,bX (by omega),bX e] at this
            rw[cm,bX (by omega),bX e]
            simpa using this
          · rw[eS (by omega),eS (by simpa using e)]
        refine lJ ox ?_ (fun j h1 h2=>(iv.2 j (by omega) (by simp;omega)).trans (cn h1)) (by have:=iv.1;simp at this;omega) _ (Xv X0)
        refine .inr ⟨tb,rest,?_,Jx,vK,?_,fun row wY=>?_⟩
        · rw[hv,kd];unfold iw;simp
        · rw[aT,hXe];rfl
        · rcases cr.1 wY with h | h
          · exact oE _ row h
          · exact zy row (by simp[h])
  obtain rfl:i=m.ae.length:=by omega
  ((repeat' (first|refine Va X0 ?_|(refine Xi ?_ ?_<;>try intro ht)|exact Xx|fail)))
  refine av _ _ rfl ?_;clear aq av Ql
  repeat (refine Xu ?_)
  have Wo:=(iK q (by omega) (by omega)).trans Wl
  have gd2:=(iK d (by omega) (by omega)).trans gd1
  have k2:=(jS 0 (by omega) (by omega)).trans k0
  have Wp:=cy.same (fun c=>tj _) E4 (jS.mono (by omega) (by omega)) (jS a (by omega) (by omega))
  have Wq:=aeX m.au [] 50 [] (fun c=>!j6 c.bL) ot d (by rw[gA];exact gd2) (fun row hr=>by cases hr) (by omega) rfl (fun x _=>aeY x)
  have Jy:(m.au.filter fun x=>!(fun c:Ct=>!j6 c.bL) x)=(aI m).au:=by
    unfold aI
    dsimp only
    congr 1
    funext x
    exact Bool.not_not _
  rw[Jy] at Wq
  refine Xy ?_
  refine qv 2 (by decide) _ rfl ?_
  intro K hK
  simp (disch:=omega) only[Ac,↓Pc,simprocAttr,kW,ky,Wo]
  refine⟨rfl,(show lZ Tryz.prog 49 [.ref d 4 0 m.au.length,.fn 50 []] (some 70) _ _ from ?_)⟩
  refine vo Wq ?_
  rintro r1 o2 ⟨rfl,rF,oR,aT,nM⟩
  refine⟨rF.1,?_⟩
  have Wr:o2[q]?=_:=(rF.2 q (by omega) (by omega)).trans Wo
  have k3:o2[0]?=_:=(rF.2 0 (by omega) (by omega)).trans k2
  have Ws:=fun y=>iT (y:=y) Wr
  simp (disch:=omega) only[Ac,↓Pc,simprocAttr,Wr,Ws]
  refine hK _ ?_
  clear hK K
  repeat (refine Xu ?_)
  have s6:=(aQ.1 aT).1
  have k4:∀ Y,(o2.set q Y)[0]?=some (.var zM):=fun Y=>(bm (by omega)).trans k3
  have hS:∀ (Y Z:Ob) (lo hi:Nat),1≤lo→hi≤d→eR lo hi ot ((o2.set q Y).set 0 Z):=fun Y Z lo hi h1 h2 j j1 j2=>by
    rw[bm (by omega),bm (by omega)]
    exact rF.2 j (by omega) (by omega)
  have hfC:∀ Y Z,zi (aI m).cls ((o2.set q Y).set 0 Z) a 1 wI (aI m).cls.length C:=fun Y Z=>by
    unfold zi
    rw[oS]
    refine cy.zh (cy.same (fun c=>tj _) Wp (hS Y Z _ _ (aG _) (by omega)) (hS Y Z a (a+1) (by have:=Wp.qM;omega) (by omega) a (aG _) (ny _))) (fun _ _=>rfl) (fun _ _=>rfl) (fun c hc os l r v hv=>?_)
    rw[if_pos hc] at hv
    have e:(aI m).cls.getD c default=(m.cls.getD c default).map fI:=iG _ _ _ hc
    rw[e];exact hv
  have hfP:∀ Y Z,Bh (aI m).ae ((o2.set q Y).set 0 Z) b l2 h2 (aI m).ae.length C2:=fun Y Z=>by
    unfold Bh
    rw[show (aI m).ae.length=m.ae.length by simp[aI]]
    refine cy.zh (cy.same (fun c=>uC _) B1 (hS Y Z _ _ (by omega) (by omega)) (hS Y Z b (b+1) (by omega) (by omega) b (aG _) (ny _))) (fun c hc=>?_) (fun _ _=>rfl) (fun c hc os l r v hv=>?_)
    · have e:(aI m).ae.getD c default=iw (m.ae.getD c default):=iG _ _ _ hc
      rw[e];rfl
    · have oG:th _ os l r v:=hv
      rw[if_pos hc] at oG
      have e:(aI m).ae.getD c default=iw (m.ae.getD c default):=iG _ _ _ hc
      rw[e];exact oG
  have hfD:∀ Y Z,fX 4 ((o2.set q Y).set 0 Z) d (d+1) (.ref d 4 0 (aI m).au.length) (rowsOf aO (aI m).au):=fun Y Z =>
    .inr ⟨d,oR,by rw[b8],aG _,ny _,by rw[bm (by omega),bm (by omega)];exact aT,fun row hr=>by
      rcases cr.1 hr with h | h
      · exact eT _ row h
      · exact nM row h⟩
  have sK:(aI m).ae.length=m.ae.length:=by simp[aI]
  have k5:=fun Y Z=>iT (y:=Z) (k4 Y)
  refine Vb (X3 @Ws @k4 @zM.eq_1) ?_
  simp (disch:=omega) only[Ac,↓Pc,simprocAttr,rowOf,k5]
  refine cP [] true (by decide) trivial (by decide) (by decide) (aE.mX (aE.agg _ _ rfl (dY.spec (R:=aE _ _ _ _) (cs:=ar (aI m)) (ds:=[.ref a 1 0 m.cls.length,.ref b 4 0 m.ae.length,.ref d 4 0 (aI m).au.length,.lit (.int .i64 m.rules)]) ⟨.snap _ _ rfl ?_,.snap _ _ rfl ?_,.snap _ _ rfl ?_,.pure rfl,trivial⟩).2) (.pure rfl))
  · rw[← oS m];exact aca (hfC _ _) (fun i _ _=>gK (by simp))
  · rw[← sK];exact acb (hfP _ _) (fun i _ _=>gK (by simp))
  · exact fX.bW (hfD _ _) (fun i _ _=>gK (by simp)) (jy _)
end T

