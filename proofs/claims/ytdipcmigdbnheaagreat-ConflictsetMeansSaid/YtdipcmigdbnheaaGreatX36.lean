import Derived.Test.YtdipcmigdbnheaaGreatX34
import Derived.Test.YtdipcmigdbnheaaGreatX35
import Derived.Test.YtdipcmigdbnheaaGreatX08
set_option linter.unusedVariables false
set_option linter.unusedSimpArgs false
set_option linter.unnecessarySimpa false
set_option linter.unusedSectionVars false
set_option maxHeartbeats 64000000
set_option maxRecDepth 20000
open Nat renaming zero_le→aM,le_refl→aG
open List renaming map_cons→dO,cons_append→da,nil_append→dh,filter_cons→qX,drop_eq_nil_of_le→cB,filter_nil→zG,append_nil→gA,map_nil→lQ
open Go Go.Am Go.Proofs
open Nat (reduceEqDiff reduceAdd reduceLeDiff reduceMul)
open Int (reduceNeg reduceLE reduceToNat)
namespace T
def eX (m:aj) (cls:List (List bx)) (ae:List Pr) (au:List Ct):List Ob :=
  [.var (ar m),.var [.lit (.slice none 0 0),.lit (.slice none 0 0),.lit (.slice none 0 0),.lit (.int .i64 0)],
    .var [.ref 3 1 0 cls.length,.ref 4 4 0 ae.length,.ref 5 4 0 au.length,.lit (.int .i64 m.rules)],.arr 1 (rowsOf bD cls),.arr 4 (rowsOf bu ae),.arr 4 (rowsOf aO au)]
theorem aeM (m:aj) (ax:List Bool) (hb:MB m) (hk:ax.length<9223372036854775808):an Tryz.prog 38 [.agg (ar m),.tree 1 (aY ax)] [] (.bG [.agg (ar (qC m ax).1),.lit (.int .i64 (qC m ax).2)]) []:=by
  generalize ao:qC m ax=res
  unfold qC at ao
  have hval:=AH m hb
  by_cases hv:dz m=0
  rotate_left
  · rw[if_pos hv] at ao
    subst ao
    refine an.aD (fn:=Tryz.f38) 153 0 [.cell 4 29,.tmp 5] Tryz.func38 rfl rfl rfl rfl rfl (by simp) ?_
    ((repeat' (first|refine Vd X0 hval ?_|(refine Xi ?_ ?_<;>try intro ht)|exact Xx|fail)))
    simp (disch:=omega) only[Ac,↓Pc,simprocAttr]
    exact cP [] true (by decide) trivial (by decide) (by decide) (Bk _)
  rw[if_neg (by omega)] at ao
  rw[hv] at hval
  by_cases cw:(ax.length:Int)=m.rules
  rotate_left
  · rw[if_pos cw] at ao
    subst ao
    refine an.aD (fn:=Tryz.f38) 153 0 [.cell 4 29,.tmp 5] Tryz.func38 rfl rfl rfl rfl rfl (by simp) ?_
    ((repeat' (first|refine Vd X0 hval ?_|(refine Xi ?_ ?_<;>try intro ht)|exact Xx|fail)))
    simp (disch:=omega) only[Ac,↓Pc,simprocAttr]
    exact cP [] true (by decide) trivial (by decide) (by decide) (Bk _)
  rw[if_neg (by omega)] at ao
  have hm:=eB.1 hv
  have vA:=hm.cls
  have cq:=hm.ae
  have agc:=hm.au
  unfold gv at ao
  generalize gp:(m.cls.map fun l=>l.map (jM ax))=Jm at *
  generalize xr:(m.ae.filter fun p=>du ax p.aV)=VY at *
  generalize uS:(m.au.filter fun c=>du ax c.aV)=VZ at *
  subst ao
  refine an.aD (fn:=Tryz.f38) 153 0 [.cell 4 29,.tmp 5] Tryz.func38 rfl rfl rfl rfl rfl (by simp) ?_
  ((repeat' (first|refine Vd X0 hval ?_|(refine Xi ?_ ?_<;>try intro ht)|exact Xx|fail)))
  refine aU (fun z:Nat × List (List bx)=>(⟨aw [(1,.tree 1 (aY ax)),(2,.ptr 0 0 0),(4,.ptr 1 0 0),(7,.ptr 2 0 0),(8,.lit (.int .i64 z.1))],eX m z.2 [] []⟩:St))
    (fun z=>z.1≤m.cls.length∧z.2.length=z.1∧z.2++(m.cls.drop z.1).map (fun l=>l.map (jM ax))=Jm) (fun z=>m.cls.length - z.1) (0,[]) ⟨aM _,rfl,gp⟩ (by
      refine aB.trans (aB.ld 2 0 1 rfl rfl (by decide)) ?_
      refine aB.trans (aB.ld 2 1 4 rfl rfl (by decide)) ?_
      refine aB.trans (aB.ld 2 2 4 rfl rfl (by decide)) ?_
      unfold eX
      exact Xv X0) ?_
  rintro ⟨i,cls⟩ ⟨hi,cE,cd⟩ Ql aq av
  dsimp only at hi cE cd ⊢
  unfold eX
  by_cases hi':i<m.cls.length
  · have hd:=cA m.cls i default hi'
    have oe:=aC (d:=(default:List bx)) hi'
    have vH:=hm.opt _ oe
    generalize gP:m.cls.getD i default=l at *
    rw[hd,dO] at cd
    generalize yM:l.map (jM ax)=Jn at *
    ((repeat' (first|refine Va @gP ?_|(refine Xi ?_ ?_<;>try intro ht)|exact Xx|fail)))
    refine aU (fun z:Nat × List bx=>(⟨aw [(1,.tree 1 (aY ax)),(2,.ptr 0 0 0),(4,.ptr 1 0 0),(7,.ptr 2 0 0),(8,.lit (.int .i64 i)),(9,.ref 6 6 0 z.2.length),(10,.lit (.int .i64 z.1))],eX m cls [] []++[.arr 6 (rowsOf cD z.2)]⟩:St))
      (fun z=>z.1≤l.length∧z.2.length=z.1∧z.2++(l.drop z.1).map (jM ax)=Jn) (fun z=>l.length - z.1) (0,[]) ⟨aM _,rfl,yM⟩ (by
        refine aB.trans (aB.nil 9 6 (by simp only[Kc,simprocAttr]) (by decide)) ?_
        unfold eX
        exact Xv X0) ?_
    rintro ⟨k,ol⟩ ⟨iX,fT,sc⟩ eo bP bM
    dsimp only at iX fT sc ⊢
    unfold eX
    simp only[da,dh]
    by_cases aH:k<l.length
    · have s6:=cA l k default aH
      have eu:=aC (d:=(default:bx)) aH
      obtain ⟨oN,ym⟩:=V0 hm oe eu
      generalize lH:l.getD k default=o at *
      rw[s6,dO] at sc
      generalize xu:jM ax o=ko at *
      generalize ep:(o.ch.filter fun c=>du ax c.1)=aeN
      ((repeat' (first|refine Va (X2 @gP @lH) ?_|(refine Xi ?_ ?_<;>try intro ht)|exact Xx|fail)))
      refine aU (fun z:Nat × List (Int × Int)=>(⟨aw [(1,.tree 1 (aY ax)),(2,.ptr 0 0 0),(4,.ptr 1 0 0),(7,.ptr 2 0 0),(8,.lit (.int .i64 i)),(9,.ref 6 6 0 ol.length),(10,.lit (.int .i64 k)),(11,.ptr 7 0 0),(12,.tree 2 (rowsOf bA o.ch)),(13,.lit (.int .i64 z.1))],
          eX m cls [] []++[.arr 6 (rowsOf cD ol),.var [.lit (.int .i64 o.wk),.lit (.int .i64 o.day),.lit (.int .i64 o.st),.lit (.int .i64 o.len),.lit (.int .i64 o.room),.ref 8 2 0 z.2.length],.arr 2 (rowsOf bA z.2)]⟩:St))
        (fun z=>z.1≤o.ch.length∧z.2.length≤z.1∧z.2++((o.ch.drop z.1).filter fun c=>du ax c.1)=aeN) (fun z=>o.ch.length - z.1) (0,[]) ⟨aM _,aG _,ep⟩ (by
          refine aB.trans (aB.ld 7 5 2 rfl rfl (by decide)) ?_
          unfold eX
          exact Xv X0) ?_
      rintro ⟨j,ch⟩ ⟨hj,pP,vW⟩ ma gM eV
      dsimp only at hj pP vW ⊢
      unfold eX
      simp only[da,dh]
      by_cases c9:j<o.ch.length
      · have n5:=cA o.ch j default c9
        have aeO:=aC (d:=(default:Int × Int)) c9
        have pC:=ym _ aeO
        generalize aR:o.ch.getD j default=c at *
        rw[n5,qX] at vW
        generalize s7:du ax c.1=kb at *
        have BU:ax.getD c.1.toNat false=kb:=s7
        ((repeat' (first|refine Va (X2 @aR @BU) ?_|(refine Xi ?_ ?_<;>try intro ht)|exact Xx|fail)))
        · rw[if_pos (by assumption)] at vW
          refine gM _ (j+1,ch++[c]) ⟨by dsimp only;omega,by simp;omega,by rw[← vW];simp⟩ (by dsimp only;omega) ?_
          have e:=jW (enc:=bA) ch c
          simp only[bA] at e
          rw[e]
          unfold eX
          simp only[da,dh]
          exact Xs false [0,1,2,3,4,5,6,7,10] X0
        · rw[if_neg (by simp[*])] at vW
          refine gM _ (j+1,ch) ⟨by dsimp only;omega,by dsimp only;omega,vW⟩ (by dsimp only;omega) ?_
          unfold eX
          exact Xv X0
      · ((repeat' (first|refine Va X0 ?_|(refine Xi ?_ ?_<;>try intro ht)|exact Xx|fail)))
        rw[cB (by omega),zG,gA] at vW
        refine eV _ _ rfl ?_
        clear gM eV ma
        repeat (refine Xu ?_)
        refine bJ (σ':=⟨aw [(1,.tree 1 (aY ax)),(2,.ptr 0 0 0),(4,.ptr 1 0 0),(7,.ptr 2 0 0),(8,.lit (.int .i64 i)),(9,.ref 6 6 0 ol.length),(10,.lit (.int .i64 k)),(11,.ptr 7 0 0)],
          eX m cls [] []++[.arr 6 (rowsOf cD ol),.var [.lit (.int .i64 o.wk),.lit (.int .i64 o.day),.lit (.int .i64 o.st),.lit (.int .i64 o.len),.lit (.int .i64 o.room),.ref 8 2 0 ch.length],.arr 2 (rowsOf bA ch)]⟩) (by unfold eX;exact Xv X0) ?_
        unfold eX
        simp only[da,dh]
        refine bJ (aB.sM 8 7 5 2 rfl rfl (by rw[b8];rfl) (eT _) (jy _)) ?_
        refine Va X0 ?_
        have V1:jM ax o=⟨o.wk,o.day,o.st,o.len,o.room,ch⟩:=by rw[jM,ep,vW]
        refine bP _ (k+1,ol++[ko]) ⟨by dsimp only;omega,by simp;omega,by rw[← sc];simp⟩ (by dsimp only;omega) ?_
        have e:=jW (enc:=cD) ol ko
        rw[← xu,V1] at e
        simp only[cD] at e
        rw[e,← xu,V1]
        unfold eX
        simp only[da,dh]
        exact Xs false [0,1,2,3,4,5,10] X0
    · ((repeat' (first|refine Va @gP ?_|(refine Xi ?_ ?_<;>try intro ht)|exact Xx|fail)))
      rw[cB (by omega),lQ,gA] at sc
      refine bM _ _ rfl ?_
      clear bP bM eo
      repeat (refine Xu ?_)
      refine bJ (σ':=⟨aw [(1,.tree 1 (aY ax)),(2,.ptr 0 0 0),(4,.ptr 1 0 0),(7,.ptr 2 0 0),(8,.lit (.int .i64 i)),(9,.tree 6 (rowsOf cD ol))],eX m cls [] []⟩) (by unfold eX;exact Xs true [0,1,2,3,4,5] X0) ?_
      unfold eX
      refine Va X0 ?_
      refine aq _ (i+1,cls++[ol]) ⟨by dsimp only;omega,by simp;omega,by rw[← cd,← sc];simp⟩ (by dsimp only;omega) ?_
      have e:=jW (enc:=bD) cls ol
      simp only[bD] at e
      rw[e]
      unfold eX
      exact Xs false [0,1,2,7,4,5] X0
  · ((repeat' (first|refine Va X0 ?_|(refine Xi ?_ ?_<;>try intro ht)|exact Xx|fail)))
    rw[cB (by omega),lQ,gA] at cd
    refine av _ _ rfl ?_;clear aq av Ql
    repeat (refine Xu ?_)
    refine bJ (σ':=⟨aw [(1,.tree 1 (aY ax)),(2,.ptr 0 0 0),(4,.ptr 1 0 0),(7,.ptr 2 0 0)],eX m cls [] []⟩) (by unfold eX;exact Xv X0) ?_
    unfold eX
    refine Va X0 ?_
    refine aU (fun z:Nat × List Pr=>(⟨aw [(1,.tree 1 (aY ax)),(2,.ptr 0 0 0),(4,.ptr 1 0 0),(7,.ptr 2 0 0),(14,.lit (.int .i64 z.1))],eX m cls z.2 []⟩:St))
      (fun z=>z.1≤m.ae.length∧z.2.length≤z.1∧z.2++((m.ae.drop z.1).filter fun p=>du ax p.aV)=VY) (fun z=>m.ae.length - z.1) (0,[]) ⟨aM _,aG _,xr⟩ (by unfold eX;exact Xv X0) ?_
    clear hi hi'
    rintro ⟨i,ae⟩ ⟨hi,cT,gu⟩ Ql aq av
    dsimp only at hi cT gu ⊢
    unfold eX
    by_cases hi':i<m.ae.length
    · have hd:=cA m.ae i default hi'
      have dG:=kJ (jh hm.pr _ (aC (d:=(default:Pr)) hi'))
      generalize aR:m.ae.getD i default=c at *
      rw[hd,qX] at gu
      generalize s7:du ax c.aV=kb at *
      have BU:ax.getD c.aV.toNat false=kb:=s7
      ((repeat' (first|refine Va (X2 @aR @BU) ?_|(refine Xi ?_ ?_<;>try intro ht)|exact Xx|fail)))
      · rw[if_pos (by assumption)] at gu
        refine aq _ (i+1,ae++[c]) ⟨by dsimp only;omega,by simp;omega,by rw[← gu];simp⟩ (by dsimp only;omega) ?_
        have e:=jW (enc:=bu) ae c
        simp only[bu] at e
        rw[e]
        unfold eX
        exact Xs false [0,1,2,3,7,5] X0
      · rw[if_neg (by simp[*])] at gu
        refine aq _ (i+1,ae) ⟨by dsimp only;omega,by dsimp only;omega,gu⟩ (by dsimp only;omega) ?_
        unfold eX
        exact Xv X0
    · ((repeat' (first|refine Va X0 ?_|(refine Xi ?_ ?_<;>try intro ht)|exact Xx|fail)))
      rw[cB (by omega),zG,gA] at gu
      refine av _ _ rfl ?_;clear aq av Ql
      repeat (refine Xu ?_)
      refine bJ (σ':=⟨aw [(1,.tree 1 (aY ax)),(2,.ptr 0 0 0),(4,.ptr 1 0 0),(7,.ptr 2 0 0)],eX m cls ae []⟩) (by unfold eX;exact Xv X0) ?_
      unfold eX
      refine Va X0 ?_
      refine aU (fun z:Nat × List Ct=>(⟨aw [(1,.tree 1 (aY ax)),(2,.ptr 0 0 0),(4,.ptr 1 0 0),(7,.ptr 2 0 0),(15,.lit (.int .i64 z.1))],eX m cls ae z.2⟩:St))
        (fun z=>z.1≤m.au.length∧z.2.length≤z.1∧z.2++((m.au.drop z.1).filter fun p=>du ax p.aV)=VZ) (fun z=>m.au.length - z.1) (0,[]) ⟨aM _,aG _,uS⟩ (by unfold eX;exact Xv X0) ?_
      clear hi hi'
      rintro ⟨i,au⟩ ⟨hi,cT,qJ⟩ Ql aq av
      dsimp only at hi cT qJ ⊢
      unfold eX
      by_cases hi':i<m.au.length
      · have hd:=cA m.au i default hi'
        have rK:=lj (hm.ct _ (aC (d:=(default:Ct)) hi'))
        generalize aR:m.au.getD i default=c at *
        rw[hd,qX] at qJ
        generalize s7:du ax c.aV=kb at *
        have BU:ax.getD c.aV.toNat false=kb:=s7
        ((repeat' (first|refine Va (X2 @aR @BU) ?_|(refine Xi ?_ ?_<;>try intro ht)|exact Xx|fail)))
        · rw[if_pos (by assumption)] at qJ
          refine aq _ (i+1,au++[c]) ⟨by dsimp only;omega,by simp;omega,by rw[← qJ];simp⟩ (by dsimp only;omega) ?_
          have e:=jW (enc:=aO) au c
          simp only[aO] at e
          rw[e]
          unfold eX
          exact Xs false [0,1,2,3,4,7] X0
        · rw[if_neg (by simp[*])] at qJ
          refine aq _ (i+1,au) ⟨by dsimp only;omega,by dsimp only;omega,qJ⟩ (by dsimp only;omega) ?_
          unfold eX
          exact Xv X0
      · ((repeat' (first|refine Va X0 ?_|(refine Xi ?_ ?_<;>try intro ht)|exact Xx|fail)))
        rw[cB (by omega),zG,gA] at qJ
        refine av _ _ rfl ?_;clear aq av Ql
        repeat (refine Xu ?_)
        refine bJ (σ':=⟨aw [(4,.ptr 1 0 0),(7,.ptr 2 0 0)],eX m cls ae au⟩) (by unfold eX;exact Xv X0) ?_
        unfold eX
        refine bJ (aB.sM 3 2 0 1 rfl rfl (by rw[b8];rfl) (eT _) (jy _)) ?_
        refine bJ (aB.sM 4 2 1 4 rfl rfl (by rw[b8];rfl) (eT _) (jy _)) ?_
        refine bJ (aB.sM 5 2 2 4 rfl rfl (by rw[b8];rfl) (eT _) (jy _)) ?_
        refine Vb X0 ?_
        simp (disch:=omega) only[Ac,↓Pc,simprocAttr]
        rw[← cd,← gu,← qJ]
        exact aK rfl rfl
end T

