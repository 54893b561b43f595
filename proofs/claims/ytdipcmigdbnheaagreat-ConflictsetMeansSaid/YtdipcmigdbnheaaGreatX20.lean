import Derived.Test.YtdipcmigdbnheaaGreatX10
import Derived.Test.YtdipcmigdbnheaaGreatX12
import Derived.Test.YtdipcmigdbnheaaGreatX15
import Derived.Test.YtdipcmigdbnheaaGreatX13
import Derived.Test.YtdipcmigdbnheaaGreatX06
import Derived.Test.YtdipcmigdbnheaaGreatX14
import Derived.Test.YtdipcmigdbnheaaGreatX19
import Derived.Test.YtdipcmigdbnheaaGreatX18
set_option linter.unusedVariables false
set_option linter.unusedSimpArgs false
set_option linter.unnecessarySimpa false
set_option linter.unusedSectionVars false
set_option maxHeartbeats 64000000
set_option maxRecDepth 20000
open Nat renaming eq_zero_or_pos→mR,reduceEqDiff→xO,reduceBEq→tH,zero_le→aM,le_refl→aG,zero_mul→zD
open List renaming eq_nil_of_length_eq_zero→ph,nil_append→dh,length_nil→mQ,append_nil→gA,all_nil→B8,filter_cons→qX,drop_eq_nil_of_le→cB,filter_nil→zG,replicate→bY,length→su,ext_getElem?→nt,getElem?_map→cm,getElem?_set→b6,getElem?_eq_getElem→bX,getElem?_eq_none→eS,mem_map→ca,getElem?_eq_some_iff→aQ,mem_cons→cu,map_cons→dO,nodup_cons→tD,append_assoc→dI,Perm→p7,range→aN,getElem?_range→oB,length_set→bI,mem_filter→nx
open Option renaming isNone_none→Fl,isNone_some→JR,some→cY,map_some→gf
open Int renaming le_refl→dE
open Go Go.Am Go.Proofs
open Nat (reduceEqDiff reduceAdd reduceLeDiff reduceMul)
open Int (reduceNeg reduceLE reduceToNat)
open Go Go.Am
namespace T
theorem Oz (xs:List Int) (h:0<xs.length) (hl:xs.length<549755813888):an Tryz.prog 90 [.tree 1 (ints xs)] [] (.ref 0 1 0 xs.length) [.arr 1 (ints xs)]:=by
  refine an.aD (fn:=Tryz.f90) 8 0 [.tmp 2] Tryz.func90 rfl rfl rfl rfl rfl (by simp) ?_
  ((repeat' (first|refine Vb @xZ ?_|(refine Xi ?_ ?_<;>try intro ht)|exact Xx|fail)))
  exact Xw false [1] X0
end T
namespace T
theorem OA (xs:List Int) (hl:xs.length<549755813888):an Tryz.prog 90 [.tree 1 (ints xs)] [] (.tree 1 (ints xs)) []:=by
  rcases mR xs.length with h | h
  · obtain rfl:=ph h
    refine an.empty (pre:=[]) (post:=[]) (fun a cap=>?_)
    rw[dh]
    cases a with
    | none =>
      refine an.aD (fn:=Tryz.f90) 8 0 [.tmp 2] Tryz.func90 rfl rfl rfl rfl rfl (by simp) ?_
      ((repeat' (first|refine Vb @Fl.{0} ?_|(refine Xi ?_ ?_<;>try intro ht)|exact Xx|fail)))
      all_goals first|(refine cP [] true (by decide) trivial (by decide) (by decide) ?_;exact aE.nil)|(exfalso;simp at *;done)
    | some ad =>
      refine an.aD (fn:=Tryz.f90) 8 0 [.tmp 2] Tryz.func90 rfl rfl rfl rfl rfl (by simp) ?_
      refine tU (by decide) ?_
      intro K hK
      simp (disch:=omega) only[Ac,↓Pc,simprocAttr]
      refine hK _ ?_
      clear hK K
      refine Wk ?_
      intro Q hn he
      ((refine tU (by decide) ?_);intro K hK;simp (disch:=omega) only[Ac,↓Pc,simprocAttr,JR];skip);(refine hK _ ?_;clear hK K)
      refine z5 (t:=false) (by simp only[mD,Lc,↓reduceIte,xO,tH]) (fun ht=>by simp at ht) (fun ht=>?_)
      refine z4 ?_
      refine hn _ ?_
      (try clear hn;try clear he;try clear Q;clear ht)
      refine bJ (aB.As 0 1 (by (simp only[mD,oW,Rc,↓reduceIte,xO,tH,ev,dS,St.put];exact rfl))) ?_
      refine Vb (X3 @mQ.{0} @gA.{0} @B8.{0}) ?_
      refine cP [] true (by decide) trivial (by decide) (by decide) ?_
      exact aE.bW (rows:=[]) rfl (by simp) rfl (gK (by decide)) (by simp)
  · refine an.aD (fn:=Tryz.f90) 8 0 [.tmp 2] Tryz.func90 rfl rfl rfl rfl rfl (by simp) ?_
    ((repeat' (first|refine Vb @xZ ?_|(refine Xi ?_ ?_<;>try intro ht)|exact Xx|fail)))
    exact Xw true [] X0
theorem OB (xs:List Ld) (hl:xs.length<549755813888):an Tryz.prog 91 [.tree 3 (rowsOf g6 xs)] [] (.tree 3 (rowsOf g6 xs)) []:=by
  rcases mR xs.length with h | h
  · obtain rfl:=ph h
    refine an.empty (pre:=[]) (post:=[]) (fun a cap=>?_)
    rw[dh]
    cases a with
    | none =>
      refine an.aD (fn:=Tryz.f91) 8 0 [.tmp 2] Tryz.func91 rfl rfl rfl rfl rfl (by simp) ?_
      ((repeat' (first|refine Vb @Fl.{0} ?_|(refine Xi ?_ ?_<;>try intro ht)|exact Xx|fail)))
      all_goals first|(refine cP [] true (by decide) trivial (by decide) (by decide) ?_;exact aE.nil)|(exfalso;simp at *;done)
    | some ad =>
      refine an.aD (fn:=Tryz.f91) 8 0 [.tmp 2] Tryz.func91 rfl rfl rfl rfl rfl (by simp) ?_
      refine tU (by decide) ?_
      intro K hK
      simp (disch:=omega) only[Ac,↓Pc,simprocAttr]
      refine hK _ ?_
      clear hK K
      refine Wk ?_
      intro Q hn he
      ((refine tU (by decide) ?_);intro K hK;simp (disch:=omega) only[Ac,↓Pc,simprocAttr,JR];skip);(refine hK _ ?_;clear hK K)
      refine z5 (t:=false) (by simp only[mD,Lc,↓reduceIte,xO,tH]) (fun ht=>by simp at ht) (fun ht=>?_)
      refine z4 ?_
      refine hn _ ?_
      (try clear hn;try clear he;try clear Q;clear ht)
      refine bJ (aB.As 0 3 (by (simp only[mD,oW,Rc,↓reduceIte,xO,tH,ev,dS,St.put];exact rfl))) ?_
      refine Vb (X3 @mQ.{0} @gA.{0} @B8.{0}) ?_
      refine cP [] true (by decide) trivial (by decide) (by decide) ?_
      exact aE.bW (rows:=[]) rfl (by simp) rfl (gK (by decide)) (by simp)
  · refine an.aD (fn:=Tryz.f91) 8 0 [.tmp 2] Tryz.func91 rfl rfl rfl rfl rfl (by simp) ?_
    ((repeat' (first|refine Vb @Aq ?_|(refine Xi ?_ ?_<;>try intro ht)|exact Xx|fail)))
    exact Xw true [] X0
theorem aam (ax:List Bool) (c:(Int × Int)) (h:0≤c.1∧c.1<ax.length):an Tryz.prog 113 [.agg (bA c),.ptr 0 0 0] [.var [.tree 1 (aY ax)]] (.lit (.bool (du ax c.1))) [.var [.tree 1 (aY ax)]]:=by
  refine an.aD (fn:=Tryz.f113) 9 1 [.tmp 3] Tryz.func113 rfl rfl rfl rfl rfl (by simp) ?_
  refine Vb X0 ?_
  exact Xw false [0] X0
theorem aan (c:(Int × Int)):an Tryz.prog 114 [.agg (bA c)] [] (.agg (bA c)) []:=by
  refine an.aD (fn:=Tryz.f114) 4 0 [.cell 2 93] Tryz.func114 rfl rfl rfl rfl rfl (by simp) ?_
  refine Vb X0 ?_
  all_goals simp (disch:=omega) only[Ac,↓Pc,simprocAttr]
  exact aK rfl rfl
theorem aao (ax:List Bool) (l:List (Int × Int)) (hl:l.length<1000000) (hr:∀ c∈l,0≤c.1∧c.1<ax.length) :
    an Tryz.prog 112 [.tree 2 (rowsOf bA l),.fn 113 [.ptr 0 0 0],.fn 114 []] [.var [.tree 1 (aY ax)]] (.tree 2 (rowsOf bA (l.filter fun c=>du ax c.1))) [.var [.tree 1 (aY ax)]]:=by
  generalize ao:(l.filter fun c=>du ax c.1)=res
  refine an.aD (fn:=Tryz.f112) 27 1 [.tmp 6] Tryz.func112 rfl rfl rfl rfl rfl (by simp) ?_
  refine Vb X0 ?_
  refine aU (fun z:Nat × List (Int × Int)=>(⟨aw [(1,.fn 113 [.ptr 0 0 0]),(2,.fn 114 []),(7,.ref 1 2 0 z.2.length),(10,.tree 2 (rowsOf bA l)),(11,.lit (.int .i64 l.length)),(12,.lit (.int .i64 z.1))],[.var [.tree 1 (aY ax)],.arr 2 (rowsOf bA z.2)]⟩:St))
    (fun z=>z.1≤l.length∧z.2.length≤z.1∧z.2++((l.drop z.1).filter fun c=>du ax c.1)=res) (fun z=>l.length - z.1) (0,[]) ⟨aM _,aG _,ao⟩ (by
      refine aB.trans (aB.nil 7 2 (by simp only[Kc,simprocAttr]) (by decide)) ?_
      exact Xv X0) ?_
  rintro ⟨k,out⟩ ⟨hk,ho,cd⟩ Ql aq av
  dsimp only at hk ho cd ⊢
  by_cases aH:k<l.length
  · have hd:=cA l k default aH
    have cX:=aC (d:=default) aH
    have hc:=hr _ cX
    skip
    generalize aR:l.getD k default=c at *
    rw[hd,qX] at cd
    have hp:=aam ax c hc
    generalize s7:du ax c.1=kb at *
    have rL:=aan c
    ((repeat' (first|refine Va @aR ?_|(refine Xi ?_ ?_<;>try intro ht)|exact Xx|fail))<;>try with_reducible intro K hK)
    (refine Xn [0] (hp) ?_;simp (disch:=omega) only[Ac,↓Pc,simprocAttr,aR])
    ((try revert hK K);(repeat' (first|refine Vc @aR rL ?_|(refine Xi ?_ ?_<;>try intro ht)|fail)))
    · rw[if_pos (by assumption)] at cd
      refine aq _ (k+1,out++[c]) ⟨by dsimp only;omega,by simp;omega,by rw[← cd];simp⟩ (by dsimp only;omega) ?_
      have e:=jW (enc:=bA) out c
      simp only[bA] at e
      rw[e]
      exact Xs false [0,4] X0
    · rw[if_neg (by simp[*])] at cd
      exact aq _ (k+1,out) ⟨by dsimp only;omega,by dsimp only;omega,cd⟩ (by dsimp only;omega) (Xs false [0,1] X0)
  · ((repeat' (first|refine Va X0 ?_|(refine Xi ?_ ?_<;>try intro ht)|exact Xx|fail)))
    rw[cB (by omega),zG,gA] at cd
    refine av _ _ rfl ?_;clear aq av Ql
    repeat (refine Xu ?_)
    refine Vb X0 ?_
    rw[← cd]
    exact Xw true [0] X0
theorem aap (ax:List Bool) (c:Pr) (h:0≤c.aV∧c.aV<ax.length):an Tryz.prog 116 [.agg (bu c),.ptr 0 0 0] [.var [.tree 1 (aY ax)]] (.lit (.bool (du ax c.aV))) [.var [.tree 1 (aY ax)]]:=by
  refine an.aD (fn:=Tryz.f116) 9 1 [.tmp 3] Tryz.func116 rfl rfl rfl rfl rfl (by simp) ?_
  refine Vb X0 ?_
  exact Xw false [0] X0
theorem aaq (c:Pr) (hb:c.az.length<549755813888):an Tryz.prog 117 [.agg (bu c)] [] (.agg (bu c)) []:=by
  refine an.aD (fn:=Tryz.f117) 8 0 [.cell 2 84] Tryz.func117 rfl rfl rfl rfl rfl (by simp) ?_
  refine Vd X0 (OA c.az hb) ?_
  all_goals simp (disch:=omega) only[Ac,↓Pc,simprocAttr]
  exact aK rfl rfl
theorem aar (ax:List Bool) (l:List Pr) (hl:l.length<1000000) (hr:∀ c∈l,0≤c.aV∧c.aV<ax.length) (hb:∀ c∈l,c.az.length<549755813888) :
    an Tryz.prog 115 [.tree 4 (rowsOf bu l),.fn 116 [.ptr 0 0 0],.fn 117 []] [.var [.tree 1 (aY ax)]] (.tree 4 (rowsOf bu (l.filter fun c=>du ax c.aV))) [.var [.tree 1 (aY ax)]]:=by
  generalize ao:(l.filter fun c=>du ax c.aV)=res
  refine an.aD (fn:=Tryz.f115) 27 1 [.tmp 6] Tryz.func115 rfl rfl rfl rfl rfl (by simp) ?_
  refine Vb X0 ?_
  refine aU (fun z:Nat × List Pr=>(⟨aw [(1,.fn 116 [.ptr 0 0 0]),(2,.fn 117 []),(7,.ref 1 4 0 z.2.length),(10,.tree 4 (rowsOf bu l)),(11,.lit (.int .i64 l.length)),(12,.lit (.int .i64 z.1))],[.var [.tree 1 (aY ax)],.arr 4 (rowsOf bu z.2)]⟩:St))
    (fun z=>z.1≤l.length∧z.2.length≤z.1∧z.2++((l.drop z.1).filter fun c=>du ax c.aV)=res) (fun z=>l.length - z.1) (0,[]) ⟨aM _,aG _,ao⟩ (by
      refine aB.trans (aB.nil 7 4 (by simp only[Kc,simprocAttr]) (by decide)) ?_
      exact Xv X0) ?_
  rintro ⟨k,out⟩ ⟨hk,ho,cd⟩ Ql aq av
  dsimp only at hk ho cd ⊢
  by_cases aH:k<l.length
  · have hd:=cA l k default aH
    have cX:=aC (d:=default) aH
    have hc:=hr _ cX
    have rK:=hb _ cX
    generalize aR:l.getD k default=c at *
    rw[hd,qX] at cd
    have hp:=aap ax c hc
    generalize s7:du ax c.aV=kb at *
    have rL:=aaq c rK
    ((repeat' (first|refine Va @aR ?_|(refine Xi ?_ ?_<;>try intro ht)|exact Xx|fail))<;>try with_reducible intro K hK)
    (refine Xn [0] (hp) ?_;simp (disch:=omega) only[Ac,↓Pc,simprocAttr,aR])
    ((try revert hK K);(repeat' (first|refine Vc @aR rL ?_|(refine Xi ?_ ?_<;>try intro ht)|fail)))
    · rw[if_pos (by assumption)] at cd
      refine aq _ (k+1,out++[c]) ⟨by dsimp only;omega,by simp;omega,by rw[← cd];simp⟩ (by dsimp only;omega) ?_
      have e:=jW (enc:=bu) out c
      simp only[bu] at e
      rw[e]
      exact Xs false [0,4] X0
    · rw[if_neg (by simp[*])] at cd
      exact aq _ (k+1,out) ⟨by dsimp only;omega,by dsimp only;omega,cd⟩ (by dsimp only;omega) (Xs false [0,1] X0)
  · ((repeat' (first|refine Va X0 ?_|(refine Xi ?_ ?_<;>try intro ht)|exact Xx|fail)))
    rw[cB (by omega),zG,gA] at cd
    refine av _ _ rfl ?_;clear aq av Ql
    repeat (refine Xu ?_)
    refine Vb X0 ?_
    rw[← cd]
    exact Xw true [0] X0
theorem aas (ax:List Bool) (c:Ct) (h:0≤c.aV∧c.aV<ax.length):an Tryz.prog 119 [.agg (aO c),.ptr 0 0 0] [.var [.tree 1 (aY ax)]] (.lit (.bool (du ax c.aV))) [.var [.tree 1 (aY ax)]]:=by
  refine an.aD (fn:=Tryz.f119) 9 1 [.tmp 3] Tryz.func119 rfl rfl rfl rfl rfl (by simp) ?_
  refine Vb X0 ?_
  exact Xw false [0] X0
theorem aat (c:Ct) (hb:c.aS.length<549755813888):an Tryz.prog 120 [.agg (aO c)] [] (.agg (aO c)) []:=by
  refine an.aD (fn:=Tryz.f120) 8 0 [.cell 2 98] Tryz.func120 rfl rfl rfl rfl rfl (by simp) ?_
  refine Vd X0 (OB c.aS hb) ?_
  all_goals simp (disch:=omega) only[Ac,↓Pc,simprocAttr]
  exact aK rfl rfl
theorem aau (ax:List Bool) (l:List Ct) (hl:l.length<1000000) (hr:∀ c∈l,0≤c.aV∧c.aV<ax.length) (hb:∀ c∈l,c.aS.length<549755813888) :
    an Tryz.prog 118 [.tree 4 (rowsOf aO l),.fn 119 [.ptr 0 0 0],.fn 120 []] [.var [.tree 1 (aY ax)]] (.tree 4 (rowsOf aO (l.filter fun c=>du ax c.aV))) [.var [.tree 1 (aY ax)]]:=by
  generalize ao:(l.filter fun c=>du ax c.aV)=res
  refine an.aD (fn:=Tryz.f118) 27 1 [.tmp 6] Tryz.func118 rfl rfl rfl rfl rfl (by simp) ?_
  refine Vb X0 ?_
  refine aU (fun z:Nat × List Ct=>(⟨aw [(1,.fn 119 [.ptr 0 0 0]),(2,.fn 120 []),(7,.ref 1 4 0 z.2.length),(10,.tree 4 (rowsOf aO l)),(11,.lit (.int .i64 l.length)),(12,.lit (.int .i64 z.1))],[.var [.tree 1 (aY ax)],.arr 4 (rowsOf aO z.2)]⟩:St))
    (fun z=>z.1≤l.length∧z.2.length≤z.1∧z.2++((l.drop z.1).filter fun c=>du ax c.aV)=res) (fun z=>l.length - z.1) (0,[]) ⟨aM _,aG _,ao⟩ (by
      refine aB.trans (aB.nil 7 4 (by simp only[Kc,simprocAttr]) (by decide)) ?_
      exact Xv X0) ?_
  rintro ⟨k,out⟩ ⟨hk,ho,cd⟩ Ql aq av
  dsimp only at hk ho cd ⊢
  by_cases aH:k<l.length
  · have hd:=cA l k default aH
    have cX:=aC (d:=default) aH
    have hc:=hr _ cX
    have rK:=hb _ cX
    generalize aR:l.getD k default=c at *
    rw[hd,qX] at cd
    have hp:=aas ax c hc
    generalize s7:du ax c.aV=kb at *
    have rL:=aat c rK
    ((repeat' (first|refine Va @aR ?_|(refine Xi ?_ ?_<;>try intro ht)|exact Xx|fail))<;>try with_reducible intro K hK)
    (refine Xn [0] (hp) ?_;simp (disch:=omega) only[Ac,↓Pc,simprocAttr,aR])
    ((try revert hK K);(repeat' (first|refine Vc @aR rL ?_|(refine Xi ?_ ?_<;>try intro ht)|fail)))
    · rw[if_pos (by assumption)] at cd
      refine aq _ (k+1,out++[c]) ⟨by dsimp only;omega,by simp;omega,by rw[← cd];simp⟩ (by dsimp only;omega) ?_
      have e:=jW (enc:=aO) out c
      simp only[aO] at e
      rw[e]
      exact Xs false [0,4] X0
    · rw[if_neg (by simp[*])] at cd
      exact aq _ (k+1,out) ⟨by dsimp only;omega,by dsimp only;omega,cd⟩ (by dsimp only;omega) (Xs false [0,1] X0)
  · ((repeat' (first|refine Va X0 ?_|(refine Xi ?_ ?_<;>try intro ht)|exact Xx|fail)))
    rw[cB (by omega),zG,gA] at cd
    refine av _ _ rfl ?_;clear aq av Ql
    repeat (refine Xu ?_)
    refine Vb X0 ?_
    rw[← cd]
    exact Xw true [0] X0
end T
namespace T
theorem aav:an Tryz.prog 89 [.tree 2 []] [] (.tree 2 []) []:=by
  refine an.empty (pre:=[]) (post:=[]) (fun a cap=>?_)
  rw[dh]
  cases a with
  | none =>
    refine an.aD (fn:=Tryz.f89) 8 0 [.tmp 2] Tryz.func89 rfl rfl rfl rfl rfl (by simp) ?_
    ((repeat' (first|refine Vb @Fl.{0} ?_|(refine Xi ?_ ?_<;>try intro ht)|exact Xx|fail)))
    all_goals first|(refine cP [] true (by decide) trivial (by decide) (by decide) ?_;exact aE.nil)|(exfalso;simp at *;done)
  | some ad =>
    refine an.aD (fn:=Tryz.f89) 8 0 [.tmp 2] Tryz.func89 rfl rfl rfl rfl rfl (by simp) ?_
    refine tU (by decide) ?_
    intro K hK
    simp (disch:=omega) only[Ac,↓Pc,simprocAttr]
    refine hK _ ?_
    clear hK K
    refine Wk ?_
    intro Q hn he
    ((refine tU (by decide) ?_);intro K hK;simp (disch:=omega) only[Ac,↓Pc,simprocAttr,JR];skip);(refine hK _ ?_;clear hK K)
    refine z5 (t:=false) (by simp only[mD,Lc,↓reduceIte,xO,tH]) (fun ht=>by simp at ht) (fun ht=>?_)
    refine z4 ?_
    refine hn _ ?_
    (try clear hn;try clear he;try clear Q;clear ht)
    refine bJ (aB.As 0 2 (by (simp only[mD,oW,Rc,↓reduceIte,xO,tH,ev,dS,St.put];exact rfl))) ?_
    refine Vb (X3 @mQ.{0} @gA.{0} @B8.{0}) ?_
    refine cP [] true (by decide) trivial (by decide) (by decide) ?_
    exact aE.bW (rows:=[]) rfl (by simp) rfl (gK (by decide)) (by simp)
theorem aaw (xs:List (Int × Int)) (h:0<xs.length) (hl:xs.length<549755813888):an Tryz.prog 89 [.tree 2 (rowsOf bA xs)] [] (.ref 0 2 0 xs.length) [.arr 2 (rowsOf bA xs)]:=by
  refine an.aD (fn:=Tryz.f89) 8 0 [.tmp 2] Tryz.func89 rfl rfl rfl rfl rfl (by simp) ?_
  ((repeat' (first|refine Vb @Aq ?_|(refine Xi ?_ ?_<;>try intro ht)|exact Xx|fail)))
  exact Xw false [1] X0
end T
namespace T
def lI (w o:Nat):List Bool:=(bY w false).set o true
def bT (left:List (List Bool)) (c o:Nat):List (List Bool):=left.set c (lI (left.getD c default).length o)
theorem DF (w o:Nat):(lI w o).length=w:=by simp[lI]
theorem He (left:List (List Bool)) (c o:Nat):(bT left c o).map su=left.map su:=by
  unfold bT
  apply nt
  intro j
  rw[cm,cm,b6]
  split
  · rename_i e;subst e
    split
    · rename_i h2;rw[bX h2];simp[DF,h2]
    · rename_i h2;rw[eS (by omega)]
  · rfl
theorem DG {σ:St} {kp:Nat→Prop} {c d:List AV} (h:∀ v∈c,(∃ x,v=AV.lit x)∨∃ s r,v=AV.tree s r) (e:d=c):dY (cg σ kp) c d:=by
  subst e
  induction d with
  | nil=>trivial
  | cons v l ih =>
    refine⟨?_,ih fun x hx=>h x (by simp[hx])⟩
    rcases h v (by simp) with ⟨x,rfl⟩ | ⟨s,r,rfl⟩
    · exact .lit _
    · exact .tree _ _
theorem aax {σ:St} {kp:Nat→Prop} {oi k c:Nat} {left:List (List Bool)} {r:List Bool} (hc:c<left.length) (ho:σ.aa[oi]?=some (.arr 1 ((rowsOf bg left).set c [.ref k 1 0 r.length]))) (hk:¬ kp oi) (hr:σ.aa[k]?=some (.arr 1 (aY r))) (zN:¬ kp k) :
    cg σ kp (.tree 1 (rowsOf bg (left.set c r))) (.ref oi 1 0 left.length) :=
  cg.mk ho (by simp[rowsOf]) hk (eT _) (jI.yO (f:=fun _=>[]) (g:=fun _=>[]) (by simp[rowsOf]) fun j x d hx hd=>by
    unfold rowsOf at hx hd
    rw[cm,b6] at hx
    rw[b6] at hd
    by_cases e:c=j
    · subst e
      rw[if_pos rfl,if_pos hc] at hx
      rw[if_pos rfl,if_pos (by simpa using hc)] at hd
      cases hx;cases hd
      exact⟨aay hr zN,trivial⟩
    · rw[if_neg e] at hx hd
      rw[cm] at hd
      rw[hx] at hd
      simp only[cY.injEq] at hd
      cases hl:left[j]? with
      | none=>rw[hl] at hx;cases hx
      | some y =>
        rw[hl] at hx
        simp only[gf,cY.injEq] at hx
        subst hx
        exact DG (fun v hv=>by simp only[bg,List.mem_singleton] at hv;exact .inr ⟨_,_,hv⟩) hd.symm)
end T
namespace T
theorem aaz (xs:List (List Bool)) (h:0<xs.length) (hl:xs.length<549755813888):an Tryz.prog 170 [.tree 1 (rowsOf bg xs)] [] (.ref 0 1 0 xs.length) [.arr 1 (rowsOf bg xs)]:=by
  refine an.aD (fn:=Tryz.f170) 8 0 [.tmp 2] Tryz.func170 rfl rfl rfl rfl rfl (by simp) ?_
  ((repeat' (first|refine Vb X0 ?_|(refine Xi ?_ ?_<;>try intro ht)|exact Xx|fail)))
  exact Xw false [1] X0
theorem aaA:an Tryz.prog 90 [.lit (.slice none 0 0)] [] (.lit (.slice none 0 0)) []:=by
  refine an.aD (fn:=Tryz.f90) 8 0 [.tmp 2] Tryz.func90 rfl rfl rfl rfl rfl (by simp) ?_
  ((repeat' (first|refine Vb @Fl.{0} ?_|(refine Xi ?_ ?_<;>try intro ht)|exact Xx|fail)))
  all_goals first|exact aK rfl rfl|(exfalso;simp at *;done)
theorem aaB (left:List (List Bool)) (c o:Nat) (hc:c<left.length) (ho:o<(left.getD c default).length) (hl:left.length<549755813888) (hw:(left.getD c default).length<549755813888) :
    an Tryz.prog 126 [.tree 1 (rowsOf bg left),.lit (.int .i64 c),.lit (.int .i64 o)] [] (.tree 1 (rowsOf bg (bT left c o))) []:=by
  unfold bT
  have gr:∀ r:List AV,((rowsOf bg left).set c r)[c]?=some r:=fun r=>by rw[b6,if_pos rfl,if_pos (by simpa [rowsOf] using hc)]
  have fF:∀ r:List AV,((rowsOf bg left).set c r).length=left.length:=fun r=>by simp[rowsOf]
  generalize cd:left.getD c default=row at *
  have AU:(bY row.length false).length=row.length:=List.length_replicate
  refine an.aD (fn:=Tryz.f126) 26 0 [.tmp 6] Tryz.func126 rfl rfl rfl rfl rfl (by simp) ?_
  ((refine Vb X0 ?_)<;>try with_reducible intro K hK)
  (refine Xn [] (aaz left (by omega) hl) ?_;simp (disch:=omega) only[Ac,↓Pc,simprocAttr,Nat.sub_self,Nat.sub_zero])
  ((try revert hK K);(refine Vb (X5 @cd @bg.eq_1 @FM @gr (X3 @fF @AU @FJ)) ?_))
  refine cP [] true (by decide) trivial (by decide) (by decide) (.snap _ _ rfl ?_)
  have cF:(lI row.length o).length=row.length:=DF _ _
  exact aax (k:=1) (r:=lI row.length o) hc (by rw[cF];rfl) (gK (by decide)) rfl (gK (by decide))
end T
namespace T
theorem Ha:∀ (l:List Int) (s:List Bool) (n:Int),(∀ x∈l,0≤x)→0≤n→0≤iS l s n∧iS l s n≤n
  | [],s,n,_,hn=>by cases s<;>exact⟨hn,dE _⟩
  | x::r,[],n,_,hn=>⟨hn,dE _⟩
  | x::r,b::s,n,h,hn=>by
    have hx:=h x (by simp)
    obtain ⟨h1,h2⟩:=Ha r s (if b=true then min n x else n) (fun y hy=>h y (by simp[hy])) (by split<;>omega)
    rw[iS]
    refine⟨h1,Int.le_trans h2 ?_⟩
    split<;>omega
theorem aal {m:aj} {p:Pr} {left:List (List Bool)} (hm:VM m) (dG:eW m p=true) (hf:eG m left):0≤n6 m left p∧n6 m left p≤1099511627776:=by
  obtain ⟨q1,q2,q3,q4,q5⟩:=kJ dG
  have h1:=hf.1
  have a1:=hf.2 p.fst.toNat (by omega)
  have a2:=hf.2 p.snd.toNat (by omega)
  unfold n6
  rw[Hf _ _ _ a2 _ 0 _ (by rw[zD,Nat.zero_add,a1];exact_mod_cast Int.le_of_eq q5.symm),zD,List.drop_zero]
  exact Ha _ _ _ (fun x hx=>(DH dG x hx).1) (by omega)
theorem Hd (n:Int):an Tryz.prog 160 [.lit (.int .i64 n)] [] (.lit (.int .i64 (min n 1099511627776))) []:=by
  refine an.aD (fn:=Tryz.f160) 5 0 [.tmp 2] Tryz.func160 rfl rfl rfl rfl rfl (by simp) ?_
  refine Vb X0 ?_
  exact aK rfl rfl
theorem aad (n bL:Int) (hn:0≤n∧n≤1048576) (hp:iR bL=true):an Tryz.prog 187 [.lit (.int .i64 n),.lit (.int .i64 bL)] [] (.lit (.int .i64 (w9 n bL))) []:=by
  have DI:=jY hp
  unfold iR at hp
  unfold bF at DI
  rw[decide_eq_true_eq] at hp
  generalize ao:w9 n bL=res
  unfold w9 at ao
  have hmul:¬(0<n∧bL=1099511627776)→0≤n * bL∧n * bL≤1099511627776:=fun h=>by
    rcases Int.lt_or_eq_of_le hn.1 with h0 | h0
    · have:n * bL≤1048576 * 1048576:=Int.mul_le_mul hn.2 (by omega) (by omega) (by omega)
      have:=Int.mul_nonneg hn.1 DI.1
      omega
    · rw[← h0];simp
  generalize OC:n * bL=np at *
  have DE:=Hd np
  refine an.aD (fn:=Tryz.f187) 15 0 [.tmp 4] Tryz.func187 rfl rfl rfl rfl rfl (by simp) ?_
  by_cases h:0<n∧bL=1099511627776
  · rw[if_pos h] at ao
    ((repeat' (first|refine Vb X0 ?_|(refine V2 X0 ?_ ?_<;>try with_reducible intro hb)|(refine Xi ?_ ?_<;>try intro ht)|exact Xx|fail)))
    all_goals exact aK rfl (by rw[ao])
  · rw[if_neg h] at ao
    have hmul:=hmul h
    ((repeat' (first|refine Vd @OC DE ?_|(refine V2 @OC ?_ ?_<;>try with_reducible intro hb)|(refine Xi ?_ ?_<;>try intro ht)|exact Xx|fail)))
    all_goals exact aK rfl (by rw[ao])
theorem aai (o:bx) (hc:∀ c∈o.ch,bF c.2) (hl:o.ch.length≤100):an Tryz.prog 157 [.agg (cD o)] [] (.lit (.int .i64 (jg o))) []:=by
  refine an.aD (fn:=Tryz.f157) 20 0 [.tmp 2] Tryz.func157 rfl rfl rfl rfl rfl (by simp) ?_
  refine Vb @cD.eq_1 ?_
  refine aU (fun k:Nat=>(⟨aw [(3,.lit (.int .i64 (((o.ch.take k).map (·.2)).foldl dw 0))),(7,.tree 2 (rowsOf bA o.ch)),(8,.lit (.int .i64 o.ch.length)),(9,.lit (.int .i64 k))],[]⟩:St)) (fun k=>k≤o.ch.length) (fun k=>o.ch.length - k) 0 (aM _) (Xs false [] (X3 @List.take_zero.{0} @List.map_nil.{0,0} @List.foldl_nil.{0,0})) ?_
  rintro k hk Ql aq av
  have hs:=DJ ((o.ch.take k).map (·.2)) 0 (fun x hx=>by
    obtain ⟨c,ka,rfl⟩:=ca.1 hx;exact hc c (List.mem_of_mem_take ka)) (by unfold bF;decide)
  by_cases aH:k<o.ch.length
  · have aR:=hc _ (aC (d:=default) aH)
    have gm:=OD o.ch k aH
    generalize ((o.ch.take k).map (·.2)).foldl dw 0=s at *
    generalize bE:o.ch.getD k default=x at *
    have s8:=Hd (s+x.2)
    rw[show min (s+x.2) 1099511627776=dw s x.2 from rfl] at s8
    unfold bF at hs aR
    ((repeat' (first|refine Vc (X2 @bE @bA.eq_1) s8 ?_|(refine Xi ?_ ?_<;>try intro ht)|exact Xx|fail)))
    exact aq _ (k+1) (by omega) (by omega) (by simp only[gm];exact Xs false [] X0)
  · have lJ:((o.ch.take k).map (·.2)).foldl dw 0=jg o:=by rw[List.take_of_length_le (by omega)];rfl
    rw[lJ] at hs ⊢
    ((repeat' (first|refine Va X0 ?_|(refine Xi ?_ ?_<;>try intro ht)|exact Xx|fail)))
    refine av _ _ rfl ?_;clear aq av Ql
    repeat (refine Xu ?_)
    refine Vb X0 ?_
    exact aK rfl rfl
theorem aaC (m:aj) (p:Pr) (x y:Int) (dG:eW m p=true) (vA:∀ l∈m.cls,l.length≤24) (hx:0≤x∧x<(m.cls.getD p.fst.toNat default).length) (hy:0≤y∧y<(m.cls.getD p.snd.toNat default).length) :
    an Tryz.prog 185 [.agg (ar m),.agg (bu p),.lit (.int .i64 x),.lit (.int .i64 y)] [] (.lit (.int .i64 (lk m p x y))) []:=by
  obtain ⟨q1,q2,q3,q4,q5⟩:=kJ dG
  have AW:=vA _ (aC (l:=m.cls) (i:=p.fst.toNat) (d:=default) (by omega))
  have vB:=vA _ (aC (l:=m.cls) (i:=p.snd.toNat) (d:=default) (by omega))
  have DK:=uh (x:=x) (y:=y) (a:=(m.cls.getD p.fst.toNat default).length) (b:=(m.cls.getD p.snd.toNat default).length) hx hy (by omega) (by omega)
  unfold lk
  rw[← q5] at DK
  generalize gn:m.cls.getD p.snd.toNat default=lb at *
  generalize qF:x * (lb.length:Int)=xm at *
  refine an.aD (fn:=Tryz.f185) 24 0 [.tmp 8] Tryz.func185 rfl rfl rfl rfl rfl (by simp) ?_
  refine Vb (X2 @gn @qF) ?_
  exact aK rfl rfl
theorem aak (m:aj) (p:Pr) (left:List (List Bool)) (hm:VM m) (dG:eW m p=true) (hf:eG m left) :
    an Tryz.prog 158 [.agg (ar m),.agg (bu p),.tree 1 (rowsOf bg left)] [] (.lit (.int .i64 (n6 m left p))) []:=by
  obtain ⟨q1,q2,q3,q4,q5⟩:=kJ dG
  have eP:=hf.1
  have cE:=hm.cls
  have ha:=hf.2 p.fst.toNat (by omega)
  have hb:=hf.2 p.snd.toNat (by omega)
  have AW:=hm.opt _ (aC (l:=m.cls) (i:=p.fst.toNat) (d:=default) (by omega))
  have vB:=hm.opt _ (aC (l:=m.cls) (i:=p.snd.toNat) (d:=default) (by omega))
  have ui:=fun x y=>aaC m p x y dG hm.opt
  generalize ao:n6 m left p=res
  unfold n6 at ao
  unfold lk at ui
  generalize hra:left.getD p.fst.toNat default=ra at *
  generalize qE:left.getD p.snd.toNat default=rb at *
  generalize m.cls.getD p.fst.toNat default=la at *
  generalize m.cls.getD p.snd.toNat default=lb at *
  refine an.aD (fn:=Tryz.f158) 48 0 [.tmp 6] Tryz.func158 rfl rfl rfl rfl rfl (by simp) ?_
  refine Vb (X3 @hra @bg.eq_1 @bu.eq_1) ?_
  refine aU (fun z:Nat × Int=>(⟨aw [(2,.tree 1 (rowsOf bg left)),(3,.ptr 0 0 0),(4,.ptr 1 0 0),(7,.lit (.int .i64 z.2)),(16,.tree 1 (aY ra)),(17,.lit (.int .i64 ra.length)),(18,.lit (.int .i64 z.1))],[.var (ar m),.var (bu p)]⟩:St))
    (fun z=>z.1≤ra.length∧qG p.az lb.length rb z.1 (ra.drop z.1) z.2=res) (fun z=>ra.length - z.1) (0,1099511627776) ⟨aM _,ao⟩ (Xv @bu.eq_1) ?_
  rintro ⟨i,n⟩ ⟨hi,hr⟩ Ql aq av
  dsimp only at hi hr ⊢
  by_cases hi':i<ra.length
  · have hd:=cA ra i false hi'
    generalize yK:ra.getD i false=a at *
    rw[hd,qG] at hr
    ((repeat' (first|refine Va (X4 @yK @qE @bg.eq_1 @bu.eq_1) ?_|(refine Xi ?_ ?_<;>try intro ht)|exact Xx|fail)))
    refine aU (fun z:Nat × Int=>(⟨aw [(2,.tree 1 (rowsOf bg left)),(3,.ptr 0 0 0),(4,.ptr 1 0 0),(7,.lit (.int .i64 z.2)),(8,.lit (.int .i64 i)),(9,.lit (.bool a)),(16,.tree 1 (aY ra)),(17,.lit (.int .i64 ra.length)),(18,.lit (.int .i64 i)),(27,.tree 1 (aY rb)),(28,.lit (.int .i64 rb.length)),(29,.lit (.int .i64 z.1))],[.var (ar m),.var (bu p)]⟩:St))
      (fun z=>z.1≤rb.length∧qG p.az lb.length rb (i+1) (ra.drop (i+1)) (rM p.az lb.length i a z.1 (rb.drop z.1) z.2)=res) (fun z=>rb.length - z.1) (0,n) ⟨aM _,hr⟩ (Xv @bu.eq_1) ?_
    rintro ⟨k,x⟩ ⟨hk,iA⟩ eo bP bM
    dsimp only at hk iA ⊢
    by_cases aH:k<rb.length
    · have s6:=cA rb k false aH
      generalize gn:rb.getD k false=b at *
      rw[s6,rM] at iA
      have he:=ui i k (by omega) (by omega)
      rw[show ((i:Int) * (lb.length:Int)+(k:Int)).toNat=i * lb.length+k by rw[← Int.natCast_mul,← Int.natCast_add,Int.toNat_natCast]] at he
      generalize p.az.getD (i * lb.length+k) 0=e at *
      cases a<;>cases b
      · rw[if_neg (by simp)] at iA
        ((repeat' (first|refine Va @gn ?_|(refine Xi ?_ ?_<;>try intro ht)|exact Xx|fail)))
        all_goals exact bP _ (k+1,x) ⟨by dsimp only;omega,iA⟩ (by dsimp only;omega) (Xv X0)
      · rw[if_neg (by simp)] at iA
        ((repeat' (first|refine Va @gn ?_|(refine Xi ?_ ?_<;>try intro ht)|exact Xx|fail)))
        all_goals exact bP _ (k+1,x) ⟨by dsimp only;omega,iA⟩ (by dsimp only;omega) (Xv X0)
      · rw[if_neg (by simp)] at iA
        ((repeat' (first|refine Va @gn ?_|(refine Xi ?_ ?_<;>try intro ht)|exact Xx|fail)))
        all_goals exact bP _ (k+1,x) ⟨by dsimp only;omega,iA⟩ (by dsimp only;omega) (Xv X0)
      · rw[if_pos ⟨rfl,rfl⟩] at iA
        ((repeat' (first|refine Vc @gn he ?_|(refine Xi ?_ ?_<;>try intro ht)|exact Xx|fail)))
        all_goals exact bP _ (k+1,min x e) ⟨by dsimp only;omega,iA⟩ (by dsimp only;omega) (Xv X0)
    · ((repeat' (first|refine Va X0 ?_|(refine V2 X0 ?_ ?_<;>try with_reducible intro hb)|(refine Xi ?_ ?_<;>try intro ht)|exact Xx|fail)))
      rw[show rb.drop k=[] from cB (by omega),rM] at iA
      refine bM _ _ rfl ?_
      clear bP bM
      repeat (refine Xu ?_)
      refine Va X0 ?_
      exact aq _ (i+1,x) ⟨by dsimp only;omega,iA⟩ (by dsimp only;omega) (Xv X0)
  · ((repeat' (first|refine Va X0 ?_|(refine Xi ?_ ?_<;>try intro ht)|exact Xx|fail)))
    rw[cB (by omega),qG] at hr
    refine av _ _ rfl ?_;clear aq av Ql
    repeat (refine Xu ?_)
    refine Vb X0 ?_
    exact aK rfl (by rw[hr])
end T
namespace T
structure Fc (C:List (Nat × Ob)) (os:List Ob):Prop where
  at_:∀ b∈C,os[b.1]?=some b.2
  nd:(C.map (·.1)).Nodup
section
variable {C D:List (Nat × Ob)} {os:List Ob}
theorem Fc.b0 {a:Nat × Ob} (h:Fc (a::C) os):os[a.1]?=some a.2:=h.at_ a (by simp)
theorem Fc.b1 {a b:Nat × Ob} (h:Fc (a::b::C) os):os[b.1]?=some b.2:=h.at_ b (by simp)
theorem Fc.b2 {a b c:Nat × Ob} (h:Fc (a::b::c::C) os):os[c.1]?=some c.2:=h.at_ c (by simp)
theorem Fc.b3 {a b c d:Nat × Ob} (h:Fc (a::b::c::d::C) os):os[d.1]?=some d.2:=h.at_ d (by simp)
theorem Fc.app (h:Fc C os) (l:List Ob):Fc C (os++l):=⟨fun b hb=>bK (h.at_ b hb) l,h.nd⟩
theorem Fc.perm (h:Fc C os) (hp:C.Perm D):Fc D os:=⟨fun b hb=>h.at_ b (hp.mem_iff.2 hb),((hp.map (·.1)).nodup_iff).1 h.nd⟩
theorem Fc.front {b:Nat × Ob} (A:List (Nat × Ob)) (h:Fc (A++b::C) os):Fc (b::(A++C)) os:=h.perm List.perm_middle
theorem Fc.fresh (h:Fc C os) {p:Nat} (hp:os.length≤p):p ∉ C.map (·.1):=fun hh=>by
  obtain ⟨q,hq,rfl⟩:=ca.1 hh
  have:=(aQ.1 (h.at_ q hq)).1
  omega
theorem Fc.other (h:Fc C os) {i:Nat} (hi:i ∉ C.map (·.1)) (y:Ob):Fc C (os.set i y) :=
  ⟨fun b hb=>by rw[List.getElem?_set_ne (fun e=>hi (ca.2 ⟨b,hb,e.symm⟩))];exact h.at_ b hb,h.nd⟩
theorem Fc.add (h:Fc C os) {k:Nat} {x:Ob} (hk:os[k]?=some x) (hf:k ∉ C.map (·.1)):Fc ((k,x)::C) os :=
  ⟨fun b hb=>by rcases cu.1 hb with rfl | hb;exact hk;exact h.at_ b hb,by rw[dO,tD];exact⟨hf,h.nd⟩⟩
theorem Fc.drop {i:Nat} {x:Ob} (h:Fc ((i,x)::C) os):Fc C os∧i ∉ C.map (·.1):=by
  have hn:=h.nd
  rw[dO,tD] at hn
  exact⟨⟨fun b hb=>h.at_ b (by simp[hb]),hn.2⟩,hn.1⟩
theorem Fc.put {i:Nat} {x:Ob} (h:Fc ((i,x)::C) os) (y:Ob):Fc ((i,y)::C) (os.set i y):=by
  obtain ⟨h1,h2⟩:=h.drop
  exact (h1.other h2 y).add (iT h.b0) h2
theorem Fc.kill {i:Nat} {x:Ob} (h:Fc ((i,x)::C) os) (y:Ob):Fc C (os.set i y):=by
  obtain ⟨h1,h2⟩:=h.drop
  exact h1.other h2 y
theorem Fc.sub (h:Fc (C++D) os):Fc C os:=⟨fun b hb=>h.at_ b (List.mem_append_left _ hb),by
  have:=h.nd
  rw[List.map_append,List.nodup_append] at this
  exact this.1⟩
end
structure Rw where
  c:Int
  yP:Option (Nat × List Int)
  mv:Option (Nat × List Mv)
instance:Inhabited Rw:=⟨⟨0,none,none⟩⟩
def kE:Option (Nat × List Int)→AV
  | none=>.lit (.slice none 0 0)
  | some x=>.ref x.1 1 0 x.2.length
def mE:Option (Nat × List Mv)→AV
  | none=>.lit (.slice none 0 0)
  | some x=>.ref x.1 4 0 x.2.length
def cj (r:Rw):List AV:=[.lit (.int .i64 r.c),kE r.yP,mE r.mv,.lit (.slice none 0 0),.lit (.slice none 0 0)]
def kO:Option (Nat × List Int)→List (Nat × Ob)
  | none=>[]
  | some x=>[(x.1,.arr 1 (ints x.2))]
def mO:Option (Nat × List Mv)→List (Nat × Ob)
  | none=>[]
  | some x=>[(x.1,.arr 4 (rowsOf vC x.2))]
def lK (r:Rw):List (Nat × Ob):=kO r.yP++mO r.mv
def fe (R:List Rw):List (Nat × Ob):=R.flatMap lK
def cK:Rw:=⟨-1,none,none⟩
theorem AX (A B:List Rw):fe (A++B)=fe A++fe B:=by unfold fe;rw[List.flatMap_append]
theorem DM (r:Rw):fe [r]=lK r:=by simp[fe]
theorem OE (R:List Rw):(rowsOf cj R).length=R.length:=by simp[rowsOf]
theorem aaE (R:List Rw) (r:Rw):rowsOf cj R++[cj r]=rowsOf cj (R++[r]):=by simp[rowsOf]
theorem DN {α:Type} (a b c:List α):(a++(b++c)).Perm (b++(a++c)):=by
  rw[← dI,← dI]
  exact p7.append_right _ List.perm_append_comm
theorem OF {R:List Rw} {j:Nat} (hj:j<R.length) (r:Rw):(lK (R.getD j default)++fe (R.set j r)).Perm (lK r++fe R):=by
  have h1:R=R.take j++R.getD j default::R.drop (j+1):=by
    rw[List.getD_eq_getElem?_getD,bX hj,Option.getD_some,List.getElem_cons_drop,List.take_append_drop]
  have h2:R.set j r=R.take j++r::R.drop (j+1):=by rw[List.set_eq_take_append_cons_drop,if_pos hj]
  generalize R.getD j default=x at *
  generalize R.take j=A at *
  generalize R.drop (j+1)=B at *
  rw[h2,h1]
  have h3:∀ y,fe (A++y::B)=fe A++(lK y++fe B):=fun y=>by rw[show A++y::B=A++([y]++B) from rfl,AX,AX,DM]
  rw[h3,h3]
  generalize fe A=a
  generalize fe B=b
  generalize lK x=u
  generalize lK r=v
  exact ((p7.append_left u (DN a v b)).trans ((DN u v (a++b)).trans (p7.append_left v (DN u a b))))
def canon (F:List (Nat × Ob)) (n:Nat):List Ob:=(aN n).map fun j=>((F.find? fun b=>b.1 == j).map (·.2)).getD .gone
structure FK (F:List (Nat × Ob)) (n:Nat):Prop where
  lt:∀ b∈F,b.1<n
  nd:(F.map (·.1)).Nodup
theorem Fc.fk {F:List (Nat × Ob)} {os:List Ob} (h:Fc F os):FK F os.length:=⟨fun b hb=>(aQ.1 (h.at_ b hb)).1,h.nd⟩
theorem xb (F:List (Nat × Ob)) (n:Nat):(canon F n).length=n:=by simp[canon]
theorem DP:∀ {F:List (Nat × Ob)},(F.map (·.1)).Nodup→∀ b∈F,F.find? (fun x=>x.1 == b.1)=some b
  | a::F,h,b,hb=>by
    rw[dO,tD] at h
    rcases cu.1 hb with rfl | hb
    · simp
    · have:a.1≠b.1:=fun e=>h.1 (ca.2 ⟨b,hb,e.symm⟩)
      rw[List.find?_cons_of_neg (by simpa using this)]
      exact DP h.2 b hb
theorem FK.canon {F:List (Nat × Ob)} {n:Nat} (h:FK F n):Fc F (canon F n):=⟨fun b hb=>by
  unfold T.canon
  rw[cm,oB (h.lt b hb),gf,DP h.nd b hb];rfl,h.nd⟩
def rN:List Nat→List Ob→List Ob
  | [],os=>os
  | j::l,os=>rN l (os.set j .gone)
theorem OG:∀ (l:List Nat) (os:List Ob),(rN l os).length=os.length
  | [],os=>rfl
  | j::l,os=>by rw[rN,OG l,bI]
theorem OH:∀ (l:List Nat) (os:List Ob) (j:Nat),j<os.length→(rN l os)[j]?=if j∈l then some .gone else os[j]?
  | [],os,j,hj=>by simp[rN]
  | i::l,os,j,hj=>by
    rw[rN,OH l _ j (by rw[bI];exact hj)]
    by_cases h1:j∈l
    · rw[if_pos h1,if_pos (by simp[h1])]
    · rw[if_neg h1,b6]
      by_cases h2:i=j
      · subst h2;rw[if_pos rfl,if_pos hj,if_pos (by simp)]
      · rw[if_neg h2,if_neg (by simp only[cu,not_or];exact⟨fun e=>h2 e.symm,h1⟩)]
theorem aaF {F:List (Nat × Ob)} {os:List Ob} (h:Fc F os):rN ((aN os.length).filter fun j=>!(F.map (·.1)).contains j) os=canon F os.length:=by
  apply nt
  intro j
  by_cases hj:j<os.length
  · rw[OH _ _ _ hj]
    by_cases hm:j∈F.map (·.1)
    · obtain ⟨b,hb,rfl⟩:=ca.1 hm
      rw[if_neg (by simp[nx,hm]),h.fk.canon.at_ b hb,h.at_ b hb]
    · rw[if_pos (by rw[nx];exact⟨List.mem_range.2 hj,by simp at hm ⊢;exact hm⟩)]
      unfold canon
      rw[cm,oB hj,gf]
      have:F.find? (fun b=>b.1 == j)=none:=by
        rw[List.find?_eq_none]
        intro b hb e
        exact hm (ca.2 ⟨b,hb,by simpa using e⟩)
      rw[this];rfl
  · rw[eS (by rw[OG];omega),eS (by rw[xb];omega)]
theorem aB.rN {n0:Nat}:∀ (l:List Nat) (σ:St),aB n0 σ ⟨σ.env,T.rN l σ.aa⟩
  | [],σ=>by intro os γ0 γ _ hs hf;exact⟨γ,rfl,rfl,hs,hf⟩
  | j::l,σ=>by
    refine aB.trans (σ1:=⟨σ.env,σ.aa.set j .gone⟩) ?_ (aB.rN l ⟨σ.env,σ.aa.set j .gone⟩)
    intro os γ0 γ _ hs hf
    exact⟨γ,rfl,rfl,hs.kill j,hf.trans (Fr.kill _ _ j)⟩
theorem aB.canon {n0:Nat} {σ:St} {F:List (Nat × Ob)} (h:Fc F σ.aa):aB n0 σ ⟨σ.env,T.canon F σ.aa.length⟩:=by
  rw[← aaF h]
  exact aB.rN _ σ
section
variable {F G:List (Nat × Ob)} {n:Nat}
theorem FK.mono (h:FK F n) {k:Nat} (hk:n≤k):FK F k:=⟨fun b hb=>Nat.lt_of_lt_of_le (h.lt b hb) hk,h.nd⟩
theorem FK.perm (h:FK F n) (hp:F.Perm G):FK G n:=⟨fun b hb=>h.lt b (hp.mem_iff.2 hb),((hp.map (·.1)).nodup_iff).1 h.nd⟩
theorem FK.add (h:FK F n) {i:Nat} {x:Ob} (h1:n≤i) {k:Nat} (h2:i<k):FK ((i,x)::F) k:=⟨fun b hb=>by
  rcases cu.1 hb with rfl | hb
  · exact h2
  · have:=h.lt b hb;omega,by
  rw[dO,tD]
  exact⟨fun hh=>by obtain ⟨b,hb,e⟩:=ca.1 hh;have:=h.lt b hb;omega,h.nd⟩⟩
theorem FK.keys (h:FK F n) (hk:G.map (·.1)=F.map (·.1)):FK G n:=⟨fun b hb=>by
  have:b.1∈F.map (·.1):=by rw[← hk];exact ca.2 ⟨b,hb,rfl⟩
  obtain ⟨c,hc,e⟩:=ca.1 this
  rw[← e];exact h.lt c hc,by rw[hk];exact h.nd⟩
theorem FK.drop {b:Nat × Ob} (h:FK (b::F) n):FK F n:=⟨fun c hc=>h.lt c (by simp[hc]),by have:=h.nd;rw[dO,tD] at this;exact this.2⟩
end
structure GS where
  n:Nat
  p:Nat
  R:List Rw
  k:Nat
end T

