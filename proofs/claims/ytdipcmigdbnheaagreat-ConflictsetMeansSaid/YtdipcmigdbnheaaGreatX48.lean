import Derived.Test.YtdipcmigdbnheaaGreatX38
import Derived.Test.YtdipcmigdbnheaaGreatX30
import Derived.Test.YtdipcmigdbnheaaGreatX42
import Derived.Test.YtdipcmigdbnheaaGreatX43
import Derived.Test.YtdipcmigdbnheaaGreatX46
import Derived.Test.YtdipcmigdbnheaaGreatX36
import Derived.Test.YtdipcmigdbnheaaGreatX33
import Derived.Test.YtdipcmigdbnheaaGreatX47
import Derived.Test.YtdipcmigdbnheaaGreatX35
import Derived.Test.YtdipcmigdbnheaaGreatX16
set_option linter.unusedVariables false
set_option linter.unusedSimpArgs false
set_option linter.unnecessarySimpa false
set_option linter.unusedSectionVars false
set_option maxHeartbeats 64000000
set_option maxRecDepth 20000
open Nat renaming le_refl→aG
open List renaming mem_append→cr,ext_getElem?→nt,getElem?_eq_none→eS,range→aN
open Go Go.Am Go.Proofs
open Nat (reduceEqDiff reduceAdd reduceLeDiff reduceMul)
open Int (reduceNeg reduceLE reduceToNat)
namespace T
theorem AM (s:DS) (ρ:Nat→Nat):a6 ρ (dF (.lit (.slice none 0 0)) 1099511627776 s)=dF (.lit (.slice none 0 0)) 1099511627776 s:=by unfold dF;split<;>rfl
theorem AN (s:DS):cf (dF (.lit (.slice none 0 0)) 1099511627776 s)=true:=by unfold dF;split<;>rfl
theorem ZO (m:aj) (hm:VM m) (hw:(bz (aI m)).whole=true):an Tryz.prog 18 [.agg (ar m)] [] (.bG [uf (bz (aI m)),.lit (.int .i64 0)]) []:=by
  have h1:=Om m hm
  have h2:=On (aI m) (sY hm) hw
  have gu:=AM (bz (aI m))
  have kF:=AN (bz (aI m))
  have oQ:=vt (pv:=.lit (.slice none 0 0)) (t0:=1099511627776) (s:=bz (aI m)) rfl
  unfold uf at *
  generalize dF (.lit (.slice none 0 0)) 1099511627776 (bz (aI m))=pa at *
  generalize bz (aI m)=s at *
  generalize aI m=b at *
  refine an.aD (fn:=Tryz.f18) 19 0 [.cell 2 41,.tmp 3] Tryz.func18 rfl rfl rfl rfl rfl (by simp) ?_
  ((repeat' (first|refine Vd @bne_self_eq_false.{0} h1 ?_|(refine Xi ?_ ?_<;>try intro ht)|exact Xx|fail))<;>try with_reducible intro K hK)
  (refine Xn [] (h2) ?_;simp (disch:=omega) only[Ac,↓Pc,simprocAttr,gu])
  ((try revert hK K);(refine Vb (X2 @kF @gu) ?_))
  all_goals
    simp (disch:=omega) only[Ac,↓Pc,simprocAttr,rowOf]
    exact aK (by simp[eZ,gX,oQ]) rfl
theorem ZP (m:aj) (hm:VM m) (hw:(bz (aI m)).whole=false):an Tryz.prog 18 [.agg (ar m)] [] (.bG [w7,.lit (.int .i64 61)]) []:=by
  have h1:=Om m hm
  have h2:=Oo (aI m) (sY hm) hw
  unfold w7 at *
  generalize aI m=b at *
  refine an.aD (fn:=Tryz.f18) 19 0 [.cell 2 41,.tmp 3] Tryz.func18 rfl rfl rfl rfl rfl (by simp) ?_
  ((repeat' (first|refine Vd @bne_self_eq_false.{0} (X2 h1 h2) ?_|(refine Xi ?_ ?_<;>try intro ht)|exact Xx|fail)))
  all_goals
    simp (disch:=omega) only[Ac,↓Pc,simprocAttr,rowOf]
    exact aK rfl rfl
theorem ZQ (x n:Int):an Tryz.prog 111 ([.lit (.int .i64 x)]++[.b7 [.lit (.int .i64 n)]]) [] (.lit (.bool (x == n))) []:=by
  simp only[List.cons_append,List.nil_append]
  refine an.aD (fn:=Tryz.f111) 7 0 [.tmp 3] Tryz.func111 rfl rfl rfl rfl rfl (by simp) ?_
  refine Vb X0 ?_
  exact aK rfl rfl
theorem ZR (g:FuncId) (aW:List AV):an Tryz.prog 109 [.tree 1 [],.fn g aW] [] (.tree 1 []) []:=by
  have gN:=Oq [] g aW [] (fun _=>true) (by decide) (fun x hx=>by cases hx)
  rw[show ed (fun _:Int=>true) 0 [] = -1 from rfl,show ints []=[] from rfl] at gN
  refine an.aD (fn:=Tryz.f109) 42 0 [.tmp 4] Tryz.func109 rfl rfl rfl rfl rfl (by simp) ?_
  ((refine Va X0 ?_)<;>try with_reducible intro K hK)
  refine lB gN (aG _) ?_
  simp (disch:=omega) only[Ac,↓Pc,simprocAttr]
  ((try revert hK K);(repeat' (first|refine Vb X0 ?_|(refine Xi ?_ ?_<;>try intro ht)|exact Xx|fail)))
  exact aK rfl rfl
theorem G3 (l:List Int) (n:Int) (hl:l.length≤1000):an Tryz.prog 67 [.tree 1 (ints l),.lit (.int .i64 n)] [] (.tree 1 (ints (bU l n))) []:=by
  refine an.aD (fn:=Tryz.f67) 9 0 [.tmp 4] Tryz.func67 rfl rfl rfl rfl rfl (by simp) ?_
  repeat' (first|((fail_if_success (first|refine ej 1 ?_|refine ek 1 ?_));refine Xr X0 ?_;intro K hK)|(refine hK _ ?_;clear hK K)|refine Xy ?_|fail)
  refine bJ (aB.l6 3 0 (cells:=[.lit (.int .i64 n)]) (by rfl) (by simp only[Kc,simprocAttr]) (by simp)) ?_
  refine bJ (σ':=⟨aw [(0,.tree 1 (ints l)),(3,.b7 [.lit (.int .i64 n)])],[]⟩) (Xs false [] X0) ?_
  rcases Nat.eq_zero_or_pos l.length with h0 | h0
  · obtain rfl:=List.eq_nil_of_length_eq_zero h0
    have hc:=ZS
    have hd:=ZR 111 [.b7 [.lit (.int .i64 n)]]
    rw[show bU [] n=[] from rfl,show ints []=[] from rfl]
    ((refine Vc X0 hc ?_)<;>try with_reducible intro K hK)
    refine iz [] hd (by decide) trivial ⟨.pure rfl,.pure rfl,trivial⟩ ?_
    simp (disch:=omega) only[Ac,↓Pc,simprocAttr]
    ((try revert hK K);(refine Vb X0 ?_))
    exact aK rfl rfl
  · have hc:=ZT l h0 (by omega)
    have hd:=ZU l [] 111 [.b7 [.lit (.int .i64 n)]] (fun x=>x == n) [.arr 1 (ints l)] 0 (by rw[List.append_nil];rfl) (fun row hr=>by cases hr) (by omega) rfl (fun x _=>ZQ x n)
    refine qv 3 (by decide) _ rfl ?_
    intro K hK
    simp (disch:=omega) only[Ac,↓Pc,simprocAttr,List.take,List.drop]
    (refine Xn [] (hc) ?_;simp (disch:=omega) only[Ac,↓Pc,simprocAttr])
    refine⟨rfl,(show lZ Tryz.prog 109 [.ref 0 1 0 l.length,.fn 111 [.b7 [.lit (.int .i64 n)]]] (some 8) _ _ from ?_)⟩
    refine vo hd ?_
    rintro r ob ⟨rfl,rF,oR,aT,nM⟩
    refine⟨rF.1,?_⟩
    have fT:=(List.getElem?_eq_some_iff.1 aT).1
    simp (disch:=omega) only[Ac,↓Pc,simprocAttr]
    refine hK _ ?_;clear hK K
    repeat (refine Xu ?_)
    refine Vb X0 ?_
    refine cP [] true (by decide) trivial (by decide) (by decide) (.snap _ _ rfl ?_)
    show cg _ _ (.tree 1 (rowsOf iq (bU l n))) (.ref 0 1 0 (bU l n).length)
    have hO:fX 1 ob 0 ob.length (.ref 0 1 0 (bU l n).length) (rowsOf iq (bU l n)):=.inr ⟨0,oR,by rw[b8],aG _,fT,aT,fun row hr=>by
      rcases cr.1 hr with h | h
      · exact eT _ row h
      · exact nM row h⟩
    exact fX.bW hO (fun i _ _=>gK (by simp)) (jy _)
theorem Ot {R:Int} {xs:List Int} {n:Int} (h0:0≤n) (h1:n<R):(fW R xs).set n.toNat true=fW R (xs++[n]):=by
  apply nt
  intro i
  unfold fW
  rw[List.getElem?_set]
  by_cases hi:i<R.toNat
  · rw[pI _ hi,pI _ hi]
    by_cases e:n.toNat=i
    · rw[if_pos e,if_pos (by simpa using by omega)]
      congr 1
      rw[eq_comm,List.contains_eq_mem,decide_eq_true_eq,cr]
      right;simp;omega
    · rw[if_neg e]
      congr 1
      rw[List.contains_eq_mem,List.contains_eq_mem,decide_eq_decide,cr]
      constructor
      · exact .inl
      · rintro (h | h)
        · exact h
        · simp at h;omega
  · rw[eS (l:=(aN R.toNat).map fun (i:Nat)=>(xs++[n]).contains (i:Int)) (by simpa using hi)]
    split
    · rename_i e;rw[if_neg (by simp;omega)]
    · exact eS (by simpa using hi)
theorem Ou (R:Int):fW R []=List.replicate R.toNat false:=by
  unfold fW
  apply nt
  intro i
  rw[List.getElem?_replicate]
  split
  · rename_i h;rw[pI _ h];rfl
  · rename_i h;exact eS (by simpa using h)
theorem G1 (m:aj) (hm:VM m) (l:List Int) (hl:mG m l):an Tryz.prog 70 [.tree 1 (ints l),.agg (ar m)] [] (.tree 1 (aY (fW m.rules l))) []:=by
  have hr:=hm.im
  have k7:=hl.2
  have gP:=hl.1
  refine an.aD (fn:=Tryz.f70) 22 0 [.tmp 4] Tryz.func70 rfl rfl rfl rfl rfl (by simp) ?_
  refine Va X0 ?_
  refine aU (fun z:Nat=>(⟨aw [(5,.ref 1 1 0 m.rules.toNat),(11,.tree 1 (ints l)),(12,.lit (.int .i64 l.length)),(13,.lit (.int .i64 z))],[.var (ar m),.arr 1 (aY (fW m.rules (l.take z)))]⟩:St)) (fun z=>z≤l.length) (fun z=>l.length - z) 0 (Nat.zero_le _) (by rw[List.take_zero,Ou];exact Xv @ar.eq_1) ?_
  intro k hk Ql aq av
  have cw:=yI m.rules (l.take k)
  by_cases aH:k<l.length
  · have hx:=k7 _ (aC (l:=l) (d:=0) aH)
    have eN:l.take (k+1)=l.take k++[l.getD k 0]:=iD aH
    have gr:=Ot (xs:=l.take k) hx.1 hx.2
    rw[← eN] at gr
    generalize bE:l.getD k 0=x at *
    generalize fW m.rules (l.take k)=bs at *
    ((repeat' (first|refine Va (X3 @bE @cw @gr) ?_|(refine Xi ?_ ?_<;>try intro ht)|exact Xx|fail)))
    all_goals try omega
    exact aq _ (k+1) (by omega) (by omega) (Xv @ar.eq_1)
  · obtain rfl:k=l.length:=by omega
    rw[List.take_length] at cw ⊢
    ((repeat' (first|refine Va X0 ?_|(refine Xi ?_ ?_<;>try intro ht)|exact Xx|fail)))
    refine av _ _ rfl ?_;clear aq av Ql
    repeat (refine Xu ?_)
    generalize fW m.rules l=bs at *
    refine Vb X0 ?_
    exact cP [] true (by decide) trivial (by decide) (by decide) (aE.bW (rows:=aY bs) rfl (zS _) (by rw[wB,cw]) (gK (by decide)) (Cz _))
theorem ZV (m:aj) (hm:VM m):an Tryz.prog 108 [.agg (ar m)] [] (.tree 1 (ints (fq m))) []:=by
  have hr:=hm.im
  unfold fq
  refine an.aD (fn:=Tryz.f108) 17 0 [.tmp 2] Tryz.func108 rfl rfl rfl rfl rfl (by simp) ?_
  refine Va X0 ?_
  refine aU (fun z:Nat=>(⟨aw [(3,.ref 1 1 0 ((aN z).map fun (i:Nat)=>(i:Int)).length),(7,.lit (.int .i64 m.rules)),(8,.lit (.int .i64 z))],[.var (ar m),.arr 1 (ints ((aN z).map fun (i:Nat)=>(i:Int)))]⟩:St)) (fun z=>(z:Int)≤m.rules) (fun z=>m.rules.toNat - z) 0 (by omega) (Xv @ar.eq_1) ?_
  intro k hk Ql aq av
  have cw:((aN k).map fun (i:Nat)=>(i:Int)).length=k:=by simp
  have lT:((aN (k+1)).map fun (i:Nat)=>(i:Int))=((aN k).map fun (i:Nat)=>(i:Int))++[(k:Int)]:=by rw[List.range_succ,List.map_append];rfl
  by_cases aH:(k:Int)<m.rules
  · generalize hY:((aN k).map fun (i:Nat)=>(i:Int))=Y at *
    ((repeat' (first|refine Va X0 ?_|(refine Xi ?_ ?_<;>try intro ht)|exact Xx|fail)))
    all_goals try omega
    exact aq _ (k+1) (by omega) (by omega) (by rw[lT];exact Xs false [0,3] @ar.eq_1)
  · obtain rfl:k=m.rules.toNat:=by omega
    generalize ((aN m.rules.toNat).map fun (i:Nat)=>(i:Int))=Y at *
    ((repeat' (first|refine Va X0 ?_|(refine Xi ?_ ?_<;>try intro ht)|exact Xx|fail)))
    refine av _ _ rfl ?_;clear aq av Ql
    repeat (refine Xu ?_)
    refine Vb X0 ?_
    exact cP [] true (by decide) trivial (by decide) (by decide) (aE.bW (rows:=ints Y) rfl (oE _) (by rw[kd]) (gK (by decide)) (pw _))
theorem yH {m:aj} (hm:VM m) (l:List Int):VM (bN m l):=ud hm _
theorem G2 (m:aj) (hm:VM m) (l:List Int):an Tryz.prog 69 [.agg (ar m),.tree 1 (aY (fW m.rules l))] [] (.bG [.agg (ar (bN m l)),.lit (.int .i64 0)]) []:=by
  have hr:=hm.im
  have h:=ZW m (fW m.rules l) hm.mb (by rw[yI];omega)
  rw[show qC m (fW m.rules l)=(gv m (fW m.rules l),0) by unfold qC;rw[if_neg (by rw[eB.2 hm];simp),if_neg (by rw[yI];omega)]] at h
  exact h
def AO (r:aj):AV:=if m7 r=0 then uf (tryD r) else w7
theorem ZX {r:aj} {q:List Int} (h:FP (aI r) q):FP r q:=⟨by rw[← oS r];exact h.len,fun j hj=>by rw[← AP r];exact h.get j hj⟩
theorem ZY {r:aj} (hr:VM r):oT r (bz r).plan (bz r).aX:=(yJ hr (spl:=20000) (by decide) (p0:=[]) (t0:=1099511627776) (.inl ⟨rfl,rfl⟩)).1
theorem Ov (m:aj) (hm:VM m) (l:List Int) (hl:mG m l):an Tryz.prog 66 [.agg (ar m),.tree 1 (ints l)] [] (.bG [AO (bN m l),.lit (.int .i64 (m7 (bN m l)))]) []:=by
  have h1:=G1 m hm l hl
  have h2:=G2 m hm l
  have mC:=yH hm l
  generalize ao:AO (bN m l)=res
  generalize pJ:m7 (bN m l)=ree
  generalize fW m.rules l=kb at *
  generalize bN m l=r at *
  refine an.aD (fn:=Tryz.f66) 53 0 [.cell 4 41,.tmp 5] Tryz.func66 rfl rfl rfl rfl rfl (by simp) ?_
  repeat' (first|((fail_if_success (first|refine ej 1 ?_|refine ek 1 ?_));refine Xr X0 ?_;intro K hK)|(refine hK _ ?_;clear hK K)|refine Xy ?_|fail)
  refine bJ (aB.l6 2 0 (cells:=ar m) (by rfl) (by simp only[Kc,simprocAttr]) (by simp[ar])) ?_
  refine bJ (σ':=⟨aw [(1,.tree 1 (ints l)),(2,.b7 (ar m)),(4,.ptr 0 0 0),(5,.lit (.int .i64 0))],[.var [.lit (.slice none 0 0),.lit (.int .i64 0),.lit (.int .i64 0),.lit (.slice none 0 0)]]⟩) (Xs false [1] X0) ?_
  refine jT [0,2,3,4] (.take 0 (.take 1 (.take 2 (.take 3 (.take 4 (.take 5 (.take 6 (.take 7 (.take 8 (.take 9 (.take 10 .nil))))))))))) rfl (by decide) (by decide +kernel) ?_
  simp (disch:=omega) only[Ac,↓Pc,simprocAttr,Pw,↓Lq,ar]
  refine bH h1 rfl rfl ?_
  simp (disch:=omega) only[Ac,↓Pc,simprocAttr,Pw,↓Lq,ar]
  refine bH h2 rfl rfl ?_
  simp (disch:=omega) only[Ac,↓Pc,simprocAttr,Pw,↓Lq,ar]
  repeat (refine Xu ?_)
  clear h1 h2
  refine bJ (σ':=⟨aw [(4,.ptr 0 0 0),(6,.ptr 1 0 0),(7,.lit (.int .i64 0))],[.var [.lit (.slice none 0 0),.lit (.int .i64 0),.lit (.int .i64 0),.lit (.slice none 0 0)],.var (ar r)]⟩) (Xs false [0,1] @ar.eq_1) ?_
  unfold AO at ao
  unfold m7 at ao pJ
  cases hw:(bz (aI r)).whole
  · rw[if_pos hw] at ao pJ
    rw[if_neg (by decide)] at ao
    have h3:=ZP r mC hw
    unfold w7 at *
    ((repeat' (first|refine Vd @bne_self_eq_false.{0} h3 ?_|(refine Xi ?_ ?_<;>try intro ht)|exact Xx|fail)))
    all_goals
      simp (disch:=omega) only[Ac,↓Pc,simprocAttr,rowOf]
      subst ao pJ
      exact aK rfl rfl
  have nM:¬ (bz (aI r)).whole=false:=by rw[hw];simp
  rw[if_neg nM] at ao pJ
  have h3:=ZO r mC hw
  have gu:=AM (bz (aI r))
  have kF:=AN (bz (aI r))
  have oQ:=vt (pv:=.lit (.slice none 0 0)) (t0:=1099511627776) (s:=bz (aI r)) rfl
  have vu:=ZY (sY mC)
  unfold tryD at ao
  unfold uf at h3
  by_cases ht:(bz (aI r)).aX=1099511627776
  · have hT:vv r:=.inl ht
    simp only[if_pos hT,↓reduceIte] at ao pJ
    unfold uf at ao
    generalize dF (.lit (.slice none 0 0)) 1099511627776 (bz (aI r))=pa at *
    clear hT
    generalize bz (aI r)=s at *
    ((repeat' (first|refine Va @bne_self_eq_false.{0} ?_|(refine Xi ?_ ?_<;>try intro ht)|exact Xx|fail))<;>try with_reducible intro K hK)
    (refine Xn [] (h3) ?_;simp (disch:=omega) only[Ac,↓Pc,simprocAttr,gu])
    ((try revert hK K);(repeat' (first|refine Vb (X3 @kF @gu @bne_self_eq_false.{0}) ?_|(refine Xi ?_ ?_<;>try intro ht)|exact Xx|fail)))
    all_goals
      simp (disch:=omega) only[Ac,↓Pc,simprocAttr,rowOf]
      subst ao pJ
      exact aK (by simp[eZ,gX,oQ]) rfl
  obtain ⟨ug,Ow,bw⟩:=vu.resolve_left (fun h=>ht h.2)
  have dK:=ZX ug
  have Dz:dF (.lit (.slice none 0 0)) 1099511627776 (bz (aI r))=.tree 1 (ints (bz (aI r)).plan):=by unfold dF;rw[if_pos bw]
  have cE:=mC.cls
  have h4:=Ok r (bz (aI r)).plan mC.mb (by rw[dK.len];omega)
  rw[G4 mC dK.pm] at h4
  dsimp only at h4
  rw[Dz] at h3
  by_cases gZ:fM r (bz (aI r)).plan<1099511627776
  · have hT:vv r:=.inr gZ
    simp only[if_pos hT,↓reduceIte] at ao pJ
    unfold uf at ao
    rw[Dz] at ao
    unfold fM at gZ
    clear hT vu ug Ow gu kF oQ
    generalize iF (gQ r (bz (aI r)).plan) 0=tt at *
    generalize gQ r (bz (aI r)).plan=rl at *
    generalize bz (aI r)=s at *
    ((repeat' (first|refine Vd @bne_self_eq_false.{0} (X2 h3 h4) ?_|(refine Xi ?_ ?_<;>try intro ht)|exact Xx|fail)))
    all_goals
      simp (disch:=omega) only[Ac,↓Pc,simprocAttr,rowOf]
      subst ao pJ
      exact aK rfl rfl
  · have hT:¬ vv r:=fun h=>h.elim ht gZ
    simp only[if_neg hT] at ao pJ
    unfold fM at gZ
    clear hT vu ug Ow gu kF oQ
    cases DA:(bz r).whole
    · have h5:=Oo r mC DA
      simp only[if_pos DA] at ao pJ
      rw[if_neg (by decide)] at ao
      unfold w7 at *
      generalize iF (gQ r (bz (aI r)).plan) 0=tt at *
      generalize gQ r (bz (aI r)).plan=rl at *
      generalize bz (aI r)=s at *
      ((repeat' (first|refine Vd @bne_self_eq_false.{0} (X3 h3 h4 h5) ?_|(refine Xi ?_ ?_<;>try intro ht)|exact Xx|fail)))
      all_goals
        simp (disch:=omega) only[Ac,↓Pc,simprocAttr,rowOf]
        subst ao pJ
        exact aK rfl rfl
    · have h5:=On r mC DA
      have ZZ:¬ (bz r).whole=false:=by rw[DA];simp
      simp only[if_neg ZZ,↓reduceIte] at ao pJ
      have gu:=AM (bz r)
      have kF:=AN (bz r)
      have oQ:=vt (pv:=.lit (.slice none 0 0)) (t0:=1099511627776) (s:=bz r) rfl
      unfold uf at ao h5
      generalize dF (.lit (.slice none 0 0)) 1099511627776 (bz r)=pa at *
      generalize iF (gQ r (bz (aI r)).plan) 0=tt at *
      generalize gQ r (bz (aI r)).plan=rl at *
      generalize bz (aI r)=s at *
      generalize bz r=s2 at *
      ((repeat' (first|refine Vc @bne_self_eq_false.{0} (X2 h3 h4) ?_|(refine Xi ?_ ?_<;>try intro ht)|exact Xx|fail))<;>try with_reducible intro K hK)
      (refine Xn [] (h5) ?_;simp (disch:=omega) only[Ac,↓Pc,simprocAttr,gu])
      ((try revert hK K);(refine Vb (X2 @kF @gu) ?_))
      all_goals
        simp (disch:=omega) only[Ac,↓Pc,simprocAttr,rowOf]
        subst ao pJ
        exact aK (by simp[eZ,gX,oQ]) rfl
end T

