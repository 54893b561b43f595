import Derived.Test.YtdipcmigdbnheaaGreatX40
import Derived.Test.YtdipcmigdbnheaaGreatX38
import Derived.Test.YtdipcmigdbnheaaGreatX44
import Derived.Test.YtdipcmigdbnheaaGreatX32
import Derived.Test.YtdipcmigdbnheaaGreatX45
set_option linter.unusedVariables false
set_option linter.unusedSimpArgs false
set_option linter.unnecessarySimpa false
set_option linter.unusedSectionVars false
set_option maxHeartbeats 64000000
set_option maxRecDepth 20000
open Nat renaming zero_le→aM,le_refl→aG,eq_zero_or_pos→mR,lt_succ_self→ny
open List renaming replicate→bY,getElem?_set_ne→bm,getElem_of_mem→sv,getD_eq_getElem?_getD→aA,getElem?_eq_getElem→bX,mem_cons→cu,mem_filter→nx,mem_map→ca,getElem?_map→cm,length→su,map_map→uR,map_congr_left→kU,map_cons→dO,length_set→bI,mem_range→lP
open Int renaming le_refl→dE,toNat_natCast→gD,add_zero→xQ
open Bool renaming and_eq_true→bk
open Go Go.Am Go.Proofs
open Nat (reduceEqDiff reduceAdd reduceLeDiff reduceMul)
open Int (reduceNeg reduceLE reduceToNat)
open Go Go.Am
namespace T
theorem ad6 (m:aj) (dM:VM m):an Tryz.prog 102 [.agg (ar m)] [] (.ref 0 1 0 (dD m).length) [.arr 1 (rowsOf bg (dD m))]:=by
  have hm:=dM.mb
  have h1:=qz m hm
  have sZ:=hm.cls
  generalize ao:dD m=res
  unfold dD at ao
  refine an.aD (fn:=Tryz.f102) 25 0 [.tmp 2] Tryz.func102 rfl rfl rfl rfl rfl (by simp) ?_
  have hv:dz m=0:=eB.2 dM
  rw[if_pos hv] at ao
  rw[hv] at h1
  have rG:=dM.cls
  ((repeat' (first|refine Vd @bne_self_eq_false.{0} h1 ?_|(refine Xi ?_ ?_<;>try intro ht)|exact Xx|fail)))
  refine aU (fun z:Nat × List (List Bool)=>(⟨aw [(1,.ptr 0 0 0),(3,.ref 1 1 0 z.2.length),(10,.tree 1 (rowsOf bD m.cls)),(11,.lit (.int .i64 m.cls.length)),(12,.lit (.int .i64 z.1))],[.var (ar m),.arr 1 (rowsOf bg z.2)]⟩:St))
    (fun z=>z.1≤m.cls.length∧z.2=(mL m).take z.1) (fun z=>m.cls.length - z.1) (0,[]) ⟨aM _,rfl⟩ ?_ ?_
  · refine aB.trans (aB.nil 3 1 (by simp only[Kc,simprocAttr]) (by decide)) ?_
    exact Xv X0
  rintro ⟨i,xs⟩ ⟨hi,ew⟩ Ql aq av
  dsimp only at hi ew ⊢
  have fK:(mL m).length=m.cls.length:=by simp[mL]
  by_cases hi':i<m.cls.length
  · have pR:xs.length=i:=by rw[ew,List.length_take];omega
    have eN:(mL m).take (i+1)=xs++[bY (m.cls.getD i default).length true]:=by
      rw[iD (by omega),← ew];unfold mL;rw[iG _ _ _ hi']
    have vH:=dM.opt _ (aC (d:=default) hi')
    generalize aR:m.cls.getD i default=c at *
    have AU:=TK true c.length (by omega)
    repeat' (first|((fail_if_success (first|refine ej 7 ?_|refine ek 7 ?_));refine Xr (X2 @aR @bD.eq_1) ?_;intro K hK)|(refine hK _ ?_;clear hK K)|(refine Xi ?_ ?_<;>try intro ht)|refine Xy ?_|refine Xd ?_ ?_|exact Xx|fail)
    refine GX 5 (by decide) ?_
    intro K K1 hK vp
    simp (disch:=omega) only[Ac,↓Pc,simprocAttr,List.take]
    refine nI [] AU (by decide) trivial ⟨aE.fz (rows:=rowsOf kS [true]) rfl rfl (by simp),.pure rfl,trivial⟩ rfl (by simp[tP,kS,rowsOf,flat]) ?_
    simp (disch:=omega) only[Ac,↓Pc,simprocAttr]
    refine vp _ ⟨aw [(1,.ptr 0 0 0),(3,.ref 1 1 0 xs.length),(10,.tree 1 (rowsOf bD m.cls)),(11,.lit (.int .i64 m.cls.length)),(12,.lit (.int .i64 i)),(16,.ref 1 1 0 xs.length),(20,.tree 1 (aY (bY c.length true)))],[.var (ar m),.arr 1 (rowsOf bg xs)]⟩ ?_ ?_
    · rw[← TJ]
      exact Xs true [0,1] X0
    clear vp K1
    simp (disch:=omega) only[Ac,↓Pc,simprocAttr,List.drop,TL]
    repeat' (first|with_reducible refine And.intro ?_ ?_|omega)
    refine hK _ ?_;clear hK K
    repeat (refine Xu ?_)
    refine Va X0 ?_
    refine aq _ (i+1,xs++[bY c.length true]) ⟨by dsimp only;omega,eN.symm⟩ (by dsimp only;omega) ?_
    exact Xs false [0,3] X0
  · rw[List.take_of_length_le (by omega)] at ew
    ((repeat' (first|refine Va X0 ?_|(refine Xi ?_ ?_<;>try intro ht)|exact Xx|fail)))
    refine av _ _ rfl ?_;clear aq av Ql
    repeat (refine Xu ?_)
    refine Vb X0 ?_
    rw[ew,ao]
    exact Xw false [1] X0
end T
namespace T
def g0 (spl:Int) (p0:List Int) (t0:Int):QS:=⟨11,10,[],⟨[],19999,spl,true,p0,t0,1099511627776⟩⟩
def vV (m:aj) (spl:Int) (p0:List Int) (t0:Int):DS:=j4 m (m.cls.length+1) 0 (dD m) ⟨[],19999,spl,true,p0,t0,1099511627776⟩
theorem vt {pv:AV} {t0:Int} {s:DS} (h:eZ pv=true):eZ (dF pv t0 s)=true:=by
  unfold dF
  split
  · rfl
  · exact h
theorem Vp (m:aj) (hm:VM m) (spl:Int) (wj:0≤spl∧spl≤1000000) (p0:List Int) (t0:Int) (pv:AV) (Dw:eZ pv=true) (fH:cf pv=true) (b0:Int) :
    an Tryz.prog 56 [.agg (ar m),.agg [pv,.lit (.int .i64 t0),.lit (.int .i64 b0),.lit (.slice none 0 0)],.lit (.int .i64 spl)] []
      (.bG [.agg [dF pv t0 (vV m spl p0 t0),.lit (.int .i64 (vV m spl p0 t0).aX),.lit (.int .i64 (vV m spl p0 t0).b9),.tree 5 (rowsOf cL (vV m spl p0 t0).nodes)],.lit (.bool (vV m spl p0 t0).whole)]) []:=by
  have kQ:=ad6 m hm
  have dZ:=Ew hm
  have rG:=hm.cls
  have yo:=UX m (m.cls.length+1) 0 (dD m) (g0 spl p0 t0) rfl
  have I7:Fc (qB 103 m (dD m) pv t0 (g0 spl p0 t0) [(3,.var [.lit (.slice none 0 0),.lit (.int .i64 0),.lit (.int .i64 0),.lit (.slice none 0 0)])])
      [.var (ar m),.var [pv,.lit (.int .i64 t0),.lit (.int .i64 1099511627776),.lit (.slice none 0 0)],.var [.lit (.int .i64 spl)],.var [.lit (.slice none 0 0),.lit (.int .i64 0),.lit (.int .i64 0),.lit (.slice none 0 0)],.arr 1 (rowsOf bg (dD m)),.var [.ref 4 1 0 (dD m).length],.var [.lit (.bool true)],.var [.lit (.int .i64 19999)],.var [.ref 10 5 0 0],.var [.fn 103 xy],.arr 5 []]:=by
    refine⟨?_,(show ([0,1,2,4,5,6,7,9,8,10,3]:List Nat).Nodup by decide)⟩
    unfold qB bB rZ dF g0 fe
    simp[rowsOf]
  have tw:=ad7 m hm pv t0 (m.cls.length+1) 0 (dD m) _ (g0 spl p0 t0) _ (by rw[dZ.1];simp) (aM _) dZ rfl wj ⟨by show (0:Int)≤19999;omega,by show (0:Int)+19999≤1000000;omega⟩ (dE _) I7 _ rfl
  have BM:=EM (dn:=103) (m:=m) (left:=dD m) (pv:=pv) (t0:=t0) (N:=m.cls.length) (m.cls.length+1) 0 (dD m) (g0 spl p0 t0) _ dZ.1 (by omega) (aM _) I7.fk
  have cC:vV m spl p0 t0=(kq m (m.cls.length+1) 0 (dD m) (g0 spl p0 t0)).s:=yo.2.symm
  have jV:=yo.1
  unfold qR at jV
  rw[cC]
  generalize kq m (m.cls.length+1) 0 (dD m) (g0 spl p0 t0)=r at *
  have qS:=BM.fk.canon
  have fT:=BM.ol
  have xB:=xb (qB 103 m (dD m) pv t0 r [(3,.var [.lit (.slice none 0 0),.lit (.int .i64 0),.lit (.int .i64 0),.lit (.slice none 0 0)])]) r.n
  unfold g0 at tw fT
  dsimp only at tw fT
  generalize canon (qB 103 m (dD m) pv t0 r [(3,.var [.lit (.slice none 0 0),.lit (.int .i64 0),.lit (.int .i64 0),.lit (.slice none 0 0)])]) r.n=o5 at *
  refine an.aD (fn:=Tryz.f56) 24 0 [.cell 6 41,.tmp 7] Tryz.func56 rfl rfl rfl rfl rfl (by simp) ?_
  ((refine Vb @fH ?_)<;>try with_reducible intro K hK)
  (refine Xn [] (kQ) ?_;simp (disch:=omega) only[Ac,↓Pc,simprocAttr,qo])
  repeat' (first|((fail_if_success (first|refine ej 7 ?_|refine ek 7 ?_));refine Xr (X2 @fH @EN) ?_;intro K hK)|(refine hK _ ?_;clear hK K)|refine XY ?_|fail)
  refine bJ (aB.ld 8 0 5 rfl rfl (by decide)) ?_
  refine bJ (σ':=⟨aw [(3,.ptr 0 0 0),(4,.ptr 1 0 0),(6,.ptr 3 0 0),(7,.lit (.bool false)),(9,.ptr 6 0 0),(11,.ptr 8 0 0),(12,.ptr 9 0 0)],[.var (ar m),.var [pv,.lit (.int .i64 t0),.lit (.int .i64 1099511627776),.lit (.slice none 0 0)],.var [.lit (.int .i64 spl)],.var [.lit (.slice none 0 0),.lit (.int .i64 0),.lit (.int .i64 0),.lit (.slice none 0 0)],.arr 1 (rowsOf bg (dD m)),.var [.ref 4 1 0 (dD m).length],.var [.lit (.bool true)],.var [.lit (.int .i64 19999)],.var [.ref 10 5 0 0],.var [.fn 103 xy],.arr 5 []]⟩) (Xv X0) ?_
  unfold xy at tw ⊢
  ((refine Vb @EN ?_)<;>try with_reducible intro K hK)
  refine lB tw (by rw[xB];exact fT) ?_
  have e8:o5[8]?=some (.var [.ref r.p 5 0 r.R.length]):=lv qS (b:=(8,.var [.ref r.p 5 0 r.R.length])) (by simp[bB])
  have e1:o5[1]?=some (.var [dF pv t0 r.s,.lit (.int .i64 r.s.aX),.lit (.int .i64 r.s.b9),.lit (.slice none 0 0)]):=lv qS (b:=(1,rZ pv t0 r.s)) (by simp[bB])
  have e6:o5[6]?=some (.var [.lit (.bool r.s.whole)]):=lv qS (b:=(6,.var [.lit (.bool r.s.whole)])) (by simp[bB])
  have e3:o5[3]?=some (.var [.lit (.slice none 0 0),.lit (.int .i64 0),.lit (.int .i64 0),.lit (.slice none 0 0)]):=BI qS (b:=(3,.var [.lit (.slice none 0 0),.lit (.int .i64 0),.lit (.int .i64 0),.lit (.slice none 0 0)])) (by simp)
  have kF:cf (dF pv t0 r.s)=true:=by unfold dF;split<;>first|rfl|exact fH
  have oQ:=vt (t0:=t0) (s:=r.s) Dw
  have uG:=qS.perm pU.symm
  unfold qB bB at uG
  simp only[List.cons_append,List.nil_append] at uG
  have I8:=(((uG.front [_,_]).put (.var [dF pv t0 r.s,.lit (.int .i64 r.s.aX),.lit (.int .i64 r.s.b9),.ref r.p 5 0 r.R.length])).perm (List.Perm.swap _ _ _)).put (.var [dF pv t0 r.s,.lit (.int .i64 r.s.aX),.lit (.int .i64 r.s.b9),.ref r.p 5 0 r.R.length])
  have ug:=I8.at_ (r.p,.arr 5 (rowsOf cj r.R)) (by simp)
  have hfb:∀ b∈fe r.R,_:=fun b hb=>I8.at_ b (by simp[hb])
  clear uG qS I8 BM I7 kQ tw
  generalize hP:dF pv t0 r.s=pa at *
  have d6:=fun x=>(show (o5.set 1 x)[6]?=some (.var [.lit (.bool r.s.whole)]) by rw[bm (by decide)];exact e6)
  have d1:=fun x=>(show (o5.set 1 x)[1]?=some x from iT e1)
  have d3:=fun x=>(show (o5.set 1 x)[3]?=some (.var [.lit (.slice none 0 0),.lit (.int .i64 0),.lit (.int .i64 0),.lit (.slice none 0 0)]) by rw[bm (by decide)];exact e3)
  have d33:=fun x y=>(show ((o5.set 1 x).set 3 y)[3]?=some y from iT (d3 x))
  have d36:=fun x y=>(show ((o5.set 1 x).set 3 y)[6]?=some (.var [.lit (.bool r.s.whole)]) by rw[bm (by decide)];exact d6 x)
  simp (disch:=omega) only[Ac,↓Pc,simprocAttr]
  refine hK _ ?_
  clear hK K
  repeat (refine Xu ?_)
  refine Vb (X5 @e8 @e1 @d1 @d6 (X4 @d3 @d33 @kF @fH)) ?_
  refine jT [] (.take 0 (.both 1 (.take 2 (.take 3 .nil)) 2 (.take 1 (.take 3 .nil)))) rfl (by decide) (by decide +kernel) ?_
  simp (disch:=omega) only[Ac,↓Pc,simprocAttr,Pw,d1,d6,d3,d33,d36,kF,fH]
  all_goals
    repeat (refine Xu ?_)
    refine Vb (X3 @d33 @kF @fH) ?_
    simp (disch:=omega) only[Ac,↓Pc,simprocAttr,rowOf,d33]
  all_goals
    refine cP [] true (by decide) trivial (by decide) (by decide) (aE.mX (aE.agg _ _ rfl (dY.spec (R:=aE _ _ _ _) (cs:=[pa,.lit (.int .i64 r.s.aX),.lit (.int .i64 r.s.b9),.tree 5 (rowsOf cL r.s.nodes)]) (ds:=[pa,.lit (.int .i64 r.s.aX),.lit (.int .i64 r.s.b9),.ref r.p 5 0 r.R.length]) ⟨.pure oQ,.pure rfl,.pure rfl,.snap _ _ rfl ?_,trivial⟩).2) (.pure rfl))
    rw[jV]
    exact l6 ug hfb (fun i h=>by obtain ⟨j,hj,_⟩:=h;cases hj)
end T
namespace T
def uf (s:DS):AV:=.agg [dF (.lit (.slice none 0 0)) 1099511627776 s,.lit (.int .i64 s.aX),.lit (.int .i64 s.b9),.tree 5 (rowsOf cL s.nodes)]
def w7:AV:=.agg [.lit (.slice none 0 0),.lit (.int .i64 0),.lit (.int .i64 0),.lit (.slice none 0 0)]
theorem On (m:aj) (hm:VM m) (hw:(bz m).whole=true):an Tryz.prog 39 [.agg (ar m)] [] (.bG [uf (bz m),.lit (.int .i64 0)]) []:=by
  have h1:=qz m hm.mb
  rw[eB.2 hm] at h1
  have hg:=Vp m hm 20000 (by decide) [] 1099511627776 (.lit (.slice none 0 0)) rfl rfl 0
  rw[show vV m 20000 [] 1099511627776=bz m from rfl,hw] at hg
  unfold uf
  generalize bz m=s at *
  have kF:cf (dF (.lit (.slice none 0 0)) 1099511627776 s)=true:=by unfold dF;split<;>rfl
  have oQ:=vt (pv:=.lit (.slice none 0 0)) (t0:=1099511627776) (s:=s) rfl
  have gu:∀ ρ,a6 ρ (dF (.lit (.slice none 0 0)) 1099511627776 s)=dF (.lit (.slice none 0 0)) 1099511627776 s:=fun ρ=>by unfold dF;split<;>rfl
  generalize dF (.lit (.slice none 0 0)) 1099511627776 s=pa at *
  refine an.aD (fn:=Tryz.f39) 23 0 [.cell 2 41,.tmp 3] Tryz.func39 rfl rfl rfl rfl rfl (by simp) ?_
  ((repeat' (first|refine Vd (X2 @kF @bne_self_eq_false.{0}) h1 ?_|(refine Xi ?_ ?_<;>try intro ht)|exact Xx|fail))<;>try with_reducible intro K hK)
  (refine Xn [] (hg) ?_;simp (disch:=omega) only[Ac,↓Pc,simprocAttr,gu])
  ((try revert hK K);(repeat' (first|refine Vb (X3 @kF @gu @Bool.not_true) ?_|(refine Xi ?_ ?_<;>try intro ht)|exact Xx|fail)))
  all_goals try (exfalso;simp_all;done)
  all_goals
    simp (disch:=omega) only[Ac,↓Pc,simprocAttr,rowOf]
    exact aK (by simp[eZ,gX,oQ]) rfl
theorem Oo (m:aj) (hm:VM m) (hw:(bz m).whole=false):an Tryz.prog 39 [.agg (ar m)] [] (.bG [w7,.lit (.int .i64 61)]) []:=by
  have h1:=qz m hm.mb
  rw[eB.2 hm] at h1
  have hg:=Vp m hm 20000 (by decide) [] 1099511627776 (.lit (.slice none 0 0)) rfl rfl 0
  rw[show vV m 20000 [] 1099511627776=bz m from rfl,hw] at hg
  unfold w7
  generalize bz m=s at *
  have kF:cf (dF (.lit (.slice none 0 0)) 1099511627776 s)=true:=by unfold dF;split<;>rfl
  have oQ:=vt (pv:=.lit (.slice none 0 0)) (t0:=1099511627776) (s:=s) rfl
  have gu:∀ ρ,a6 ρ (dF (.lit (.slice none 0 0)) 1099511627776 s)=dF (.lit (.slice none 0 0)) 1099511627776 s:=fun ρ=>by unfold dF;split<;>rfl
  generalize dF (.lit (.slice none 0 0)) 1099511627776 s=pa at *
  refine an.aD (fn:=Tryz.f39) 23 0 [.cell 2 41,.tmp 3] Tryz.func39 rfl rfl rfl rfl rfl (by simp) ?_
  ((repeat' (first|refine Vd (X2 @kF @bne_self_eq_false.{0}) h1 ?_|(refine Xi ?_ ?_<;>try intro ht)|exact Xx|fail))<;>try with_reducible intro K hK)
  (refine Xn [] (hg) ?_;simp (disch:=omega) only[Ac,↓Pc,simprocAttr,gu])
  ((try revert hK K);(repeat' (first|refine Vb (X3 @kF @gu @Bool.not_false) ?_|(refine Xi ?_ ?_<;>try intro ht)|exact Xx|fail)))
  all_goals try (exfalso;simp_all;done)
  all_goals
    simp (disch:=omega) only[Ac,↓Pc,simprocAttr,rowOf]
    exact aK rfl rfl
end T
namespace T
end T
namespace T
end T
namespace T
def oT (m:aj) (p0:List Int) (t0:Int):Prop:=(p0=[]∧t0=1099511627776)∨(FP m p0∧fM m p0=t0∧t0<1099511627776)
theorem oT.top {m:aj} {p:List Int} {t:Int} (h:oT m p t):t≤1099511627776:=by
  rcases h with ⟨_,h⟩ | ⟨_,_,h⟩<;>omega
def BN (spl:Int) (p0:List Int) (t0:Int):DS:=⟨[],19999,spl,true,p0,t0,1099511627776⟩
variable {m:aj} {left:List (List Bool)} {p:List Int}
theorem Vq {f:List (List Bool)→DS→DS} {c:Nat} {N:Nat} (hf:∀ k s,k<N→oT m s.plan s.aX→oT m (f (bT left c k) s).plan (f (bT left c k) s).aX) :
    ∀ (w o:Nat) (s:DS) (ks:List Int),o+w=N→oT m s.plan s.aX→oT m (fA f left c w o s ks).1.plan (fA f left c w o s ks).1.aX
  | 0,o,s,ks,ho,h=>h
  | w+1,o,s,ks,ho,h=>by
    rw[fA]
    exact Vq hf w (o+1) _ _ (by omega) (hf o s (by omega) h)
theorem Vr (hm:VM m):∀ (f:Nat) (left:List (List Bool)) (p:List Int) (s:DS),left.length+1≤f+p.length→Dn m left p→oT m s.plan s.aX→oT m (j4 m f p.length left s).plan (j4 m f p.length left s).aX
  | 0,left,p,s,hf,h,hk=>by have:=h.bp.len;rw[← h.fit.1] at this;omega
  | f+1,left,p,s,hf,h,hk=>by
    obtain ⟨r,h1,h2,h3⟩:=Dn.skip (left:=left) _ p rfl h
    obtain ⟨g1,g2,g3,g4⟩:=xo (left:=left) _ p.length rfl
    have cq:p.length≤left.length:=by rw[h.fit.1];exact h.bp.len
    have dZ:=h.fit
    have SH:=hk.top
    rw[j4]
    split
    · exact hk
    rename_i hv
    split
    · rename_i he
      have rf:(p++r).length=m.cls.length:=by rw[h2,he,dZ.1]
      refine .inr ⟨?_,?_,?_⟩
      · show FP m (iQ left)
        rw[h1.IE rf];exact h1.bp.fp rf
      · show fM m (iQ left)=dN m left
        rw[h1.IE rf];exact (h1.exact hm rf).symm
      · show dN m left<_
        omega
    rename_i he
    split
    · exact hk
    rw[← h2] at he ⊢
    have bw:(p++r).length<m.cls.length:=by
      have:=h1.bp.len
      rw[dZ.1] at he
      omega
    have a7:(left.getD (p++r).length default).length=(m.cls.getD (p++r).length default).length:=dZ.2 _ (by rw[dZ.1];exact bw)
    have IF:p.length≤(p++r).length:=by simp
    generalize hP:p++r=P at *
    exact Vq (m:=m) (left:=left) (c:=P.length) (f:=j4 m f (P.length+1)) (N:=(left.getD P.length default).length) (fun k s' bS hs=>by
      have:=Vr hm f (bT left P.length k) (P++[(k:Int)]) s' (by rw[show (bT left P.length k).length=left.length by unfold bT;simp];simp;omega) (h1.next bw (by omega)) hs
      rwa [show (P++[(k:Int)]).length=P.length+1 by simp] at this) _ 0 (j3 left P.length (dN m left) s) [] (by omega) hk
theorem ad9 (h:FP m p):[] ∉ m.cls:=by
  intro he
  obtain ⟨i,hi,hg⟩:=sv he
  obtain ⟨_,_,h1,h2⟩:=fZ.1 (h.get i (by rw[h.len];exact hi))
  rw[gD,aA (l:=m.cls),bX hi,Option.getD_some,hg] at h2
  have:p.getD i 0<0:=h2
  omega
def lO (m:aj) (spl:Int) (p0:List Int) (t0:Int):DS:=j4 m (m.cls.length+1) 0 (dD m) (BN spl p0 t0)
theorem aea (hm:VM m) {P:List Nd} {v:List Int} (hv:Tr m P 0 P.length (dD m) [] v) (hl:P.length≤20000):PB P:=by
  have hn:=hv.vQ.zq
  have hf:=hv.vQ.flat
  have fC:∀ x∈P,∃ i,i<P.length∧nd P i=x:=fun x hx=>by
    obtain ⟨i,hi,rfl⟩:=sv hx
    exact⟨i,hi,by unfold nd;rw[aA,bX hi];rfl⟩
  refine⟨by omega,fun x hx=>?_,fun x hx=>?_,fun x hx=>?_,fun x hx=>?_,fun x hx l hl=>?_⟩
  all_goals
    obtain ⟨i,hi,rfl⟩:=fC x hx
    obtain ⟨f1,f2,f3⟩:=hf i (aM _) hi
    obtain ⟨n1,_⟩:=hn i (aM _) hi
  · have:=Eh hm n1;omega
  · omega
  · rw[f2];decide
  · rw[f3];decide
  · rw[f3] at hl;cases hl
theorem yJ (hm:VM m) {spl:Int} (hs:0≤spl) {p0:List Int} {t0:Int} (hk:oT m p0 t0) :
    oT m (lO m spl p0 t0).plan (lO m spl p0 t0).aX∧(lO m spl p0 t0).aX≤t0∧((lO m spl p0 t0).aX=1099511627776→0<m.cls.length) ∧
    (lO m spl p0 t0).b9≤(lO m spl p0 t0).aX∧l9 m (lO m spl p0 t0).nodes=((lO m spl p0 t0).b9,true)∧PB (lO m spl p0 t0).nodes ∧
    (eC m≤spl→eC m≤4096→(lO m spl p0 t0).b9=(lO m spl p0 t0).aX):=by
  have hr:=Dn.root hm
  have hd:=ED hm (m.cls.length+1) (dD m) [] (BN spl p0 t0) (by rw[hr.fit.1];simp) hr
  have vu:oT m (lO m spl p0 t0).plan (lO m spl p0 t0).aX:=Vr hm (m.cls.length+1) (dD m) [] (BN spl p0 t0) (by rw[hr.fit.1];simp) hr hk
  have SH:=hk.top
  have hw:eC m≤spl→eC m≤4096→(lO m spl p0 t0).whole=true:=by
    intro w1 w2
    by_cases he:[]∈m.cls
    · have ht:t0=1099511627776:=by
        rcases hk with ⟨_,h⟩ | ⟨h,_⟩
        · exact h
        · exact absurd he (ad9 h)
      unfold lO
      rw[j4,Ut he,if_pos (by show t0≤_;omega)];rfl
    · have nk:∀ l∈m.cls,1≤l.length:=fun l hl=>by
        cases l with
        | nil=>exact absurd hl he
        | cons a b=>simp
      have hc:jO m m.cls.length=lr m.cls:=by rw[IJ m _ (aG _),Nat.sub_self,List.drop_zero]
      unfold eC at w1 w2
      rw[if_pos (eB.2 hm),show (1:Int)=((1:Nat):Int) from rfl,II _ _ he (by omega),Nat.one_mul,← hc] at w1 w2
      refine (IH hm nk (m.cls.length+1) (dD m) [] (BN spl p0 t0) (by rw[hr.fit.1];simp) hr rfl ?_ ?_).1
      · show (2 * jO m m.cls.length - 2:Int)≤19999;omega
      · show (jO m m.cls.length - 1:Int)≤spl;omega
  change DL m (dD m) [] (BN spl p0 t0) (lO m spl p0 t0) at hd
  have h0:(lO m spl p0 t0).aX=1099511627776→0<m.cls.length:=fun ht=>by
    rcases mR m.cls.length with h | h
    · exfalso
      have hx:=(Dn.root hm).exact hm (by rw[h];rfl)
      rw[ada hm h] at hx
      have hl:(dD m).length=0:=by rw[hr.fit.1,h]
      have U3:cJ (dD m) 0=(dD m).length:=by rw[EA (by omega),hl]
      unfold lO at ht
      rw[j4,hx] at ht
      split at ht
      · rename_i h1
        have:t0=1099511627776:=ht
        have:t0≤0:=h1
        omega
      · have:(0:Int)=1099511627776:=ht
        omega
    · exact h
  generalize lO m spl p0 t0=r at *
  obtain ⟨d1,d2,d3,d4,d5,d6,d7,d8,d9⟩:=hd
  change r.aX≤t0 at d1
  change r.b9≤1099511627776 at d2
  change r.aX<t0→r.b9≤r.aX at d3
  change (r.nodes.length:Int)+r.room=0+19999+1 at d5
  have d6:0≤r.room:=d6 (by show (0:Int)≤19999;omega)
  obtain ⟨v,hv,rY⟩:=d9 [] (fun x hx=>by cases hx)
  have rY:r.b9=lq v 1099511627776:=rY
  have hv:Tr m r.nodes 0 r.nodes.length (dD m) [] v:=hv
  have ep:=Tr.ec (P:=r.nodes) hm hv (by omega)
  rw[← rY] at ep
  have hle:r.b9≤r.aX:=by
    rcases vu with ⟨_,h⟩ | ⟨h1,h2,_⟩
    · omega
    · have:=adm ep h1
      unfold fM at h2
      omega
  refine⟨vu,d1,h0,hle,ep,aea hm hv (by omega),fun w1 w2=>?_⟩
  have:=(d4 (hw w1 w2)).2.2
  change min 1099511627776 r.aX≤r.b9 at this
  omega
end T
namespace T
theorem EO {f:Nat→Int}:∀ (n:Nat),(∀ i,i<n→Zf (f i))→1099511627776≤bj f n→∃ i,i<n∧1099511627776≤f i
  | 0,_,h=>by have:(1099511627776:Int)≤0:=h;omega
  | n+1,hz,h=>by
    rw[bj] at h
    have h1:=vR n fun i hi=>hz i (by omega)
    have h2:=hz n (ny n)
    unfold Zf at h1 h2
    rcases h2 with h2 | h2
    · obtain ⟨i,hi,h3⟩:=EO n (fun i hi=>hz i (by omega)) (by omega)
      exact⟨i,by omega,h3⟩
    · exact⟨n,ny n,h2⟩
theorem Vs:∀ (l:List Int) (a:Int),(∀ x∈l,0≤x)→0≤a→(1099511627776≤a∨1099511627776∈l)→1099511627776≤l.foldl dw a
  | [],a,_,_,h=>by
    rcases h with h | h
    · exact h
    · cases h
  | x::l,a,hl,ha,h=>by
    have hx:=hl x (by simp)
    refine Vs l _ (fun y hy=>hl y (by simp[hy])) (by unfold dw;omega) ?_
    rcases h with h | h
    · left;unfold dw;omega
    · rcases cu.1 h with h | h
      · left;rw[← h];unfold dw;omega
      · exact .inr h
theorem Vt {R:Int} {o:bx} (hc:dj R none o.ch=true) (h:1099511627776≤jg (fI o)):1099511627776≤jg o:=by
  have cX:1099511627776∈o.ch.map (·.2):=by
    by_cases he:(fI o).ch=[]
    · unfold jg at h
      rw[he] at h
      have:(1099511627776:Int)≤0:=h
      omega
    · obtain ⟨c,gp⟩:=List.exists_mem_of_ne_nil _ he
      obtain ⟨h1,h2⟩:=nx.1 gp
      unfold j6 at h2
      rw[decide_eq_true_eq] at h2
      exact ca.2 ⟨c,h1,h2⟩
  unfold jg
  refine Vs _ 0 (fun x hx=>?_) (dE _) (.inr cX)
  obtain ⟨c,h1,rfl⟩:=ca.1 hx
  exact (jY (uj hc c h1).2).1
theorem Vu {m:aj} {q:List Int} (h:FP m q):FP (aI m) q:=⟨by rw[oS];exact h.len,fun j hj=>by rw[AP];exact h.get j hj⟩
theorem aeb {m:aj} (hm:VM m) {q:List Int} (hq:FP m q) (h:1099511627776≤fM (aI m) q):1099511627776≤fM m q:=by
  have hqh:=Vu hq
  unfold fM at *
  rw[y9 (sY hm) hqh] at h
  rw[y9 hm hq]
  have hA:=xi _ fun i hi=>UH hm hq (j:=i) hi
  have hB:=xi _ fun i hi=>UJ hm q (i:=i) hi
  have hC:=xi _ fun i hi=>UK hm q (i:=i) hi
  have z1:∀ i,i<(aI m).cls.length→Zf (kL (aI m) q i)∧(1099511627776≤kL (aI m) q i→1099511627776≤kL m q i):=fun i hi=>by
    rw[oS] at hi
    have hg:=fZ.1 (hq.get i (by rw[hq.len];exact hi))
    rw[gD] at hg
    have hl:=aC (l:=m.cls) (i:=i) (d:=default) hi
    have hc:(aI m).cls.getD i default=(m.cls.getD i default).map fI:=iG _ _ _ hi
    unfold kL
    rw[hc,iG _ _ _ (by omega)]
    exact⟨IM _,Vt (hm.kI _ hl _ (aC (by omega)))⟩
  have z2:∀ i,i<(aI m).ae.length→Zf (jm (aI m) q ((aI m).ae.getD i default))∧(1099511627776≤jm (aI m) q ((aI m).ae.getD i default)→1099511627776≤jm m q (m.ae.getD i default)):=fun i hi=>by
    have hc:(aI m).ae.getD i default=iw (m.ae.getD i default):=iG _ _ _ (by simpa [aI] using hi)
    rw[hc]
    clear hc
    generalize m.ae.getD i default=p
    unfold jm lk
    rw[show (iw p).fst=p.fst from rfl,show (iw p).snd=p.snd from rfl,xq]
    generalize (q.getD p.fst.toNat 0 * ((m.cls.getD p.snd.toNat default).length:Int)+q.getD p.snd.toNat 0).toNat=k
    have e:(iw p).az.getD k 0=lu (p.az.getD k 0):=by
      show (p.az.map lu).getD k 0=_
      rw[aA,cm,aA]
      cases p.az[k]?<;>rfl
    rw[e]
    unfold lu Zf;split<;>omega
  have z3:∀ i,i<(aI m).au.length→Zf (g9 q ((aI m).au.getD i default))∧(1099511627776≤g9 q ((aI m).au.getD i default)→∃ j,j<m.au.length∧1099511627776≤g9 q (m.au.getD j default)):=fun i hi=>by
    obtain ⟨h1,h2⟩:=nx.1 (aC (l:=(aI m).au) (d:=default) hi)
    unfold j6 at h2
    rw[decide_eq_true_eq] at h2
    generalize (aI m).au.getD i default=c at *
    refine⟨?_,fun h=>?_⟩
    · unfold g9 jk
      rw[h2]
      split
      · exact .inl rfl
      · right;omega
    · obtain ⟨j,hj,rfl⟩:=sv h1
      exact⟨j,hj,by rw[aA,bX hj];exact h⟩
  have s1:=vR _ fun i hi=>(z1 i hi).1
  have s2:=vR _ fun i hi=>(z2 i hi).1
  have s3:=vR _ fun i hi=>(z3 i hi).1
  have Gj:1099511627776≤bj (kL (aI m) q) (aI m).cls.length∨1099511627776≤bj (fun i=>jm (aI m) q ((aI m).ae.getD i default)) (aI m).ae.length∨1099511627776≤bj (fun i=>g9 q ((aI m).au.getD i default)) (aI m).au.length:=by
    unfold Zf at s1 s2 s3;omega
  rcases Gj with h | h | h
  · obtain ⟨i,hi,h4⟩:=EO _ (fun i hi=>(z1 i hi).1) h
    have:=(z1 i hi).2 h4
    have:=hA.2 i (by rwa [oS] at hi)
    omega
  · obtain ⟨i,hi,h4⟩:=EO _ (fun i hi=>(z2 i hi).1) h
    have:=(z2 i hi).2 h4
    have:=hB.2 i (by simpa [aI] using hi)
    omega
  · obtain ⟨i,hi,h4⟩:=EO _ (fun i hi=>(z3 i hi).1) h
    obtain ⟨j,hj,h5⟩:=(z3 i hi).2 h4
    have:=hC.2 j hj
    omega
theorem aed {m k:aj} (hm:VM m) (hk:VM k) (h:k.cls.map su=m.cls.map su):eC k=eC m:=by
  unfold eC
  rw[if_pos (eB.2 hm),if_pos (eB.2 hk)]
  exact IN _ _ _ h
theorem AI {m:aj} (hm:VM m) (l:List Int):eC (bN m l)=eC m:=by
  refine aed hm (ud hm _) ?_
  unfold bN gv
  dsimp only
  rw[uR]
  exact kU fun x _=>by simp
theorem AJ {r:aj} (hr:VM r) (hp:eC r≤1000):m7 r=0∧(tryD r).aX≤1099511627776∧((tryD r).aX=1099511627776↔¬ (eD r r.cls.length []).2<1099511627776):=by
  have hh:=sY hr
  obtain ⟨a1,a2,a3,a4,a5⟩:=EF hh (EG hh (by rw[UB hr];exact hp))
  obtain ⟨b1,b2,b3,b4,b5⟩:=EF hr (EG hr hp)
  have ah:(bz (aI r)).aX=(eD (aI r) (aI r).cls.length []).2:=congrArg Prod.snd a2
  have bh:(bz r).aX=(eD r r.cls.length []).2:=congrArg Prod.snd b2
  have hle:=Ue r r.cls.length []
  have hz:=ade hr
  have hb:=@Uy r
  have hl:=@IL r
  refine⟨?_,?_,?_⟩
  · unfold m7
    rw[if_neg (show ¬ (bz (aI r)).whole=false by rw[a1];simp),if_neg (show ¬ (bz r).whole=false by rw[b1];simp)]
    split<;>rfl
  · unfold tryD
    split
    · rw[ah];omega
    · rw[bh];exact hle
  · unfold tryD
    by_cases hc:vv r
    · rw[if_pos hc]
      by_cases ht:(bz (aI r)).aX=1099511627776
      · refine⟨fun _ bw=>?_,fun _=>ht⟩
        obtain ⟨h1,h2⟩:=hb bw
        have h3:=IL (Vu h1)
        have:=aeb hr h1 (by omega)
        omega
      · refine⟨fun h=>absurd h ht,fun h=>?_⟩
        exfalso
        refine h ?_
        have h1:=hc.resolve_left ht
        have vu:=(yJ hh (spl:=20000) (by decide) (p0:=[]) (t0:=1099511627776) (.inl ⟨rfl,rfl⟩)).1
        obtain ⟨h2,_,_⟩:=vu.resolve_left (fun e=>ht e.2)
        have h3:FP r (bz (aI r)).plan:=⟨by rw[← oS r];exact h2.len,fun j hj=>by rw[← AP r];exact h2.get j hj⟩
        have:=hl h3
        omega
    · rw[if_neg hc,bh]
      omega
end T
namespace T
def r8 (r:aj):Int:=if m7 r=0 then (tryD r).aX else 0
def xC (m:aj):List Int→List Int→List Int × Int
  | [],l=>(l,0)
  | n::ns,l=>if m7 (bN m (bU l n))≠0 then ([],m7 (bN m (bU l n))) else xC m ns (if r8 (bN m (bU l n))=1099511627776 then bU l n else l)
def jK (m:aj):List Int × Int :=
  if m7 (bN m (fq m))≠0 then ([],m7 (bN m (fq m))) else if r8 (bN m (fq m))<1099511627776 then ([],60) else xC m (fq m) (fq m)
def ik (m:aj):List Int × Int:=if dz m≠0 then ([],dz m) else jK m
def iC (m:aj) (l:List Int):Bool:=decide ((eD (bN m l) (bN m l).cls.length []).2<1099511627776)
def pV (m:aj):List Int→List Int→List Int
  | [],l=>l
  | n::ns,l=>pV m ns (if iC m (bU l n)=true then l else bU l n)
def sT (m:aj):List Int × Int:=if iC m (bU (fq m) (-1))=true then ([],60) else (pV m (fq m) (fq m),0)
def sS (m:aj):List Int × Int:=if dz m≠0 then ([],dz m) else sT m
theorem G0 {l:List Int} {n:Int} (h:n ∉ l):bU l n=l:=List.filter_eq_self.2 fun x hx=>by
  simp only[Bool.not_eq_true',beq_eq_false_iff_ne,ne_eq]
  exact fun e=>h (e ▸ hx)
theorem Vv {m:aj}:(-1:Int) ∉ fq m:=fun h=>by
  unfold fq at h
  obtain ⟨i,_,hi⟩:=ca.1 h
  omega
theorem Vw {m:aj} (hm:VM m) (hp:eC m≤1000) (l:List Int):m7 (bN m l)=0∧r8 (bN m l)≤1099511627776∧(r8 (bN m l)=1099511627776↔iC m l=false):=by
  obtain ⟨h1,h2,h3⟩:=AJ (ud hm (fW m.rules l)) (by
    have:=AI hm l
    unfold bN at this
    omega)
  refine⟨h1,?_,?_⟩
  · unfold r8 bN at *
    rw[if_pos h1];exact h2
  · unfold r8 iC bN at *
    rw[if_pos h1,h3,decide_eq_false_iff_not]
theorem Vx {m:aj} (hm:VM m) (hp:eC m≤1000):∀ (ns l:List Int),xC m ns l=(pV m ns l,0)
  | [],l=>rfl
  | n::ns,l=>by
    obtain ⟨h1,h2,h3⟩:=Vw hm hp (bU l n)
    rw[xC,pV,if_neg (by omega),Vx hm hp ns]
    cases hb:iC m (bU l n)
    · rw[if_pos (h3.2 hb)];rfl
    · rw[if_neg (fun h=>by rw[h3.1 h] at hb;cases hb)];rfl
theorem Du {m:aj} (hm:VM m) (hp:eC m≤1000):jK m=sT m:=by
  obtain ⟨h1,h2,h3⟩:=Vw hm hp (fq m)
  unfold jK sT
  rw[if_neg (by omega),G0 Vv,Vx hm hp]
  cases hb:iC m (fq m)
  · have:=h3.2 hb
    rw[if_neg (by omega),if_neg (by simp)]
  · rw[if_pos (by
      have:r8 (bN m (fq m))≠1099511627776:=fun h=>by rw[h3.1 h] at hb;cases hb
      omega),if_pos rfl]
end T
namespace T
def tx (a b:Int):Prop:=(a=0∨a=1099511627776)∧(a=1099511627776→b=1099511627776)
theorem tx.min {a b x y:Int} (h:tx a b) (hx:x=0∨x=1099511627776) (mz:x=1099511627776→1099511627776≤y):tx (min a x) (min b y):=by
  obtain ⟨h1,h2⟩:=h
  refine⟨by omega,fun e=>?_⟩
  have:=h2 (by omega)
  have:=mz (by omega)
  omega
theorem Vy {α:Type} {f g:α→Int}:∀ (xs:List α) (s:List Bool) (a b:Int),(∀ x∈xs,(f x=0∨f x=1099511627776)∧(f x=1099511627776→1099511627776≤g x))→tx a b→tx (iS (xs.map f) s a) (iS (xs.map g) s b)
  | [],s,a,b,_,h=>by cases s<;>exact h
  | x::r,[],a,b,_,h=>h
  | x::r,i::s,a,b,hx,h=>by
    rw[dO,dO,iS,iS]
    refine Vy r s _ _ (fun y hy=>hx y (by simp[hy])) ?_
    split
    · exact h.min (hx x (by simp)).1 (hx x (by simp)).2
    · exact h
theorem aee (az:List Int) (i:Nat):(az.map lu).getD i 0=lu (az.getD i 0):=HC _ _ _ _ _ (by decide)
theorem Vz {az:List Int} {w i:Nat} {x:Bool}:∀ (r:List Bool) (k:Nat) (a b:Int),tx a b→tx (rM (az.map lu) w i x k r a) (rM az w i x k r b)
  | [],k,a,b,h=>h
  | y::r,k,a,b,h=>by
    rw[rM,rM,aee]
    refine Vz r (k+1) _ _ ?_
    split
    · refine h.min ?_ ?_
      · unfold lu;split<;>simp
      · unfold lu;split<;>omega
    · exact h
theorem VA {az:List Int} {w:Nat} {rb:List Bool}:∀ (r:List Bool) (i:Nat) (a b:Int),tx a b→tx (qG (az.map lu) w rb i r a) (qG az w rb i r b)
  | [],i,a,b,h=>h
  | x::r,i,a,b,h=>by
    rw[qG,qG]
    exact VA r (i+1) _ _ (Vz rb 0 a b h)
theorem VB:∀ (l:List Int) (a:Int),a≤1099511627776→l.foldl dw a≤1099511627776
  | [],a,h=>h
  | x::l,a,h=>VB l _ (by unfold dw;omega)
theorem aef {R:Int} {o:bx} (hc:dj R none o.ch=true):(jg (fI o)=0∨jg (fI o)=1099511627776)∧(jg (fI o)=1099511627776→1099511627776≤jg o):=by
  have h1:=IM o
  have h2:jg (fI o)≤1099511627776:=VB _ _ (by decide)
  unfold Zf at h1
  exact⟨by omega,fun h=>Vt hc (by omega)⟩
theorem VC {R:Int} {left:List (List Bool)}:∀ (l:List (List bx)) (i:Nat) (a b:Int),(∀ c∈l,∀ o∈c,dj R none o.ch=true)→(mc left i (l.map fun c=>c.map fI) a=none→mc left i l b=none)∧(∀ k,mc left i (l.map fun c=>c.map fI) a=some k→k=a)
  | [],i,a,b,_=>⟨fun h=>(by cases h),fun k h=>(by cases h;rfl)⟩
  | c::r,i,a,b,hc=>by
    have hr:=Vy (f:=fun o=>jg (fI o)) (g:=jg) c (left.getD i default) 1099511627776 1099511627776 (fun o ho=>aef (hc c (by simp) o ho)) ⟨.inr rfl,fun _=>rfl⟩
    have e1:jL (c.map fI)=c.map fun o=>jg (fI o):=by unfold jL;rw[uR];rfl
    have e2:jL c=c.map jg:=rfl
    rw[← e1,← e2] at hr
    rw[dO,mc,mc]
    rcases hr.1 with h | h
    · rw[h,if_neg (by decide),xQ]
      obtain ⟨h1,h2⟩:=VC (R:=R) (left:=left) r (i+1) a (b+iS (jL c) (left.getD i default) 1099511627776) (fun c' h'=>hc c' (by simp[h']))
      refine⟨fun hn=>?_,h2⟩
      split
      · rfl
      · exact h1 hn
    · rw[if_pos h,if_pos (hr.2 h)]
      exact⟨fun _=>rfl,fun k hk=>(by cases hk)⟩
theorem VE {m:aj} {left:List (List Bool)}:∀ (l:List Pr) (a b:Int),(mI (aI m) left (l.map iw) a=none→mI m left l b=none)∧(∀ k,mI (aI m) left (l.map iw) a=some k→k=a)
  | [],a,b=>⟨fun h=>(by cases h),fun k h=>(by cases h;rfl)⟩
  | p::r,a,b=>by
    have hr:tx (n6 (aI m) left (iw p)) (n6 m left p):=by
      unfold n6
      rw[show (iw p).snd=p.snd from rfl,show (iw p).fst=p.fst from rfl,show (iw p).az=p.az.map lu from rfl,xq]
      exact VA _ 0 _ _ ⟨.inr rfl,fun _=>rfl⟩
    rw[dO,mI,mI]
    rcases hr.1 with h | h
    · rw[h,if_neg (by decide),xQ]
      obtain ⟨h1,h2⟩:=VE (m:=m) (left:=left) r a (b+n6 m left p)
      refine⟨fun hn=>?_,h2⟩
      split
      · rfl
      · exact h1 hn
    · rw[if_pos h,if_pos (hr.2 h)]
      exact⟨fun _=>rfl,fun k hk=>(by cases hk)⟩
theorem I9 {left:List (List Bool)}:∀ (l:List Ct) (a b:Int),(me left (l.filter fun c=>j6 c.bL) a=none→me left l b=none)∧(∀ k,me left (l.filter fun c=>j6 c.bL) a=some k→k=a)
  | [],a,b=>⟨fun h=>(by cases h),fun k h=>(by cases h;rfl)⟩
  | c::r,a,b=>by
    rw[List.filter_cons]
    by_cases hF:j6 c.bL=true
    · rw[if_pos hF,me,me]
      by_cases h:m8 left c=1099511627776
      · rw[if_pos h,if_pos h]
        exact⟨fun _=>rfl,fun k hk=>(by cases hk)⟩
      · have h0:m8 left c=0:=by
          unfold j6 at hF
          rw[decide_eq_true_eq] at hF
          unfold m8 w9 at h ⊢
          generalize pK c.aS left none c.aS (-c.most)=g at *
          rw[hF] at h ⊢
          by_cases hg:0<max g 0
          · rw[if_pos ⟨hg,rfl⟩] at h
            exact absurd rfl h
          · rw[if_neg (fun e=>hg e.1),show max g 0=0 by omega];decide
        rw[h0,if_neg (by decide),if_neg (by decide),xQ,xQ]
        exact I9 r a b
    · rw[if_neg hF,me]
      obtain ⟨h1,h2⟩:=I9 (left:=left) r a (b+m8 left c)
      refine⟨fun hn=>?_,h2⟩
      split
      · rfl
      · exact h1 hn
theorem aeg {m:aj} (hm:VM m) {left:List (List Bool)} (h:dN (aI m) left=1099511627776):dN m left=1099511627776:=by
  have h1:=fun a b=>VC (R:=m.rules) (left:=left) m.cls 0 a b hm.kI
  have h2:=fun a b=>VE (m:=m) (left:=left) m.ae a b
  have h3:=fun a b=>I9 (left:=left) m.au a b
  unfold dN at h ⊢
  rw[show (aI m).cls=m.cls.map fun c=>c.map fI from rfl] at h
  cases e1:mc left 0 (m.cls.map fun c=>c.map fI) 0 with
  | none=>rw[(h1 0 0).1 e1];rfl
  | some k =>
    rw[e1] at h
    have:=(h1 0 0).2 k e1
    subst this
    cases e2:mI (aI m) left (m.ae.map iw) 0 with
    | none =>
      cases e4:mc left 0 m.cls 0 with
      | none=>rfl
      | some b=>rw[show vy m left (some b)=mI m left m.ae b from rfl,(h2 0 b).1 e2];rfl
    | some k2 =>
      rw[show vy (aI m) left (some 0)=mI (aI m) left (m.ae.map iw) 0 from rfl,e2] at h
      have:=(h2 0 0).2 k2 e2
      subst this
      cases e3:me left (m.au.filter fun c=>j6 c.bL) 0 with
      | none =>
        cases e4:vy m left (mc left 0 m.cls 0) with
        | none=>rfl
        | some b=>rw[show vz m left (some b)=me left m.au b from rfl,(h3 0 b).1 e3];rfl
      | some k3 =>
        rw[show vz (aI m) left (some 0)=me left (m.au.filter fun c=>j6 c.bL) 0 from rfl,e3] at h
        have:=(h3 0 0).2 k3 e3
        subst this
        exact absurd h (by decide)
theorem aeh {m:aj} {left:List (List Bool)} (h:eG m left):eG (aI m) left:=⟨by rw[oS];exact h.1,fun i hi=>by rw[xq];exact h.2 i hi⟩
theorem aei {m:aj} (hm:VM m) {left:List (List Bool)} (hf:eG m left) (h:1099511627776≤tv (aI m) left):tv m left=1099511627776:=by
  unfold tv at *
  rw[← Bb (sY hm) (aeh hf)] at h
  rw[← Bb hm hf]
  have:=ac8 (aI m) left
  exact aeg hm (by omega)
theorem aej {m:aj} {left:List (List Bool)} (h:eG m left) (c o:Nat):eG m (bT left c o):=by
  unfold bT
  refine⟨by rw[bI];exact h.1,fun i hi=>?_⟩
  rw[bI] at hi
  by_cases e:c=i
  · subst e
    rw[aA,List.getElem?_set_self hi]
    show (lI _ _).length=_
    rw[DF]
    exact h.2 _ hi
  · rw[aA,bm e,← aA]
    exact h.2 i hi
mutual
theorem Tr.BO {m:aj} (hm:VM m) {P:List Nd} {lo hi:Nat} {left:List (List Bool)} {ab v:List Int}:Tr (aI m) P lo hi left ab v→eG m left→(∀ x∈v,1099511627776≤x)→∃ w,Tr m P lo hi left ab w∧∀ x∈w,x=1099511627776
  | .leaf _ _ _ h ha,hf,hv=>⟨_,.leaf _ _ _ h ha,fun x hx=>by
    rw[List.mem_singleton.1 hx]
    exact aei hm hf (hv _ (by simp))⟩
  | .node _ _ _ _ c ks vs h hc ha hk hs,hf,hv=>by
    obtain ⟨w,h1,h2⟩:=j5.BO hm hs hf hv
    exact⟨w,.node _ _ _ _ c ks w h (by rw[← oS m];exact hc) ha (by rw[← xq m];exact hk) h1,h2⟩
theorem j5.BO {m:aj} (hm:VM m) {P:List Nd} {lo hi:Nat} {left:List (List Bool)} {c:Nat} {ab:List Int} {o:Nat} {ks v:List Int}:j5 (aI m) P lo hi left c ab o ks v→eG m left→(∀ x∈v,1099511627776≤x)→∃ w,j5 m P lo hi left c ab o ks w∧∀ x∈w,x=1099511627776
  | .nil _ _ _ _ _,_,_=>⟨[],.nil _ _ _ _ _,fun x hx=>(by cases hx)⟩
  | .cons _ mid _ _ _ _ _ _ _ _ h hs,hf,hv=>by
    obtain ⟨w1,a1,a2⟩:=Tr.BO hm h (aej hf _ _) fun x hx=>hv x (by simp[hx])
    obtain ⟨w2,b1,b2⟩:=j5.BO hm hs hf fun x hx=>hv x (by simp[hx])
    exact⟨w1++w2,.cons _ mid _ _ _ _ _ _ _ _ a1 b1,fun x hx=>(List.mem_append.1 hx).elim (a2 x) (b2 x)⟩
end
end T
namespace T
theorem I' (R:Int) (l:List Int) (r:Int):du (fW R l) r=(decide (r.toNat<R.toNat) && l.contains ((r.toNat:Nat):Int)):=by
  unfold du fW
  rw[aA,cm]
  by_cases h:r.toNat<R.toNat
  · rw[List.getElem?_range h,decide_eq_true h];simp
  · rw[List.getElem?_eq_none (by simpa using h),decide_eq_false h];simp
theorem Ja {α:Type} {p q s:α→Bool} (h:∀ x,s x=(p x && q x)) (l:List α):(l.filter p).filter q=l.filter s:=by
  rw[List.filter_filter]
  exact List.filter_congr fun x _=>by rw[h,Bool.and_comm]
theorem aek {m:aj} {k1 k2 k3:List Bool} (h:∀ r,du k3 r=(du k1 r && du k2 r)):gv (gv m k1) k2=gv m k3:=by
  unfold gv
  dsimp only
  rw[uR,Ja (s:=fun p:Pr=>du k3 p.aV) (fun p=>h p.aV),Ja (s:=fun c:Ct=>du k3 c.aV) (fun c:Ct=>h c.aV)]
  congr 1
  refine kU fun l _=>?_
  rw[Function.comp_apply,uR]
  refine kU fun o _=>?_
  rw[Function.comp_apply]
  unfold jM
  dsimp only
  rw[Ja (s:=fun c:Int × Int=>du k3 c.1) (fun c:Int × Int=>h c.1)]
theorem ael (m:aj) {l l1 l2:List Int} (h:∀ x,x∈l2↔x∈l1∧x∈l):bN (bN m l1) l=bN m l2:=by
  unfold bN
  refine aek fun r=>?_
  show _=(_ && du (fW m.rules l) r)
  rw[I',I',I']
  have hx:=h ((r.toNat:Nat):Int)
  rw[Bool.eq_iff_iff]
  simp only[bk,decide_eq_true_eq,List.contains_iff_mem]
  constructor
  · rintro ⟨a,b⟩;exact⟨⟨a,(hx.1 b).1⟩,a,(hx.1 b).2⟩
  · rintro ⟨⟨a,b⟩,_,c⟩;exact⟨a,hx.2 ⟨b,c⟩⟩
theorem Jb {m:aj} {l q:List Int}:FP (bN m l) q↔FP m q:=by
  unfold bN
  exact⟨fun h=>⟨by rw[h.len,A4],fun j hj=>by rw[← HG m (fW m.rules l)];exact h.get j hj⟩,fun h=>⟨by rw[A4];exact h.len,fun j hj=>by rw[HG];exact h.get j hj⟩⟩
theorem VF {m:aj} {l:List Int}:iC m l=true↔∃ q,FP m q∧fM (bN m l) q<1099511627776:=by
  unfold iC
  rw[decide_eq_true_eq]
  constructor
  · intro h
    obtain ⟨h1,h2⟩:=Uy h
    exact⟨_,Jb.1 h1,by rw[h2];exact h⟩
  · rintro ⟨q,h1,h2⟩
    have:=IL (m:=bN m l) (Jb.2 h1)
    omega
theorem aem {m:aj} (hm:VM m) {l l':List Int} (h:∀ x∈l,x∈l') (hp:iC m l'=true):iC m l=true:=by
  obtain ⟨q,h1,h2⟩:=VF.1 hp
  refine VF.2 ⟨q,h1,Int.lt_of_le_of_lt ?_ h2⟩
  rw[← ael m (l1:=l') (l:=l) (l2:=l) fun x=>⟨fun hx=>⟨h x hx,hx⟩,fun hx=>hx.2⟩]
  exact (ud hm _:VM (bN m l')) |> fun hv=>Cut.total hv _ q
theorem VG {l:List Int} {n x:Int}:x∈bU l n↔x∈l∧x≠n:=by
  unfold bU
  rw[nx]
  simp
theorem Jc {m:aj} (hm:VM m):∀ (ns A:List Int),iC m A=false→iC m (pV m ns A)=false∧(∃ p:Int→Bool,pV m ns A=A.filter p)∧∀ x∈pV m ns A,x∈ns→iC m (bU (pV m ns A) x)=true
  | [],A,h=>⟨h,⟨fun _=>true,(List.filter_eq_self.2 fun _ _=>rfl).symm⟩,fun x _ hx=>by cases hx⟩
  | n::ns,A,h=>by
    rw[pV]
    by_cases hp:iC m (bU A n)=true
    · rw[if_pos hp]
      obtain ⟨h1,⟨p,h2⟩,h3⟩:=Jc hm ns A h
      refine⟨h1,⟨p,h2⟩,fun x hx hn=>?_⟩
      rcases cu.1 hn with e | e
      · rw[e]
        refine aem hm (l':=bU A n) (fun y hy=>?_) hp
        rw[VG] at hy ⊢
        rw[h2] at hy
        exact⟨(nx.1 hy.1).1,hy.2⟩
      · exact h3 x hx e
    · rw[if_neg hp]
      obtain ⟨h1,⟨p,h2⟩,h3⟩:=Jc hm ns (bU A n) (by simpa using hp)
      refine⟨h1,⟨fun x=>p x && !(x == n),?_⟩,fun x hx hn=>?_⟩
      · rw[h2]
        unfold bU
        rw[List.filter_filter]
      · rcases cu.1 hn with e | e
        · exfalso
          rw[h2,e] at hx
          exact (VG.1 (nx.1 hx).1).2 rfl
        · exact h3 x hx e
theorem aen {m:aj} {x:Int}:x∈fq m↔0≤x∧x<m.rules:=by
  unfold fq
  rw[ca]
  constructor
  · rintro ⟨i,hi,rfl⟩
    have:=lP.1 hi
    omega
  · intro h
    exact⟨x.toNat,lP.2 (by omega),by omega⟩
theorem aeo (m:aj):(fq m).Pairwise (· < ·):=by
  unfold fq
  rw[List.pairwise_map]
  exact List.pairwise_lt_range.imp fun h=>by omega
structure sU (m:aj) (l:List Int):Prop where
  no:iC m l=false
  sub :∃p:Int→Bool,l=(fq m).filter p
  one:∀ x∈l,iC m (bU l x)=true
theorem Dv {m:aj} (hm:VM m) (hp:eC m≤1000) (h:(jK m).2=0):sU m (jK m).1:=by
  rw[Du hm hp] at h ⊢
  unfold sT at *
  rw[G0 Vv] at *
  by_cases hb:iC m (fq m)=true
  · rw[if_pos hb] at h
    exact absurd h (by decide)
  · rw[if_neg hb] at h ⊢
    obtain ⟨h1,⟨p,h2⟩,h3⟩:=Jc hm (fq m) (fq m) (by simpa using hb)
    refine⟨h1,⟨p,h2⟩,fun x hx=>h3 x hx ?_⟩
    have hx:x∈pV m (fq m) (fq m):=hx
    rw[h2] at hx
    exact (nx.1 hx).1
theorem ZE {m:aj} (hm:VM m) (hp:eC m≤1000) (h:(jK m).2≠0):jK m=([],60):=by
  rw[Du hm hp] at h ⊢
  unfold sT at *
  by_cases hb:iC m (bU (fq m) (-1))=true
  · rw[if_pos hb]
  · rw[if_neg hb] at h
    exact absurd rfl h
theorem sU.mem {m:aj} {l:List Int} (h:sU m l):∀ x∈l,0≤x∧x<m.rules:=by
  obtain ⟨p,hp⟩:=h.sub
  intro x hx
  rw[hp] at hx
  exact aen.1 (nx.1 hx).1
theorem sU.asc {m:aj} {l:List Int} (h:sU m l):l.Pairwise (· < ·):=by
  obtain ⟨p,hp⟩:=h.sub
  rw[hp]
  exact (aeo m).filter p
theorem sU.ru {m:aj} (hm:VM m) {l:List Int} (h:sU m l):mG m l:=⟨by
  obtain ⟨p,hp⟩:=h.sub
  rw[hp]
  exact Nat.le_trans (List.length_filter_le _ _) (IP hm).1,h.mem⟩
end T
namespace T
structure ue where
  rules:List Int
  nodes:List Nd
  sV:List (List Int)
def pH (c:ue):List AV:=[.tree 1 (ints c.rules),.tree 5 (rowsOf cL c.nodes),.tree 1 (fE c.sV)]
def qx:ue:=⟨[],[],[]⟩
def nU (f:Nat→Bool):Nat→Nat→Bool
  | 0,_=>true
  | w+1,i=>f i && nU f w (i+1)
theorem zx {f:Nat→Bool}:∀ {w i:Nat},nU f w i=true↔∀ j,i≤j→j<i+w→f j=true
  | 0,i=>⟨fun _ j h1 h2=>by omega,fun _=>rfl⟩
  | w+1,i=>by
    rw[nU,bk,zx (w:=w)]
    constructor
    · rintro ⟨h1,h2⟩ j h3 h4
      rcases Nat.eq_or_lt_of_le h3 with e | e
      · exact e ▸ h1
      · exact h2 j e (by omega)
    · intro h
      exact⟨h i (aG _) (by omega),fun j h1 h2=>h j (by omega) (by omega)⟩
def oP (R:Int) (l:List Int) (i:Nat):Bool:=decide (0≤l.getD i 0∧l.getD i 0<R∧(i=0∨l.getD (i - 1) 0<l.getD i 0))
def Dy (m:aj) (c:ue) (i:Nat):Bool:=decide (w6 m (c.sV.getD i default)=0∧(nV (bN m (bU c.rules (c.rules.getD i 0))) (c.sV.getD i default)).2.2=0∧(nV (bN m (bU c.rules (c.rules.getD i 0))) (c.sV.getD i default)).1<1099511627776)
def Dx (m:aj) (c:ue):Bool:=decide (l9 (bN m c.rules) c.nodes=(1099511627776,true))
def yG (m:aj) (c:ue):Bool:=decide (dz m=0∧c.sV.length=c.rules.length) && (nU (oP m.rules c.rules) c.rules.length 0 && (Dx m c && nU (Dy m c) c.rules.length 0))
theorem aeq {R:Int} {l:List Int} (h:nU (oP R l) l.length 0=true):∀ i:Nat,i<l.length→(i:Int)≤l.getD i 0:=by
  intro i
  induction i with
  | zero =>
    intro hi
    have:=zx.1 h 0 (aG _) (by omega)
    unfold oP at this
    rw[decide_eq_true_eq] at this
    exact this.1
  | succ i ih =>
    intro hi
    have h1:=ih (by omega)
    have:=zx.1 h (i+1) (aM _) (by omega)
    unfold oP at this
    rw[decide_eq_true_eq,Nat.add_sub_cancel] at this
    omega
theorem ZK {m:aj} (hm:VM m) {l:List Int} (h:nU (oP m.rules l) l.length 0=true):mG m l:=by
  have hr:=hm.im
  have ei:∀ i,i<l.length→0≤l.getD i 0∧l.getD i 0<m.rules:=fun i hi=>by
    have:=zx.1 h i (aM _) (by omega)
    unfold oP at this
    rw[decide_eq_true_eq] at this
    exact⟨this.1,this.2.1⟩
  refine⟨?_,fun x hx=>?_⟩
  · rcases mR l.length with e | e
    · omega
    · have h1:=aeq h (l.length - 1) (by omega)
      have h2:=ei (l.length - 1) (by omega)
      omega
  · obtain ⟨i,hi,rfl⟩:=List.mem_iff_getElem.1 hx
    have:=ei i hi
    rw[aA,bX hi] at this
    exact this
theorem aer {m:aj} {l:List Int} (h:l.Pairwise (· < ·)) (ei:∀ x∈l,0≤x∧x<m.rules):nU (oP m.rules l) l.length 0=true:=by
  refine zx.2 fun j _ hj=>?_
  have hj:j<l.length:=by omega
  unfold oP
  rw[decide_eq_true_eq]
  have h1:=ei _ (aC (d:=(0:Int)) hj)
  refine⟨h1.1,h1.2,?_⟩
  rcases mR j with e | e
  · exact .inl e
  · right
    have:=List.pairwise_iff_getElem.1 h (j - 1) j (by omega) hj (by omega)
    rw[aA,bX (by omega),aA,bX hj]
    exact this
theorem GZ {r:aj} (hr:VM r) (hp:eC r≤1000) (ht:(tryD r).aX≠1099511627776):FP r (tryD r).plan∧fM r (tryD r).plan<1099511627776∧(tryD r).aX<1099511627776:=by
  have hh:=sY hr
  have h2:=(AJ hr hp).2.1
  have k1:=(yJ hh (spl:=20000) (by decide) (p0:=[]) (t0:=1099511627776) (.inl ⟨rfl,rfl⟩)).1
  have k2:=(yJ hr (spl:=20000) (by decide) (p0:=[]) (t0:=1099511627776) (.inl ⟨rfl,rfl⟩)).1
  change oT (aI r) (bz (aI r)).plan (bz (aI r)).aX at k1
  change oT r (bz r).plan (bz r).aX at k2
  refine⟨?_,?_,by omega⟩
  · unfold tryD at *
    split at ht
    · rename_i hc
      rw[if_pos hc]
      obtain ⟨a,_,_⟩:=k1.resolve_left fun e=>ht e.2
      exact⟨by rw[← oS r];exact a.len,fun j hj=>by rw[← AP r];exact a.get j hj⟩
    · rename_i hc
      rw[if_neg hc]
      exact (k2.resolve_left fun e=>ht e.2).1
  · unfold tryD at *
    split at ht
    · rename_i hc
      rw[if_pos hc]
      exact hc.resolve_left ht
    · rename_i hc
      rw[if_neg hc]
      obtain ⟨_,b,c⟩:=k2.resolve_left fun e=>ht e.2
      omega
theorem N5 {r:aj} (hr:VM r) (hp:eC r≤1000):PB (tryD r).nodes∧(tryD r).nodes.length≤20000∧((tryD r).aX=1099511627776→l9 r (tryD r).nodes=(1099511627776,true)):=by
  have hh:=sY hr
  obtain ⟨a1,a2,a3,a4,a5⟩:=EF hh (EG hh (by rw[UB hr];exact hp))
  obtain ⟨b1,b2,b3,b4,b5⟩:=EF hr (EG hr hp)
  have s1:=(yJ hh (spl:=20000) (by decide) (p0:=[]) (t0:=1099511627776) (.inl ⟨rfl,rfl⟩)).2.2.2.2.2.1
  have s2:=(yJ hr (spl:=20000) (by decide) (p0:=[]) (t0:=1099511627776) (.inl ⟨rfl,rfl⟩)).2.2.2.2.2.1
  change PB (bz (aI r)).nodes at s1
  change PB (bz r).nodes at s2
  unfold tryD
  split
  · refine⟨s1,a5,fun ht=>?_⟩
    have hd:=ED hh ((aI r).cls.length+1) (dD (aI r)) [] EE (by rw[(Dn.root hh).fit.1];simp) (Dn.root hh)
    obtain ⟨v,hv,rY⟩:=hd.tr [] (fun x hx=>by cases hx)
    have rY:(bz (aI r)).b9=lq v 1099511627776:=rY
    have hv:Tr (aI r) (bz (aI r)).nodes 0 (bz (aI r)).nodes.length (dD (aI r)) [] v:=hv
    rw[a3,ht] at rY
    have kQ:dD (aI r)=dD r:=by
      unfold dD
      rw[if_pos (eB.2 hh),if_pos (eB.2 hr)]
      unfold mL aI
      dsimp only
      rw[uR]
      exact kU fun x _=>by simp
    rw[kQ] at hv
    obtain ⟨w,h1,h2⟩:=hv.BO hr (Dn.root hr).fit fun x hx=>by
      have:=(EC v 1099511627776).2.1 x hx
      omega
    rw[h1.ec hr a5]
    have h3:=EC w 1099511627776
    have:lq w 1099511627776=1099511627776:=h3.2.2.elim id fun h=>h2 _ h
    rw[this]
  · refine⟨s2,b5,fun ht=>?_⟩
    rw[b4,ht]
def lg (m:aj) (l:List Int):ue:=⟨l,(tryD (bN m l)).nodes,l.map fun n=>(tryD (bN m (bU l n))).plan⟩
def pG (m:aj):ue × Int:=if dz m≠0 then (qx,dz m) else if (jK m).2≠0 then (qx,(jK m).2) else (lg m (jK m).1,0)
theorem ZA {m:aj} (hm:VM m) (hp:eC m≤1000) {l:List Int} (h:sU m l):yG m (lg m l)=true:=by
  have hv:∀ k,VM (bN m k):=fun k=>ud hm _
  have cq:∀ k,eC (bN m k)≤1000:=fun k=>by rw[AI hm];exact hp
  have key:∀ k,(tryD (bN m k)).aX=1099511627776↔iC m k=false:=fun k=>by
    have:=(AJ (hv k) (cq k)).2.2
    rw[this]
    unfold iC
    rw[decide_eq_false_iff_not]
  unfold yG
  rw[show (lg m l).rules=l from rfl,show (lg m l).sV.length=l.length from by unfold lg;simp,aer h.asc h.mem,decide_eq_true ⟨eB.2 hm,rfl⟩]
  have h1:Dx m (lg m l)=true:=by
    unfold Dx
    rw[decide_eq_true_eq]
    exact (N5 (hv l) (cq l)).2.2 ((key l).2 h.no)
  rw[h1]
  simp only[Bool.true_and]
  refine zx.2 fun j _ hj=>?_
  have hj:j<l.length:=by omega
  have hx:=aC (d:=(0:Int)) hj
  have hpj:(lg m l).sV.getD j default=(tryD (bN m (bU l (l.getD j 0)))).plan:=by
    unfold lg
    dsimp only
    rw[aA,cm,bX hj,aA,bX hj]
    rfl
  unfold Dy
  rw[hpj,show (lg m l).rules=l from rfl,decide_eq_true_eq]
  have jd:=h.one _ hx
  generalize l.getD j 0=n at *
  obtain ⟨a1,a2,a3⟩:=GZ (hv (bU l n)) (cq _) (fun e=>by rw[(key _).1 e] at jd;cases jd)
  have a4:=Jb.1 a1
  refine⟨ab1 hm a4,?_⟩
  rw[G4 (hv _) a1.pm]
  exact⟨rfl,a2⟩
end T

