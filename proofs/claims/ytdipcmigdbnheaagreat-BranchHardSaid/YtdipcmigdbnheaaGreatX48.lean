import Derived.Test.YtdipcmigdbnheaaGreatX44
import Derived.Test.YtdipcmigdbnheaaGreatX27
import Derived.Test.YtdipcmigdbnheaaGreatX43
set_option linter.unusedVariables false
set_option linter.unusedSimpArgs false
set_option linter.unnecessarySimpa false
set_option linter.unusedSectionVars false
set_option maxHeartbeats 64000000
set_option maxRecDepth 20000
open Nat renaming zero_le→aD,not_lt_zero→mV,eq_zero_or_pos→mY
open List renaming getElem_of_mem→p9,getD_eq_getElem?_getD→ay,getElem?_eq_getElem→bI,range→aT,getElem?_map→bN,getElem?_range→j3,replicate→bq,ext_getElem?→ju,getElem?_replicate_of_lt→GD,getElem?_eq_none→du,getElem?_set→bS,contains_iff_mem→q9,length_range→Gk,all_eq_true→fK,length_take→ez,append_assoc→cI,length_set→bm,take_length→sy
open Option renaming getD_some→kW,map_some→ed
open Int renaming eq_ofNat_of_zero_le→yE,toNat_natCast→eT
open Bool renaming true_and→g9,and_eq_true→bh
open Go Go.Am Go.Proofs
open Nat (reduceEqDiff reduceAdd reduceLeDiff reduceMul)
open Int (reduceNeg reduceLE reduceToNat)
open Go Go.Am
namespace T
theorem afp (m:ah) (a x b y:Int) (hm:VM m) (ha:eP m a x=true) (pP:eP m b y=true) :
    ao Tryz.prog 147 [.agg (ar m),.agg [.lit (.int .i64 a),.lit (.int .i64 x)],.agg [.lit (.int .i64 b),.lit (.int .i64 y)]] [] (.lit (.bool (tH m a x b y))) []:=by
  have dz:=hm.ae
  have hsw :∃A X B Y,eP m A X=true∧eP m B Y=true∧tH m a x b y=m.ae.any (tG m A X B Y)∧((b<a∧A=b∧X=y∧B=a∧Y=x)∨(¬ b<a∧A=a∧X=x∧B=b∧Y=y)):=by
    unfold tH
    by_cases h:b<a
    · exact⟨b,y,a,x,pP,ha,by rw[if_pos h],.inl ⟨h,rfl,rfl,rfl,rfl⟩⟩
    · exact⟨a,x,b,y,ha,pP,by rw[if_neg h],.inr ⟨h,rfl,rfl,rfl,rfl⟩⟩
  obtain ⟨A,X,B,Y,hA,hB,ca,gk⟩:=hsw
  generalize an:tH m a x b y=res at *
  refine ao.aF (fn:=Tryz.f147) 60 0 [.tmp 6] Tryz.func147 rfl rfl rfl rfl rfl (by simp) ?_
  repeat' (first|((fail_if_success (first|refine im 1 ?_|refine iq 1 ?_));refine Xr X0 ?_;intro K hK)|(refine hK _ ?_;clear hK K)|refine Xy ?_|fail)
  (refine TJ ?_);intro Q0 cV nk
  refine vt ⟨av [(3,.ptr 0 0 0),(4,.ptr 1 0 0),(5,.ptr 2 0 0)],[.var (ar m),.var [.lit (.int .i64 A),.lit (.int .i64 X)],.var [.lit (.int .i64 B),.lit (.int .i64 Y)]]⟩ cV ?_ (fun key=>?_)
  rotate_left
  · (try clear cV)
    rcases gk with ⟨h,rfl,rfl,rfl,rfl⟩ | ⟨h,rfl,rfl,rfl,rfl⟩
    all_goals
      ((repeat' (first|refine Va X0 ?_|(refine Xi ?_ ?_<;>try intro ht)|exact Xx|fail)))
      all_goals
        refine key _ ?_
        exact Xv X0
  (try clear cV)
  try (try clear Q0)
  clear gk
  refine Va X0 ?_
  refine aI (fun i:Nat=>(⟨av [(3,.ptr 0 0 0),(4,.ptr 1 0 0),(5,.ptr 2 0 0),(7,.lit (.int .i64 i))],[.var (ar m),.var [.lit (.int .i64 A),.lit (.int .i64 X)],.var [.lit (.int .i64 B),.lit (.int .i64 Y)]]⟩:St))
    (fun i=>i≤m.ae.length∧∀ a,a<i→tG m A X B Y (m.ae.getD a default)=false) (fun i=>m.ae.length - i) 0 ⟨aD _,fun a ha=>absurd ha (mV _)⟩ (Xv X0) ?_
  rintro i ⟨hi,lW⟩ Ql ak aq
  by_cases hi':i<m.ae.length
  · have tD:=az (l:=m.ae) (i:=i) (d:=default) hi'
    have dJ:=jn hm.pr _ tD
    have bD:tG m A X B Y (m.ae.getD i default)=false→∀ a,a<i+1→tG m A X B Y (m.ae.getD a default)=false:=fun h a ha=>by
      by_cases e:a=i
      · subst e;exact h
      · exact lW a (by omega)
    have WA:tG m A X B Y (m.ae.getD i default)=true→res=true:=fun h=>by
      rw[ca];exact List.any_eq_true.2 ⟨_,tD,h⟩
    obtain ⟨a1,a2,a3,a4⟩:=iy.1 hA
    obtain ⟨b1,b2,b3,b4⟩:=iy.1 hB
    obtain ⟨q1,q2,q3,q4,q5⟩:=mj dJ
    have xy:=hm.opt _ (az (l:=m.cls) (i:=A.toNat) (d:=default) (by omega))
    have mJ:=hm.opt _ (az (l:=m.cls) (i:=B.toNat) (d:=default) (by omega))
    have mc:=hm.cls
    generalize bT:m.ae.getD i default=p at *
    unfold tG nB at WA
    obtain ⟨fs,sn,ru,ax⟩:=p
    dsimp only at *
    by_cases CU:fs=A∧sn=B
    · obtain ⟨rfl,rfl⟩:=CU
      unfold tG nB at bD
      dsimp only at bD
      generalize hcA:m.cls.getD fs.toNat default=CA at *
      generalize WB:m.cls.getD sn.toNat default=CB at *
      obtain ⟨e1,e2,e3⟩:=uC ⟨a3,a4⟩ ⟨b3,b4⟩ (by omega) (by omega)
      generalize e7:X * (CB.length:Int)=ix at *
      have hA2:((CA.length * CB.length:Nat):Int)=CA.length * CB.length:=by simp
      generalize hv:ax.getD (ix+Y).toNat 0=v at *
      by_cases h3:v=1099511627776
      · have hr:=WA (decide_eq_true ⟨rfl,rfl,h3⟩)
        ((repeat' (first|refine Va (X5 @bT @aV.eq_1 @WB @bn.eq_1 (X2 @e7 @hv)) ?_|(refine Xi ?_ ?_<;>try intro ht)|exact Xx|fail)))
        all_goals
          repeat (refine Xu ?_)
          subst hr
          refine Vb X0 ?_
          exact aC rfl rfl
      · have bD:=bD (decide_eq_false fun h=>h3 h.2.2)
        ((repeat' (first|refine Va (X5 @bT @aV.eq_1 @WB @bn.eq_1 (X2 @e7 @hv)) ?_|(refine Xi ?_ ?_<;>try intro ht)|exact Xx|fail)))
        all_goals exact ak _ (i+1) ⟨by omega,bD⟩ (by omega) (Xs false [0,1,2] X0)
    · have bD:=bD (by unfold tG;exact decide_eq_false fun h=>CU ⟨h.1,h.2.1⟩)
      ((repeat' (first|refine Va (X2 @bT @aV.eq_1) ?_|(refine V2 (X2 @bT @aV.eq_1) ?_ ?_<;>try with_reducible intro hb)|(refine Xi ?_ ?_<;>try intro ht)|exact Xx|fail)))
      all_goals exact ak _ (i+1) ⟨by omega,bD⟩ (by omega) (Xs false [0,1,2] X0)
  · ((repeat' (first|refine Va X0 ?_|(refine V2 X0 ?_ ?_<;>try with_reducible intro hb)|(refine Xi ?_ ?_<;>try intro ht)|exact Xx|fail)))
    refine aq _ _ rfl ?_;clear ak aq Ql
    repeat (refine Xu ?_)
    have hr:res=false:=by
      rw[ca,List.any_eq_false]
      intro p hp
      obtain ⟨a,ha,rfl⟩:=p9 hp
      have:=lW a (by omega)
      rw[ay,bI ha,kW] at this
      rw[this];simp
    subst hr
    refine Vb X0 ?_
    exact aC rfl rfl
def oK (m:ah) (g:List Int):List Bool:=(aT m.cls.length).map fun (c:Nat)=>g.contains (c:Int)
theorem Kg (m:ah) (g:List Int):(oK m g).length=m.cls.length:=by simp[oK]
theorem afr {m:ah} (g:List Int) {c:Nat} (h:c<m.cls.length):(oK m g).getD c false=g.contains (c:Int):=by
  unfold oK
  rw[ay,bN,j3 h];rfl
theorem afs (m:ah):oK m []=bq m.cls.length false:=by
  apply ju
  intro j
  unfold oK
  rw[bN]
  by_cases h:j<m.cls.length
  · rw[j3 h,GD h];rfl
  · rw[du (by simp;omega),du (by simp;omega)];rfl
theorem WC {m:ah} (g:List Int) {c:Nat} (h:c<m.cls.length):oK m (g++[(c:Int)])=(oK m g).set c true:=by
  apply ju
  intro j
  rw[bS,Kg]
  unfold oK
  rw[bN,bN]
  by_cases hj:j<m.cls.length
  · rw[j3 hj,ed,ed]
    by_cases e:c=j
    · subst e;rw[if_pos rfl,if_pos h];simp
    · rw[if_neg e]
      congr 1
      rw[Bool.eq_iff_iff,q9,q9,List.mem_append,List.mem_singleton]
      constructor
      · rintro (h1 | h1)
        · exact h1
        · omega
      · exact .inl
  · rw[du (by simp;omega)]
    by_cases e:c=j
    · subst e;omega
    · rw[if_neg e];rfl
def jY (m:ah) (L:List (Int × Int)):List (List Bool):=(aT m.cls.length).map fun (c:Nat)=>(aT (m.cls.getD c default).length).map fun (o:Nat)=>L.any (oG (c:Int) (o:Int))
theorem An (m:ah) (L:List (Int × Int)):(jY m L).length=m.cls.length:=by simp[jY]
theorem FY {m:ah} (L:List (Int × Int)) {c:Nat} (h:c<m.cls.length):(jY m L).getD c default=(aT (m.cls.getD c default).length).map fun (o:Nat)=>L.any (oG (c:Int) (o:Int)):=by
  unfold jY
  rw[ay,bN,j3 h];rfl
theorem aft {m:ah} (L:List (Int × Int)) {c o:Nat} (h:c<m.cls.length) (ho:o<(m.cls.getD c default).length):((jY m L).getD c default).getD o false=L.any (oG (c:Int) (o:Int)):=by
  rw[FY L h,ay,bN,j3 ho];rfl
theorem afu (m:ah):jY m []=m.cls.map fun l=>bq l.length false:=by
  apply ju
  intro j
  unfold jY
  rw[bN,bN]
  by_cases h:j<m.cls.length
  · rw[j3 h,bI h,ed,ed]
    congr 1
    rw[ay,bI h,kW]
    apply ju
    intro o
    rw[bN]
    by_cases ho:o<m.cls[j].length
    · rw[j3 ho,GD ho];rfl
    · rw[du (by simp;omega),du (by simp;omega)];rfl
  · rw[du (by simp;omega),du (by omega)];rfl
theorem afv {m:ah} (L:List (Int × Int)) {c o:Nat} (h:c<m.cls.length) (ho:o<(m.cls.getD c default).length) :
    jY m (L++[((c:Int),(o:Int))])=(jY m L).set c (((jY m L).getD c default).set o true):=by
  apply ju
  intro j
  rw[bS,An,FY L h]
  by_cases hj:j<m.cls.length
  · have hg:∀ K,(jY m K)[j]?=some ((aT (m.cls.getD j default).length).map fun (o:Nat)=>K.any (oG (j:Int) (o:Int))):=fun K=>by
      unfold jY;rw[bN,j3 hj];rfl
    rw[hg,hg]
    by_cases e:c=j
    · subst e
      rw[if_pos rfl,if_pos h]
      congr 1
      apply ju
      intro q
      rw[bS,List.length_map,Gk,bN,bN]
      by_cases hq:q<(m.cls.getD c default).length
      · rw[j3 hq,ed,ed,List.any_append]
        by_cases e2:o=q
        · subst e2;rw[if_pos rfl,if_pos ho];simp[oG]
        · rw[if_neg e2]
          congr 1
          have:oG (c:Int) (q:Int) ((c:Int),(o:Int))=false:=by
            unfold oG;rw[decide_eq_false_iff_not,Prod.mk.injEq];omega
          simp[this]
      · rw[du (by rw[Gk];omega)]
        by_cases e2:o=q
        · subst e2;omega
        · rw[if_neg e2];rfl
    · rw[if_neg e]
      congr 2
      funext q
      rw[List.any_append]
      have:oG (j:Int) (q:Int) ((c:Int),(o:Int))=false:=by
        unfold oG;rw[decide_eq_false_iff_not,Prod.mk.injEq];omega
      simp[this]
  · rw[du (by rw[An];omega)]
    by_cases e:c=j
    · subst e;omega
    · rw[if_neg e,du (by rw[An];omega)]
theorem WD {m:ah} {g:List Int} {l:List (Int × Int)} {k:Nat} {c o:Int} (h:l.getD k default=(c,o)):ye m g l k=(g.contains c && eP m c o && (l.take k).all (uS m (c,o))):=by unfold ye;rw[h]
theorem afw {l:List (Int × Int)} {k:Nat} {f:Int × Int→Bool} (hk:k≤l.length) (h:∀ j,j<k→f (l.getD j default)=true):(l.take k).all f=true:=by
  rw[fK]
  intro x hx
  obtain ⟨j,hj,rfl⟩:=p9 hx
  rw[ez] at hj
  have:=h j (by omega)
  rw[ay,bI (show j<l.length by omega)] at this
  rw[List.getElem_take];exact this
theorem afx {l:List (Int × Int)} {k j:Nat} {f:Int × Int→Bool} (hk:k≤l.length) (hj:j<k) (h:f (l.getD j default)=false):(l.take k).all f=false:=by
  refine all_false (x:=l.getD j default) ?_ h
  rw[ay,bI (show j<l.length by omega),List.mem_take_iff_getElem]
  exact⟨j,by omega,rfl⟩
theorem afy (cells:List (List (Int × Int))) (f:Int × Int→Bool):(cells.any fun l=>l.any f)=cells.flatten.any f:=by
  induction cells with
  | nil=>rfl
  | cons x r ih=>rw[List.any_cons,List.flatten_cons,List.any_append,ih]
theorem afz {cells:List (List (Int × Int))} {a:Nat} (h:a<cells.length):(cells.take (a+1)).flatten=(cells.take a).flatten++cells.getD a default:=by
  rw[eu h,List.flatten_append];simp
theorem ZU (m:ah) (x:Nd) (left:List (List Bool)) (hm:VM m) (hf:dN m left) (ni:x.cM.length<9223372036854775808) (mM:x.cells.length<9223372036854775808) (WE:∀ l∈x.cells,l.length<9223372036854775808) :
    ao Tryz.prog 96 [.agg (ar m),.agg (aM x),.tree 1 (rowsOf aE left)] [] (.lit (.bool (mr m x left))) []:=by
  have mc:=hm.cls
  have wq:=hf.1
  generalize an:mr m x left=res
  have Kh:=fun h=>an.symm.trans (aev (m:=m) (x:=x) (left:=left) h)
  have Ki:=fun h=>an.symm.trans (aew (m:=m) (x:=x) (left:=left) h)
  have Kj:=fun h=>an.symm.trans (aex (m:=m) (x:=x) (left:=left) h)
  have WG:=fun h=>an.symm.trans (aey (m:=m) (x:=x) (left:=left) h)
  have Ao:=fun h1 h2 h3 h4=>an.symm.trans (aez (m:=m) (x:=x) (left:=left) h1 h2 h3 h4)
  obtain ⟨xc,xk,xm,g,cells⟩:=x
  dsimp only at ni mM WE Kh Ki Kj WG Ao
  refine ao.aF (fn:=Tryz.f96) 208 0 [.tmp 6] Tryz.func96 rfl rfl rfl rfl rfl (by simp) ?_
  by_cases bj:cells.length<g.length
  rotate_left
  · have hr:=Ki bj
    subst hr
    ((repeat' (first|refine Vb @aM.eq_1 ?_|(refine Xi ?_ ?_<;>try intro ht)|exact Xx|fail)))
    exact aC rfl rfl
  ((repeat' (first|refine Va @aM.eq_1 ?_|(refine Xi ?_ ?_<;>try intro ht)|exact Xx|fail)))
  have hN0:dt [(3,.arr 1 []),(0,.var (ar m)),(1,.var (aM ⟨xc,xk,xm,g,cells⟩)),(2,.arr 1 (bg (bq m.cls.length false)))] [] [] [.var (ar m),.var (aM ⟨xc,xk,xm,g,cells⟩),.arr 1 (bg (bq m.cls.length false)),.arr 1 []] :=
    ⟨by simp,rfl,by simp,(show ([3,0,1,2]:List Nat).Nodup by decide)⟩
  refine aI (fun z:Nat × List (List Bool) × List Ob × Nat × List (Nat × Nat)=>(⟨av [(2,.tree 1 (rowsOf aE left)),(3,.ptr 0 0 0),(4,.ptr 1 0 0),(7,.ref 2 1 0 m.cls.length),(8,.ref z.2.2.2.1 1 0 z.2.2.2.2.length),(9,.lit (.int .i64 z.1))],z.2.2.1⟩:St))
    (fun z=>z.1≤m.cls.length∧z.2.1=(jY m []).take z.1∧dt [(z.2.2.2.1,.arr 1 (rowsOf ln z.2.2.2.2)),(0,.var (ar m)),(1,.var (aM ⟨xc,xk,xm,g,cells⟩)),(2,.arr 1 (bg (bq m.cls.length false)))] z.2.2.2.2 z.2.1 z.2.2.1) (fun z=>m.cls.length - z.1) (0,[],[.var (ar m),.var (aM ⟨xc,xk,xm,g,cells⟩),.arr 1 (bg (bq m.cls.length false)),.arr 1 []],3,[]) ⟨aD _,rfl,hN0⟩ ?_ ?_
  · refine aA.trans (aA.nil 8 1 (by simp only[Kc,simprocAttr]) (by decide)) ?_
    exact Xv @aM.eq_1
  rintro ⟨i,S,os,oi,D⟩ ⟨hi,hS,hB⟩ Ql ak aq
  dsimp only at hi hS hB ⊢
  have xZ:=hB.len
  have fo:=hB.b0
  have fm:=hB.b1
  have fx:=hB.b2
  dsimp only at fm fo fx
  have ca:=An m []
  by_cases hi':i<m.cls.length
  · have Fx:S.length=i:=by rw[hS,ez];omega
    have cS:(jY m []).take (i+1)=S++[bq (m.cls.getD i default).length false]:=by
      rw[eu (by omega),← hS,afu,iu _ _ _ hi']
    have qG:=hm.opt _ (az (l:=m.cls) (i:=i) (d:=default) hi')
    generalize aO:m.cls.getD i default=c at *
    ((repeat' (first|refine Va (X5 @fm @aO @bn.eq_1 @fo (X5 (a7 fo) (fj fo) @QZ @cZ (X3 @cI.{0} @List.length_append.{0} @bm.{0}))) ?_|(refine Xi ?_ ?_<;>try intro ht)|exact Xx|fail)))
    have jh:oi<os.length:=(List.getElem?_eq_some_iff.1 fo).1
    have oJ:=((hB.app [.arr 1 (bg (bq c.length false))]).add (jO _ _ _) (hB.fresh (Nat.le_refl _))).snoc
    rw[List.length_replicate] at oJ
    obtain ⟨nH,dE⟩:=oJ.drop
    refine ak _ (i+1,S++[bq c.length false],os.set oi .gone++[.arr 1 (bg (bq c.length false)),.arr 1 [[.ref os.length 1 0 c.length]],.arr 1 (rowsOf ln (D++[(os.length,c.length)]))],os.length+2,D++[(os.length,c.length)]) ⟨by dsimp only;omega,cS.symm,?_⟩ (by dsimp only;omega) ?_
    · have wv:=(nH.other dE .gone).app [.arr 1 [[.ref os.length 1 0 c.length]],.arr 1 (rowsOf ln (D++[(os.length,c.length)]))]
      have afB:=(nH.other dE .gone).fresh (p:=os.length+2) (by simp)
      rw[List.set_append_left _ _ jh,cI] at wv
      refine wv.add ?_ afB
      have uR:(os.set oi Ob.gone).length=os.length:=bm ..
      rw[← uR,me];rfl
    · exact Xv X0
  · rw[List.take_of_length_le (by omega)] at hS
    subst hS
    ((repeat' (first|refine Va (X2 @fm @aM.eq_1) ?_|(refine Xi ?_ ?_<;>try intro ht)|exact Xx|fail)))
    refine aq _ _ rfl ?_;clear ak aq Ql
    repeat (refine Xu ?_)
    have qZ:dt [(2,.arr 1 (bg (oK m []))),(oi,.arr 1 (rowsOf ln D)),(0,.var (ar m)),(1,.var (aM ⟨xc,xk,xm,g,cells⟩))] D (jY m []) os:=by
      rw[afs]
      have hp:[(oi,Ob.arr 1 (rowsOf ln D)),(0,.var (ar m)),(1,.var (aM ⟨xc,xk,xm,g,cells⟩)),(2,.arr 1 (bg (bq m.cls.length false)))].Perm [(2,.arr 1 (bg (bq m.cls.length false))),(oi,Ob.arr 1 (rowsOf ln D)),(0,.var (ar m)),(1,.var (aM ⟨xc,xk,xm,g,cells⟩))]:=List.perm_append_comm (l₁:=[_,_,_]) (l₂:=[_])
      exact⟨fun b hb=>hB.base b (hp.mem_iff.2 hb),hB.len,hB.row,(((hp.map (·.1)).append_right _).nodup_iff).1 hB.nd⟩
    have hD:D.length=m.cls.length:=by rw[xZ,ca]
    rw[hD]
    clear hB fo fm fx xZ
    refine Va X0 ?_
    refine aI (fun z:Nat × List Ob=>(⟨av [(2,.tree 1 (rowsOf aE left)),(3,.ptr 0 0 0),(4,.ptr 1 0 0),(7,.ref 2 1 0 m.cls.length),(8,.ref oi 1 0 m.cls.length),(10,.lit (.int .i64 z.1))],z.2⟩:St))
      (fun z=>z.1≤g.length∧(∀ a,a<z.1→decide (0≤g.getD a 0∧g.getD a 0<m.cls.length∧(a=0∨g.getD (a - 1) 0<g.getD a 0))=true)∧dt [(2,.arr 1 (bg (oK m (g.take z.1)))),(oi,.arr 1 (rowsOf ln D)),(0,.var (ar m)),(1,.var (aM ⟨xc,xk,xm,g,cells⟩))] D (jY m []) z.2) (fun z=>g.length - z.1) (0,os) ⟨aD _,fun a ha=>absurd ha (mV _),qZ⟩ (Xv X0) ?_
    rintro ⟨i,tJ⟩ ⟨hi,fq,oJ⟩ Ql ak aq
    dsimp only at hi fq oJ ⊢
    have f2:=oJ.b0
    have fo:=oJ.b1
    have fm:=oJ.b2
    have fx:=oJ.b3
    dsimp only at f2 fo fm fx
    by_cases hi':i<g.length
    · have lj:=J1 (f:=fun i=>decide (0≤g.getD i 0∧g.getD i 0<m.cls.length∧(i=0∨g.getD (i - 1) 0<g.getD i 0))) hi'
      have bD:decide (0≤g.getD i 0∧g.getD i 0<m.cls.length∧(i=0∨g.getD (i - 1) 0<g.getD i 0))=true→∀ a,a<i+1→decide (0≤g.getD a 0∧g.getD a 0<m.cls.length∧(a=0∨g.getD (a - 1) 0<g.getD a 0))=true:=fun h a ha=>by
        by_cases e:a=i
        · subst e;exact h
        · exact fq a (by omega)
      have n8:0<i→((i:Int) - 1).toNat=i - 1∧i - 1<g.length:=fun h=>⟨by omega,by omega⟩
      have e7:0<i→g.getD ((i:Int) - 1).toNat 0=g.getD (i - 1) 0:=fun h=>by rw[(n8 h).1]
      have cS:g.take (i+1)=g.take i++[g.getD i 0]:=eu hi'
      generalize aO:g.getD i 0=c at *
      generalize U4:g.getD (i - 1) 0=q at *
      have fi:=Kg m (g.take i)
      by_cases aQ:0≤c∧c<m.cls.length∧(i=0∨q<c)
      · obtain ⟨Kk,v5,o8⟩:=aQ
        obtain ⟨c,rfl⟩:=yE Kk
        rcases mY i with h0 | h0
        · ((repeat' (first|refine Va (X5 @aM.eq_1 @fm @fx @aO (X3 @f2 @fi @sK)) ?_|(refine V2 (X5 @aM.eq_1 @fm @fx @aO (X3 @f2 @fi @sK)) ?_ ?_<;>try with_reducible intro hb)|(refine Xi ?_ ?_<;>try intro ht)|exact Xx|fail)))
          refine ak _ (i+1,tJ.set 2 (.arr 1 (bg ((oK m (g.take i)).set c true)))) ⟨by dsimp only;omega,bD (decide_eq_true ⟨Kk,v5,o8⟩),?_⟩ (by dsimp only;omega) (Xv @aM.eq_1)
          dsimp only
          rw[cS,WC _ (by omega)]
          exact oJ.put _
        · have e7:=e7 h0
          obtain ⟨Kd,CU⟩:=n8 h0
          ((repeat' (first|refine Va (X5 @aM.eq_1 @fm @fx @aO (X4 @f2 @fi @sK @e7)) ?_|(refine V2 (X5 @aM.eq_1 @fm @fx @aO (X4 @f2 @fi @sK @e7)) ?_ ?_<;>try with_reducible intro hb)|(refine Xi ?_ ?_<;>try intro ht)|exact Xx|fail)))
          refine ak _ (i+1,tJ.set 2 (.arr 1 (bg ((oK m (g.take i)).set c true)))) ⟨by dsimp only;omega,bD (decide_eq_true ⟨Kk,v5,o8⟩),?_⟩ (by dsimp only;omega) (Xv @aM.eq_1)
          dsimp only
          rw[cS,WC _ (by omega)]
          exact oJ.put _
      · have hr:=Kh (lj (decide_eq_false aQ))
        rcases mY i with h0 | h0
        · ((repeat' (first|refine Va (X5 @aM.eq_1 @fm @fx @aO (X2 @f2 @fi)) ?_|(refine V2 (X5 @aM.eq_1 @fm @fx @aO (X2 @f2 @fi)) ?_ ?_<;>try with_reducible intro hb)|(refine Xi ?_ ?_<;>try intro ht)|exact Xx|fail)))
          all_goals
            repeat (refine Xu ?_)
            ((repeat' (first|refine Vb X0 ?_|fail)))
            exact aC rfl (by rw[hr])
        · have e7:=e7 h0
          obtain ⟨Kd,CU⟩:=n8 h0
          ((repeat' (first|refine Va (X5 @aM.eq_1 @fm @fx @aO (X3 @f2 @fi @e7)) ?_|(refine V2 (X5 @aM.eq_1 @fm @fx @aO (X3 @f2 @fi @e7)) ?_ ?_<;>try with_reducible intro hb)|(refine Xi ?_ ?_<;>try intro ht)|exact Xx|fail)))
          all_goals
            repeat (refine Xu ?_)
            ((repeat' (first|refine Vb X0 ?_|fail)))
            exact aC rfl (by rw[hr])
    obtain rfl:i=g.length:=by omega
    have Fb:CQ m g=true:=FJ.2 fq
    have hgm:=aeu Fb
    rw[sy] at *
    clear fq Kh Ki
    have Ao:=Ao Fb bj
    ((repeat' (first|refine Va (X2 @fx @aM.eq_1) ?_|(refine V2 (X2 @fx @aM.eq_1) ?_ ?_<;>try with_reducible intro hb)|(refine Xi ?_ ?_<;>try intro ht)|exact Xx|fail)))
    refine aq _ _ rfl ?_;clear ak aq Ql
    repeat (refine Xu ?_)
    clear fm fx f2 fo qZ
    refine Va X0 ?_
    refine aI (fun z:Nat × List Ob=>(⟨av [(2,.tree 1 (rowsOf aE left)),(3,.ptr 0 0 0),(4,.ptr 1 0 0),(7,.ref 2 1 0 m.cls.length),(8,.ref oi 1 0 m.cls.length),(12,.lit (.int .i64 z.1))],z.2⟩:St))
      (fun z=>z.1≤cells.length∧(∀ a,a<z.1→wj m g (cells.getD a default)=true)∧dt [(2,.arr 1 (bg (oK m g))),(oi,.arr 1 (rowsOf ln D)),(0,.var (ar m)),(1,.var (aM ⟨xc,xk,xm,g,cells⟩))] D (jY m (cells.take z.1).flatten) z.2) (fun z=>cells.length - z.1) (0,tJ) ⟨aD _,fun a ha=>absurd ha (mV _),oJ⟩ (Xv X0) ?_
    clear oJ tJ
    rintro ⟨a,dT⟩ ⟨ha,tK,wx⟩ Ql ak aq
    dsimp only at ha tK wx ⊢
    have fx:=wx.b3
    dsimp only at fx
    by_cases mh:a<cells.length
    · have cp:=az (l:=cells) (i:=a) (d:=default) mh
      have tx:=WE _ cp
      have lj:wj m g (cells.getD a default)=false→false=res:=fun h=>(Kj (all_false cp h)).symm
      have cS:=afz mh
      have bD:wj m g (cells.getD a default)=true→∀ b,b<a+1→wj m g (cells.getD b default)=true:=fun h b hb=>by
        by_cases e:b=a
        · subst e;exact h
        · exact tK b (by omega)
      generalize fA:cells.getD a default=l at *
      generalize (cells.take a).flatten=L0 at *
      ((repeat' (first|refine Va (X3 @fx @aM.eq_1 @fA) ?_|(refine Xi ?_ ?_<;>try intro ht)|exact Xx|fail)))
      refine aI (fun z:Nat × List Ob=>(⟨av [(2,.tree 1 (rowsOf aE left)),(3,.ptr 0 0 0),(4,.ptr 1 0 0),(7,.ref 2 1 0 m.cls.length),(8,.ref oi 1 0 m.cls.length),(12,.lit (.int .i64 a)),(13,.tree 2 (rowsOf aG l)),(14,.lit (.int .i64 z.1))],z.2⟩:St))
        (fun z=>z.1≤l.length∧(∀ b,b<z.1→ye m g l b=true)∧dt [(2,.arr 1 (bg (oK m g))),(oi,.arr 1 (rowsOf ln D)),(0,.var (ar m)),(1,.var (aM ⟨xc,xk,xm,g,cells⟩))] D (jY m (L0++l.take z.1)) z.2) (fun z=>l.length - z.1) (0,dT) ⟨aD _,fun a ha=>absurd ha (mV _),by rw[List.take_zero,List.append_nil];exact wx⟩ (Xv X0) ?_
      clear wx fx
      rintro ⟨k,WH⟩ ⟨hk,FZ,nH⟩ cP a5 a8
      dsimp only at hk FZ nH ⊢
      have f2:=nH.b0
      have fo:=nH.b1
      have fm:=nH.b2
      have fx:=nH.b3
      dsimp only at f2 fo fm fx
      by_cases aP:k<l.length
      · have yi:ye m g l k=false→false=res:=fun h=>lj (J1 aP h)
        have FD:L0++l.take (k+1)=L0++l.take k++[l.getD k default]:=by rw[eu aP,cI]
        have Ap:ye m g l k=true→∀ b,b<k+1→ye m g l b=true:=fun h b hb=>by
          by_cases e:b=k
          · subst e;exact h
          · exact FZ b (by omega)
        rcases ke:l.getD k default with ⟨c,o⟩
        rw[ke] at FD
        rw[WD ke] at yi Ap
        have cT:=B8 m c o
        have fi:=Kg m g
        cases hb:eP m c o
        · rw[hb] at cT
          have hr:=yi (by rw[hb];simp)
          ((repeat' (first|refine Vc (X5 @aM.eq_1 @fm @fx @ke @aG.eq_1) cT ?_|(refine Xi ?_ ?_<;>try intro ht)|exact Xx|fail)))
          all_goals
            repeat (refine Xu ?_)
            refine Vb X0 ?_
            exact aC rfl (by rw[hr])
        rw[hb] at cT
        obtain ⟨h01,h02,h03,h04⟩:=iy.1 hb
        obtain ⟨c,rfl⟩:=yE h01
        obtain ⟨o,rfl⟩:=yE h03
        rw[eT] at h04
        have F0:=afr (m:=m) g (c:=c) (by omega)
        cases gp:g.contains (c:Int)
        · have hr:=yi (by rw[gp];rfl)
          rw[gp] at F0
          ((repeat' (first|refine Vc (X5 @aM.eq_1 @fm @fx @ke (X4 @aG.eq_1 @f2 @fi @F0)) cT ?_|(refine Xi ?_ ?_<;>try intro ht)|exact Xx|fail)))
          all_goals
            repeat (refine Xu ?_)
            refine Vb X0 ?_
            exact aC rfl (by rw[hr])
        rw[gp] at F0
        rw[hb,gp,g9,g9] at yi Ap
        have ca:=An m (L0++l.take k)
        have uX:=E9 nH (j:=c) (by omega)
        obtain ⟨a6,cK⟩:=nH.row c (by omega)
        have wy:((jY m (L0++l.take k)).getD c default).length=(m.cls.getD c default).length:=by rw[FY _ (by omega)];simp
        have wv:=nH.setRow (j:=c) (by omega) (r:=((jY m (L0++l.take k)).getD c default).set o true) (bm ..)
        rw[← afv _ (by omega) (by omega),← FD] at wv
        generalize uv:(jY m (L0++l.take k)).getD c default=row at *
        generalize V5:D.getD c default=dd at *
        obtain ⟨dp,dn⟩:=dd
        dsimp only at a6 uX wv cK
        ((repeat' (first|refine Vc (X5 @aM.eq_1 @fm @fx @ke (X5 @aG.eq_1 @f2 @fi @F0 (X5 @fo @uX @a6 @wy @sK))) cT ?_|(refine Xi ?_ ?_<;>try intro ht)|exact Xx|fail)))
        generalize WH.set dp (.arr 1 (bg (row.set o true)))=WI at *
        have fm:=wv.b2
        have fx:=wv.b3
        dsimp only at fm fx
        refine aI (fun z:Nat=>(⟨av [(2,.tree 1 (rowsOf aE left)),(3,.ptr 0 0 0),(4,.ptr 1 0 0),(7,.ref 2 1 0 m.cls.length),(8,.ref oi 1 0 m.cls.length),(12,.lit (.int .i64 a)),(13,.tree 2 (rowsOf aG l)),(14,.lit (.int .i64 k)),(15,.lit (.int .i64 z))],WI⟩:St))
          (fun z=>z≤k∧∀ b,b<z→uS m (c,o) (l.getD b default)=true) (fun z=>k - z) 0 ⟨aD _,fun a ha=>absurd ha (mV _)⟩ (Xv X0) ?_
        rintro j ⟨hj,m6⟩ lH fl eX
        by_cases dZ:j<k
        · have Kl:uS m (c,o) (l.getD j default)=false→false=res:=fun h=>yi (afx hk dZ h)
          have F1:uS m (c,o) (l.getD j default)=true→∀ b,b<j+1→uS m (c,o) (l.getD b default)=true:=fun h b hb=>by
            by_cases e:b=j
            · subst e;exact h
            · exact m6 b (by omega)
          have WJ:=FZ j dZ
          rcases qu:l.getD j default with ⟨d,p⟩
          rw[qu] at Kl F1
          rw[WD qu,bh,bh] at WJ
          have hex:=afp m d p c o hm WJ.1.2 hb
          by_cases Km:d=c
          · subst Km
            ((repeat' (first|refine Va (X5 @aM.eq_1 @ke @qu @aG.eq_1 @bne_self_eq_false.{0}) ?_|(refine Xi ?_ ?_<;>try intro ht)|exact Xx|fail)))
            exact fl _ (j+1) ⟨by omega,F1 (by simp[uS])⟩ (by omega) (Xv X0)
          · have afG:uS m ((c:Int),(o:Int)) (d,p)=tH m d p c o:=by
              unfold uS
              rw[decide_eq_false (fun h=>Km h.symm),Bool.false_or]
              exact aet (fun h=>Km h.symm)
            rw[afG] at Kl F1
            cases a9:tH m d p c o
            · have hr:=Kl a9
              rw[a9] at hex
              ((repeat' (first|refine Vc (X5 @aM.eq_1 @ke @qu @aG.eq_1 @fm) hex ?_|(refine V2 (X5 @aM.eq_1 @ke @qu @aG.eq_1 @fm) ?_ ?_<;>try with_reducible intro hb)|(refine Xi ?_ ?_<;>try intro ht)|exact Xx|fail)))
              all_goals
                repeat (refine Xu ?_)
                refine Vb X0 ?_
                exact aC rfl (by rw[hr])
            · rw[a9] at hex
              ((repeat' (first|refine Vc (X5 @aM.eq_1 @ke @qu @aG.eq_1 @fm) hex ?_|(refine V2 (X5 @aM.eq_1 @ke @qu @aG.eq_1 @fm) ?_ ?_<;>try with_reducible intro hb)|(refine Xi ?_ ?_<;>try intro ht)|exact Xx|fail)))
              exact fl _ (j+1) ⟨by omega,F1 a9⟩ (by omega) (Xv X0)
        · obtain rfl:j=k:=by omega
          ((repeat' (first|refine Va X0 ?_|(refine V2 X0 ?_ ?_<;>try with_reducible intro hb)|(refine Xi ?_ ?_<;>try intro ht)|exact Xx|fail)))
          refine eX _ _ rfl ?_
          clear fl eX lH
          repeat (refine Xu ?_)
          refine Va X0 ?_
          exact a5 _ (j+1,WI) ⟨by dsimp only;omega,Ap (afw hk m6),wv⟩ (by dsimp only;omega) (Xv X0)
      · obtain rfl:k=l.length:=by omega
        ((repeat' (first|refine Va X0 ?_|(refine Xi ?_ ?_<;>try intro ht)|exact Xx|fail)))
        refine a8 _ _ rfl ?_
        clear a5 a8 cP
        repeat (refine Xu ?_)
        refine Va X0 ?_
        rw[sy,← cS] at nH
        exact ak _ (a+1,WH) ⟨by dsimp only;omega,bD (FJ.2 FZ),nH⟩ (by dsimp only;omega) (Xv X0)
    obtain rfl:a=cells.length:=by omega
    have afH:cells.all (wj m g)=true:=by
      rw[fK]
      intro c hc
      obtain ⟨b,hb,rfl⟩:=p9 hc
      have:=tK b hb
      rwa [ay,bI hb] at this
    rw[sy] at *
    clear tK Kj
    have Ao:=Ao afH
    ((repeat' (first|refine Va (X2 @fx @aM.eq_1) ?_|(refine Xi ?_ ?_<;>try intro ht)|exact Xx|fail)))
    refine aq _ _ rfl ?_;clear ak aq Ql
    repeat (refine Xu ?_)
    have fo:=wx.b1
    have fm:=wx.b2
    dsimp only at fo fm
    have ca:=An m cells.flatten
    refine Va X0 ?_
    refine aI (fun i:Nat=>(⟨av [(2,.tree 1 (rowsOf aE left)),(3,.ptr 0 0 0),(4,.ptr 1 0 0),(7,.ref 2 1 0 m.cls.length),(8,.ref oi 1 0 m.cls.length),(16,.lit (.int .i64 i))],dT⟩:St))
      (fun i=>i≤g.length∧∀ a,a<i→wm left cells (g.getD a 0)=true) (fun i=>g.length - i) 0 ⟨aD _,fun a ha=>absurd ha (mV _)⟩ (Xv X0) ?_
    rintro i ⟨hi,fq⟩ Ql ak aq
    by_cases hi':i<g.length
    · have cp:=az (l:=g) (i:=i) (d:=0) hi'
      have lj:wm left cells (g.getD i 0)=false→false=res:=fun h=>(WG (all_false cp h)).symm
      have qv:=hgm _ cp
      have bD:wm left cells (g.getD i 0)=true→∀ a,a<i+1→wm left cells (g.getD a 0)=true:=fun h a ha=>by
        by_cases e:a=i
        · subst e;exact h
        · exact fq a (by omega)
      generalize aO:g.getD i 0=c at *
      obtain ⟨c,rfl⟩:=yE qv.1
      have n5:c<m.cls.length:=by omega
      have Br:=hf.row hm _ (az (l:=left) (i:=c) (d:=default) (by omega))
      have xC:=hf.2 c (by omega)
      unfold wm at lj bD
      rw[eT] at lj bD
      have uX:=E9 wx (j:=c) (by omega)
      obtain ⟨a6,cK⟩:=wx.row c (by omega)
      have wy:((jY m cells.flatten).getD c default).length=(m.cls.getD c default).length:=by rw[FY _ (by omega)];simp
      have Aq:=fun o=>aft (m:=m) cells.flatten (o:=o) n5
      rw[← xC] at wy Aq
      generalize eV:left.getD c default=row at *
      generalize V5:D.getD c default=dd at *
      obtain ⟨dp,dn⟩:=dd
      dsimp only at a6 uX cK
      generalize uv:(jY m cells.flatten).getD c default=ahM at *
      ((repeat' (first|refine Va (X5 @aM.eq_1 @aO @fx @fo (X2 @uX @wy)) ?_|(refine Xi ?_ ?_<;>try intro ht)|exact Xx|fail)))
      refine aI (fun o:Nat=>(⟨av [(2,.tree 1 (rowsOf aE left)),(3,.ptr 0 0 0),(4,.ptr 1 0 0),(7,.ref 2 1 0 m.cls.length),(8,.ref oi 1 0 m.cls.length),(16,.lit (.int .i64 i)),(17,.lit (.int .i64 c)),(18,.lit (.int .i64 o))],dT⟩:St))
        (fun o=>o≤row.length∧∀ a,a<o→(!row.getD a false || cells.any fun l=>l.any (oG c a))=true) (fun o=>row.length - o) 0 ⟨aD _,fun a ha=>absurd ha (mV _)⟩ (Xv @aM.eq_1) ?_
      rintro o ⟨ho,WK⟩ cP a5 a8
      by_cases cf:o<row.length
      · have yi:=fun h=>lj (J1 (f:=fun o:Nat=>!row.getD o false || cells.any fun l=>l.any (oG c o)) cf h)
        have Ap:(!row.getD o false || cells.any fun l=>l.any (oG c o))=true→∀ a,a<o+1→(!row.getD a false || cells.any fun l=>l.any (oG c a))=true:=fun h a ha=>by
          by_cases e:a=o
          · subst e;exact h
          · exact WK a (by omega)
        have Aq:=Aq o cf
        rw[← afy] at Aq
        generalize gF:row.getD o false=b at *
        generalize cells.any (fun l=>l.any (oG c o))=cov at *
        cases b
        · ((repeat' (first|refine Va (X5 @aM.eq_1 @aE.eq_1 @eV @gF (X4 @fo @uX @a6 @wy)) ?_|(refine Xi ?_ ?_<;>try intro ht)|exact Xx|fail)))
          exact a5 _ (o+1) ⟨by omega,Ap rfl⟩ (by omega) (Xv @aM.eq_1)
        · cases cov
          · have hr:=yi rfl
            ((repeat' (first|refine Va (X5 @aM.eq_1 @aE.eq_1 @eV @gF (X5 @fo @uX @a6 @wy @Aq)) ?_|(refine Xi ?_ ?_<;>try intro ht)|exact Xx|fail)))
            all_goals
              repeat (refine Xu ?_)
              refine Vb X0 ?_
              exact aC rfl (by rw[hr])
          · ((repeat' (first|refine Va (X5 @aM.eq_1 @aE.eq_1 @eV @gF (X5 @fo @uX @a6 @wy @Aq)) ?_|(refine Xi ?_ ?_<;>try intro ht)|exact Xx|fail)))
            exact a5 _ (o+1) ⟨by omega,Ap rfl⟩ (by omega) (Xv @aM.eq_1)
      · obtain rfl:o=row.length:=by omega
        ((repeat' (first|refine Va (X4 @fo @uX @a6 @wy) ?_|(refine Xi ?_ ?_<;>try intro ht)|exact Xx|fail)))
        refine a8 _ _ rfl ?_
        clear a5 a8 cP
        repeat (refine Xu ?_)
        refine Va @aM.eq_1 ?_
        exact ak _ (i+1) ⟨by omega,bD (FJ.2 WK)⟩ (by omega) (Xv X0)
    · obtain rfl:i=g.length:=by omega
      have hr:=Ao (by
        rw[fK]
        intro c hc
        obtain ⟨a,ha,rfl⟩:=p9 hc
        have:=fq a ha
        rwa [ay,bI ha] at this)
      ((repeat' (first|refine Va (X2 @fx @aM.eq_1) ?_|(refine Xi ?_ ?_<;>try intro ht)|exact Xx|fail)))
      refine aq _ _ rfl ?_;clear ak aq Ql
      repeat (refine Xu ?_)
      refine Vb X0 ?_
      exact aC rfl (by rw[hr])
end T

