import Derived.Test.YtdipcmigdbnheaaGreatX40
import Derived.Test.YtdipcmigdbnheaaGreatX28
import Derived.Test.YtdipcmigdbnheaaGreatX39
import Derived.Test.YtdipcmigdbnheaaGreatX20
set_option linter.unusedVariables false
set_option linter.unusedSimpArgs false
set_option linter.unnecessarySimpa false
set_option linter.unusedSectionVars false
set_option maxHeartbeats 64000000
set_option maxRecDepth 20000
open Nat renaming zero_le→aH,not_lt_zero→qH,eq_zero_or_pos→oh
open List renaming getElem_of_mem→lZ,getD_eq_getElem?_getD→ay,getElem?_eq_getElem→bm,range→bn,getElem?_map→bR,getElem?_range→jT,replicate→aW,ext_getElem?→km,getElem?_replicate_of_lt→Hl,getElem?_eq_none→dM,getElem?_set→bO,contains_iff_mem→pW,length_range→G8,all_eq_true→eW,length_take→eX,append_assoc→dj,length_set→bF,take_length→zK
open Option renaming getD_some→gw,map_some→eC
open Int renaming eq_ofNat_of_zero_le→zM,toNat_natCast→dg
open Bool renaming true_and→gV,and_eq_true→a7
open Go Go.Am Go.Proofs
open Nat (reduceEqDiff reduceAdd reduceLeDiff reduceMul)
open Int (reduceNeg reduceLE reduceToNat)
open Go Go.Am
namespace T
theorem ahZ (m:ae) (a x b y:Int) (hm:VM m) (ha:ez m a x=true) (nW:ez m b y=true) :
    ao Tryz.prog 147 [.agg (au m),.agg [.lit (.int .i64 a),.lit (.int .i64 x)],.agg [.lit (.int .i64 b),.lit (.int .i64 y)]] [] (.lit (.bool (pG m a x b y))) []:=by
  have b9:=hm.ah
  have zs :∃A X B Y,ez m A X=true∧ez m B Y=true∧pG m a x b y=m.ah.any (rj m A X B Y)∧((b<a∧A=b∧X=y∧B=a∧Y=x)∨(¬ b<a∧A=a∧X=x∧B=b∧Y=y)):=by
    unfold pG
    by_cases h:b<a
    · exact⟨b,y,a,x,nW,ha,by rw[if_pos h],.inl ⟨h,rfl,rfl,rfl,rfl⟩⟩
    · exact⟨a,x,b,y,ha,nW,by rw[if_neg h],.inr ⟨h,rfl,rfl,rfl,rfl⟩⟩
  obtain ⟨A,X,B,Y,hA,hB,bL,eZ⟩:=zs
  generalize aj:pG m a x b y=res at *
  refine ao.aD (fn:=Tryz.f147) 60 0 [.tmp 6] Tryz.func147 rfl rfl rfl rfl rfl (by simp) ?_
  repeat' (first|((fail_if_success (first|refine iV 1 ?_|refine iW 1 ?_));refine Xr X0 ?_;intro K hK)|(refine hK _ ?_;clear hK K)|refine Xy ?_|fail)
  (refine VC ?_);intro Q0 cy nT
  refine xV ⟨aw [(3,.ptr 0 0 0),(4,.ptr 1 0 0),(5,.ptr 2 0 0)],[.var (au m),.var [.lit (.int .i64 A),.lit (.int .i64 X)],.var [.lit (.int .i64 B),.lit (.int .i64 Y)]]⟩ cy ?_ (fun key=>?_)
  rotate_left
  · (try clear cy)
    rcases eZ with ⟨h,rfl,rfl,rfl,rfl⟩ | ⟨h,rfl,rfl,rfl,rfl⟩
    all_goals
      ((repeat' (first|refine Va X0 ?_|(refine Xi ?_ ?_<;>try intro ht)|exact Xx|fail)))
      all_goals
        refine key _ ?_
        exact Xv X0
  (try clear cy)
  try (try clear Q0)
  clear eZ
  refine Va X0 ?_
  refine aG (fun i:Nat=>(⟨aw [(3,.ptr 0 0 0),(4,.ptr 1 0 0),(5,.ptr 2 0 0),(7,.lit (.int .i64 i))],[.var (au m),.var [.lit (.int .i64 A),.lit (.int .i64 X)],.var [.lit (.int .i64 B),.lit (.int .i64 Y)]]⟩:St))
    (fun i=>i≤m.ah.length∧∀ a,a<i→rj m A X B Y (m.ah.getD a default)=false) (fun i=>m.ah.length - i) 0 ⟨aH _,fun a ha=>absurd ha (qH _)⟩ (Xv X0) ?_
  rintro i ⟨hi,k7⟩ Ql ak aq
  by_cases ax:i<m.ah.length
  · have pH:=az (l:=m.ah) (i:=i) (d:=default) ax
    have ca:=fY hm.pr _ pH
    have bE:rj m A X B Y (m.ah.getD i default)=false→∀ a,a<i+1→rj m A X B Y (m.ah.getD a default)=false:=fun h a ha=>by
      by_cases e:a=i
      · subst e;exact h
      · exact k7 a (by omega)
    have Y8:rj m A X B Y (m.ah.getD i default)=true→res=true:=fun h=>by
      rw[bL];exact List.any_eq_true.2 ⟨_,pH,h⟩
    obtain ⟨a1,a2,a3,a4⟩:=cV.1 hA
    obtain ⟨b1,b2,b3,b4⟩:=cV.1 hB
    obtain ⟨q1,q2,q3,q4,q5⟩:=iY ca
    have o7:=hm.opt _ (az (l:=m.cls) (i:=A.toNat) (d:=default) (by omega))
    have kZ:=hm.opt _ (az (l:=m.cls) (i:=B.toNat) (d:=default) (by omega))
    have nX:=hm.cls
    generalize bQ:m.ah.getD i default=p at *
    unfold rj jP at Y8
    obtain ⟨fs,sn,ru,aP⟩:=p
    dsimp only at *
    by_cases DT:fs=A∧sn=B
    · obtain ⟨rfl,rfl⟩:=DT
      unfold rj jP at bE
      dsimp only at bE
      generalize hcA:m.cls.getD fs.toNat default=CA at *
      generalize Y9:m.cls.getD sn.toNat default=CB at *
      obtain ⟨e1,e2,e3⟩:=sQ ⟨a3,a4⟩ ⟨b3,b4⟩ (by omega) (by omega)
      generalize iF:X * (CB.length:Int)=ix at *
      have hA2:((CA.length * CB.length:Nat):Int)=CA.length * CB.length:=by simp
      generalize hv:aP.getD (ix+Y).toNat 0=v at *
      by_cases h3:v=1099511627776
      · have hr:=Y8 (decide_eq_true ⟨rfl,rfl,h3⟩)
        ((repeat' (first|refine Va (X5 @bQ @bc.eq_1 @Y9 @bA.eq_1 (X2 @iF @hv)) ?_|(refine Xi ?_ ?_<;>try intro ht)|exact Xx|fail)))
        all_goals
          repeat (refine Xu ?_)
          subst hr
          refine Vb X0 ?_
          exact aE rfl rfl
      · have bE:=bE (decide_eq_false fun h=>h3 h.2.2)
        ((repeat' (first|refine Va (X5 @bQ @bc.eq_1 @Y9 @bA.eq_1 (X2 @iF @hv)) ?_|(refine Xi ?_ ?_<;>try intro ht)|exact Xx|fail)))
        all_goals exact ak _ (i+1) ⟨by omega,bE⟩ (by omega) (Xs false [0,1,2] X0)
    · have bE:=bE (by unfold rj;exact decide_eq_false fun h=>DT ⟨h.1,h.2.1⟩)
      ((repeat' (first|refine Va (X2 @bQ @bc.eq_1) ?_|(refine V2 (X2 @bQ @bc.eq_1) ?_ ?_<;>try with_reducible intro hb)|(refine Xi ?_ ?_<;>try intro ht)|exact Xx|fail)))
      all_goals exact ak _ (i+1) ⟨by omega,bE⟩ (by omega) (Xs false [0,1,2] X0)
  · ((repeat' (first|refine Va X0 ?_|(refine V2 X0 ?_ ?_<;>try with_reducible intro hb)|(refine Xi ?_ ?_<;>try intro ht)|exact Xx|fail)))
    refine aq _ _ rfl ?_;clear ak aq Ql
    repeat (refine Xu ?_)
    have hr:res=false:=by
      rw[bL,List.any_eq_false]
      intro p hp
      obtain ⟨a,ha,rfl⟩:=lZ hp
      have:=k7 a (by omega)
      rw[ay,bm ha,gw] at this
      rw[this];simp
    subst hr
    refine Vb X0 ?_
    exact aE rfl rfl
def ph (m:ae) (g:List Int):List Bool:=(bn m.cls.length).map fun (c:Nat)=>g.contains (c:Int)
theorem LB (m:ae) (g:List Int):(ph m g).length=m.cls.length:=by simp[ph]
theorem ah0 {m:ae} (g:List Int) {c:Nat} (h:c<m.cls.length):(ph m g).getD c false=g.contains (c:Int):=by
  unfold ph
  rw[ay,bR,jT h];rfl
theorem ah1 (m:ae):ph m []=aW m.cls.length false:=by
  apply km
  intro j
  unfold ph
  rw[bR]
  by_cases h:j<m.cls.length
  · rw[jT h,Hl h];rfl
  · rw[dM (by simp;omega),dM (by simp;omega)];rfl
theorem Y' {m:ae} (g:List Int) {c:Nat} (h:c<m.cls.length):ph m (g++[(c:Int)])=(ph m g).set c true:=by
  apply km
  intro j
  rw[bO,LB]
  unfold ph
  rw[bR,bR]
  by_cases hj:j<m.cls.length
  · rw[jT hj,eC,eC]
    by_cases e:c=j
    · subst e;rw[if_pos rfl,if_pos h];simp
    · rw[if_neg e]
      congr 1
      rw[Bool.eq_iff_iff,pW,pW,List.mem_append,List.mem_singleton]
      constructor
      · rintro (h1 | h1)
        · exact h1
        · omega
      · exact .inl
  · rw[dM (by simp;omega)]
    by_cases e:c=j
    · subst e;omega
    · rw[if_neg e];rfl
def kj (m:ae) (L:List (Int × Int)):List (List Bool):=(bn m.cls.length).map fun (c:Nat)=>(bn (m.cls.getD c default).length).map fun (o:Nat)=>L.any (nZ (c:Int) (o:Int))
theorem Bs (m:ae) (L:List (Int × Int)):(kj m L).length=m.cls.length:=by simp[kj]
theorem GR {m:ae} (L:List (Int × Int)) {c:Nat} (h:c<m.cls.length):(kj m L).getD c default=(bn (m.cls.getD c default).length).map fun (o:Nat)=>L.any (nZ (c:Int) (o:Int)):=by
  unfold kj
  rw[ay,bR,jT h];rfl
theorem ah2 {m:ae} (L:List (Int × Int)) {c o:Nat} (h:c<m.cls.length) (ho:o<(m.cls.getD c default).length):((kj m L).getD c default).getD o false=L.any (nZ (c:Int) (o:Int)):=by
  rw[GR L h,ay,bR,jT ho];rfl
theorem ah3 (m:ae):kj m []=m.cls.map fun l=>aW l.length false:=by
  apply km
  intro j
  unfold kj
  rw[bR,bR]
  by_cases h:j<m.cls.length
  · rw[jT h,bm h,eC,eC]
    congr 1
    rw[ay,bm h,gw]
    apply km
    intro o
    rw[bR]
    by_cases ho:o<m.cls[j].length
    · rw[jT ho,Hl ho];rfl
    · rw[dM (by simp;omega),dM (by simp;omega)];rfl
  · rw[dM (by simp;omega),dM (by omega)];rfl
theorem ah4 {m:ae} (L:List (Int × Int)) {c o:Nat} (h:c<m.cls.length) (ho:o<(m.cls.getD c default).length) :
    kj m (L++[((c:Int),(o:Int))])=(kj m L).set c (((kj m L).getD c default).set o true):=by
  apply km
  intro j
  rw[bO,Bs,GR L h]
  by_cases hj:j<m.cls.length
  · have hg:∀ K,(kj m K)[j]?=some ((bn (m.cls.getD j default).length).map fun (o:Nat)=>K.any (nZ (j:Int) (o:Int))):=fun K=>by
      unfold kj;rw[bR,jT hj];rfl
    rw[hg,hg]
    by_cases e:c=j
    · subst e
      rw[if_pos rfl,if_pos h]
      congr 1
      apply km
      intro q
      rw[bO,List.length_map,G8,bR,bR]
      by_cases hq:q<(m.cls.getD c default).length
      · rw[jT hq,eC,eC,List.any_append]
        by_cases e2:o=q
        · subst e2;rw[if_pos rfl,if_pos ho];simp[nZ]
        · rw[if_neg e2]
          congr 1
          have:nZ (c:Int) (q:Int) ((c:Int),(o:Int))=false:=by
            unfold nZ;rw[decide_eq_false_iff_not,Prod.mk.injEq];omega
          simp[this]
      · rw[dM (by rw[G8];omega)]
        by_cases e2:o=q
        · subst e2;omega
        · rw[if_neg e2];rfl
    · rw[if_neg e]
      congr 2
      funext q
      rw[List.any_append]
      have:nZ (j:Int) (q:Int) ((c:Int),(o:Int))=false:=by
        unfold nZ;rw[decide_eq_false_iff_not,Prod.mk.injEq];omega
      simp[this]
  · rw[dM (by rw[Bs];omega)]
    by_cases e:c=j
    · subst e;omega
    · rw[if_neg e,dM (by rw[Bs];omega)]
theorem Za {m:ae} {g:List Int} {l:List (Int × Int)} {k:Nat} {c o:Int} (h:l.getD k default=(c,o)):wT m g l k=(g.contains c && ez m c o && (l.take k).all (ue m (c,o))):=by unfold wT;rw[h]
theorem ah5 {l:List (Int × Int)} {k:Nat} {f:Int × Int→Bool} (hk:k≤l.length) (h:∀ j,j<k→f (l.getD j default)=true):(l.take k).all f=true:=by
  rw[eW]
  intro x hx
  obtain ⟨j,hj,rfl⟩:=lZ hx
  rw[eX] at hj
  have:=h j (by omega)
  rw[ay,bm (show j<l.length by omega)] at this
  rw[List.getElem_take];exact this
theorem ah6 {l:List (Int × Int)} {k j:Nat} {f:Int × Int→Bool} (hk:k≤l.length) (hj:j<k) (h:f (l.getD j default)=false):(l.take k).all f=false:=by
  refine all_false (x:=l.getD j default) ?_ h
  rw[ay,bm (show j<l.length by omega),List.mem_take_iff_getElem]
  exact⟨j,by omega,rfl⟩
theorem ah7 (cells:List (List (Int × Int))) (f:Int × Int→Bool):(cells.any fun l=>l.any f)=cells.flatten.any f:=by
  induction cells with
  | nil=>rfl
  | cons x r ih=>rw[List.any_cons,List.flatten_cons,List.any_append,ih]
theorem ah8 {cells:List (List (Int × Int))} {a:Nat} (h:a<cells.length):(cells.take (a+1)).flatten=(cells.take a).flatten++cells.getD a default:=by
  rw[eU h,List.flatten_append];simp
theorem abW (m:ae) (x:Nd) (left:List (List Bool)) (hm:VM m) (hf:dK m left) (nR:x.b5.length<9223372036854775808) (lD:x.cells.length<9223372036854775808) (Zb:∀ l∈x.cells,l.length<9223372036854775808) :
    ao Tryz.prog 96 [.agg (au m),.agg (aL x),.tree 1 (rowsOf aK left)] [] (.lit (.bool (lL m x left))) []:=by
  have nX:=hm.cls
  have xC:=hf.1
  generalize aj:lL m x left=res
  have LC:=fun h=>aj.symm.trans (acO (m:=m) (x:=x) (left:=left) h)
  have LD:=fun h=>aj.symm.trans (acP (m:=m) (x:=x) (left:=left) h)
  have LF:=fun h=>aj.symm.trans (acQ (m:=m) (x:=x) (left:=left) h)
  have Zc:=fun h=>aj.symm.trans (acR (m:=m) (x:=x) (left:=left) h)
  have Bt:=fun h1 h2 h3 h4=>aj.symm.trans (acS (m:=m) (x:=x) (left:=left) h1 h2 h3 h4)
  obtain ⟨xc,xk,xm,g,cells⟩:=x
  dsimp only at nR lD Zb LC LD LF Zc Bt
  refine ao.aD (fn:=Tryz.f96) 208 0 [.tmp 6] Tryz.func96 rfl rfl rfl rfl rfl (by simp) ?_
  by_cases aT:cells.length<g.length
  rotate_left
  · have hr:=LD aT
    subst hr
    ((repeat' (first|refine Vb @aL.eq_1 ?_|(refine Xi ?_ ?_<;>try intro ht)|exact Xx|fail)))
    exact aE rfl rfl
  ((repeat' (first|refine Va @aL.eq_1 ?_|(refine Xi ?_ ?_<;>try intro ht)|exact Xx|fail)))
  have hN0:dy [(3,.arr 1 []),(0,.var (au m)),(1,.var (aL ⟨xc,xk,xm,g,cells⟩)),(2,.arr 1 (bf (aW m.cls.length false)))] [] [] [.var (au m),.var (aL ⟨xc,xk,xm,g,cells⟩),.arr 1 (bf (aW m.cls.length false)),.arr 1 []] :=
    ⟨by simp,rfl,by simp,(show ([3,0,1,2]:List Nat).Nodup by decide)⟩
  refine aG (fun z:Nat × List (List Bool) × List Ob × Nat × List (Nat × Nat)=>(⟨aw [(2,.tree 1 (rowsOf aK left)),(3,.ptr 0 0 0),(4,.ptr 1 0 0),(7,.ref 2 1 0 m.cls.length),(8,.ref z.2.2.2.1 1 0 z.2.2.2.2.length),(9,.lit (.int .i64 z.1))],z.2.2.1⟩:St))
    (fun z=>z.1≤m.cls.length∧z.2.1=(kj m []).take z.1∧dy [(z.2.2.2.1,.arr 1 (rowsOf lR z.2.2.2.2)),(0,.var (au m)),(1,.var (aL ⟨xc,xk,xm,g,cells⟩)),(2,.arr 1 (bf (aW m.cls.length false)))] z.2.2.2.2 z.2.1 z.2.2.1) (fun z=>m.cls.length - z.1) (0,[],[.var (au m),.var (aL ⟨xc,xk,xm,g,cells⟩),.arr 1 (bf (aW m.cls.length false)),.arr 1 []],3,[]) ⟨aH _,rfl,hN0⟩ ?_ ?_
  · refine aQ.trans (aQ.nil 8 1 (by simp only[Kc,simprocAttr]) (by decide)) ?_
    exact Xv @aL.eq_1
  rintro ⟨i,S,os,oi,D⟩ ⟨hi,hS,hB⟩ Ql ak aq
  dsimp only at hi hS hB ⊢
  have zb:=hB.len
  have fo:=hB.b0
  have fm:=hB.b1
  have fx:=hB.b2
  dsimp only at fm fo fx
  have bL:=Bs m []
  by_cases ax:i<m.cls.length
  · have FX:S.length=i:=by rw[hS,eX];omega
    have ef:(kj m []).take (i+1)=S++[aW (m.cls.getD i default).length false]:=by
      rw[eU (by omega),← hS,ah3,kH _ _ _ ax]
    have sW:=hm.opt _ (az (l:=m.cls) (i:=i) (d:=default) ax)
    generalize aJ:m.cls.getD i default=c at *
    ((repeat' (first|refine Va (X5 @fm @aJ @bA.eq_1 @fo (X5 (bz fo) (ke fo) @Wj @gQ (X3 @dj.{0} @List.length_append.{0} @bF.{0}))) ?_|(refine Xi ?_ ?_<;>try intro ht)|exact Xx|fail)))
    have fG:oi<os.length:=(List.getElem?_eq_some_iff.1 fo).1
    have pd:=((hB.app [.arr 1 (bf (aW c.length false))]).add (hC _ _ _) (hB.fresh (Nat.le_refl _))).snoc
    rw[List.length_replicate] at pd
    obtain ⟨oa,eE⟩:=pd.drop
    refine ak _ (i+1,S++[aW c.length false],os.set oi .gone++[.arr 1 (bf (aW c.length false)),.arr 1 [[.ref os.length 1 0 c.length]],.arr 1 (rowsOf lR (D++[(os.length,c.length)]))],os.length+2,D++[(os.length,c.length)]) ⟨by dsimp only;omega,ef.symm,?_⟩ (by dsimp only;omega) ?_
    · have xE:=(oa.other eE .gone).app [.arr 1 [[.ref os.length 1 0 c.length]],.arr 1 (rowsOf lR (D++[(os.length,c.length)]))]
      have ah':=(oa.other eE .gone).fresh (p:=os.length+2) (by simp)
      rw[List.set_append_left _ _ fG,dj] at xE
      refine xE.add ?_ ah'
      have vn:(os.set oi Ob.gone).length=os.length:=bF ..
      rw[← vn,n6];rfl
    · exact Xv X0
  · rw[List.take_of_length_le (by omega)] at hS
    subst hS
    ((repeat' (first|refine Va (X2 @fm @aL.eq_1) ?_|(refine Xi ?_ ?_<;>try intro ht)|exact Xx|fail)))
    refine aq _ _ rfl ?_;clear ak aq Ql
    repeat (refine Xu ?_)
    have rH:dy [(2,.arr 1 (bf (ph m []))),(oi,.arr 1 (rowsOf lR D)),(0,.var (au m)),(1,.var (aL ⟨xc,xk,xm,g,cells⟩))] D (kj m []) os:=by
      rw[ah1]
      have hp:[(oi,Ob.arr 1 (rowsOf lR D)),(0,.var (au m)),(1,.var (aL ⟨xc,xk,xm,g,cells⟩)),(2,.arr 1 (bf (aW m.cls.length false)))].Perm [(2,.arr 1 (bf (aW m.cls.length false))),(oi,Ob.arr 1 (rowsOf lR D)),(0,.var (au m)),(1,.var (aL ⟨xc,xk,xm,g,cells⟩))]:=List.perm_append_comm (l₁:=[_,_,_]) (l₂:=[_])
      exact⟨fun b hb=>hB.base b (hp.mem_iff.2 hb),hB.len,hB.row,(((hp.map (·.1)).append_right _).nodup_iff).1 hB.nd⟩
    have hD:D.length=m.cls.length:=by rw[zb,bL]
    rw[hD]
    clear hB fo fm fx zb
    refine Va X0 ?_
    refine aG (fun z:Nat × List Ob=>(⟨aw [(2,.tree 1 (rowsOf aK left)),(3,.ptr 0 0 0),(4,.ptr 1 0 0),(7,.ref 2 1 0 m.cls.length),(8,.ref oi 1 0 m.cls.length),(10,.lit (.int .i64 z.1))],z.2⟩:St))
      (fun z=>z.1≤g.length∧(∀ a,a<z.1→decide (0≤g.getD a 0∧g.getD a 0<m.cls.length∧(a=0∨g.getD (a - 1) 0<g.getD a 0))=true)∧dy [(2,.arr 1 (bf (ph m (g.take z.1)))),(oi,.arr 1 (rowsOf lR D)),(0,.var (au m)),(1,.var (aL ⟨xc,xk,xm,g,cells⟩))] D (kj m []) z.2) (fun z=>g.length - z.1) (0,os) ⟨aH _,fun a ha=>absurd ha (qH _),rH⟩ (Xv X0) ?_
    rintro ⟨i,uG⟩ ⟨hi,fJ,pd⟩ Ql ak aq
    dsimp only at hi fJ pd ⊢
    have f2:=pd.b0
    have fo:=pd.b1
    have fm:=pd.b2
    have fx:=pd.b3
    dsimp only at f2 fo fm fx
    by_cases ax:i<g.length
    · have lJ:=I' (f:=fun i=>decide (0≤g.getD i 0∧g.getD i 0<m.cls.length∧(i=0∨g.getD (i - 1) 0<g.getD i 0))) ax
      have bE:decide (0≤g.getD i 0∧g.getD i 0<m.cls.length∧(i=0∨g.getD (i - 1) 0<g.getD i 0))=true→∀ a,a<i+1→decide (0≤g.getD a 0∧g.getD a 0<m.cls.length∧(a=0∨g.getD (a - 1) 0<g.getD a 0))=true:=fun h a ha=>by
        by_cases e:a=i
        · subst e;exact h
        · exact fJ a (by omega)
      have qq:0<i→((i:Int) - 1).toNat=i - 1∧i - 1<g.length:=fun h=>⟨by omega,by omega⟩
      have iF:0<i→g.getD ((i:Int) - 1).toNat 0=g.getD (i - 1) 0:=fun h=>by rw[(qq h).1]
      have ef:g.take (i+1)=g.take i++[g.getD i 0]:=eU ax
      generalize aJ:g.getD i 0=c at *
      generalize Wn:g.getD (i - 1) 0=q at *
      have jm:=LB m (g.take i)
      by_cases aC:0≤c∧c<m.cls.length∧(i=0∨q<c)
      · obtain ⟨LH,wJ,jo⟩:=aC
        obtain ⟨c,rfl⟩:=zM LH
        rcases oh i with h0 | h0
        · ((repeat' (first|refine Va (X5 @aL.eq_1 @fm @fx @aJ (X3 @f2 @jm @tD)) ?_|(refine V2 (X5 @aL.eq_1 @fm @fx @aJ (X3 @f2 @jm @tD)) ?_ ?_<;>try with_reducible intro hb)|(refine Xi ?_ ?_<;>try intro ht)|exact Xx|fail)))
          refine ak _ (i+1,uG.set 2 (.arr 1 (bf ((ph m (g.take i)).set c true)))) ⟨by dsimp only;omega,bE (decide_eq_true ⟨LH,wJ,jo⟩),?_⟩ (by dsimp only;omega) (Xv @aL.eq_1)
          dsimp only
          rw[ef,Y' _ (by omega)]
          exact pd.put _
        · have iF:=iF h0
          obtain ⟨w6,DT⟩:=qq h0
          ((repeat' (first|refine Va (X5 @aL.eq_1 @fm @fx @aJ (X4 @f2 @jm @tD @iF)) ?_|(refine V2 (X5 @aL.eq_1 @fm @fx @aJ (X4 @f2 @jm @tD @iF)) ?_ ?_<;>try with_reducible intro hb)|(refine Xi ?_ ?_<;>try intro ht)|exact Xx|fail)))
          refine ak _ (i+1,uG.set 2 (.arr 1 (bf ((ph m (g.take i)).set c true)))) ⟨by dsimp only;omega,bE (decide_eq_true ⟨LH,wJ,jo⟩),?_⟩ (by dsimp only;omega) (Xv @aL.eq_1)
          dsimp only
          rw[ef,Y' _ (by omega)]
          exact pd.put _
      · have hr:=LC (lJ (decide_eq_false aC))
        rcases oh i with h0 | h0
        · ((repeat' (first|refine Va (X5 @aL.eq_1 @fm @fx @aJ (X2 @f2 @jm)) ?_|(refine V2 (X5 @aL.eq_1 @fm @fx @aJ (X2 @f2 @jm)) ?_ ?_<;>try with_reducible intro hb)|(refine Xi ?_ ?_<;>try intro ht)|exact Xx|fail)))
          all_goals
            repeat (refine Xu ?_)
            ((repeat' (first|refine Vb X0 ?_|fail)))
            exact aE rfl (by rw[hr])
        · have iF:=iF h0
          obtain ⟨w6,DT⟩:=qq h0
          ((repeat' (first|refine Va (X5 @aL.eq_1 @fm @fx @aJ (X3 @f2 @jm @iF)) ?_|(refine V2 (X5 @aL.eq_1 @fm @fx @aJ (X3 @f2 @jm @iF)) ?_ ?_<;>try with_reducible intro hb)|(refine Xi ?_ ?_<;>try intro ht)|exact Xx|fail)))
          all_goals
            repeat (refine Xu ?_)
            ((repeat' (first|refine Vb X0 ?_|fail)))
            exact aE rfl (by rw[hr])
    obtain rfl:i=g.length:=by omega
    have Ff:CF m g=true:=yO.2 fJ
    have I4:=Re Ff
    rw[zK] at *
    clear fJ LC LD
    have Bt:=Bt Ff aT
    ((repeat' (first|refine Va (X2 @fx @aL.eq_1) ?_|(refine V2 (X2 @fx @aL.eq_1) ?_ ?_<;>try with_reducible intro hb)|(refine Xi ?_ ?_<;>try intro ht)|exact Xx|fail)))
    refine aq _ _ rfl ?_;clear ak aq Ql
    repeat (refine Xu ?_)
    clear fm fx f2 fo rH
    refine Va X0 ?_
    refine aG (fun z:Nat × List Ob=>(⟨aw [(2,.tree 1 (rowsOf aK left)),(3,.ptr 0 0 0),(4,.ptr 1 0 0),(7,.ref 2 1 0 m.cls.length),(8,.ref oi 1 0 m.cls.length),(12,.lit (.int .i64 z.1))],z.2⟩:St))
      (fun z=>z.1≤cells.length∧(∀ a,a<z.1→vq m g (cells.getD a default)=true)∧dy [(2,.arr 1 (bf (ph m g))),(oi,.arr 1 (rowsOf lR D)),(0,.var (au m)),(1,.var (aL ⟨xc,xk,xm,g,cells⟩))] D (kj m (cells.take z.1).flatten) z.2) (fun z=>cells.length - z.1) (0,uG) ⟨aH _,fun a ha=>absurd ha (qH _),pd⟩ (Xv X0) ?_
    clear pd uG
    rintro ⟨a,fO⟩ ⟨ha,GU,xF⟩ Ql ak aq
    dsimp only at ha GU xF ⊢
    have fx:=xF.b3
    dsimp only at fx
    by_cases n7:a<cells.length
    · have cd:=az (l:=cells) (i:=a) (d:=default) n7
      have pO:=Zb _ cd
      have lJ:vq m g (cells.getD a default)=false→false=res:=fun h=>(LF (all_false cd h)).symm
      have ef:=ah8 n7
      have bE:vq m g (cells.getD a default)=true→∀ b,b<a+1→vq m g (cells.getD b default)=true:=fun h b hb=>by
        by_cases e:b=a
        · subst e;exact h
        · exact GU b (by omega)
      generalize eV:cells.getD a default=l at *
      generalize (cells.take a).flatten=L0 at *
      ((repeat' (first|refine Va (X3 @fx @aL.eq_1 @eV) ?_|(refine Xi ?_ ?_<;>try intro ht)|exact Xx|fail)))
      refine aG (fun z:Nat × List Ob=>(⟨aw [(2,.tree 1 (rowsOf aK left)),(3,.ptr 0 0 0),(4,.ptr 1 0 0),(7,.ref 2 1 0 m.cls.length),(8,.ref oi 1 0 m.cls.length),(12,.lit (.int .i64 a)),(13,.tree 2 (rowsOf bP l)),(14,.lit (.int .i64 z.1))],z.2⟩:St))
        (fun z=>z.1≤l.length∧(∀ b,b<z.1→wT m g l b=true)∧dy [(2,.arr 1 (bf (ph m g))),(oi,.arr 1 (rowsOf lR D)),(0,.var (au m)),(1,.var (aL ⟨xc,xk,xm,g,cells⟩))] D (kj m (L0++l.take z.1)) z.2) (fun z=>l.length - z.1) (0,fO) ⟨aH _,fun a ha=>absurd ha (qH _),by rw[List.take_zero,List.append_nil];exact xF⟩ (Xv X0) ?_
      clear xF fx
      rintro ⟨k,Zd⟩ ⟨hk,GV,oa⟩ cR ba bd
      dsimp only at hk GV oa ⊢
      have f2:=oa.b0
      have fo:=oa.b1
      have fm:=oa.b2
      have fx:=oa.b3
      dsimp only at f2 fo fm fx
      by_cases aF:k<l.length
      · have zB:wT m g l k=false→false=res:=fun h=>lJ (I' aF h)
        have F7:L0++l.take (k+1)=L0++l.take k++[l.getD k default]:=by rw[eU aF,dj]
        have Bu:wT m g l k=true→∀ b,b<k+1→wT m g l b=true:=fun h b hb=>by
          by_cases e:b=k
          · subst e;exact h
          · exact GV b (by omega)
        rcases kA:l.getD k default with ⟨c,o⟩
        rw[kA] at F7
        rw[Za kA] at zB Bu
        have cO:=C8 m c o
        have jm:=LB m g
        cases hb:ez m c o
        · rw[hb] at cO
          have hr:=zB (by rw[hb];simp)
          ((repeat' (first|refine Vc (X5 @aL.eq_1 @fm @fx @kA @bP.eq_1) cO ?_|(refine Xi ?_ ?_<;>try intro ht)|exact Xx|fail)))
          all_goals
            repeat (refine Xu ?_)
            refine Vb X0 ?_
            exact aE rfl (by rw[hr])
        rw[hb] at cO
        obtain ⟨h01,h02,h03,h04⟩:=cV.1 hb
        obtain ⟨c,rfl⟩:=zM h01
        obtain ⟨o,rfl⟩:=zM h03
        rw[dg] at h04
        have GW:=ah0 (m:=m) g (c:=c) (by omega)
        cases dE:g.contains (c:Int)
        · have hr:=zB (by rw[dE];rfl)
          rw[dE] at GW
          ((repeat' (first|refine Vc (X5 @aL.eq_1 @fm @fx @kA (X4 @bP.eq_1 @f2 @jm @GW)) cO ?_|(refine Xi ?_ ?_<;>try intro ht)|exact Xx|fail)))
          all_goals
            repeat (refine Xu ?_)
            refine Vb X0 ?_
            exact aE rfl (by rw[hr])
        rw[dE] at GW
        rw[hb,dE,gV,gV] at zB Bu
        have bL:=Bs m (L0++l.take k)
        have vT:=Ga oa (j:=c) (by omega)
        obtain ⟨a6,bX⟩:=oa.row c (by omega)
        have xG:((kj m (L0++l.take k)).getD c default).length=(m.cls.getD c default).length:=by rw[GR _ (by omega)];simp
        have xE:=oa.setRow (j:=c) (by omega) (r:=((kj m (L0++l.take k)).getD c default).set o true) (bF ..)
        rw[← ah4 _ (by omega) (by omega),← F7] at xE
        generalize y6:(kj m (L0++l.take k)).getD c default=row at *
        generalize V1:D.getD c default=dd at *
        obtain ⟨dp,dn⟩:=dd
        dsimp only at a6 vT xE bX
        ((repeat' (first|refine Vc (X5 @aL.eq_1 @fm @fx @kA (X5 @bP.eq_1 @f2 @jm @GW (X5 @fo @vT @a6 @xG @tD))) cO ?_|(refine Xi ?_ ?_<;>try intro ht)|exact Xx|fail)))
        generalize Zd.set dp (.arr 1 (bf (row.set o true)))=Ze at *
        have fm:=xE.b2
        have fx:=xE.b3
        dsimp only at fm fx
        refine aG (fun z:Nat=>(⟨aw [(2,.tree 1 (rowsOf aK left)),(3,.ptr 0 0 0),(4,.ptr 1 0 0),(7,.ref 2 1 0 m.cls.length),(8,.ref oi 1 0 m.cls.length),(12,.lit (.int .i64 a)),(13,.tree 2 (rowsOf bP l)),(14,.lit (.int .i64 k)),(15,.lit (.int .i64 z))],Ze⟩:St))
          (fun z=>z≤k∧∀ b,b<z→ue m (c,o) (l.getD b default)=true) (fun z=>k - z) 0 ⟨aH _,fun a ha=>absurd ha (qH _)⟩ (Xv X0) ?_
        rintro j ⟨hj,p9⟩ mh eS eI
        by_cases cq:j<k
        · have LI:ue m (c,o) (l.getD j default)=false→false=res:=fun h=>zB (ah6 hk cq h)
          have GX:ue m (c,o) (l.getD j default)=true→∀ b,b<j+1→ue m (c,o) (l.getD b default)=true:=fun h b hb=>by
            by_cases e:b=j
            · subst e;exact h
            · exact p9 b (by omega)
          have Zf:=GV j cq
          rcases qT:l.getD j default with ⟨d,p⟩
          rw[qT] at LI GX
          rw[Za qT,a7,a7] at Zf
          have hex:=ahZ m d p c o hm Zf.1.2 hb
          by_cases LJ:d=c
          · subst LJ
            ((repeat' (first|refine Va (X5 @aL.eq_1 @kA @qT @bP.eq_1 @bne_self_eq_false.{0}) ?_|(refine Xi ?_ ?_<;>try intro ht)|exact Xx|fail)))
            exact eS _ (j+1) ⟨by omega,GX (by simp[ue])⟩ (by omega) (Xv X0)
          · have aid:ue m ((c:Int),(o:Int)) (d,p)=pG m d p c o:=by
              unfold ue
              rw[decide_eq_false (fun h=>LJ h.symm),Bool.false_or]
              exact Rf (fun h=>LJ h.symm)
            rw[aid] at LI GX
            cases aZ:pG m d p c o
            · have hr:=LI aZ
              rw[aZ] at hex
              ((repeat' (first|refine Vc (X5 @aL.eq_1 @kA @qT @bP.eq_1 @fm) hex ?_|(refine V2 (X5 @aL.eq_1 @kA @qT @bP.eq_1 @fm) ?_ ?_<;>try with_reducible intro hb)|(refine Xi ?_ ?_<;>try intro ht)|exact Xx|fail)))
              all_goals
                repeat (refine Xu ?_)
                refine Vb X0 ?_
                exact aE rfl (by rw[hr])
            · rw[aZ] at hex
              ((repeat' (first|refine Vc (X5 @aL.eq_1 @kA @qT @bP.eq_1 @fm) hex ?_|(refine V2 (X5 @aL.eq_1 @kA @qT @bP.eq_1 @fm) ?_ ?_<;>try with_reducible intro hb)|(refine Xi ?_ ?_<;>try intro ht)|exact Xx|fail)))
              exact eS _ (j+1) ⟨by omega,GX aZ⟩ (by omega) (Xv X0)
        · obtain rfl:j=k:=by omega
          ((repeat' (first|refine Va X0 ?_|(refine V2 X0 ?_ ?_<;>try with_reducible intro hb)|(refine Xi ?_ ?_<;>try intro ht)|exact Xx|fail)))
          refine eI _ _ rfl ?_
          clear eS eI mh
          repeat (refine Xu ?_)
          refine Va X0 ?_
          exact ba _ (j+1,Ze) ⟨by dsimp only;omega,Bu (ah5 hk p9),xE⟩ (by dsimp only;omega) (Xv X0)
      · obtain rfl:k=l.length:=by omega
        ((repeat' (first|refine Va X0 ?_|(refine Xi ?_ ?_<;>try intro ht)|exact Xx|fail)))
        refine bd _ _ rfl ?_
        clear ba bd cR
        repeat (refine Xu ?_)
        refine Va X0 ?_
        rw[zK,← ef] at oa
        exact ak _ (a+1,Zd) ⟨by dsimp only;omega,bE (yO.2 GV),oa⟩ (by dsimp only;omega) (Xv X0)
    obtain rfl:a=cells.length:=by omega
    have aie:cells.all (vq m g)=true:=by
      rw[eW]
      intro c hc
      obtain ⟨b,hb,rfl⟩:=lZ hc
      have:=GU b hb
      rwa [ay,bm hb] at this
    rw[zK] at *
    clear GU LF
    have Bt:=Bt aie
    ((repeat' (first|refine Va (X2 @fx @aL.eq_1) ?_|(refine Xi ?_ ?_<;>try intro ht)|exact Xx|fail)))
    refine aq _ _ rfl ?_;clear ak aq Ql
    repeat (refine Xu ?_)
    have fo:=xF.b1
    have fm:=xF.b2
    dsimp only at fo fm
    have bL:=Bs m cells.flatten
    refine Va X0 ?_
    refine aG (fun i:Nat=>(⟨aw [(2,.tree 1 (rowsOf aK left)),(3,.ptr 0 0 0),(4,.ptr 1 0 0),(7,.ref 2 1 0 m.cls.length),(8,.ref oi 1 0 m.cls.length),(16,.lit (.int .i64 i))],fO⟩:St))
      (fun i=>i≤g.length∧∀ a,a<i→vp left cells (g.getD a 0)=true) (fun i=>g.length - i) 0 ⟨aH _,fun a ha=>absurd ha (qH _)⟩ (Xv X0) ?_
    rintro i ⟨hi,fJ⟩ Ql ak aq
    by_cases ax:i<g.length
    · have cd:=az (l:=g) (i:=i) (d:=0) ax
      have lJ:vp left cells (g.getD i 0)=false→false=res:=fun h=>(Zc (all_false cd h)).symm
      have oE:=I4 _ cd
      have bE:vp left cells (g.getD i 0)=true→∀ a,a<i+1→vp left cells (g.getD a 0)=true:=fun h a ha=>by
        by_cases e:a=i
        · subst e;exact h
        · exact fJ a (by omega)
      generalize aJ:g.getD i 0=c at *
      obtain ⟨c,rfl⟩:=zM oE.1
      have ni:c<m.cls.length:=by omega
      have DA:=hf.row hm _ (az (l:=left) (i:=c) (d:=default) (by omega))
      have ze:=hf.2 c (by omega)
      unfold vp at lJ bE
      rw[dg] at lJ bE
      have vT:=Ga xF (j:=c) (by omega)
      obtain ⟨a6,bX⟩:=xF.row c (by omega)
      have xG:((kj m cells.flatten).getD c default).length=(m.cls.getD c default).length:=by rw[GR _ (by omega)];simp
      have Bv:=fun o=>ah2 (m:=m) cells.flatten (o:=o) ni
      rw[← ze] at xG Bv
      generalize gH:left.getD c default=row at *
      generalize V1:D.getD c default=dd at *
      obtain ⟨dp,dn⟩:=dd
      dsimp only at a6 vT bX
      generalize y6:(kj m cells.flatten).getD c default=ajw at *
      ((repeat' (first|refine Va (X5 @aL.eq_1 @aJ @fx @fo (X2 @vT @xG)) ?_|(refine Xi ?_ ?_<;>try intro ht)|exact Xx|fail)))
      refine aG (fun o:Nat=>(⟨aw [(2,.tree 1 (rowsOf aK left)),(3,.ptr 0 0 0),(4,.ptr 1 0 0),(7,.ref 2 1 0 m.cls.length),(8,.ref oi 1 0 m.cls.length),(16,.lit (.int .i64 i)),(17,.lit (.int .i64 c)),(18,.lit (.int .i64 o))],fO⟩:St))
        (fun o=>o≤row.length∧∀ a,a<o→(!row.getD a false || cells.any fun l=>l.any (nZ c a))=true) (fun o=>row.length - o) 0 ⟨aH _,fun a ha=>absurd ha (qH _)⟩ (Xv @aL.eq_1) ?_
      rintro o ⟨ho,Zg⟩ cR ba bd
      by_cases cp:o<row.length
      · have zB:=fun h=>lJ (I' (f:=fun o:Nat=>!row.getD o false || cells.any fun l=>l.any (nZ c o)) cp h)
        have Bu:(!row.getD o false || cells.any fun l=>l.any (nZ c o))=true→∀ a,a<o+1→(!row.getD a false || cells.any fun l=>l.any (nZ c a))=true:=fun h a ha=>by
          by_cases e:a=o
          · subst e;exact h
          · exact Zg a (by omega)
        have Bv:=Bv o cp
        rw[← ah7] at Bv
        generalize eF:row.getD o false=b at *
        generalize cells.any (fun l=>l.any (nZ c o))=cov at *
        cases b
        · ((repeat' (first|refine Va (X5 @aL.eq_1 @aK.eq_1 @gH @eF (X4 @fo @vT @a6 @xG)) ?_|(refine Xi ?_ ?_<;>try intro ht)|exact Xx|fail)))
          exact ba _ (o+1) ⟨by omega,Bu rfl⟩ (by omega) (Xv @aL.eq_1)
        · cases cov
          · have hr:=zB rfl
            ((repeat' (first|refine Va (X5 @aL.eq_1 @aK.eq_1 @gH @eF (X5 @fo @vT @a6 @xG @Bv)) ?_|(refine Xi ?_ ?_<;>try intro ht)|exact Xx|fail)))
            all_goals
              repeat (refine Xu ?_)
              refine Vb X0 ?_
              exact aE rfl (by rw[hr])
          · ((repeat' (first|refine Va (X5 @aL.eq_1 @aK.eq_1 @gH @eF (X5 @fo @vT @a6 @xG @Bv)) ?_|(refine Xi ?_ ?_<;>try intro ht)|exact Xx|fail)))
            exact ba _ (o+1) ⟨by omega,Bu rfl⟩ (by omega) (Xv @aL.eq_1)
      · obtain rfl:o=row.length:=by omega
        ((repeat' (first|refine Va (X4 @fo @vT @a6 @xG) ?_|(refine Xi ?_ ?_<;>try intro ht)|exact Xx|fail)))
        refine bd _ _ rfl ?_
        clear ba bd cR
        repeat (refine Xu ?_)
        refine Va @aL.eq_1 ?_
        exact ak _ (i+1) ⟨by omega,bE (yO.2 Zg)⟩ (by omega) (Xv X0)
    · obtain rfl:i=g.length:=by omega
      have hr:=Bt (by
        rw[eW]
        intro c hc
        obtain ⟨a,ha,rfl⟩:=lZ hc
        have:=fJ a ha
        rwa [ay,bm ha] at this)
      ((repeat' (first|refine Va (X2 @fx @aL.eq_1) ?_|(refine Xi ?_ ?_<;>try intro ht)|exact Xx|fail)))
      refine aq _ _ rfl ?_;clear ak aq Ql
      repeat (refine Xu ?_)
      refine Vb X0 ?_
      exact aE rfl (by rw[hr])
end T

