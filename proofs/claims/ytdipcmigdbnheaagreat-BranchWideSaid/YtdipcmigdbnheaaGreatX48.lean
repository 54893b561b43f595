import Derived.Test.YtdipcmigdbnheaaGreatX35
import Derived.Test.YtdipcmigdbnheaaGreatX44
import Derived.Test.YtdipcmigdbnheaaGreatX47
import Derived.Test.YtdipcmigdbnheaaGreatX43
set_option linter.unusedVariables false
set_option linter.unusedSimpArgs false
set_option linter.unnecessarySimpa false
set_option linter.unusedSectionVars false
set_option maxHeartbeats 64000000
set_option maxRecDepth 20000
open List renaming getElem_of_mem→lZ,getD_eq_getElem?_getD→ay,getElem?_eq_getElem→bm,eq_nil_of_length_eq_zero→qF
open Nat renaming zero_le→aH,eq_zero_or_pos→oh
open Go Go.Am
open Go Go.Am Go.Proofs
open Nat (reduceEqDiff reduceAdd reduceLeDiff reduceMul)
open Int (reduceNeg reduceLE reduceToNat)
namespace T
def pC (m:ae) (p0:List Int) (t0:Int):Prop:=(p0=[]∧t0=1099511627776)∨(FP m p0∧nm m p0=t0∧t0<1099511627776)
theorem pC.top {m:ae} {p:List Int} {t:Int} (h:pC m p t):t≤1099511627776:=by
  rcases h with ⟨_,h⟩ | ⟨_,_,h⟩<;>omega
def Cm (bk:Int) (p0:List Int) (t0:Int):DS:=⟨[],19999,bk,true,p0,t0,1099511627776⟩
variable {m:ae} {left:List (List Bool)} {p:List Int}
theorem Qa {f:List (List Bool)→DS→DS} {c:Nat} {N:Nat} (hf:∀ k s,k<N→pC m s.plan s.aU→pC m (f (bq left c k) s).plan (f (bq left c k) s).aU) :
    ∀ (w o:Nat) (s:DS) (ks:List Int),o+w=N→pC m s.plan s.aU→pC m (fI f left c w o s ks).1.plan (fI f left c w o s ks).1.aU
  | 0,o,s,ks,ho,h=>h
  | w+1,o,s,ks,ho,h=>by
    rw[fI]
    exact Qa hf w (o+1) _ _ (by omega) (hf o s (by omega) h)
theorem Qd (hm:VM m):∀ (f:Nat) (left:List (List Bool)) (p:List Int) (s:DS),left.length+1≤f+p.length→Dn m left p→pC m s.plan s.aU→pC m (j4 m f p.length left s).plan (j4 m f p.length left s).aU
  | 0,left,p,s,hf,h,hk=>by have:=h.bp.len;rw[← h.fit.1] at this;omega
  | f+1,left,p,s,hf,h,hk=>by
    obtain ⟨r,h1,h2,h3⟩:=Dn.skip (left:=left) _ p rfl h
    obtain ⟨g1,g2,g3,g4⟩:=yE (left:=left) _ p.length rfl
    have b9:p.length≤left.length:=by rw[h.fit.1];exact h.bp.len
    have dx:=h.fit
    have IC:=hk.top
    rw[j4]
    split
    · exact hk
    rename_i hv
    split
    · rename_i he
      have sr:(p++r).length=m.cls.length:=by rw[h2,he,dx.1]
      refine .inr ⟨?_,?_,?_⟩
      · show FP m (iO left)
        rw[h1.ID sr];exact h1.bp.fp sr
      · show nm m (iO left)=ey m left
        rw[h1.ID sr];exact (h1.exact hm sr).symm
      · show ey m left<_
        omega
    rename_i he
    split
    · exact hk
    rw[← h2] at he ⊢
    have aT:(p++r).length<m.cls.length:=by
      have:=h1.bp.len
      rw[dx.1] at he
      omega
    have a6:(left.getD (p++r).length default).length=(m.cls.getD (p++r).length default).length:=dx.2 _ (by rw[dx.1];exact aT)
    have IE:p.length≤(p++r).length:=by simp
    generalize hP:p++r=P at *
    exact Qa (m:=m) (left:=left) (c:=P.length) (f:=j4 m f (P.length+1)) (N:=(left.getD P.length default).length) (fun k s' bG hs=>by
      have:=Qd hm f (bq left P.length k) (P++[(k:Int)]) s' (by rw[show (bq left P.length k).length=left.length by unfold bq;simp];simp;omega) (h1.next aT (by omega)) hs
      rwa [show (P++[(k:Int)]).length=P.length+1 by simp] at this) _ 0 (j5 left P.length (ey m left) s) [] (by omega) hk
theorem abI (h:FP m p):[] ∉ m.cls:=by
  intro he
  obtain ⟨i,hi,hg⟩:=lZ he
  obtain ⟨_,_,h1,h2⟩:=cV.1 (h.get i (by rw[h.len];exact hi))
  rw[Int.toNat_natCast,ay (l:=m.cls),bm hi,Option.getD_some,hg] at h2
  have:p.getD i 0<0:=h2
  omega
def iD (m:ae) (bk:Int) (p0:List Int) (t0:Int):DS:=j4 m (m.cls.length+1) 0 (cQ m) (Cm bk p0 t0)
theorem abJ (hm:VM m) {P:List Nd} {v:List Int} (hv:Tr m P 0 P.length (cQ m) [] v) (hl:P.length≤20000):PB P:=by
  have hn:=hv.tR.yF
  have hf:=hv.tR.flat
  have gX:∀ x∈P,∃ i,i<P.length∧nd P i=x:=fun x hx=>by
    obtain ⟨i,hi,rfl⟩:=lZ hx
    exact⟨i,hi,by unfold nd;rw[ay,bm hi];rfl⟩
  refine⟨by omega,fun x hx=>?_,fun x hx=>?_,fun x hx=>?_,fun x hx=>?_,fun x hx l hl=>?_⟩
  all_goals
    obtain ⟨i,hi,rfl⟩:=gX x hx
    obtain ⟨f1,f2,f3⟩:=hf i (aH _) hi
    obtain ⟨n1,_⟩:=hn i (aH _) hi
  · have:=Ar hm n1;omega
  · omega
  · rw[f2];decide
  · rw[f3];decide
  · rw[f3] at hl;cases hl
theorem abK (hm:VM m) {bk:Int} (hs:0≤bk) {p0:List Int} {t0:Int} (hk:pC m p0 t0) :
    pC m (iD m bk p0 t0).plan (iD m bk p0 t0).aU∧(iD m bk p0 t0).aU≤t0∧((iD m bk p0 t0).aU=1099511627776→0<m.cls.length) ∧
    (iD m bk p0 t0).bH≤(iD m bk p0 t0).aU∧kD m (iD m bk p0 t0).nodes=((iD m bk p0 t0).bH,true)∧PB (iD m bk p0 t0).nodes ∧
    (oK m≤bk→oK m≤4096→(iD m bk p0 t0).bH=(iD m bk p0 t0).aU):=by
  have hr:=Dn.root hm
  have hd:=E7 hm (m.cls.length+1) (cQ m) [] (Cm bk p0 t0) (by rw[hr.fit.1];simp) hr
  have wK:pC m (iD m bk p0 t0).plan (iD m bk p0 t0).aU:=Qd hm (m.cls.length+1) (cQ m) [] (Cm bk p0 t0) (by rw[hr.fit.1];simp) hr hk
  have IC:=hk.top
  have hw:oK m≤bk→oK m≤4096→(iD m bk p0 t0).whole=true:=by
    intro w1 w2
    by_cases he:[]∈m.cls
    · have ht:t0=1099511627776:=by
        rcases hk with ⟨_,h⟩ | ⟨h,_⟩
        · exact h
        · exact absurd he (abI h)
      unfold iD
      rw[j4,Qe he,if_pos (by show t0≤_;omega)];rfl
    · have lF:∀ l∈m.cls,1≤l.length:=fun l hl=>by
        cases l with
        | nil=>exact absurd hl he
        | cons a b=>simp
      have hc:j6 m m.cls.length=tS m.cls:=by rw[Qf m _ (Nat.le_refl _),Nat.sub_self,List.drop_zero]
      unfold oK at w1 w2
      rw[if_pos (iu.2 hm),show (1:Int)=((1:Nat):Int) from rfl,Qg _ _ he (by omega),Nat.one_mul,← hc] at w1 w2
      refine (IF hm lF (m.cls.length+1) (cQ m) [] (Cm bk p0 t0) (by rw[hr.fit.1];simp) hr rfl ?_ ?_).1
      · show (2 * j6 m m.cls.length - 2:Int)≤19999;omega
      · show (j6 m m.cls.length - 1:Int)≤bk;omega
  change DL m (cQ m) [] (Cm bk p0 t0) (iD m bk p0 t0) at hd
  have h0:(iD m bk p0 t0).aU=1099511627776→0<m.cls.length:=fun ht=>by
    rcases oh m.cls.length with h | h
    · exfalso
      have hx:=(Dn.root hm).exact hm (by rw[h];rfl)
      rw[abL hm h] at hx
      have hl:(cQ m).length=0:=by rw[hr.fit.1,h]
      have Qh:cC (cQ m) 0=(cQ m).length:=by rw[E8 (by omega),hl]
      unfold iD at ht
      rw[j4,hx] at ht
      split at ht
      · rename_i h1
        have:t0=1099511627776:=ht
        have:t0≤0:=h1
        omega
      · have:(0:Int)=1099511627776:=ht
        omega
    · exact h
  generalize iD m bk p0 t0=r at *
  obtain ⟨d1,d2,d3,d4,d5,d6,d7,d8,d9⟩:=hd
  change r.aU≤t0 at d1
  change r.bH≤1099511627776 at d2
  change r.aU<t0→r.bH≤r.aU at d3
  change (r.nodes.length:Int)+r.room=0+19999+1 at d5
  have d6:0≤r.room:=d6 (by show (0:Int)≤19999;omega)
  obtain ⟨v,hv,yG⟩:=d9 [] (fun x hx=>by cases hx)
  have yG:r.bH=mJ v 1099511627776:=yG
  have hv:Tr m r.nodes 0 r.nodes.length (cQ m) [] v:=hv
  have ej:=Tr.dZ (P:=r.nodes) hm hv (by omega)
  rw[← yG] at ej
  have hle:r.bH≤r.aU:=by
    rcases wK with ⟨_,h⟩ | ⟨h1,h2,_⟩
    · omega
    · have:=abM ej h1
      unfold nm at h2
      omega
  refine⟨wK,d1,h0,hle,ej,abJ hm hv (by omega),fun w1 w2=>?_⟩
  have:=(d4 (hw w1 w2)).2.2
  change min 1099511627776 r.aU≤r.bH at this
  omega
end T
namespace T
theorem abN (m:ae) (steps:Int) (hb:MB m):ao Tryz.prog 107 [.agg (au m),.tree 1 (ints []),.lit (.int .i64 steps)] [] (.bM [.tree 1 (ints (nq m [] steps).1),.lit (.int .i64 (nq m [] steps).2.1),.lit (.int .i64 (nq m [] steps).2.2)]) []:=by
  generalize aj:nq m [] steps=res
  unfold nq at aj
  have hc:=Qi m [] hb (by decide)
  by_cases hz:mK m []=0
  rotate_left
  · rw[if_pos hz] at aj
    rw[← aj]
    generalize mK m []=cv at *
    refine ao.aD (fn:=Tryz.f107) 51 0 [.tmp 6,.tmp 7,.tmp 8] Tryz.func107 rfl rfl rfl rfl rfl (by simp) ?_
    ((repeat' (first|refine Vd X0 hc ?_|(refine V2 X0 ?_ ?_<;>try with_reducible intro hb)|(refine Xi ?_ ?_<;>try intro ht)|exact Xx|fail)))
    all_goals first|(exfalso;omega)|skip
    exact dR [] true (by decide) trivial (by decide) (by decide) (tT aO.nil (.pure rfl) (.pure rfl))
  rw[if_neg (by omega)] at aj
  rw[hz] at hc
  obtain ⟨hm,hp⟩:=IG hz
  by_cases hs:steps<0∨65536<steps
  · rw[if_pos hs] at aj
    rw[← aj]
    refine ao.aD (fn:=Tryz.f107) 51 0 [.tmp 6,.tmp 7,.tmp 8] Tryz.func107 rfl rfl rfl rfl rfl (by simp) ?_
    ((repeat' (first|refine Vd X0 hc ?_|(refine V2 X0 ?_ ?_<;>try with_reducible intro hb)|(refine Xi ?_ ?_<;>try intro ht)|exact Xx|fail)))
    all_goals first|(exfalso;omega)|exact dR [] true (by decide) trivial (by decide) (by decide) (tT aO.nil (.pure rfl) (.pure rfl))
  rw[if_neg hs] at aj
  have hlen:=hp.len
  have lD:m.cls=[]:=qF (by simpa using hlen.symm)
  have nW:jt m []=(iX m [],(0,0),false):=by unfold jt;rw[lD];rfl
  have Qj:∀ k,ld m k [] 0=([],0):=fun k=>by
    cases k with
    | zero=>rfl
    | succ k=>rw[ld,nW,if_neg (by simp)]
  rw[Qj] at aj
  rw[← aj]
  have lE:=Qk m [] hm hp
  rw[nW] at lE
  have bL:=Qm [] (by decide)
  refine ao.aD (fn:=Tryz.f107) 51 0 [.tmp 6,.tmp 7,.tmp 8] Tryz.func107 rfl rfl rfl rfl rfl (by simp) ?_
  ((repeat' (first|refine Vd X0 (X2 hc bL) ?_|(refine V2 X0 ?_ ?_<;>try with_reducible intro hb)|(refine Xi ?_ ?_<;>try intro ht)|exact Xx|fail)))
  refine aG (fun z:Unit=>(⟨aw [(2,.lit (.int .i64 steps)),(3,.ptr 0 0 0),(10,.tree 1 (ints [])),(28,.lit (.int .i64 steps)),(29,.lit (.int .i64 0))],[.var (au m)]⟩:St))
    (fun z=>True) (fun z=>0) () trivial (Xv X0) ?_
  rintro ⟨⟩ - Ql ak aq
  by_cases aF:0<steps
  · ((repeat' (first|refine Vc @gL.eq_1 lE ?_|(refine Xi ?_ ?_<;>try intro ht)|exact Xx|fail)))
    repeat (refine Xu ?_)
    refine Vb X0 ?_
    exact aE rfl rfl
  · ((repeat' (first|refine Va X0 ?_|(refine Xi ?_ ?_<;>try intro ht)|exact Xx|fail)))
    obtain rfl:steps=0:=by omega
    refine aq _ _ rfl ?_;clear ak aq Ql
    repeat (refine Xu ?_)
    refine Vb X0 ?_
    exact aE rfl rfl
theorem abO (m:ae) (plan:List Int) (steps:Int) (hb:MB m) (b9:plan.length<9223372036854775808):ao Tryz.prog 107 [.agg (au m),.tree 1 (ints plan),.lit (.int .i64 steps)] [] (.bM [.tree 1 (ints (nq m plan steps).1),.lit (.int .i64 (nq m plan steps).2.1),.lit (.int .i64 (nq m plan steps).2.2)]) []:=by
  rcases oh plan.length with h | h
  · obtain rfl:=qF h
    exact abN m steps hb
  · exact abP m plan steps hb ⟨h,b9⟩
end T
namespace T
theorem abQ {m:ae} {p:List Int} (h:(nq m p 24).2.2=0):FP m (nq m p 24).1:=by
  unfold nq at h ⊢
  by_cases h1:mK m p≠0
  · rw[if_pos h1] at h
    exact absurd h h1
  · have hc:=IG (Decidable.not_not.1 h1)
    rw[if_neg h1,if_neg (by decide)]
    exact (Qn hc.1 _ p 0 hc.2).1
def lg (p0:List Int) (t0:Int):AV:=if t0<1099511627776 then .tree 1 (ints p0) else .lit (.slice none 0 0)
theorem abR (m:ae) (hm:VM m) :∃p0 t0,pC m p0 t0∧ao Tryz.prog 57 [.agg (au m)] [] (.agg [lg p0 t0,.lit (.int .i64 t0),.lit (.int .i64 0),.lit (.slice none 0 0)]) []:=by
  have h1:=abS m hm.mb
  rw[show As m=(rf m,0) by unfold As;rw[if_neg (by rw[iu.2 hm];simp)]] at h1
  have nX:=hm.cls
  have h2:=abO m (rf m) 24 hm.mb (by rw[(Qo m).len];omega)
  have mc:=@abQ m (rf m)
  generalize nq m (rf m) 24=dv at *
  obtain ⟨q,n,e⟩:=dv
  generalize rf m=sp at *
  dsimp only at h1 h2 mc
  by_cases he:e=0
  · subst he
    have hq:=mc rfl
    have h3:=abT m q hm.mb (by rw[hq.len];omega)
    rw[Qp hm hq.pm] at h3
    dsimp only at h3
    have ht:nm m q=gY (gZ m q) 0:=rfl
    generalize gY (gZ m q) 0=t at *
    generalize gZ m q=rl at *
    by_cases aT:t<1099511627776
    · refine⟨q,t,.inr ⟨hq,ht,aT⟩,?_⟩
      unfold lg
      rw[if_pos aT]
      refine ao.aD (fn:=Tryz.f57) 38 0 [.cell 2 41] Tryz.func57 rfl rfl rfl rfl rfl (by simp) ?_
      ((repeat' (first|refine Vd X0 (X3 h1 h2 h3) ?_|(refine Xi ?_ ?_<;>try intro ht)|exact Xx|fail)))
      all_goals
        simp (disch:=omega) only[Ac,↓Pc,simprocAttr,rowOf]
        exact aE rfl rfl
    · refine⟨[],1099511627776,.inl ⟨rfl,rfl⟩,?_⟩
      unfold lg
      rw[if_neg (by decide)]
      refine ao.aD (fn:=Tryz.f57) 38 0 [.cell 2 41] Tryz.func57 rfl rfl rfl rfl rfl (by simp) ?_
      ((repeat' (first|refine Vd X0 (X3 h1 h2 h3) ?_|(refine Xi ?_ ?_<;>try intro ht)|exact Xx|fail)))
      all_goals
        simp (disch:=omega) only[Ac,↓Pc,simprocAttr,rowOf]
        exact aE rfl rfl
  · refine⟨[],1099511627776,.inl ⟨rfl,rfl⟩,?_⟩
    unfold lg
    rw[if_neg (by decide)]
    refine ao.aD (fn:=Tryz.f57) 38 0 [.cell 2 41] Tryz.func57 rfl rfl rfl rfl rfl (by simp) ?_
    ((repeat' (first|refine Vd X0 (X2 h1 h2) ?_|(refine Xi ?_ ?_<;>try intro ht)|exact Xx|fail)))
    all_goals
      simp (disch:=omega) only[Ac,↓Pc,simprocAttr,rowOf]
      exact aE rfl rfl
structure SR (m:ae) (k:Int) (pa:AV) (aU bH:Int) (P:List Nd):Prop where
  pa:(pa=.lit (.slice none 0 0)∧aU=1099511627776∧0<m.cls.length)∨∃ q,pa=.tree 1 (ints q)∧FP m q∧nm m q=aU∧aU<1099511627776
  le:bH≤aU
  dZ:kD m P=(bH,true)
  pb:PB P
  eq:oK m≤k→oK m≤4096→bH=aU
theorem abU {m:ae} {p0:List Int} {t0:Int} {r:DS} (hk:pC m p0 t0) (h1:pC m r.plan r.aU) (h2:r.aU≤t0) (h3:r.aU=1099511627776→0<m.cls.length) :
    (ek (lg p0 t0) t0 r=.lit (.slice none 0 0)∧r.aU=1099511627776∧0<m.cls.length)∨∃ q,ek (lg p0 t0) t0 r=.tree 1 (ints q)∧FP m q∧nm m q=r.aU∧r.aU<1099511627776:=by
  have IC:=hk.top
  unfold ek lg
  by_cases h:r.aU<t0
  · right
    rw[if_pos h]
    rcases h1 with ⟨_,h5⟩ | ⟨a,b,c⟩
    · omega
    · exact⟨_,rfl,a,b,c⟩
  · rw[if_neg h]
    rcases hk with ⟨a,b⟩ | ⟨a,b,c⟩
    · left
      rw[if_neg (by omega)]
      exact⟨rfl,by omega,h3 (by omega)⟩
    · right
      rw[if_pos c]
      exact⟨_,rfl,a,by omega,by omega⟩
theorem abH (m:ae) (k:Int) (hm:MB m) (hv:dW m≠0):ao Tryz.prog 24 [.agg (au m),.lit (.int .i64 k)] [] (.bM [Aq,.lit (.int .i64 (dW m))]) []:=by
  have h1:=sI m hm
  generalize dW m=e at *
  unfold Aq
  refine ao.aD (fn:=Tryz.f24) 31 0 [.cell 4 41,.tmp 5] Tryz.func24 rfl rfl rfl rfl rfl (by simp) ?_
  ((repeat' (first|refine Vd X0 h1 ?_|(refine V2 X0 ?_ ?_<;>try with_reducible intro hb)|(refine Xi ?_ ?_<;>try intro ht)|exact Xx|fail)))
  all_goals
    simp (disch:=omega) only[Ac,↓Pc,simprocAttr,rowOf]
    exact aE rfl rfl
theorem abG (m:ae) (k:Int) (hm:VM m) (hk:k<0∨65536<k):ao Tryz.prog 24 [.agg (au m),.lit (.int .i64 k)] [] (.bM [Aq,.lit (.int .i64 3)]) []:=by
  have h1:=sI m hm.mb
  rw[iu.2 hm] at h1
  unfold Aq
  refine ao.aD (fn:=Tryz.f24) 31 0 [.cell 4 41,.tmp 5] Tryz.func24 rfl rfl rfl rfl rfl (by simp) ?_
  ((repeat' (first|refine Vd X0 h1 ?_|(refine V2 X0 ?_ ?_<;>try with_reducible intro hb)|(refine Xi ?_ ?_<;>try intro ht)|exact Xx|fail)))
  all_goals
    simp (disch:=omega) only[Ac,↓Pc,simprocAttr,rowOf]
    exact aE rfl rfl
theorem P8 (m:ae) (k:Int) (hm:VM m) (hk:0≤k∧k≤65536) :∃pa aU bH P,SR m k pa aU bH P∧ao Tryz.prog 24 [.agg (au m),.lit (.int .i64 k)] [] (.bM [.agg [pa,.lit (.int .i64 aU),.lit (.int .i64 bH),.tree 5 (rowsOf aL P)],.lit (.int .i64 0)]) []:=by
  have h1:=sI m hm.mb
  rw[iu.2 hm] at h1
  obtain ⟨p0,t0,wK,h2⟩:=abR m hm
  have yH:gy (lg p0 t0)=true:=by unfold lg;split<;>rfl
  have ot:cm (lg p0 t0)=true:=by unfold lg;split<;>rfl
  have E9:∀ ρ,aX ρ (lg p0 t0)=lg p0 t0:=fun ρ=>by unfold lg;split<;>rfl
  have hg:=Qq m hm k (by omega) p0 t0 (lg p0 t0) yH ot 0
  obtain ⟨s1,s2,s3,s4,s5,s6,s7⟩:=abK hm hk.1 wK
  rw[show wL m k p0 t0=iD m k p0 t0 from rfl] at hg
  have E':=abU wK s1 s2 s3
  have jK:cm (ek (lg p0 t0) t0 (iD m k p0 t0))=true:=by unfold ek;split<;>first|rfl|exact ot
  have wM:=IH (t0:=t0) (s:=iD m k p0 t0) yH
  have jr:∀ ρ,aX ρ (ek (lg p0 t0) t0 (iD m k p0 t0))=ek (lg p0 t0) t0 (iD m k p0 t0):=fun ρ=>by unfold ek;split<;>first|rfl|exact E9 ρ
  refine⟨ek (lg p0 t0) t0 (iD m k p0 t0),_,_,(iD m k p0 t0).nodes,⟨E',s4,s5,s6,s7⟩,?_⟩
  clear s1 s2 s3 s4 s5 s6 s7 E'
  generalize ek (lg p0 t0) t0 (iD m k p0 t0)=pa at *
  generalize lg p0 t0=pv at *
  generalize iD m k p0 t0=s at *
  refine ao.aD (fn:=Tryz.f24) 31 0 [.cell 4 41,.tmp 5] Tryz.func24 rfl rfl rfl rfl rfl (by simp) ?_
  ((repeat' (first|refine Vd (X2 @jK @bne_self_eq_false.{0}) h1 ?_|(refine V2 (X2 @jK @bne_self_eq_false.{0}) ?_ ?_<;>try with_reducible intro hb)|(refine Xi ?_ ?_<;>try intro ht)|exact Xx|fail))<;>try with_reducible intro K hK)
  refine bZ h2 rfl (by simp[gy,jl,yH]) ?_
  simp (disch:=omega) only[Ac,↓Pc,simprocAttr,ot]
  refine bZ hg (by simp[gy,jl,yH]) (by simp[gy,jl,wM]) ?_
  simp (disch:=omega) only[Ac,↓Pc,simprocAttr,ot,jK]
  ((try revert hK K);(refine Vb (X2 @jK @jr) ?_))
  all_goals
    simp (disch:=omega) only[Ac,↓Pc,simprocAttr,rowOf]
    exact aE (by simp[gy,jl,wM]) rfl
theorem P9 (m:ae) (hm:VM m) {k:Int} {pa:AV} {aU bH:Int} {P:List Nd} (h:SR m k pa aU bH P):ao Tryz.prog 22 [.agg (au m),.agg [pa,.lit (.int .i64 aU),.lit (.int .i64 bH),.tree 5 (rowsOf aL P)]] [] (.lit (.bool true)) []:=by
  obtain ⟨E',hle,ej,hP,_⟩:=h
  have hq:=abV m P hm.mb hP (fun x left hx hv hf=>abW m x left hv hf (hP.b5 x hx) (hP.cells x hx) (hP.cell x hx))
  rw[abX,ej] at hq
  have nX:=hm.cls
  dsimp only at hq
  rcases E' with ⟨rfl,rfl,hn⟩ | ⟨q,rfl,mc,II,aT⟩
  · refine ao.aD (fn:=Tryz.f22) 72 0 [.tmp 4] Tryz.func22 rfl rfl rfl rfl rfl (by simp) ?_
    ((repeat' (first|refine Vd X0 hq ?_|(refine V2 X0 ?_ ?_<;>try with_reducible intro hb)|(refine Xi ?_ ?_<;>try intro ht)|exact Xx|fail)))
    all_goals try (exfalso;simp_all;done)
    all_goals exact aE rfl (by first|rfl|simp)
  · have nM:=abY m q hm.mb (by have:=mc.len;omega)
    rw[Qp hm mc.pm] at nM
    dsimp only at nM
    have gJ:=abZ m q hm.mb (by have:=mc.len;omega)
    rw[ab0 hm mc] at gJ
    unfold nm at II
    rw[II] at nM
    have b9:=mc.len
    generalize gZ m q=rl at *
    clear II ej hP
    refine ao.aD (fn:=Tryz.f22) 72 0 [.tmp 4] Tryz.func22 rfl rfl rfl rfl rfl (by simp) ?_
    ((repeat' (first|refine Vd @bne_self_eq_false.{0} (X3 hq nM gJ) ?_|(refine V2 @bne_self_eq_false.{0} ?_ ?_<;>try with_reducible intro hb)|(refine Xi ?_ ?_<;>try intro ht)|exact Xx|fail)))
    all_goals exact aE rfl (by first|rfl|(rw[decide_eq_true aT];done)|simp_all|(simp;omega))
end T

