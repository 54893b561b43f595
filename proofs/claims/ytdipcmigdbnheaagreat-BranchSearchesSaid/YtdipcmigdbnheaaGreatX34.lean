import Derived.Test.YtdipcmigdbnheaaGreatX31
import Derived.Test.YtdipcmigdbnheaaGreatX33
import Derived.Test.YtdipcmigdbnheaaGreatX23
set_option linter.unusedVariables false
set_option linter.unusedSimpArgs false
set_option linter.unnecessarySimpa false
set_option linter.unusedSectionVars false
set_option maxHeartbeats 64000000
set_option maxRecDepth 20000
open List renaming getD_eq_getElem?_getD→ay,getElem?_append_left→dH,getElem?_append_right→fA,getElem?_set→bO,getElem?_replicate→rW,length_append→bU,append_assoc→dj,mem_singleton→ee,mem_cons→bW,mem_flatMap→xP,mem_reverse→rY,getD_cons_zero→fT,getD_cons_succ→ep,mem_append→dh,replicate_succ→vY,length_map→eD,getElem?_eq_getElem→bm
open Nat renaming le_refl→aV,sub_self→iz,zero_le→aH,zero_add→eK
open Int renaming le_refl→c9,toNat_natCast→dg,natCast_add→uN,add_mul→Hf,mul_nonneg→pt
open Go Go.Am
namespace T
def IK (w:Nat):Nat→Nat
  | 0=>1
  | s+1=>1+w * IK w s
structure aiN (m:ae) (L:List Int) (w:Nat) (s:Nat) (ab:List Int) (nodes:List Nd) (r:List Nd × Nat):Prop where
  k:r.2≤L.length
  lt:nodes.length<r.1.length
  le:r.1.length≤nodes.length+IK w s
  pre:∀ i,i<nodes.length→nd r.1 i=nd nodes i
  tR:ja m r.1 (fun _=>True) nodes.length r.1.length ab
theorem Qt {P:List Nd} {x:Nd} {i:Nat} (h:i<P.length):nd (P++[x]) i=nd P i:=by
  unfold nd
  rw[ay,dH h,ay]
theorem ab7 {P:List Nd} {x:Nd}:nd (P++[x]) P.length=x:=by
  unfold nd
  rw[ay,fA (aV _)];simp
theorem Qu {P:List Nd} {x:Nd} {i j:Nat} (h:j<P.length):nd (P.set j x) i=if i=j then x else nd P i:=by
  unfold nd
  rw[ay,bO]
  by_cases e:j=i
  · subst e;rw[if_pos rfl,if_pos h,if_pos rfl];rfl
  · rw[if_neg e,if_neg (Ne.symm e),ay]
end T
namespace T
def upto (n:Nat):List Int:=(List.range n).map fun (j:Nat)=>(j:Int)
structure aiO (m:ae) (w d:Nat) (nodes r:List Nd):Prop where
  lt:nodes.length<r.length
  le:r.length≤nodes.length+IK w d
  pre:∀ i,i<nodes.length→nd r i=nd nodes i
  tR:ja m r (fun ab=>ab=upto m.cls.length) nodes.length r.length (upto (m.cls.length - d))
theorem Qv {w o:Nat} (h:o<w) (j:Nat):(lG w o).getD j false=decide (j=o):=by
  unfold lG
  rw[ay,bO,List.length_replicate]
  by_cases e:o=j
  · subst e;rw[if_pos rfl,if_pos h,decide_eq_true rfl];rfl
  · rw[if_neg e,rW,decide_eq_false (Ne.symm e)]
    split<;>rfl
end T
namespace T
def Fb (left:List (List Bool)):Nat→Nat→Nat
  | 0,c=>c
  | f+1,c=>if c<left.length∧(left.getD c default).length=1 then Fb left f (c+1) else c
def cC (left:List (List Bool)) (c:Nat):Nat:=Fb left (left.length - c) c
theorem IL {left:List (List Bool)} {c:Nat} (h:c<left.length∧(left.getD c default).length=1):cC left c=cC left (c+1):=by
  unfold cC
  rw[show left.length - c=(left.length - (c+1))+1 by omega,Fb,if_pos h]
theorem E8 {left:List (List Bool)} {c:Nat} (h:¬(c<left.length∧(left.getD c default).length=1)):cC left c=c:=by
  unfold cC
  cases left.length - c with
  | zero=>rfl
  | succ f=>rw[Fb,if_neg h]
theorem yE {left:List (List Bool)}:∀ (k c:Nat),left.length - c=k→c≤cC left c∧(c≤left.length→cC left c≤left.length)∧(∀ j,c≤j→j<cC left c→j<left.length∧(left.getD j default).length=1)∧(cC left c<left.length→(left.getD (cC left c) default).length≠1)
  | k,c,hk=>by
    by_cases h:c<left.length∧(left.getD c default).length=1
    · rw[IL h]
      obtain ⟨a,b,d,e⟩:=yE (left:=left) (k - 1) (c+1) (by omega)
      refine⟨by omega,fun _=>b (by omega),fun j h1 h2=>?_,e⟩
      by_cases e2:j=c
      · subst e2;exact h
      · exact d j (by omega) h2
    · rw[E8 h]
      exact⟨aV _,fun h=>h,fun j h1 h2=>by omega,fun h1 h2=>h ⟨h1,h2⟩⟩
termination_by k c _=>left.length - c
def rh:List Bool→Int→Int
  | [],_=>-1
  | b::r,i=>if b=true then i else rh r (i+1)
def iO (left:List (List Bool)):List Int:=left.map fun l=>rh l 0
structure DS where
  nodes:List Nd
  room:Int
  bk:Int
  whole:Bool
  plan:List Int
  aU:Int
  bH:Int
def fI (f:List (List Bool)→DS→DS) (left:List (List Bool)) (c:Nat):Nat→Nat→DS→List Int→DS × List Int
  | 0,_,s,ks=>(s,ks)
  | w+1,o,s,ks=>fI f left c w (o+1) (f (bq left c o) s) (ks++[(s.nodes.length:Int)])
def j5 (left:List (List Bool)) (c:Nat) (v:Int) (s:DS):DS:=⟨s.nodes++[lH []],s.room - (left.getD c default).length,s.bk - 1,s.whole,s.plan,s.aU,s.bH⟩
def tW (c j:Nat) (r:DS × List Int):DS:={ r.1 with nodes:=r.1.nodes.set j ⟨(c:Int),r.2,[],[],[]⟩ }
def j4 (m:ae):Nat→Nat→List (List Bool)→DS→DS
  | 0,_,_,s=>s
  | f+1,c,left,s =>
    if s.aU≤ey m left then { s with nodes:=s.nodes++[lH []],bH:=min s.bH (ey m left) }
    else if cC left c=left.length then { s with nodes:=s.nodes++[lH []],plan:=iO left,aU:=ey m left,bH:=min s.bH (ey m left) }
    else if s.bk=0∨s.room<(left.getD (cC left c) default).length then { s with nodes:=s.nodes++[lH []],whole:=false,bH:=min s.bH (ey m left) }
    else tW (cC left c) s.nodes.length (fI (j4 m f (cC left c+1)) left (cC left c) (left.getD (cC left c) default).length 0 (j5 left (cC left c) (ey m left) s) [])
def nm (m:ae) (p:List Int):Int:=gY (gZ m p) 0
def wN (f:List Int→List Int × Int) (p:List Int):Nat→Nat→List Int × Int→List Int × Int
  | 0,_,a=>a
  | w+1,k,a=>wN f p w (k+1) (if (f (p++[(k:Int)])).2<a.2 then f (p++[(k:Int)]) else a)
def vd (m:ae):Nat→List Int→List Int × Int
  | 0,p=>if 1099511627776≤nm m p then ([],1099511627776) else (p,nm m p)
  | d+1,p=>wN (vd m d) p (m.cls.getD p.length default).length 0 ([],1099511627776)
def wO (f:List Int→List Int × Int→List Int × Int) (p:List Int):Nat→Nat→List Int × Int→List Int × Int
  | 0,_,a=>a
  | w+1,k,a=>wO f p w (k+1) (f (p++[(k:Int)]) a)
def nY (m:ae):Nat→List Int→List Int × Int→List Int × Int
  | 0,p,a=>if nm m p<a.2 then (p,nm m p) else a
  | d+1,p,a=>wO (nY m d) p (m.cls.getD p.length default).length 0 a
theorem Qw {f:List Int→List Int × Int} {g:List Int→List Int × Int→List Int × Int} (p:List Int) (hg:∀ q a,a.2≤1099511627776→g q a=if (f q).2<a.2 then f q else a):∀ (w k:Nat) (a b:List Int × Int),b.2≤1099511627776 →
    wO g p w k (if b.2<a.2 then b else a)=(if (wN f p w k b).2<a.2 then wN f p w k b else a)∨1099511627776<a.2
  | 0,k,a,b,hb=>.inl rfl
  | w+1,k,a,b,hb=>by
    by_cases ha:1099511627776<a.2
    · exact .inr ha
    rw[wO,wN,hg _ _ (by split<;>omega)]
    have h1:(if (f (p++[(k:Int)])).2<(if b.2<a.2 then b else a).2 then f (p++[(k:Int)]) else if b.2<a.2 then b else a)=(if (if (f (p++[(k:Int)])).2<b.2 then f (p++[(k:Int)]) else b).2<a.2 then (if (f (p++[(k:Int)])).2<b.2 then f (p++[(k:Int)]) else b) else a):=by
      generalize f (p++[(k:Int)])=x
      by_cases c1:b.2<a.2
      · rw[if_pos c1]
        by_cases c2:x.2<b.2
        · rw[if_pos c2,if_pos (by omega)]
        · rw[if_neg c2,if_pos c1]
      · rw[if_neg c1]
        by_cases c2:x.2<b.2
        · rw[if_pos c2]
        · rw[if_neg c2,if_neg c1,if_neg (by omega)]
    rw[h1]
    exact Qw p hg w (k+1) a _ (by split<;>omega)
theorem Qx (m:ae):∀ (d:Nat) (p:List Int) (a:List Int × Int),a.2≤1099511627776→nY m d p a=if (vd m d p).2<a.2 then vd m d p else a
  | 0,p,a,ha=>by
    unfold nY vd
    by_cases h:1099511627776≤nm m p
    · rw[if_pos h,if_neg (by omega),if_neg (by dsimp only;omega)]
    · rw[if_neg h]
  | d+1,p,a,ha=>by
    unfold nY vd
    have h:=(Qw p (fun q b hb=>Qx m d q b hb) (m.cls.getD p.length default).length 0 a ([],1099511627776) (c9 _)).resolve_right (by omega)
    rw[if_neg (by dsimp only;omega)] at h
    exact h
def Ext (m:ae) (p q:List Int):Prop:=FP m q∧∃ r,q=p++r
theorem Qy {f:List Int→List Int × Int→List Int × Int} {p:List Int} {a:List Int × Int}:∀ (w k:Nat),(∀ j,k≤j→j<k+w→f (p++[(j:Int)]) a=a)→wO f p w k a=a
  | 0,k,h=>rfl
  | w+1,k,h=>by rw[wO,h k (aV _) (by omega)];exact Qy w (k+1) fun j h1 h2=>h j (by omega) (by omega)
structure BP (m:ae) (p:List Int):Prop where
  len:p.length≤m.cls.length
  get:∀ j,j<p.length→0≤p.getD j 0∧p.getD j 0<(m.cls.getD j default).length
theorem Fe {p q:List Int} {j:Nat} (h:j<p.length):(p++q).getD j 0=p.getD j 0:=by
  rw[ay,dH h,← ay]
theorem IM {p:List Int} {x:Int}:(p++[x]).getD p.length 0=x:=by
  rw[ay,fA (aV _),iz];rfl
theorem BP.snoc {m:ae} {p:List Int} (h:BP m p) {k:Nat} (h1:p.length<m.cls.length) (hk:k<(m.cls.getD p.length default).length):BP m (p++[(k:Int)]):=⟨by rw[bU];exact h1,fun j hj=>by
  rw[bU] at hj
  by_cases e:j<p.length
  · rw[Fe e];exact h.get j e
  · obtain rfl:j=p.length:=by simp at hj;omega
    rw[IM];omega⟩
theorem BP.fp {m:ae} {p:List Int} (h:BP m p) (hl:p.length=m.cls.length):FP m p:=⟨hl,fun j hj=>cV.2 (by
  have:=h.get j hj
  rw[dg]
  omega)⟩
theorem Qz {m:ae}:∀ (d:Nat) (p:List Int) (a:List Int × Int),BP m p→p.length+d=m.cls.length→(∀ q,Ext m p q→a.2≤nm m q)→nY m d p a=a
  | 0,p,a,hp,hd,h=>by
    have:=h p ⟨hp.fp (by omega),[],by simp⟩
    unfold nY
    rw[if_neg (by omega)]
  | d+1,p,a,hp,hd,h=>by
    unfold nY
    refine Qy _ _ fun j _ hj=>?_
    refine Qz d _ a (hp.snoc (by omega) (by omega)) (by rw[bU];simp;omega) fun q hq=>h q ⟨hq.1,?_⟩
    obtain ⟨r,rfl⟩:=hq.2
    exact⟨(j:Int)::r,by simp⟩
end T
namespace T
def yI (m:ae) (left:List (List Bool)):Int:=nr m left (S0 m,T0 m)
mutual
inductive Tr (m:ae) (P:List Nd):Nat→Nat→List (List Bool)→List Int→List Int→Prop
  | leaf (lo:Nat) (left:List (List Bool)) (ab:List Int) (h:nd P lo=lH []) (ha:(-1:Int) ∉ ab):Tr m P lo (lo+1) left ab [yI m left]
  | node (lo hi:Nat) (left:List (List Bool)) (ab:List Int) (c:Nat) (ks vs:List Int) (h:nd P lo=⟨c,ks,[],[],[]⟩) (hc:c<m.cls.length) (ha:(c:Int) ∉ ab) (hk:ks.length=(m.cls.getD c default).length) (hs:mL m P (lo+1) hi left c (ab++[(c:Int)]) 0 ks vs):Tr m P lo hi left ab vs
inductive mL (m:ae) (P:List Nd):Nat→Nat→List (List Bool)→Nat→List Int→Nat→List Int→List Int→Prop
  | nil (lo:Nat) (left:List (List Bool)) (c:Nat) (ab:List Int) (o:Nat):mL m P lo lo left c ab o [] []
  | cons (lo mid hi:Nat) (left:List (List Bool)) (c:Nat) (ab:List Int) (o:Nat) (ks v vs:List Int) (h:Tr m P lo mid (bq left c o) ab v) (hs:mL m P mid hi left c ab (o+1) ks vs):mL m P lo hi left c ab o ((lo:Int)::ks) (v++vs)
end
variable {m:ae} {P P':List Nd} {lo mid hi c o:Nat} {left:List (List Bool)} {ab ks v w:List Int}
theorem mL.snoc (h2:Tr m P mid hi (bq left c (o+ks.length)) ab w) (h:mL m P lo mid left c ab o ks v):mL m P lo hi left c ab o (ks++[(mid:Int)]) (v++w):=by
  induction ks generalizing lo o v with
  | nil =>
    cases h
    have:=mL.cons _ _ _ left c ab o [] w [] h2 (.nil _ _ _ _ _)
    simpa using this
  | cons k ks ih =>
    cases h with
    | cons _ ab8 _ _ _ _ _ _ v1 vs h1 hs =>
      rw[dj]
      exact .cons _ _ _ _ _ _ _ _ _ _ h1 (ih (by rw[List.length_cons] at h2;rwa [show o+1+ks.length=o+(ks.length+1) by omega]) hs)
mutual
theorem Tr.tR {lo hi:Nat} {left:List (List Bool)} {ab v:List Int}:Tr m P lo hi left ab v→ja m P (fun _=>True) lo hi ab
  | .leaf _ _ _ h ha=>.leaf _ _ [] h (aH _) (fun _ h=>by cases h) ha trivial
  | .node _ _ _ _ c ks _ h hc ha hk hs=>.node _ _ _ c ks h hc ha hk hs.Au
theorem mL.Au {lo hi c o:Nat} {left:List (List Bool)} {ab ks v:List Int}:mL m P lo hi left c ab o ks v→jb m P (fun _=>True) lo hi ab ks
  | .nil _ _ _ _ _=>.nil _ _
  | .cons _ mid _ _ _ _ _ _ _ _ h hs=>.cons _ mid _ _ _ h.tR hs.Au
end
mutual
theorem Tr.frame {lo hi:Nat} {left:List (List Bool)} {ab v:List Int}:Tr m P lo hi left ab v→(∀ i,lo≤i→i<hi→nd P' i=nd P i)→Tr m P' lo hi left ab v
  | .leaf _ _ _ h ha,hf=>.leaf _ _ _ ((hf _ (aV _) (Nat.lt_succ_self _)).trans h) ha
  | .node _ _ _ _ c ks _ h hc ha hk hs,hf=>.node _ _ _ _ c ks _ ((hf _ (aV _) (by have:=hs.Au.le;omega)).trans h) hc ha hk (hs.frame fun i h1 h2=>hf i (by omega) h2)
theorem mL.frame {lo hi c o:Nat} {left:List (List Bool)} {ab ks v:List Int}:mL m P lo hi left c ab o ks v→(∀ i,lo≤i→i<hi→nd P' i=nd P i)→mL m P' lo hi left c ab o ks v
  | .nil _ _ _ _ _,_=>.nil _ _ _ _ _
  | .cons _ mid _ _ _ _ _ _ _ _ h hs,hf=>.cons _ mid _ _ _ _ _ _ _ _ (h.frame fun i h1 h2=>hf i h1 (by have:=hs.Au.le;omega)) (hs.frame fun i h1 h2=>hf i (by have:=h.tR.lt;omega) h2)
end
def Co (m:ae) (P:List Nd) (t:cW) (x:Int):Prop:=(nd P t.1).cls = -1∧(nd P t.1).cX=[]∧(nd P t.1).b5=[]∧yI m t.2.1=x
mutual
theorem Tr.leaves {lo hi:Nat} {left:List (List Bool)} {ab v:List Int} (hd:Down P):Tr m P lo hi left ab v→hi≤P.length→(∀ t∈vs P (lo,left,ab),(nd P t.1).cls = -1→∃ x∈v,Co m P t x)∧∀ x∈v,∃ t∈vs P (lo,left,ab),Co m P t x
  | .leaf lo left ab h ha,hh=>by
    rw[IN hd (by show lo<_;omega) (by show (nd P lo).kids=[];rw[h];rfl)]
    have hl:Co m P (lo,left,ab) (yI m left):=⟨by show (nd P lo).cls = -1;rw[h];rfl,by show (nd P lo).cX=[];rw[h];rfl,by show (nd P lo).b5=[];rw[h];rfl,rfl⟩
    constructor
    · intro t ht _
      rw[ee] at ht
      subst ht
      exact⟨_,by simp,hl⟩
    · intro x hx
      rw[ee] at hx
      subst hx
      exact⟨_,by simp,hl⟩
  | .node lo hi left ab c ks vl h hc ha hk hs,hh=>by
    have hle:=hs.Au.le
    obtain ⟨i1,i2⟩:=hs.leaves hd hh
    have oL:∀ o,lI P (lo,left,ab) o=((ks.getD o 0).toNat,bq left c o,ab++[(c:Int)]):=fun o=>by
      unfold lI
      dsimp only
      rw[h];rfl
    have eM:(nd P lo).kids=ks:=by rw[h]
    rw[Av hd (by show lo<_;omega)]
    constructor
    · intro t ht bL
      rw[bW] at ht
      rcases ht with rfl | ht
      · dsimp only at bL
        rw[h] at bL
        exact absurd (show (c:Int) = -1 from bL) (by omega)
      · obtain ⟨u,hu,ht⟩:=xP.1 ht
        obtain ⟨o,ho,rfl⟩:=tX (rY.1 hu)
        dsimp only at ho
        rw[eM] at ho
        rw[oL] at ht
        rw[← eK o] at ht
        exact i1 o ho t (by simpa using ht) bL
    · intro x hx
      obtain ⟨o,ho,t,ht,hl⟩:=i2 x hx
      rw[eK] at ht
      refine⟨t,List.mem_cons_of_mem _ (xP.2 ⟨lI P (lo,left,ab) o,rY.2 ?_,by rw[oL];exact ht⟩),hl⟩
      unfold oM iv
      exact List.mem_map.2 ⟨o,List.mem_range.2 (by show o<(nd P lo).kids.length;rw[eM];exact ho),rfl⟩
theorem mL.leaves {lo hi c o:Nat} {left:List (List Bool)} {ab ks v:List Int} (hd:Down P):mL m P lo hi left c ab o ks v→hi≤P.length→(∀ i,i<ks.length→∀ t∈vs P ((ks.getD i 0).toNat,bq left c (o+i),ab),(nd P t.1).cls = -1→∃ x∈v,Co m P t x)∧∀ x∈v,∃ i,i<ks.length∧∃ t∈vs P ((ks.getD i 0).toNat,bq left c (o+i),ab),Co m P t x
  | .nil _ _ _ _ _,_=>⟨fun i hi=>(by cases hi),fun x hx=>(by cases hx)⟩
  | .cons lo mid hi left c ab o ks v w h hs,hh=>by
    have hle:=hs.Au.le
    obtain ⟨a1,a2⟩:=h.leaves hd (by omega)
    obtain ⟨b1,b2⟩:=hs.leaves hd hh
    constructor
    · intro i hi t ht bL
      cases i with
      | zero =>
        rw[fT,dg] at ht
        obtain ⟨x,hx,hl⟩:=a1 t ht bL
        exact⟨x,List.mem_append_left _ hx,hl⟩
      | succ i =>
        rw[ep,show o+(i+1)=o+1+i by omega] at ht
        obtain ⟨x,hx,hl⟩:=b1 i (by simpa using hi) t ht bL
        exact⟨x,List.mem_append_right _ hx,hl⟩
    · intro x hx
      rcases dh.1 hx with hx | hx
      · obtain ⟨t,ht,hl⟩:=a2 x hx
        exact⟨0,by simp,t,by rw[fT,dg];exact ht,hl⟩
      · obtain ⟨i,hi,t,ht,hl⟩:=b2 x hx
        exact⟨i+1,by simpa using hi,t,by rw[ep,show o+(i+1)=o+1+i by omega];exact ht,hl⟩
end
def mJ (l:List Int) (b:Int):Int:=l.foldl min b
theorem QA:∀ (l:List Int) (b:Int),mJ l b≤b∧(∀ x∈l,mJ l b≤x)∧(mJ l b=b∨mJ l b∈l)
  | [],b=>⟨c9 _,fun _ h=>(by cases h),.inl rfl⟩
  | x::l,b=>by
    obtain ⟨h1,h2,h3⟩:=QA l (min b x)
    have e:mJ (x::l) b=mJ l (min b x):=rfl
    rw[e]
    refine⟨by omega,fun y hy=>?_,?_⟩
    · rcases bW.1 hy with rfl | hy
      · omega
      · exact h2 y hy
    · rcases h3 with h3 | h3
      · rcases Int.le_total b x with hb | hb
        · left;rw[h3];omega
        · right;rw[h3,Int.min_eq_right hb];simp
      · right;simp[h3]
theorem ab9 (l k:List Int) (b:Int):mJ (l++k) b=mJ k (mJ l b):=List.foldl_append
theorem Tr.dZ (hm:VM m) {v:List Int} (h:Tr m P 0 P.length (cQ m) [] v) (hn:P.length≤20000):kD m P=(mJ v 1099511627776,true):=by
  have ve:=h.tR.shaped hn
  have hd:=sJ ve
  obtain ⟨n,h1,h2⟩:=h.tR.dZ hm hn
  obtain ⟨l1,l2⟩:=h.leaves hd (aV _)
  obtain ⟨_,_,hr⟩:=IP h1
  obtain ⟨q1,q2⟩:=IQ hr
  obtain ⟨m1,m2,m3⟩:=QA v 1099511627776
  have e1:mJ v 1099511627776≤n:=h2 _ m1 fun s hs bL=>by
    obtain ⟨x,hx,_,wP,_,hv⟩:=l1 s hs bL
    rw[wP,QB]
    have:=m2 x hx
    unfold yI at hv
    dsimp only
    omega
  have e2:n≤mJ v 1099511627776:=by
    rcases m3 with e | e
    · omega
    · obtain ⟨t,ht,bL,wP,Ff,hv⟩:=l2 _ e
      have:=(q2 t ht).2 bL
      rw[Ff,if_neg (by simp),wP,QB] at this
      unfold yI at hv
      dsimp only at this
      omega
  rw[h1,show n=mJ v 1099511627776 by omega]
end T
namespace T
structure Dn (m:ae) (left:List (List Bool)) (p:List Int):Prop where
  fit:dK m left
  bp:BP m p
  one:∀ j,j<p.length→left.getD j default=lG (m.cls.getD j default).length (p.getD j 0).toNat
  all:∀ j,p.length≤j→j<m.cls.length→left.getD j default=List.replicate (m.cls.getD j default).length true
variable {m:ae} {left:List (List Bool)} {p:List Int}
theorem Dn.root (hm:VM m):Dn m (cQ m) []:=by
  refine⟨Aw hm,⟨aH _,fun j hj=>(by cases hj)⟩,fun j hj=>(by cases hj),fun j _ hj=>?_⟩
  unfold cQ kG
  rw[if_pos (iu.2 hm),kH _ _ _ hj]
theorem QC {left:List (List Bool)} {c j:Nat} (x:List Bool) (h:c≠j):(left.set c x).getD j default=left.getD j default:=by
  rw[ay,List.getElem?_set_ne h,← ay]
theorem Dn.next (h:Dn m left p) (hc:p.length<m.cls.length) {k:Nat} (hk:k<(m.cls.getD p.length default).length):Dn m (bq left p.length k) (p++[(k:Int)]):=by
  refine⟨Cp h.fit (Fg _ _ _),h.bp.snoc hc hk,fun j hj=>?_,fun j h1 h2=>?_⟩
  · unfold bq
    rw[bU] at hj
    by_cases e:j<p.length
    · rw[QC _ (by omega),Fe e];exact h.one j e
    · obtain rfl:j=p.length:=by simp at hj;omega
      rw[yJ _ _ _ (by rw[h.fit.1];exact hc),IM,h.fit.2 _ (by rw[h.fit.1];exact hc)];rfl
  · unfold bq
    rw[bU] at h1
    rw[QC _ (by simp at h1;omega)]
    exact h.all j (by omega) h2
theorem Dn.single (h:Dn m left p) (hc:p.length<left.length) (h1:(left.getD p.length default).length=1):Dn m left (p++[0]):=by
  have kv:p.length<m.cls.length:=by rw[← h.fit.1];exact hc
  have hl:=h.fit.2 _ hc
  refine⟨h.fit,h.bp.snoc (k:=0) kv (by omega),fun j hj=>?_,fun j h2 h3=>h.all j (by rw[bU] at h2;omega) h3⟩
  rw[bU] at hj
  by_cases e:j<p.length
  · rw[Fe e];exact h.one j e
  · obtain rfl:j=p.length:=by simp at hj;omega
    rw[IM,h.all _ (aV _) kv,← hl,h1];rfl
theorem Dn.skip:∀ (k:Nat) (p:List Int),left.length - p.length=k→Dn m left p→∃ r:List Int,Dn m left (p++r)∧(p++r).length=cC left p.length∧∀ a,nY m (m.cls.length - p.length) p a=nY m (m.cls.length - (p++r).length) (p++r) a
  | k,p,hk,h=>by
    by_cases hc:p.length<left.length∧(left.getD p.length default).length=1
    · have h1:=h.single hc.1 hc.2
      obtain ⟨r,a1,a2,a3⟩:=Dn.skip (k - 1) (p++[0]) (by rw[bU];simp;omega) h1
      have e:p++[0]++r=p++(0::r):=by simp
      rw[e] at a1 a2 a3
      refine⟨0::r,a1,?_,fun a=>?_⟩
      · rw[IL hc,a2];simp
      · rw[← a3 a]
        have hl:=h.fit.2 _ hc.1
        have aT:p.length<m.cls.length:=by rw[← h.fit.1];exact hc.1
        rw[show m.cls.length - p.length=(m.cls.length - (p++[0]).length)+1 by simp;omega,nY,← hl,hc.2];rfl
    · exact⟨[],by simpa using h,by rw[E8 hc];simp,fun a=>by simp⟩
termination_by k p _ _=>left.length - p.length
decreasing_by simp;omega
theorem Dn.QD (h:Dn m left p) {q:List Int} (hq:Ext m p q):wQ m left q:=fun i hi=>by
  obtain ⟨hf,r,rfl⟩:=hq
  have hg:=cV.1 (hf.get i (by rw[hf.len];exact hi))
  rw[dg] at hg
  by_cases e:i<p.length
  · have:=h.bp.get i e
    rw[h.one i e,Fe e,Qv (by omega),decide_eq_true rfl]
  · rw[h.all i (by omega) hi,ay,rW,if_pos (by omega)];rfl
theorem QE:∀ (w o:Nat) (i:Int),o<w→rh (lG w o) i=i+o
  | 0,o,i,h=>by omega
  | w+1,0,i,h=>by
    unfold lG
    rw[vY,List.set_cons_zero,rh,if_pos rfl];simp
  | w+1,o+1,i,h=>by
    have:=QE w o (i+1) (by omega)
    unfold lG at *
    rw[vY,List.set_cons_succ,rh,if_neg (by simp),this];omega
theorem Dn.ID (h:Dn m left p) (hl:p.length=m.cls.length):iO left=p:=by
  unfold iO
  apply List.ext_getElem
  · rw[eD,h.fit.1,hl]
  · intro i h1 h2
    rw[List.getElem_map]
    have a1:=h.one i h2
    have a2:=h.bp.get i h2
    have e1:left[i]'(by rw[eD] at h1;exact h1)=left.getD i default:=by
      rw[ay,bm (by rw[eD] at h1;exact h1)];rfl
    have e2:p[i]=p.getD i 0:=by rw[ay,bm h2];rfl
    rw[e1,e2,a1,QE _ _ _ (by omega)]
    omega
theorem Dn.ab' (h:Dn m left p) (hl:p.length=m.cls.length):Ax m left p:=fun i hi j=>by
  have:=h.bp.get i (by omega)
  rw[h.one i (by omega),Qv (by omega)]
theorem Dn.bound (hm:VM m) (h:Dn m left p) {q:List Int} (hq:Ext m p q):ey m left≤nm m q:=by
  rw[IS hm h.fit]
  exact QF hm hq.1 left h.fit (h.QD hq) [] (fun _ h=>by cases h)
theorem Dn.exact (hm:VM m) (h:Dn m left p) (hl:p.length=m.cls.length):ey m left=nm m p:=by
  rw[IS hm h.fit]
  exact aca hm (h.bp.fp hl) left h.fit (h.ab' hl) [] (fun _ h=>by cases h)
structure DL (m:ae) (left:List (List Bool)) (p:List Int) (s r:DS):Prop where
  aU:r.aU≤s.aU
  bl:r.bH≤s.bH
  bt:r.aU<s.aU→r.bH≤r.aU
  wh:r.whole=true→s.whole=true∧(r.plan,r.aU)=nY m (m.cls.length - p.length) p (s.plan,s.aU)∧min s.bH r.aU≤r.bH
  room:(r.nodes.length:Int)+r.room=s.nodes.length+s.room+1
  rm0:0≤s.room→0≤r.room
  lt:s.nodes.length<r.nodes.length
  pre:∀ i,i<s.nodes.length→nd r.nodes i=nd s.nodes i
  tr:∀ ab:List Int,(∀ x∈ab,0≤x∧x<p.length)→∃ v,Tr m r.nodes s.nodes.length r.nodes.length left ab v∧r.bH=mJ v s.bH
theorem DL.leaf (hm:VM m) (h:dK m left) {s r:DS} (hn:r.nodes=s.nodes++[lH []]) (hr:r.room=s.room) (hb:r.bH=min s.bH (ey m left)) (ht:r.aU≤s.aU) (Fh:r.aU<s.aU→r.aU=ey m left)
    (hw:r.whole=true→s.whole=true∧(r.plan,r.aU)=nY m (m.cls.length - p.length) p (s.plan,s.aU)∧r.aU≤ey m left):DL m left p s r:=by
  refine⟨ht,by omega,fun h=>by have:=Fh h;omega,fun h=>?_,by rw[hn,hr];simp;omega,fun h=>by omega,by rw[hn];simp,fun i hi=>by rw[hn];exact Qt hi,fun ab gq=>⟨[yI m left],?_,?_⟩⟩
  · obtain ⟨a,b,c⟩:=hw h
    exact⟨a,b,by omega⟩
  · rw[hn,bU]
    exact .leaf _ _ _ ab7 (fun h=>by have:=gq _ h;omega)
  · rw[hb];unfold mJ yI;rw[IS hm h];rfl
theorem QG {f:List (List Bool)→DS→DS} {ab:List Int} (hf:∀ k s,k<(m.cls.getD p.length default).length→DL m (bq left p.length k) (p++[(k:Int)]) s (f (bq left p.length k) s))
    (gq:∀ x∈ab,0≤x∧x<p.length+1):∀ (w o:Nat) (s:DS) (ks:List Int) (lo:Nat) (v:List Int),o+w=(m.cls.getD p.length default).length→ks.length=o→lo≤s.nodes.length→mL m s.nodes lo s.nodes.length left p.length ab 0 ks v →
    (fI f left p.length w o s ks).1.aU≤s.aU∧(fI f left p.length w o s ks).1.bH≤s.bH∧((fI f left p.length w o s ks).1.aU<s.aU→(fI f left p.length w o s ks).1.bH≤(fI f left p.length w o s ks).1.aU) ∧
    ((fI f left p.length w o s ks).1.whole=true→s.whole=true∧((fI f left p.length w o s ks).1.plan,(fI f left p.length w o s ks).1.aU)=wO (nY m (m.cls.length - (p.length+1))) p w o (s.plan,s.aU)∧min s.bH (fI f left p.length w o s ks).1.aU≤(fI f left p.length w o s ks).1.bH) ∧
    (((fI f left p.length w o s ks).1.nodes.length:Int)+(fI f left p.length w o s ks).1.room=s.nodes.length+s.room+w)∧(0≤s.room→0≤(fI f left p.length w o s ks).1.room)∧s.nodes.length≤(fI f left p.length w o s ks).1.nodes.length ∧
    (∀ i,i<s.nodes.length→nd (fI f left p.length w o s ks).1.nodes i=nd s.nodes i)∧(fI f left p.length w o s ks).2.length=o+w ∧
    ∃ u,mL m (fI f left p.length w o s ks).1.nodes lo (fI f left p.length w o s ks).1.nodes.length left p.length ab 0 (fI f left p.length w o s ks).2 (v++u)∧(fI f left p.length w o s ks).1.bH=mJ u s.bH
  | 0,o,s,ks,lo,v,ho,hk,jn,hs=>⟨c9 _,c9 _,fun h=>absurd h (Int.lt_irrefl _),fun h=>⟨h,rfl,by show min s.bH s.aU≤s.bH;omega⟩,by show (s.nodes.length:Int)+s.room=_;simp,fun h=>h,aV _,fun _ _=>rfl,hk,[],by simpa [fI] using hs,rfl⟩
  | w+1,o,s,ks,lo,v,ho,hk,jn,hs=>by
    have h:=hf o s (by omega)
    generalize hr:f (bq left p.length o) s=r at h
    have kZ:(p++[(o:Int)]).length=p.length+1:=by simp
    obtain ⟨t1,t2,t3,t4,t5,t6,t7,t8,t9⟩:=h
    obtain ⟨u,hu,hub⟩:=t9 ab fun x hx=>by rw[kZ];exact gq x hx
    have m0:=mL.snoc (ks:=ks) (o:=0) (by rw[hk,eK];exact hu) (hs.frame fun i _ h2=>t8 i h2)
    obtain ⟨i1,i2,i3,i4,i5,i6,i7,i8,i9,u2,i10,i11⟩:=QG hf gq w (o+1) r (ks++[(s.nodes.length:Int)]) lo (v++u) (by omega) (by simp[hk]) (by omega) m0
    rw[fI,hr]
    generalize fI f left p.length w (o+1) r (ks++[(s.nodes.length:Int)])=z at *
    refine⟨by omega,by omega,fun aT=>?_,fun hw=>?_,by omega,fun h=>i6 (t6 h),by omega,fun i hi=>(i8 i (by omega)).trans (t8 i hi),by omega,u++u2,by rw[← dj];exact i10,by rw[i11,hub,ab9]⟩
    · by_cases e:z.1.aU<r.aU
      · exact i3 e
      · have:=t3 (by omega);omega
    · obtain ⟨a1,a2,a3⟩:=i4 hw
      obtain ⟨b1,b2,b3⟩:=t4 a1
      refine⟨b1,?_,by omega⟩
      rw[a2,wO]
      rw[kZ] at b2
      rw[b2]
theorem E7 (hm:VM m):∀ (f:Nat) (left:List (List Bool)) (p:List Int) (s:DS),left.length+1≤f+p.length→Dn m left p→DL m left p s (j4 m f p.length left s)
  | 0,left,p,s,hf,h=>by have:=h.bp.len;rw[← h.fit.1] at this;omega
  | f+1,left,p,s,hf,h=>by
    obtain ⟨r,h1,h2,h3⟩:=Dn.skip (left:=left) _ p rfl h
    obtain ⟨g1,g2,g3,g4⟩:=yE (left:=left) _ p.length rfl
    have b9:p.length≤left.length:=by rw[h.fit.1];exact h.bp.len
    have dx:=h.fit
    rw[j4]
    split
    · rename_i hv
      refine DL.leaf hm dx rfl rfl rfl (c9 _) (fun h=>absurd h (Int.lt_irrefl _)) fun hw=>⟨hw,?_,hv⟩
      exact (Qz _ p (s.plan,s.aU) h.bp (by have:=h.bp.len;omega) fun q hq=>Int.le_trans hv (h.bound hm hq)).symm
    rename_i hv
    split
    · rename_i he
      have sr:(p++r).length=m.cls.length:=by rw[h2,he,dx.1]
      refine DL.leaf hm dx rfl rfl rfl (by dsimp only;omega) (fun _=>rfl) fun hw=>⟨hw,?_,c9 _⟩
      rw[h3,sr,iz,nY,← h1.exact hm sr,if_pos (by dsimp only;omega),h1.ID sr]
    rename_i he
    split
    · exact DL.leaf hm dx rfl rfl rfl (c9 _) (fun h=>absurd h (Int.lt_irrefl _)) fun hw=>by cases hw
    rename_i z'
    rw[not_or] at z'
    rw[← h2] at he z' ⊢
    have aT:(p++r).length<m.cls.length:=by
      have:=h1.bp.len
      rw[dx.1] at he
      omega
    have a6:(left.getD (p++r).length default).length=(m.cls.getD (p++r).length default).length:=dx.2 _ (by rw[dx.1];exact aT)
    have IE:p.length≤(p++r).length:=by simp
    generalize hP:p++r=P at *
    have hK:=fun ab gq=>QG (m:=m) (left:=left) (p:=P) (f:=j4 m f (P.length+1)) (ab:=ab) (fun k s' hk=>by
      have:=E7 hm f (bq left P.length k) (P++[(k:Int)]) s' (by rw[show (bq left P.length k).length=left.length by unfold bq;simp];simp;omega) (h1.next aT hk)
      rwa [show (P++[(k:Int)]).length=P.length+1 by simp] at this) gq (left.getD P.length default).length 0 (j5 left P.length (ey m left) s) [] (j5 left P.length (ey m left) s).nodes.length [] (by omega) rfl (aV _) (.nil _ _ _ _ _)
    obtain ⟨i1,i2,i3,i4,i5,i6,i7,i8,i9,_⟩:=hK [] (fun x hx=>by cases hx)
    have htr:=fun ab gq=>(hK ab gq).2.2.2.2.2.2.2.2.2
    clear hK
    generalize fI (j4 m f (P.length+1)) left P.length (left.getD P.length default).length 0 (j5 left P.length (ey m left) s) []=z at *
    unfold j5 at *
    dsimp only at *
    have ak:(s.nodes++[lH []]).length=s.nodes.length+1:=by simp
    rw[ak] at i5 i7 i8
    have Cq:∀ i,i≠s.nodes.length→nd (tW P.length s.nodes.length z).nodes i=nd z.1.nodes i:=fun i hi=>by
      unfold tW
      rw[Qu (by omega),if_neg hi]
    have hat:nd (tW P.length s.nodes.length z).nodes s.nodes.length=⟨(P.length:Int),z.2,[],[],[]⟩:=by
      unfold tW
      rw[Qu (by omega),if_pos rfl]
    have kB:(tW P.length s.nodes.length z).nodes.length=z.1.nodes.length:=by unfold tW;simp
    refine⟨i1,i2,i3,fun hw=>?_,by rw[kB];show (z.1.nodes.length:Int)+z.1.room=_;omega,fun h=>i6 (by omega),by rw[kB];omega,fun i hi=>?_,fun ab gq=>?_⟩
    · obtain ⟨a1,a2,a3⟩:=i4 hw
      refine⟨a1,?_,a3⟩
      rw[h3,show m.cls.length - P.length=(m.cls.length - (P.length+1))+1 by omega,nY,← a6]
      exact a2
    · rw[Cq i (by omega),i8 i (by omega)];exact Qt hi
    · obtain ⟨u,hu,hb⟩:=htr (ab++[(P.length:Int)]) fun x hx=>by
        rcases dh.1 hx with hx | hx
        · have:=gq x hx;omega
        · rw[ee] at hx;omega
      rw[List.nil_append,ak] at hu
      refine⟨u,?_,hb⟩
      rw[kB]
      refine .node _ _ _ _ P.length z.2 _ hat aT (fun hx=>by have:=gq _ hx;omega) (by rw[i9];omega) ?_
      exact hu.frame fun i h1 _=>Cq i (by omega)
end T
namespace T
def j6 (m:ae):Nat→Nat
  | 0=>1
  | d+1=>(m.cls.getD (m.cls.length - (d+1)) default).length * j6 m d
variable {m:ae} {left:List (List Bool)} {p:List Int}
theorem QH {c:Nat} (h:c<m.cls.length):j6 m (m.cls.length - c)=(m.cls.getD c default).length * j6 m (m.cls.length - (c+1)):=by
  rw[show m.cls.length - c=(m.cls.length - (c+1))+1 by omega,j6,show m.cls.length - (m.cls.length - (c+1)+1)=c by omega]
theorem IT (lF:∀ l∈m.cls,1≤l.length):∀ d,d≤m.cls.length→1≤j6 m d
  | 0,_=>aV _
  | d+1,h=>Nat.mul_pos (lF _ (az (by omega))) (IT lF d (by omega))
theorem QI:∀ (k a b:Nat),b - a=k→a≤b→b≤m.cls.length→(∀ j,a≤j→j<b→(m.cls.getD j default).length=1)→j6 m (m.cls.length - a)=j6 m (m.cls.length - b)
  | 0,a,b,hk,h1,h2,h=>by rw[show a=b by omega]
  | k+1,a,b,hk,h1,h2,h=>by
    rw[QH (by omega),h a (aV _) (by omega),Nat.one_mul]
    exact QI k (a+1) b (by omega) (by omega) h2 fun j h3 h4=>h j (by omega) h4
theorem QJ {f:List (List Bool)→DS→DS} {c N Q:Nat} (hf:∀ k s,k<N→s.whole=true→(2 * Q - 2:Int)≤s.room→(Q - 1:Int)≤s.bk→(f (bq left c k) s).whole=true∧s.room - (2 * Q - 2)≤(f (bq left c k) s).room∧s.bk - (Q - 1)≤(f (bq left c k) s).bk) (hQ:1≤Q) :
    ∀ (w o:Nat) (s:DS) (ks:List Int),o+w=N→s.whole=true→(w:Int) * (2 * Q - 2)≤s.room→(w:Int) * (Q - 1)≤s.bk→(fI f left c w o s ks).1.whole=true∧s.room - (w:Int) * (2 * Q - 2)≤(fI f left c w o s ks).1.room∧s.bk - (w:Int) * (Q - 1)≤(fI f left c w o s ks).1.bk
  | 0,o,s,ks,ho,h1,h2,h3=>⟨h1,by show s.room - _≤s.room;omega,by show s.bk - _≤s.bk;omega⟩
  | w+1,o,s,ks,ho,h1,h2,h3=>by
    have e1:((w+1:Nat):Int) * (2 * Q - 2)=(w:Int) * (2 * Q - 2)+(2 * Q - 2):=by rw[uN,Hf];simp
    have e2:((w+1:Nat):Int) * (Q - 1)=(w:Int) * (Q - 1)+(Q - 1):=by rw[uN,Hf];simp
    have p1:0≤(w:Int) * (2 * Q - 2):=pt (by omega) (by omega)
    have p2:0≤(w:Int) * (Q - 1):=pt (by omega) (by omega)
    rw[e1] at h2 ⊢
    rw[e2] at h3 ⊢
    obtain ⟨a,b,c'⟩:=hf o s (by omega) h1 (by omega) (by omega)
    obtain ⟨x,y,z⟩:=QJ hf hQ w (o+1) (f (bq left c o) s) (ks++[(s.nodes.length:Int)]) (by omega) a (by omega) (by omega)
    rw[fI]
    exact⟨x,by omega,by omega⟩
theorem IF (hm:VM m) (lF:∀ l∈m.cls,1≤l.length):∀ (f:Nat) (left:List (List Bool)) (p:List Int) (s:DS),left.length+1≤f+p.length→Dn m left p→s.whole=true→(2 * j6 m (m.cls.length - p.length) - 2:Int)≤s.room→(j6 m (m.cls.length - p.length) - 1:Int)≤s.bk →
    (j4 m f p.length left s).whole=true∧s.room - (2 * j6 m (m.cls.length - p.length) - 2)≤(j4 m f p.length left s).room∧s.bk - (j6 m (m.cls.length - p.length) - 1)≤(j4 m f p.length left s).bk
  | 0,left,p,s,hf,h,_,_,_=>by have:=h.bp.len;rw[← h.fit.1] at this;omega
  | f+1,left,p,s,hf,h,hw,hr,hs=>by
    obtain ⟨r,h1,h2,h3⟩:=Dn.skip (left:=left) _ p rfl h
    obtain ⟨g1,g2,g3,g4⟩:=yE (left:=left) _ p.length rfl
    have dx:=h.fit
    have QK:=IT lF (m.cls.length - p.length) (by omega)
    rw[j4]
    split
    · exact⟨hw,by show _≤s.room;omega,by show _≤s.bk;omega⟩
    split
    · exact⟨hw,by show _≤s.room;omega,by show _≤s.bk;omega⟩
    rename_i he
    rw[← h2] at he g1 g3 g4 ⊢
    have IE:p.length≤(p++r).length:=by simp
    have aT:(p++r).length<m.cls.length:=by
      have:=h1.bp.len
      rw[dx.1] at he
      omega
    have a6:(left.getD (p++r).length default).length=(m.cls.getD (p++r).length default).length:=dx.2 _ (by rw[dx.1];exact aT)
    have eZ:=QI (m:=m) _ p.length (p++r).length rfl IE (by omega) fun j h4 h5=>by rw[← dx.2 j (g3 j h4 h5).1];exact (g3 j h4 h5).2
    rw[eZ] at hr hs QK ⊢
    generalize hP:p++r=P at *
    have oF:2≤(m.cls.getD P.length default).length:=by
      have:=lF _ (az (d:=default) aT)
      have:=g4 (by rw[dx.1];exact aT)
      omega
    rw[QH aT] at hr hs QK ⊢
    have hQ:=IT lF (m.cls.length - (P.length+1)) (by omega)
    have ih:=fun k s' hk=>IF hm lF f (bq left P.length k) (P++[(k:Int)]) s' (by rw[show (bq left P.length k).length=left.length by unfold bq;simp];simp;omega) (h1.next aT hk)
    simp only[bU,List.length_singleton] at ih
    generalize hq:j6 m (m.cls.length - (P.length+1))=Q at *
    generalize hN:(m.cls.getD P.length default).length=N at *
    have hmul:((N * Q:Nat):Int)=(N:Int) * Q:=by rw[Int.natCast_mul]
    rw[hmul] at hr hs ⊢
    have l9:(N:Int) * 1≤(N:Int) * Q:=Int.mul_le_mul_of_nonneg_left (by omega) (by omega)
    have e1:(N:Int) * (2 * Q - 2)=2 * ((N:Int) * Q) - 2 * N:=by rw[Int.mul_sub,Int.mul_left_comm];omega
    have e2:(N:Int) * (Q - 1)=(N:Int) * Q - N:=by rw[Int.mul_sub];omega
    rw[a6]
    split
    · rename_i lJ
      rcases lJ with lJ | lJ<;>omega
    have hK:=QJ (left:=left) (f:=j4 m f (P.length+1)) (c:=P.length) (N:=N) (Q:=Q) (fun k s' hk a b c=>ih k s' hk a b c) hQ N 0 (j5 left P.length (ey m left) s) [] (by omega) hw (by rw[e1];unfold j5;dsimp only;omega) (by rw[e2];unfold j5;dsimp only;omega)
    generalize fI (j4 m f (P.length+1)) left P.length N 0 (j5 left P.length (ey m left) s) []=z at *
    obtain ⟨a,b,c⟩:=hK
    rw[e1] at b
    rw[e2] at c
    unfold j5 at b c
    dsimp only at b c
    exact⟨a,by show _≤z.1.room;omega,by show _≤z.1.bk;omega⟩
theorem QL (left:List (List Bool)):∀ (l:List (List cB)) (i:Nat) (n:Int),[]∈l→tY left i l n=none
  | [],i,n,h=>by cases h
  | c::l,i,n,h=>by
    rw[tY]
    split
    · rfl
    · rename_i hc
      refine QL left l _ _ ((bW.1 h).resolve_left fun e=>hc ?_)
      rw[← e];rfl
theorem Qe (h:[]∈m.cls) (left:List (List Bool)):ey m left=1099511627776:=by
  unfold ey;rw[QL left _ _ _ h];rfl
theorem QM {f:List Int→List Int × Int} (hf:∀ q,f q=([],1099511627776)∨(f q).2<1099511627776) (p:List Int):∀ (w k:Nat) (a:List Int × Int),(a=([],1099511627776)∨a.2<1099511627776)→(wN f p w k a=([],1099511627776)∨(wN f p w k a).2<1099511627776)
  | 0,k,a,h=>h
  | w+1,k,a,h=>by
    rw[wN]
    refine QM hf p w (k+1) _ ?_
    split
    · exact hf _
    · exact h
theorem QN (m:ae):∀ (d:Nat) (p:List Int),vd m d p=([],1099511627776)∨(vd m d p).2<1099511627776
  | 0,p=>by
    unfold vd
    split
    · exact .inl rfl
    · exact .inr (by dsimp only;omega)
  | d+1,p=>QM (QN m d) p _ _ _ (.inl rfl)
def Fa:DS:=⟨[],19999,20000,true,[],1099511627776,1099511627776⟩
def dr (m:ae):DS:=j4 m (m.cls.length+1) 0 (cQ m) Fa
theorem QO (hm:VM m) (h:[]∈m.cls∨j6 m m.cls.length≤8000):(dr m).whole=true∧((dr m).plan,(dr m).aU)=vd m m.cls.length []∧(dr m).bH=(dr m).aU∧kD m (dr m).nodes=((dr m).aU,true)∧(dr m).nodes.length≤20000:=by
  have hr:=Dn.root hm
  have hd:=E7 hm (m.cls.length+1) (cQ m) [] Fa (by rw[hr.fit.1];simp) hr
  have hw:(dr m).whole=true:=by
    by_cases he:[]∈m.cls
    · unfold dr
      rw[j4,Qe he,if_pos (by show (1099511627776:Int)≤_;omega)];rfl
    · have lF:∀ l∈m.cls,1≤l.length:=fun l hl=>by
        cases l with
        | nil=>exact absurd hl he
        | cons a b=>simp
      have hc:=h.resolve_left he
      refine (IF hm lF (m.cls.length+1) (cQ m) [] Fa (by rw[hr.fit.1];simp) hr rfl ?_ ?_).1
      · show (2 * j6 m m.cls.length - 2:Int)≤19999;omega
      · show (j6 m m.cls.length - 1:Int)≤20000;omega
  obtain ⟨d1,d2,d3,d4,d5,d6,d7,d8,d9⟩:=hd
  change (dr m).aU≤1099511627776 at d1
  change (dr m).bH≤1099511627776 at d2
  change (dr m).aU<1099511627776→(dr m).bH≤(dr m).aU at d3
  obtain ⟨_,e1,e2⟩:=d4 hw
  change ((dr m).plan,(dr m).aU)=nY m m.cls.length [] ([],1099511627776) at e1
  change min 1099511627776 (dr m).aU≤(dr m).bH at e2
  change ((dr m).nodes.length:Int)+(dr m).room=0+19999+1 at d5
  have d6:0≤(dr m).room:=d6 (by show (0:Int)≤19999;omega)
  have hb:(dr m).bH=(dr m).aU:=by omega
  obtain ⟨v,hv,yG⟩:=d9 [] (fun x hx=>by cases hx)
  have yG:(dr m).bH=mJ v 1099511627776:=yG
  have ej:=Tr.dZ (P:=(dr m).nodes) hm hv (by omega)
  refine⟨hw,?_,hb,by rw[ej,← yG,hb],by omega⟩
  rw[e1,Qx _ _ _ _ (c9 _)]
  rcases QN m m.cls.length [] with e | e
  · rw[e];rfl
  · rw[if_pos e]
end T

