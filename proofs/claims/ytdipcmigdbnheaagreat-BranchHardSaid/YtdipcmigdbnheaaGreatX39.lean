import Derived.Test.YtdipcmigdbnheaaGreatX31
import Derived.Test.YtdipcmigdbnheaaGreatX38
set_option linter.unusedVariables false
set_option linter.unusedSimpArgs false
set_option linter.unnecessarySimpa false
set_option linter.unusedSectionVars false
set_option maxHeartbeats 64000000
set_option maxRecDepth 20000
open Nat renaming le_refl→aH,sub_self→iC,zero_le→aD,zero_add→eR
open Int renaming le_refl→eo,toNat_natCast→eT,lt_irrefl→K5,natCast_add→vj,add_mul→Gw,mul_nonneg→pC
open List renaming getD_eq_getElem?_getD→ay,length_append→bJ,append_assoc→cI,mem_singleton→ek,mem_cons→bZ,mem_flatMap→yD,mem_reverse→sC,getD_cons_zero→gP,getD_cons_succ→eS,mem_append→cy,replicate_succ→Di,length_map→dU,getElem?_eq_getElem→bI
open Go Go.Am
namespace T
def E' (left:List (List Bool)):Nat→Nat→Nat
  | 0,c=>c
  | f+1,c=>if c<left.length∧(left.getD c default).length=1 then E' left f (c+1) else c
def cE (left:List (List Bool)) (c:Nat):Nat:=E' left (left.length - c) c
theorem HW {left:List (List Bool)} {c:Nat} (h:c<left.length∧(left.getD c default).length=1):cE left c=cE left (c+1):=by
  unfold cE
  rw[show left.length - c=(left.length - (c+1))+1 by omega,E',if_pos h]
theorem HX {left:List (List Bool)} {c:Nat} (h:¬(c<left.length∧(left.getD c default).length=1)):cE left c=c:=by
  unfold cE
  cases left.length - c with
  | zero=>rfl
  | succ f=>rw[E',if_neg h]
theorem zw {left:List (List Bool)}:∀ (k c:Nat),left.length - c=k→c≤cE left c∧(c≤left.length→cE left c≤left.length)∧(∀ j,c≤j→j<cE left c→j<left.length∧(left.getD j default).length=1)∧(cE left c<left.length→(left.getD (cE left c) default).length≠1)
  | k,c,hk=>by
    by_cases h:c<left.length∧(left.getD c default).length=1
    · rw[HW h]
      obtain ⟨a,b,d,e⟩:=zw (left:=left) (k - 1) (c+1) (by omega)
      refine⟨by omega,fun _=>b (by omega),fun j h1 h2=>?_,e⟩
      by_cases e2:j=c
      · subst e2;exact h
      · exact d j (by omega) h2
    · rw[HX h]
      exact⟨aH _,fun h=>h,fun j h1 h2=>by omega,fun h1 h2=>h ⟨h1,h2⟩⟩
termination_by k c _=>left.length - c
def qQ:List Bool→Int→Int
  | [],_=>-1
  | b::r,i=>if b=true then i else qQ r (i+1)
def jl (left:List (List Bool)):List Int:=left.map fun l=>qQ l 0
structure DS where
  nodes:List Nd
  room:Int
  cw:Int
  whole:Bool
  plan:List Int
  bO:Int
  cu:Int
def ga (f:List (List Bool)→DS→DS) (left:List (List Bool)) (c:Nat):Nat→Nat→DS→List Int→DS × List Int
  | 0,_,s,ks=>(s,ks)
  | w+1,o,s,ks=>ga f left c w (o+1) (f (bF left c o) s) (ks++[(s.nodes.length:Int)])
def kk (left:List (List Bool)) (c:Nat) (v:Int) (s:DS):DS:=⟨s.nodes++[ld []],s.room - (left.getD c default).length,s.cw - 1,s.whole,s.plan,s.bO,s.cu⟩
def sX (c j:Nat) (r:DS × List Int):DS:={ r.1 with nodes:=r.1.nodes.set j ⟨(c:Int),r.2,[],[],[]⟩ }
def ns (m:ah):Nat→Nat→List (List Bool)→DS→DS
  | 0,_,_,s=>s
  | f+1,c,left,s =>
    if s.bO≤eO m left then { s with nodes:=s.nodes++[ld []],cu:=min s.cu (eO m left) }
    else if cE left c=left.length then { s with nodes:=s.nodes++[ld []],plan:=jl left,bO:=eO m left,cu:=min s.cu (eO m left) }
    else if s.cw=0∨s.room<(left.getD (cE left c) default).length then { s with nodes:=s.nodes++[ld []],whole:=false,cu:=min s.cu (eO m left) }
    else sX (cE left c) s.nodes.length (ga (ns m f (cE left c+1)) left (cE left c) (left.getD (cE left c) default).length 0 (kk left (cE left c) (eO m left) s) [])
def lF (m:ah) (p:List Int):Int:=ny (nq m p) 0
def pS (f:List Int→List Int × Int) (p:List Int):Nat→Nat→List Int × Int→List Int × Int
  | 0,_,a=>a
  | w+1,k,a=>pS f p w (k+1) (if (f (p++[(k:Int)])).2<a.2 then f (p++[(k:Int)]) else a)
def gu (m:ah):Nat→List Int→List Int × Int
  | 0,p=>if 1099511627776≤lF m p then ([],1099511627776) else (p,lF m p)
  | d+1,p=>pS (gu m d) p (m.cls.getD p.length default).length 0 ([],1099511627776)
def v7 (f:List Int→List Int × Int→List Int × Int) (p:List Int):Nat→Nat→List Int × Int→List Int × Int
  | 0,_,a=>a
  | w+1,k,a=>v7 f p w (k+1) (f (p++[(k:Int)]) a)
def nD (m:ah):Nat→List Int→List Int × Int→List Int × Int
  | 0,p,a=>if lF m p<a.2 then (p,lF m p) else a
  | d+1,p,a=>v7 (nD m d) p (m.cls.getD p.length default).length 0 a
theorem TS {f:List Int→List Int × Int} {g:List Int→List Int × Int→List Int × Int} (p:List Int) (hg:∀ q a,a.2≤1099511627776→g q a=if (f q).2<a.2 then f q else a):∀ (w k:Nat) (a b:List Int × Int),b.2≤1099511627776 →
    v7 g p w k (if b.2<a.2 then b else a)=(if (pS f p w k b).2<a.2 then pS f p w k b else a)∨1099511627776<a.2
  | 0,k,a,b,hb=>.inl rfl
  | w+1,k,a,b,hb=>by
    by_cases ha:1099511627776<a.2
    · exact .inr ha
    rw[v7,pS,hg _ _ (by split<;>omega)]
    have h1:(if (f (p++[(k:Int)])).2<(if b.2<a.2 then b else a).2 then f (p++[(k:Int)]) else if b.2<a.2 then b else a)=(if (if (f (p++[(k:Int)])).2<b.2 then f (p++[(k:Int)]) else b).2<a.2 then (if (f (p++[(k:Int)])).2<b.2 then f (p++[(k:Int)]) else b) else a):=by
      generalize f (p++[(k:Int)])=x
      by_cases c1:b.2<a.2
      · rw[if_pos c1]
        by_cases c2:x.2<b.2
        · rw[if_pos c2,if_pos (by omega)]
        · rw[if_neg c2,if_pos c1]
      · rw[if_neg c1]
        by_cases c2:x.2<b.2
        · rw[if_pos c2]
        · rw[if_neg c2,if_neg c1,if_neg (by omega)]
    rw[h1]
    exact TS p hg w (k+1) a _ (by split<;>omega)
theorem TT (m:ah):∀ (d:Nat) (p:List Int) (a:List Int × Int),a.2≤1099511627776→nD m d p a=if (gu m d p).2<a.2 then gu m d p else a
  | 0,p,a,ha=>by
    unfold nD gu
    by_cases h:1099511627776≤lF m p
    · rw[if_pos h,if_neg (by omega),if_neg (by dsimp only;omega)]
    · rw[if_neg h]
  | d+1,p,a,ha=>by
    unfold nD gu
    have h:=(TS p (fun q b hb=>TT m d q b hb) (m.cls.getD p.length default).length 0 a ([],1099511627776) (eo _)).resolve_right (by omega)
    rw[if_neg (by dsimp only;omega)] at h
    exact h
def Ext (m:ah) (p q:List Int):Prop:=FP m q∧∃ r,q=p++r
theorem TU {f:List Int→List Int × Int→List Int × Int} {p:List Int} {a:List Int × Int}:∀ (w k:Nat),(∀ j,k≤j→j<k+w→f (p++[(j:Int)]) a=a)→v7 f p w k a=a
  | 0,k,h=>rfl
  | w+1,k,h=>by rw[v7,h k (aH _) (by omega)];exact TU w (k+1) fun j h1 h2=>h j (by omega) (by omega)
structure BP (m:ah) (p:List Int):Prop where
  len:p.length≤m.cls.length
  get:∀ j,j<p.length→0≤p.getD j 0∧p.getD j 0<(m.cls.getD j default).length
theorem Fa {p q:List Int} {j:Nat} (h:j<p.length):(p++q).getD j 0=p.getD j 0:=by
  rw[ay,List.getElem?_append_left h,← ay]
theorem IZ {p:List Int} {x:Int}:(p++[x]).getD p.length 0=x:=by
  rw[ay,List.getElem?_append_right (aH _),iC];rfl
theorem BP.snoc {m:ah} {p:List Int} (h:BP m p) {k:Nat} (h1:p.length<m.cls.length) (hk:k<(m.cls.getD p.length default).length):BP m (p++[(k:Int)]):=⟨by rw[bJ];exact h1,fun j hj=>by
  rw[bJ] at hj
  by_cases e:j<p.length
  · rw[Fa e];exact h.get j e
  · obtain rfl:j=p.length:=by simp at hj;omega
    rw[IZ];omega⟩
theorem BP.fp {m:ah} {p:List Int} (h:BP m p) (hl:p.length=m.cls.length):FP m p:=⟨hl,fun j hj=>iy.2 (by
  have:=h.get j hj
  rw[eT]
  omega)⟩
theorem TV {m:ah}:∀ (d:Nat) (p:List Int) (a:List Int × Int),BP m p→p.length+d=m.cls.length→(∀ q,Ext m p q→a.2≤lF m q)→nD m d p a=a
  | 0,p,a,hp,hd,h=>by
    have:=h p ⟨hp.fp (by omega),[],by simp⟩
    unfold nD
    rw[if_neg (by omega)]
  | d+1,p,a,hp,hd,h=>by
    unfold nD
    refine TU _ _ fun j _ hj=>?_
    refine TV d _ a (hp.snoc (by omega) (by omega)) (by rw[bJ];simp;omega) fun q hq=>h q ⟨hq.1,?_⟩
    obtain ⟨r,rfl⟩:=hq.2
    exact⟨(j:Int)::r,by simp⟩
end T
namespace T
def xR (m:ah) (left:List (List Bool)):Int:=mR m left (S0 m,T0 m)
mutual
inductive Tr (m:ah) (P:List Nd):Nat→Nat→List (List Bool)→List Int→List Int→Prop
  | leaf (lo:Nat) (left:List (List Bool)) (ab:List Int) (h:nd P lo=ld []) (ha:(-1:Int) ∉ ab):Tr m P lo (lo+1) left ab [xR m left]
  | node (lo hi:Nat) (left:List (List Bool)) (ab:List Int) (c:Nat) (ks vs:List Int) (h:nd P lo=⟨c,ks,[],[],[]⟩) (hc:c<m.cls.length) (ha:(c:Int) ∉ ab) (hk:ks.length=(m.cls.getD c default).length) (hs:mq m P (lo+1) hi left c (ab++[(c:Int)]) 0 ks vs):Tr m P lo hi left ab vs
inductive mq (m:ah) (P:List Nd):Nat→Nat→List (List Bool)→Nat→List Int→Nat→List Int→List Int→Prop
  | nil (lo:Nat) (left:List (List Bool)) (c:Nat) (ab:List Int) (o:Nat):mq m P lo lo left c ab o [] []
  | cons (lo mid hi:Nat) (left:List (List Bool)) (c:Nat) (ab:List Int) (o:Nat) (ks v vs:List Int) (h:Tr m P lo mid (bF left c o) ab v) (hs:mq m P mid hi left c ab (o+1) ks vs):mq m P lo hi left c ab o ((lo:Int)::ks) (v++vs)
end
variable {m:ah} {P P':List Nd} {lo mid hi c o:Nat} {left:List (List Bool)} {ab ks v w:List Int}
theorem mq.snoc (h2:Tr m P mid hi (bF left c (o+ks.length)) ab w) (h:mq m P lo mid left c ab o ks v):mq m P lo hi left c ab o (ks++[(mid:Int)]) (v++w):=by
  induction ks generalizing lo o v with
  | nil =>
    cases h
    have:=mq.cons _ _ _ left c ab o [] w [] h2 (.nil _ _ _ _ _)
    simpa using this
  | cons k ks ih =>
    cases h with
    | cons _ aci _ _ _ _ _ _ v1 vs h1 hs =>
      rw[cI]
      exact .cons _ _ _ _ _ _ _ _ _ _ h1 (ih (by rw[List.length_cons] at h2;rwa [show o+1+ks.length=o+(ks.length+1) by omega]) hs)
mutual
theorem Tr.v8 {lo hi:Nat} {left:List (List Bool)} {ab v:List Int}:Tr m P lo hi left ab v→iY m P (fun _=>True) lo hi ab
  | .leaf _ _ _ h ha=>.leaf _ _ [] h (aD _) (fun _ h=>by cases h) ha trivial
  | .node _ _ _ _ c ks _ h hc ha hk hs=>.node _ _ _ c ks h hc ha hk hs.zW
theorem mq.zW {lo hi c o:Nat} {left:List (List Bool)} {ab ks v:List Int}:mq m P lo hi left c ab o ks v→iZ m P (fun _=>True) lo hi ab ks
  | .nil _ _ _ _ _=>.nil _ _
  | .cons _ mid _ _ _ _ _ _ _ _ h hs=>.cons _ mid _ _ _ h.v8 hs.zW
end
mutual
theorem Tr.frame {lo hi:Nat} {left:List (List Bool)} {ab v:List Int}:Tr m P lo hi left ab v→(∀ i,lo≤i→i<hi→nd P' i=nd P i)→Tr m P' lo hi left ab v
  | .leaf _ _ _ h ha,hf=>.leaf _ _ _ ((hf _ (aH _) (Nat.lt_succ_self _)).trans h) ha
  | .node _ _ _ _ c ks _ h hc ha hk hs,hf=>.node _ _ _ _ c ks _ ((hf _ (aH _) (by have:=hs.zW.le;omega)).trans h) hc ha hk (hs.frame fun i h1 h2=>hf i (by omega) h2)
theorem mq.frame {lo hi c o:Nat} {left:List (List Bool)} {ab ks v:List Int}:mq m P lo hi left c ab o ks v→(∀ i,lo≤i→i<hi→nd P' i=nd P i)→mq m P' lo hi left c ab o ks v
  | .nil _ _ _ _ _,_=>.nil _ _ _ _ _
  | .cons _ mid _ _ _ _ _ _ _ _ h hs,hf=>.cons _ mid _ _ _ _ _ _ _ _ (h.frame fun i h1 h2=>hf i h1 (by have:=hs.zW.le;omega)) (hs.frame fun i h1 h2=>hf i (by have:=h.v8.lt;omega) h2)
end
def Cb (m:ah) (P:List Nd) (t:dg) (x:Int):Prop:=(nd P t.1).cls = -1∧(nd P t.1).cY=[]∧(nd P t.1).cM=[]∧xR m t.2.1=x
mutual
theorem Tr.leaves {lo hi:Nat} {left:List (List Bool)} {ab v:List Int} (hd:Down P):Tr m P lo hi left ab v→hi≤P.length→(∀ t∈vs P (lo,left,ab),(nd P t.1).cls = -1→∃ x∈v,Cb m P t x)∧∀ x∈v,∃ t∈vs P (lo,left,ab),Cb m P t x
  | .leaf lo left ab h ha,hh=>by
    rw[I0 hd (by show lo<_;omega) (by show (nd P lo).kids=[];rw[h];rfl)]
    have hl:Cb m P (lo,left,ab) (xR m left):=⟨by show (nd P lo).cls = -1;rw[h];rfl,by show (nd P lo).cY=[];rw[h];rfl,by show (nd P lo).cM=[];rw[h];rfl,rfl⟩
    constructor
    · intro t ht _
      rw[ek] at ht
      subst ht
      exact⟨_,by simp,hl⟩
    · intro x hx
      rw[ek] at hx
      subst hx
      exact⟨_,by simp,hl⟩
  | .node lo hi left ab c ks vl h hc ha hk hs,hh=>by
    have hle:=hs.zW.le
    obtain ⟨i1,i2⟩:=hs.leaves hd hh
    have pM:∀ o,lM P (lo,left,ab) o=((ks.getD o 0).toNat,bF left c o,ab++[(c:Int)]):=fun o=>by
      unfold lM
      dsimp only
      rw[h];rfl
    have dx:(nd P lo).kids=ks:=by rw[h]
    rw[Cc hd (by show lo<_;omega)]
    constructor
    · intro t ht ca
      rw[bZ] at ht
      rcases ht with rfl | ht
      · dsimp only at ca
        rw[h] at ca
        exact absurd (show (c:Int) = -1 from ca) (by omega)
      · obtain ⟨u,hu,ht⟩:=yD.1 ht
        obtain ⟨o,ho,rfl⟩:=tp (sC.1 hu)
        dsimp only at ho
        rw[dx] at ho
        rw[pM] at ht
        rw[← eR o] at ht
        exact i1 o ho t (by simpa using ht) ca
    · intro x hx
      obtain ⟨o,ho,t,ht,hl⟩:=i2 x hx
      rw[eR] at ht
      refine⟨t,List.mem_cons_of_mem _ (yD.2 ⟨lM P (lo,left,ab) o,sC.2 ?_,by rw[pM];exact ht⟩),hl⟩
      unfold ov g6
      exact List.mem_map.2 ⟨o,List.mem_range.2 (by show o<(nd P lo).kids.length;rw[dx];exact ho),rfl⟩
theorem mq.leaves {lo hi c o:Nat} {left:List (List Bool)} {ab ks v:List Int} (hd:Down P):mq m P lo hi left c ab o ks v→hi≤P.length→(∀ i,i<ks.length→∀ t∈vs P ((ks.getD i 0).toNat,bF left c (o+i),ab),(nd P t.1).cls = -1→∃ x∈v,Cb m P t x)∧∀ x∈v,∃ i,i<ks.length∧∃ t∈vs P ((ks.getD i 0).toNat,bF left c (o+i),ab),Cb m P t x
  | .nil _ _ _ _ _,_=>⟨fun i hi=>(by cases hi),fun x hx=>(by cases hx)⟩
  | .cons lo mid hi left c ab o ks v w h hs,hh=>by
    have hle:=hs.zW.le
    obtain ⟨a1,a2⟩:=h.leaves hd (by omega)
    obtain ⟨b1,b2⟩:=hs.leaves hd hh
    constructor
    · intro i hi t ht ca
      cases i with
      | zero =>
        rw[gP,eT] at ht
        obtain ⟨x,hx,hl⟩:=a1 t ht ca
        exact⟨x,List.mem_append_left _ hx,hl⟩
      | succ i =>
        rw[eS,show o+(i+1)=o+1+i by omega] at ht
        obtain ⟨x,hx,hl⟩:=b1 i (by simpa using hi) t ht ca
        exact⟨x,List.mem_append_right _ hx,hl⟩
    · intro x hx
      rcases cy.1 hx with hx | hx
      · obtain ⟨t,ht,hl⟩:=a2 x hx
        exact⟨0,by simp,t,by rw[gP,eT];exact ht,hl⟩
      · obtain ⟨i,hi,t,ht,hl⟩:=b2 x hx
        exact⟨i+1,by simpa using hi,t,by rw[eS,show o+(i+1)=o+1+i by omega];exact ht,hl⟩
end
def mT (l:List Int) (b:Int):Int:=l.foldl min b
theorem TW:∀ (l:List Int) (b:Int),mT l b≤b∧(∀ x∈l,mT l b≤x)∧(mT l b=b∨mT l b∈l)
  | [],b=>⟨eo _,fun _ h=>(by cases h),.inl rfl⟩
  | x::l,b=>by
    obtain ⟨h1,h2,h3⟩:=TW l (min b x)
    have e:mT (x::l) b=mT l (min b x):=rfl
    rw[e]
    refine⟨by omega,fun y hy=>?_,?_⟩
    · rcases bZ.1 hy with rfl | hy
      · omega
      · exact h2 y hy
    · rcases h3 with h3 | h3
      · rcases Int.le_total b x with hb | hb
        · left;rw[h3];omega
        · right;rw[h3,Int.min_eq_right hb];simp
      · right;simp[h3]
theorem acj (l k:List Int) (b:Int):mT (l++k) b=mT k (mT l b):=List.foldl_append
theorem Tr.ey (hm:VM m) {v:List Int} (h:Tr m P 0 P.length (ef m) [] v) (hn:P.length≤20000):lG m P=(mT v 1099511627776,true):=by
  have uE:=h.v8.shaped hn
  have hd:=tq uE
  obtain ⟨n,h1,h2⟩:=h.v8.ey hm hn
  obtain ⟨l1,l2⟩:=h.leaves hd (aH _)
  obtain ⟨_,_,hr⟩:=TX h1
  obtain ⟨q1,q2⟩:=TY hr
  obtain ⟨m1,m2,m3⟩:=TW v 1099511627776
  have e1:mT v 1099511627776≤n:=h2 _ m1 fun s hs ca=>by
    obtain ⟨x,hx,_,v9,_,hv⟩:=l1 s hs ca
    rw[v9,TZ]
    have:=m2 x hx
    unfold xR at hv
    dsimp only
    omega
  have e2:n≤mT v 1099511627776:=by
    rcases m3 with e | e
    · omega
    · obtain ⟨t,ht,ca,v9,Fb,hv⟩:=l2 _ e
      have:=(q2 t ht).2 ca
      rw[Fb,if_neg (by simp),v9,TZ] at this
      unfold xR at hv
      dsimp only at this
      omega
  rw[h1,show n=mT v 1099511627776 by omega]
end T
namespace T
structure Dn (m:ah) (left:List (List Bool)) (p:List Int):Prop where
  fit:dN m left
  bp:BP m p
  one:∀ j,j<p.length→left.getD j default=lI (m.cls.getD j default).length (p.getD j 0).toNat
  all:∀ j,p.length≤j→j<m.cls.length→left.getD j default=List.replicate (m.cls.getD j default).length true
variable {m:ah} {left:List (List Bool)} {p:List Int}
theorem Dn.root (hm:VM m):Dn m (ef m) []:=by
  refine⟨BA hm,⟨aD _,fun j hj=>(by cases hj)⟩,fun j hj=>(by cases hj),fun j _ hj=>?_⟩
  unfold ef kI
  rw[if_pos (iJ.2 hm),iu _ _ _ hj]
theorem T1 {left:List (List Bool)} {c j:Nat} (x:List Bool) (h:c≠j):(left.set c x).getD j default=left.getD j default:=by
  rw[ay,List.getElem?_set_ne h,← ay]
theorem Dn.next (h:Dn m left p) (hc:p.length<m.cls.length) {k:Nat} (hk:k<(m.cls.getD p.length default).length):Dn m (bF left p.length k) (p++[(k:Int)]):=by
  refine⟨Bu h.fit (Er _ _ _),h.bp.snoc hc hk,fun j hj=>?_,fun j h1 h2=>?_⟩
  · unfold bF
    rw[bJ] at hj
    by_cases e:j<p.length
    · rw[T1 _ (by omega),Fa e];exact h.one j e
    · obtain rfl:j=p.length:=by simp at hj;omega
      rw[zF _ _ _ (by rw[h.fit.1];exact hc),IZ,h.fit.2 _ (by rw[h.fit.1];exact hc)];rfl
  · unfold bF
    rw[bJ] at h1
    rw[T1 _ (by simp at h1;omega)]
    exact h.all j (by omega) h2
theorem Dn.single (h:Dn m left p) (hc:p.length<left.length) (h1:(left.getD p.length default).length=1):Dn m left (p++[0]):=by
  have jA:p.length<m.cls.length:=by rw[← h.fit.1];exact hc
  have hl:=h.fit.2 _ hc
  refine⟨h.fit,h.bp.snoc (k:=0) jA (by omega),fun j hj=>?_,fun j h2 h3=>h.all j (by rw[bJ] at h2;omega) h3⟩
  rw[bJ] at hj
  by_cases e:j<p.length
  · rw[Fa e];exact h.one j e
  · obtain rfl:j=p.length:=by simp at hj;omega
    rw[IZ,h.all _ (aH _) jA,← hl,h1];rfl
theorem Dn.skip:∀ (k:Nat) (p:List Int),left.length - p.length=k→Dn m left p→∃ r:List Int,Dn m left (p++r)∧(p++r).length=cE left p.length∧∀ a,nD m (m.cls.length - p.length) p a=nD m (m.cls.length - (p++r).length) (p++r) a
  | k,p,hk,h=>by
    by_cases hc:p.length<left.length∧(left.getD p.length default).length=1
    · have h1:=h.single hc.1 hc.2
      obtain ⟨r,a1,a2,a3⟩:=Dn.skip (k - 1) (p++[0]) (by rw[bJ];simp;omega) h1
      have e:p++[0]++r=p++(0::r):=by simp
      rw[e] at a1 a2 a3
      refine⟨0::r,a1,?_,fun a=>?_⟩
      · rw[HW hc,a2];simp
      · rw[← a3 a]
        have hl:=h.fit.2 _ hc.1
        have bj:p.length<m.cls.length:=by rw[← h.fit.1];exact hc.1
        rw[show m.cls.length - p.length=(m.cls.length - (p++[0]).length)+1 by simp;omega,nD,← hl,hc.2];rfl
    · exact⟨[],by simpa using h,by rw[HX hc];simp,fun a=>by simp⟩
termination_by k p _ _=>left.length - p.length
decreasing_by simp;omega
theorem Dn.T2 (h:Dn m left p) {q:List Int} (hq:Ext m p q):Cd m left q:=fun i hi=>by
  obtain ⟨hf,r,rfl⟩:=hq
  have hg:=iy.1 (hf.get i (by rw[hf.len];exact hi))
  rw[eT] at hg
  by_cases e:i<p.length
  · have:=h.bp.get i e
    rw[h.one i e,Fa e,T3 (by omega),decide_eq_true rfl]
  · rw[h.all i (by omega) hi,ay,List.getElem?_replicate,if_pos (by omega)];rfl
theorem T4:∀ (w o:Nat) (i:Int),o<w→qQ (lI w o) i=i+o
  | 0,o,i,h=>by omega
  | w+1,0,i,h=>by
    unfold lI
    rw[Di,List.set_cons_zero,qQ,if_pos rfl];simp
  | w+1,o+1,i,h=>by
    have:=T4 w o (i+1) (by omega)
    unfold lI at *
    rw[Di,List.set_cons_succ,qQ,if_neg (by simp),this];omega
theorem Dn.ack (h:Dn m left p) (hl:p.length=m.cls.length):jl left=p:=by
  unfold jl
  apply List.ext_getElem
  · rw[dU,h.fit.1,hl]
  · intro i h1 h2
    rw[List.getElem_map]
    have a1:=h.one i h2
    have a2:=h.bp.get i h2
    have e1:left[i]'(by rw[dU] at h1;exact h1)=left.getD i default:=by
      rw[ay,bI (by rw[dU] at h1;exact h1)];rfl
    have e2:p[i]=p.getD i 0:=by rw[ay,bI h2];rfl
    rw[e1,e2,a1,T4 _ _ _ (by omega)]
    omega
theorem Dn.acm (h:Dn m left p) (hl:p.length=m.cls.length):zX m left p:=fun i hi j=>by
  have:=h.bp.get i (by omega)
  rw[h.one i (by omega),T3 (by omega)]
theorem Dn.bound (hm:VM m) (h:Dn m left p) {q:List Int} (hq:Ext m p q):eO m left≤lF m q:=by
  rw[I1 hm h.fit]
  exact acn hm hq.1 left h.fit (h.T2 hq) [] (fun _ h=>by cases h)
theorem Dn.exact (hm:VM m) (h:Dn m left p) (hl:p.length=m.cls.length):eO m left=lF m p:=by
  rw[I1 hm h.fit]
  exact aco hm (h.bp.fp hl) left h.fit (h.acm hl) [] (fun _ h=>by cases h)
structure DL (m:ah) (left:List (List Bool)) (p:List Int) (s r:DS):Prop where
  bO:r.bO≤s.bO
  bl:r.cu≤s.cu
  bt:r.bO<s.bO→r.cu≤r.bO
  wh:r.whole=true→s.whole=true∧(r.plan,r.bO)=nD m (m.cls.length - p.length) p (s.plan,s.bO)∧min s.cu r.bO≤r.cu
  room:(r.nodes.length:Int)+r.room=s.nodes.length+s.room+1
  rm0:0≤s.room→0≤r.room
  lt:s.nodes.length<r.nodes.length
  pre:∀ i,i<s.nodes.length→nd r.nodes i=nd s.nodes i
  tr:∀ ab:List Int,(∀ x∈ab,0≤x∧x<p.length)→∃ v,Tr m r.nodes s.nodes.length r.nodes.length left ab v∧r.cu=mT v s.cu
theorem DL.leaf (hm:VM m) (h:dN m left) {s r:DS} (hn:r.nodes=s.nodes++[ld []]) (hr:r.room=s.room) (hb:r.cu=min s.cu (eO m left)) (ht:r.bO≤s.bO) (jP:r.bO<s.bO→r.bO=eO m left)
    (hw:r.whole=true→s.whole=true∧(r.plan,r.bO)=nD m (m.cls.length - p.length) p (s.plan,s.bO)∧r.bO≤eO m left):DL m left p s r:=by
  refine⟨ht,by omega,fun h=>by have:=jP h;omega,fun h=>?_,by rw[hn,hr];simp;omega,fun h=>by omega,by rw[hn];simp,fun i hi=>by rw[hn];exact T5 hi,fun ab lp=>⟨[xR m left],?_,?_⟩⟩
  · obtain ⟨a,b,c⟩:=hw h
    exact⟨a,b,by omega⟩
  · rw[hn,bJ]
    exact .leaf _ _ _ acp (fun h=>by have:=lp _ h;omega)
  · rw[hb];unfold mT xR;rw[I1 hm h];rfl
theorem T6 {f:List (List Bool)→DS→DS} {ab:List Int} (hf:∀ k s,k<(m.cls.getD p.length default).length→DL m (bF left p.length k) (p++[(k:Int)]) s (f (bF left p.length k) s))
    (lp:∀ x∈ab,0≤x∧x<p.length+1):∀ (w o:Nat) (s:DS) (ks:List Int) (lo:Nat) (v:List Int),o+w=(m.cls.getD p.length default).length→ks.length=o→lo≤s.nodes.length→mq m s.nodes lo s.nodes.length left p.length ab 0 ks v →
    (ga f left p.length w o s ks).1.bO≤s.bO∧(ga f left p.length w o s ks).1.cu≤s.cu∧((ga f left p.length w o s ks).1.bO<s.bO→(ga f left p.length w o s ks).1.cu≤(ga f left p.length w o s ks).1.bO) ∧
    ((ga f left p.length w o s ks).1.whole=true→s.whole=true∧((ga f left p.length w o s ks).1.plan,(ga f left p.length w o s ks).1.bO)=v7 (nD m (m.cls.length - (p.length+1))) p w o (s.plan,s.bO)∧min s.cu (ga f left p.length w o s ks).1.bO≤(ga f left p.length w o s ks).1.cu) ∧
    (((ga f left p.length w o s ks).1.nodes.length:Int)+(ga f left p.length w o s ks).1.room=s.nodes.length+s.room+w)∧(0≤s.room→0≤(ga f left p.length w o s ks).1.room)∧s.nodes.length≤(ga f left p.length w o s ks).1.nodes.length ∧
    (∀ i,i<s.nodes.length→nd (ga f left p.length w o s ks).1.nodes i=nd s.nodes i)∧(ga f left p.length w o s ks).2.length=o+w ∧
    ∃ u,mq m (ga f left p.length w o s ks).1.nodes lo (ga f left p.length w o s ks).1.nodes.length left p.length ab 0 (ga f left p.length w o s ks).2 (v++u)∧(ga f left p.length w o s ks).1.cu=mT u s.cu
  | 0,o,s,ks,lo,v,ho,hk,jf,hs=>⟨eo _,eo _,fun h=>absurd h (K5 _),fun h=>⟨h,rfl,by show min s.cu s.bO≤s.cu;omega⟩,by show (s.nodes.length:Int)+s.room=_;simp,fun h=>h,aH _,fun _ _=>rfl,hk,[],by simpa [ga] using hs,rfl⟩
  | w+1,o,s,ks,lo,v,ho,hk,jf,hs=>by
    have h:=hf o s (by omega)
    generalize hr:f (bF left p.length o) s=r at h
    have mJ:(p++[(o:Int)]).length=p.length+1:=by simp
    obtain ⟨t1,t2,t3,t4,t5,t6,t7,t8,t9⟩:=h
    obtain ⟨u,hu,hub⟩:=t9 ab fun x hx=>by rw[mJ];exact lp x hx
    have iD:=mq.snoc (ks:=ks) (o:=0) (by rw[hk,eR];exact hu) (hs.frame fun i _ h2=>t8 i h2)
    obtain ⟨i1,i2,i3,i4,i5,i6,i7,i8,i9,u2,i10,i11⟩:=T6 hf lp w (o+1) r (ks++[(s.nodes.length:Int)]) lo (v++u) (by omega) (by simp[hk]) (by omega) iD
    rw[ga,hr]
    generalize ga f left p.length w (o+1) r (ks++[(s.nodes.length:Int)])=z at *
    refine⟨by omega,by omega,fun bj=>?_,fun hw=>?_,by omega,fun h=>i6 (t6 h),by omega,fun i hi=>(i8 i (by omega)).trans (t8 i hi),by omega,u++u2,by rw[← cI];exact i10,by rw[i11,hub,acj]⟩
    · by_cases e:z.1.bO<r.bO
      · exact i3 e
      · have:=t3 (by omega);omega
    · obtain ⟨a1,a2,a3⟩:=i4 hw
      obtain ⟨b1,b2,b3⟩:=t4 a1
      refine⟨b1,?_,by omega⟩
      rw[a2,v7]
      rw[mJ] at b2
      rw[b2]
theorem I2 (hm:VM m):∀ (f:Nat) (left:List (List Bool)) (p:List Int) (s:DS),left.length+1≤f+p.length→Dn m left p→DL m left p s (ns m f p.length left s)
  | 0,left,p,s,hf,h=>by have:=h.bp.len;rw[← h.fit.1] at this;omega
  | f+1,left,p,s,hf,h=>by
    obtain ⟨r,h1,h2,h3⟩:=Dn.skip (left:=left) _ p rfl h
    obtain ⟨g1,g2,g3,g4⟩:=zw (left:=left) _ p.length rfl
    have dz:p.length≤left.length:=by rw[h.fit.1];exact h.bp.len
    have ec:=h.fit
    rw[ns]
    split
    · rename_i hv
      refine DL.leaf hm ec rfl rfl rfl (eo _) (fun h=>absurd h (K5 _)) fun hw=>⟨hw,?_,hv⟩
      exact (TV _ p (s.plan,s.bO) h.bp (by have:=h.bp.len;omega) fun q hq=>Int.le_trans hv (h.bound hm hq)).symm
    rename_i hv
    split
    · rename_i he
      have uh:(p++r).length=m.cls.length:=by rw[h2,he,ec.1]
      refine DL.leaf hm ec rfl rfl rfl (by dsimp only;omega) (fun _=>rfl) fun hw=>⟨hw,?_,eo _⟩
      rw[h3,uh,iC,nD,← h1.exact hm uh,if_pos (by dsimp only;omega),h1.ack uh]
    rename_i he
    split
    · exact DL.leaf hm ec rfl rfl rfl (eo _) (fun h=>absurd h (K5 _)) fun hw=>by cases hw
    rename_i y8
    rw[not_or] at y8
    rw[← h2] at he y8 ⊢
    have bj:(p++r).length<m.cls.length:=by
      have:=h1.bp.len
      rw[ec.1] at he
      omega
    have a6:(left.getD (p++r).length default).length=(m.cls.getD (p++r).length default).length:=ec.2 _ (by rw[ec.1];exact bj)
    have T7:p.length≤(p++r).length:=by simp
    generalize hP:p++r=P at *
    have hK:=fun ab lp=>T6 (m:=m) (left:=left) (p:=P) (f:=ns m f (P.length+1)) (ab:=ab) (fun k s' hk=>by
      have:=I2 hm f (bF left P.length k) (P++[(k:Int)]) s' (by rw[show (bF left P.length k).length=left.length by unfold bF;simp];simp;omega) (h1.next bj hk)
      rwa [show (P++[(k:Int)]).length=P.length+1 by simp] at this) lp (left.getD P.length default).length 0 (kk left P.length (eO m left) s) [] (kk left P.length (eO m left) s).nodes.length [] (by omega) rfl (aH _) (.nil _ _ _ _ _)
    obtain ⟨i1,i2,i3,i4,i5,i6,i7,i8,i9,_⟩:=hK [] (fun x hx=>by cases hx)
    have htr:=fun ab lp=>(hK ab lp).2.2.2.2.2.2.2.2.2
    clear hK
    generalize ga (ns m f (P.length+1)) left P.length (left.getD P.length default).length 0 (kk left P.length (eO m left) s) []=z at *
    unfold kk at *
    dsimp only at *
    have ak:(s.nodes++[ld []]).length=s.nodes.length+1:=by simp
    rw[ak] at i5 i7 i8
    have Ce:∀ i,i≠s.nodes.length→nd (sX P.length s.nodes.length z).nodes i=nd z.1.nodes i:=fun i hi=>by
      unfold sX
      rw[T8 (by omega),if_neg hi]
    have T9:nd (sX P.length s.nodes.length z).nodes s.nodes.length=⟨(P.length:Int),z.2,[],[],[]⟩:=by
      unfold sX
      rw[T8 (by omega),if_pos rfl]
    have kf:(sX P.length s.nodes.length z).nodes.length=z.1.nodes.length:=by unfold sX;simp
    refine⟨i1,i2,i3,fun hw=>?_,by rw[kf];show (z.1.nodes.length:Int)+z.1.room=_;omega,fun h=>i6 (by omega),by rw[kf];omega,fun i hi=>?_,fun ab lp=>?_⟩
    · obtain ⟨a1,a2,a3⟩:=i4 hw
      refine⟨a1,?_,a3⟩
      rw[h3,show m.cls.length - P.length=(m.cls.length - (P.length+1))+1 by omega,nD,← a6]
      exact a2
    · rw[Ce i (by omega),i8 i (by omega)];exact T5 hi
    · obtain ⟨u,hu,hb⟩:=htr (ab++[(P.length:Int)]) fun x hx=>by
        rcases cy.1 hx with hx | hx
        · have:=lp x hx;omega
        · rw[ek] at hx;omega
      rw[List.nil_append,ak] at hu
      refine⟨u,?_,hb⟩
      rw[kf]
      refine .node _ _ _ _ P.length z.2 _ T9 bj (fun hx=>by have:=lp _ hx;omega) (by rw[i9];omega) ?_
      exact hu.frame fun i h1 _=>Ce i (by omega)
end T
namespace T
def ki (m:ah):Nat→Nat
  | 0=>1
  | d+1=>(m.cls.getD (m.cls.length - (d+1)) default).length * ki m d
variable {m:ah} {left:List (List Bool)} {p:List Int}
theorem T' {c:Nat} (h:c<m.cls.length):ki m (m.cls.length - c)=(m.cls.getD c default).length * ki m (m.cls.length - (c+1)):=by
  rw[show m.cls.length - c=(m.cls.length - (c+1))+1 by omega,ki,show m.cls.length - (m.cls.length - (c+1)+1)=c by omega]
theorem I3 (o9:∀ l∈m.cls,1≤l.length):∀ d,d≤m.cls.length→1≤ki m d
  | 0,_=>aH _
  | d+1,h=>Nat.mul_pos (o9 _ (az (by omega))) (I3 o9 d (by omega))
theorem Ua:∀ (k a b:Nat),b - a=k→a≤b→b≤m.cls.length→(∀ j,a≤j→j<b→(m.cls.getD j default).length=1)→ki m (m.cls.length - a)=ki m (m.cls.length - b)
  | 0,a,b,hk,h1,h2,h=>by rw[show a=b by omega]
  | k+1,a,b,hk,h1,h2,h=>by
    rw[T' (by omega),h a (aH _) (by omega),Nat.one_mul]
    exact Ua k (a+1) b (by omega) (by omega) h2 fun j h3 h4=>h j (by omega) h4
theorem Ub {f:List (List Bool)→DS→DS} {c N Q:Nat} (hf:∀ k s,k<N→s.whole=true→(2 * Q - 2:Int)≤s.room→(Q - 1:Int)≤s.cw→(f (bF left c k) s).whole=true∧s.room - (2 * Q - 2)≤(f (bF left c k) s).room∧s.cw - (Q - 1)≤(f (bF left c k) s).cw) (hQ:1≤Q) :
    ∀ (w o:Nat) (s:DS) (ks:List Int),o+w=N→s.whole=true→(w:Int) * (2 * Q - 2)≤s.room→(w:Int) * (Q - 1)≤s.cw→(ga f left c w o s ks).1.whole=true∧s.room - (w:Int) * (2 * Q - 2)≤(ga f left c w o s ks).1.room∧s.cw - (w:Int) * (Q - 1)≤(ga f left c w o s ks).1.cw
  | 0,o,s,ks,ho,h1,h2,h3=>⟨h1,by show s.room - _≤s.room;omega,by show s.cw - _≤s.cw;omega⟩
  | w+1,o,s,ks,ho,h1,h2,h3=>by
    have e1:((w+1:Nat):Int) * (2 * Q - 2)=(w:Int) * (2 * Q - 2)+(2 * Q - 2):=by rw[vj,Gw];simp
    have e2:((w+1:Nat):Int) * (Q - 1)=(w:Int) * (Q - 1)+(Q - 1):=by rw[vj,Gw];simp
    have p1:0≤(w:Int) * (2 * Q - 2):=pC (by omega) (by omega)
    have p2:0≤(w:Int) * (Q - 1):=pC (by omega) (by omega)
    rw[e1] at h2 ⊢
    rw[e2] at h3 ⊢
    obtain ⟨a,b,c'⟩:=hf o s (by omega) h1 (by omega) (by omega)
    obtain ⟨x,y,z⟩:=Ub hf hQ w (o+1) (f (bF left c o) s) (ks++[(s.nodes.length:Int)]) (by omega) a (by omega) (by omega)
    rw[ga]
    exact⟨x,by omega,by omega⟩
theorem Uc (hm:VM m) (o9:∀ l∈m.cls,1≤l.length):∀ (f:Nat) (left:List (List Bool)) (p:List Int) (s:DS),left.length+1≤f+p.length→Dn m left p→s.whole=true→(2 * ki m (m.cls.length - p.length) - 2:Int)≤s.room→(ki m (m.cls.length - p.length) - 1:Int)≤s.cw →
    (ns m f p.length left s).whole=true∧s.room - (2 * ki m (m.cls.length - p.length) - 2)≤(ns m f p.length left s).room∧s.cw - (ki m (m.cls.length - p.length) - 1)≤(ns m f p.length left s).cw
  | 0,left,p,s,hf,h,_,_,_=>by have:=h.bp.len;rw[← h.fit.1] at this;omega
  | f+1,left,p,s,hf,h,hw,hr,hs=>by
    obtain ⟨r,h1,h2,h3⟩:=Dn.skip (left:=left) _ p rfl h
    obtain ⟨g1,g2,g3,g4⟩:=zw (left:=left) _ p.length rfl
    have ec:=h.fit
    have Ud:=I3 o9 (m.cls.length - p.length) (by omega)
    rw[ns]
    split
    · exact⟨hw,by show _≤s.room;omega,by show _≤s.cw;omega⟩
    split
    · exact⟨hw,by show _≤s.room;omega,by show _≤s.cw;omega⟩
    rename_i he
    rw[← h2] at he g1 g3 g4 ⊢
    have T7:p.length≤(p++r).length:=by simp
    have bj:(p++r).length<m.cls.length:=by
      have:=h1.bp.len
      rw[ec.1] at he
      omega
    have a6:(left.getD (p++r).length default).length=(m.cls.getD (p++r).length default).length:=ec.2 _ (by rw[ec.1];exact bj)
    have gk:=Ua (m:=m) _ p.length (p++r).length rfl T7 (by omega) fun j h4 h5=>by rw[← ec.2 j (g3 j h4 h5).1];exact (g3 j h4 h5).2
    rw[gk] at hr hs Ud ⊢
    generalize hP:p++r=P at *
    have nV:2≤(m.cls.getD P.length default).length:=by
      have:=o9 _ (az (d:=default) bj)
      have:=g4 (by rw[ec.1];exact bj)
      omega
    rw[T' bj] at hr hs Ud ⊢
    have hQ:=I3 o9 (m.cls.length - (P.length+1)) (by omega)
    have ih:=fun k s' hk=>Uc hm o9 f (bF left P.length k) (P++[(k:Int)]) s' (by rw[show (bF left P.length k).length=left.length by unfold bF;simp];simp;omega) (h1.next bj hk)
    simp only[bJ,List.length_singleton] at ih
    generalize hq:ki m (m.cls.length - (P.length+1))=Q at *
    generalize hN:(m.cls.getD P.length default).length=N at *
    have hmul:((N * Q:Nat):Int)=(N:Int) * Q:=by rw[Int.natCast_mul]
    rw[hmul] at hr hs ⊢
    have lE:(N:Int) * 1≤(N:Int) * Q:=Int.mul_le_mul_of_nonneg_left (by omega) (by omega)
    have e1:(N:Int) * (2 * Q - 2)=2 * ((N:Int) * Q) - 2 * N:=by rw[Int.mul_sub,Int.mul_left_comm];omega
    have e2:(N:Int) * (Q - 1)=(N:Int) * Q - N:=by rw[Int.mul_sub];omega
    rw[a6]
    split
    · rename_i lj
      rcases lj with lj | lj<;>omega
    have hK:=Ub (left:=left) (f:=ns m f (P.length+1)) (c:=P.length) (N:=N) (Q:=Q) (fun k s' hk a b c=>ih k s' hk a b c) hQ N 0 (kk left P.length (eO m left) s) [] (by omega) hw (by rw[e1];unfold kk;dsimp only;omega) (by rw[e2];unfold kk;dsimp only;omega)
    generalize ga (ns m f (P.length+1)) left P.length N 0 (kk left P.length (eO m left) s) []=z at *
    obtain ⟨a,b,c⟩:=hK
    rw[e1] at b
    rw[e2] at c
    unfold kk at b c
    dsimp only at b c
    exact⟨a,by show _≤z.1.room;omega,by show _≤z.1.cw;omega⟩
theorem Ue (left:List (List Bool)):∀ (l:List (List bK)) (i:Nat) (n:Int),[]∈l→tu left i l n=none
  | [],i,n,h=>by cases h
  | c::l,i,n,h=>by
    rw[tu]
    split
    · rfl
    · rename_i hc
      refine Ue left l _ _ ((bZ.1 h).resolve_left fun e=>hc ?_)
      rw[← e];rfl
theorem acs (h:[]∈m.cls) (left:List (List Bool)):eO m left=1099511627776:=by
  unfold eO;rw[Ue left _ _ _ h];rfl
theorem Uf {f:List Int→List Int × Int} (hf:∀ q,f q=([],1099511627776)∨(f q).2<1099511627776) (p:List Int):∀ (w k:Nat) (a:List Int × Int),(a=([],1099511627776)∨a.2<1099511627776)→(pS f p w k a=([],1099511627776)∨(pS f p w k a).2<1099511627776)
  | 0,k,a,h=>h
  | w+1,k,a,h=>by
    rw[pS]
    refine Uf hf p w (k+1) _ ?_
    split
    · exact hf _
    · exact h
theorem Ee (m:ah):∀ (d:Nat) (p:List Int),gu m d p=([],1099511627776)∨(gu m d p).2<1099511627776
  | 0,p=>by
    unfold gu
    split
    · exact .inl rfl
    · exact .inr (by dsimp only;omega)
  | d+1,p=>Uf (Ee m d) p _ _ _ (.inl rfl)
def Fe:DS:=⟨[],19999,20000,true,[],1099511627776,1099511627776⟩
def bx (m:ah):DS:=ns m (m.cls.length+1) 0 (ef m) Fe
theorem Ed (hm:VM m) (h:[]∈m.cls∨ki m m.cls.length≤8000):(bx m).whole=true∧((bx m).plan,(bx m).bO)=gu m m.cls.length []∧(bx m).cu=(bx m).bO∧lG m (bx m).nodes=((bx m).bO,true)∧(bx m).nodes.length≤20000:=by
  have hr:=Dn.root hm
  have hd:=I2 hm (m.cls.length+1) (ef m) [] Fe (by rw[hr.fit.1];simp) hr
  have hw:(bx m).whole=true:=by
    by_cases he:[]∈m.cls
    · unfold bx
      rw[ns,acs he,if_pos (by show (1099511627776:Int)≤_;omega)];rfl
    · have o9:∀ l∈m.cls,1≤l.length:=fun l hl=>by
        cases l with
        | nil=>exact absurd hl he
        | cons a b=>simp
      have hc:=h.resolve_left he
      refine (Uc hm o9 (m.cls.length+1) (ef m) [] Fe (by rw[hr.fit.1];simp) hr rfl ?_ ?_).1
      · show (2 * ki m m.cls.length - 2:Int)≤19999;omega
      · show (ki m m.cls.length - 1:Int)≤20000;omega
  obtain ⟨d1,d2,d3,d4,d5,d6,d7,d8,d9⟩:=hd
  change (bx m).bO≤1099511627776 at d1
  change (bx m).cu≤1099511627776 at d2
  change (bx m).bO<1099511627776→(bx m).cu≤(bx m).bO at d3
  obtain ⟨_,e1,e2⟩:=d4 hw
  change ((bx m).plan,(bx m).bO)=nD m m.cls.length [] ([],1099511627776) at e1
  change min 1099511627776 (bx m).bO≤(bx m).cu at e2
  change ((bx m).nodes.length:Int)+(bx m).room=0+19999+1 at d5
  have d6:0≤(bx m).room:=d6 (by show (0:Int)≤19999;omega)
  have hb:(bx m).cu=(bx m).bO:=by omega
  obtain ⟨v,hv,I4⟩:=d9 [] (fun x hx=>by cases hx)
  have I4:(bx m).cu=mT v 1099511627776:=I4
  have gJ:=Tr.ey (P:=(bx m).nodes) hm hv (by omega)
  refine⟨hw,?_,hb,by rw[gJ,← I4,hb],by omega⟩
  rw[e1,TT _ _ _ _ (eo _)]
  rcases Ee m m.cls.length [] with e | e
  · rw[e];rfl
  · rw[if_pos e]
end T

