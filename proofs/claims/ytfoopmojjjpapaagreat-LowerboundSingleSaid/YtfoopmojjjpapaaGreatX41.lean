import Derived.Test.YtfoopmojjjpapaaGreatX39
import Derived.Test.YtfoopmojjjpapaaGreatX40
set_option linter.all false
set_option maxHeartbeats 0
set_option maxRecDepth 20000
open Nat renaming le_refl→aY,zero_le→aS
open List renaming flatMap_append→sv,count_append→tN,mem_cons→bw,range→bu,all_eq_true→fW,mem_singleton→cV,contains_iff_mem→sq,mem_flatMap→Cd,mem_reverse→wE,getD_cons_zero→ik,getD_cons_succ→e7,getD_eq_getElem?_getD→az
open Int renaming toNat_natCast→c7
open Bool renaming eq_false_iff→Cf
open Go Go.Am
namespace T
mutual
inductive lh(m:ah)(P:List Nd)(Q:List Int->Prop):Nat->Nat->List Int->Prop
 |leaf (lo:Nat) (ab:List Int) (l:List Mv) (h:nd P lo=Mi l) (hl:l.length<=2000) (hv:∀ x∈l,iT m x=true) (ha:(-1:Int) ∉ ab) (hq:Q ab):lh m P Q lo (lo+1) ab
 |node (lo hi:Nat) (ab:List Int) (c:Nat) (ks:List Int) (h:nd P lo=⟨c,ks,[],[],[]⟩) (hc:c<m.cls.length) (ha:(c:Int) ∉ ab) (hk:ks.length=(m.cls.getD c default).length) (hs:lj m P Q (lo+1) hi (ab++[(c:Int)]) ks):lh m P Q lo hi ab
inductive lj(m:ah)(P:List Nd)(Q:List Int->Prop):Nat->Nat->List Int->List Int->Prop
 |nil (lo:Nat) (ab:List Int):lj m P Q lo lo ab []
 |cons (lo mid hi:Nat) (ab:List Int) (ks:List Int) (h:lh m P Q lo mid ab) (hs:lj m P Q mid hi ab ks):lj m P Q lo hi ab ((lo:Int)::ks)
end
def lj.snoc{m:ah}{P:List Nd}{Q:List Int->Prop}{mid hi:Nat}{ab:List Int}(h2:lh m P Q mid hi ab):∀ {ks:List Int} {lo:Nat},lj m P Q lo mid ab ks->lj m P Q lo hi ab (ks++[(mid:Int)])
 |[],lo,h=>by
  cases h;exact .cons _ _ _ _ _ h2 (.nil _ _)
 |k::ks,lo,h=>by
  cases h with
  |cons _ agQ _ _ _ h1 hs=>exact .cons _ _ _ _ _ h1 (lj.snoc h2 hs)
mutual
def lh.lt{m:ah}{P:List Nd}{Q:List Int->Prop}{lo hi:Nat}{ab:List Int}:lh m P Q lo hi ab->lo<hi
 |.leaf _ _ _ _ _ _ _ _=>Nat.lt_succ_self _
 |.node _ _ _ _ _ _ _ _ _ hs=>by have:=hs.le;omega
def lj.le{m:ah}{P:List Nd}{Q:List Int->Prop}{lo hi:Nat}{ab ks:List Int}:lj m P Q lo hi ab ks->lo<=hi
 |.nil _ _=>aY _
 |.cons _ _ _ _ _ h hs=>by have:=h.lt;have:=hs.le;omega
end
def uT(P:List Nd)(lo hi:Nat):List Int:=(List.range' lo (hi-lo)).flatMap λi=>(nd P i).kids
def ac4(P:List Nd){lo mid hi:Nat}(h1:lo<=mid)(h2:mid<=hi):uT P lo hi=uT P lo mid++uT P mid hi:=by
 unfold uT;rw[<- sv];congr 1;have:=List.range'_append (s:=lo) (m:=mid-lo) (n:=hi-mid) (step:=1);simp only[Nat.one_mul]at this;rw[show lo+(mid-lo)=mid by omega,show mid-lo+(hi-mid)=hi-lo by omega]at this;exact this.symm
def ac5(P:List Nd)(lo:Nat):uT P lo (lo+1)=(nd P lo).kids:=by
 unfold uT;rw[show lo+1-lo=1 by omega];simp
def amG(P:List Nd)(lo:Nat):uT P lo lo=[]:=by unfold uT;rw[Nat.sub_self];rfl
mutual
def lh.count{m:ah}{P:List Nd}{Q:List Int->Prop}{lo hi:Nat}{ab:List Int}:lh m P Q lo hi ab->∀ j:Nat,(uT P lo hi).count (j:Int)=if lo<j/\j<hi then 1 else 0
 |.leaf lo _ l h _ _ _ _,j=>by
  rw[ac5,h,if_neg GK];rfl
 |.node lo hi _ c ks h _ _ _ hs,j=>by
  have hle:=hs.le;rw[ac4 P (Nat.le_succ lo) hle,ac5,h,tN];have:=hs.count j;dsimp only;rw[this];by_cases h1:lo<j/\j<hi
  ·rw[if_pos GK,if_pos h1]
  ·rw[if_neg GK,if_neg h1]
def lj.count{m:ah}{P:List Nd}{Q:List Int->Prop}{lo hi:Nat}{ab ks:List Int}:lj m P Q lo hi ab ks->∀ j:Nat,ks.count (j:Int)+(uT P lo hi).count (j:Int)=if lo<=j/\j<hi then 1 else 0
 |.nil lo _,j=>by rw[amG,if_neg GK];rfl
 |.cons lo mid hi _ ks h hs,j=>by
  have aX:=h.lt;have hle:=hs.le;rw[ac4 P (Nat.le_of_lt aX) hle,tN,List.count_cons];have h1:=h.count j;have h2:=hs.count j;have hb:((lo:Int)==(j:Int))=decide (lo=j):=by rw[Bool.eq_iff_iff,beq_iff_eq,decide_eq_true_eq];omega
  rw[h1,hb];by_cases e:lo=j
  ·subst e;rw[if_neg GK]at h2;simp only[decide_true,if_true];rw[if_neg GK,if_pos GK];omega
  ·simp only[decide_eq_false e,Bool.false_eq_true,if_false];by_cases h3:lo<j/\j<mid
   ·rw[if_pos h3,if_pos GK];rw[if_neg GK]at h2;omega
   ·rw[if_neg h3];by_cases h4:mid<=j/\j<hi
    ·rw[if_pos h4]at h2;rw[if_pos GK];omega
    ·rw[if_neg h4]at h2;rw[if_neg GK];omega
end
mutual
def lh.Gi{m:ah}{P:List Nd}{Q:List Int->Prop}{lo hi:Nat}{ab:List Int}:lh m P Q lo hi ab->∀ i,lo<=i->i<hi->mg m (nd P i)=true/\∀ k∈(nd P i).kids,(i:Int)<k/\k<hi
 |.leaf lo _ l h _ _ _ _,i,h1,h2=>by
  obtain rfl:i=lo:=GK;rw[h];exact⟨rfl,λk hk=>by cases hk⟩
 |.node lo hi _ c ks h hc _ hk hs,i,h1,h2=>by
  by_cases e:i=lo
  ·subst e;rw[h];refine⟨?_,λk iK=>?_⟩
   ·unfold mg;rw[if_neg (by show ¬((c:Int) = -1);omega),decide_eq_true_eq];exact⟨by show(0:Int)<=c;omega,by show(c:Int)<_;omega,by show ks.length=_;rw[c7];exact hk,rfl,rfl,rfl⟩
   ·have:=hs.ac6 k iK;omega
  ·exact hs.Gi i GK h2
def lj.Gi{m:ah}{P:List Nd}{Q:List Int->Prop}{lo hi:Nat}{ab ks:List Int}:lj m P Q lo hi ab ks->∀ i,lo<=i->i<hi->mg m (nd P i)=true/\∀ k∈(nd P i).kids,(i:Int)<k/\k<hi
 |.nil lo _,i,h1,h2=>GK
 |.cons lo mid hi _ ks h hs,i,h1,h2=>by
  have hle:=hs.le;by_cases e:i<mid
  ·obtain⟨a,b⟩:=h.Gi i h1 e;exact⟨a,λk hk=>by have:=b k hk;omega⟩
  ·exact hs.Gi i GK h2
def lj.ac6{m:ah}{P:List Nd}{Q:List Int->Prop}{lo hi:Nat}{ab ks:List Int}:lj m P Q lo hi ab ks->∀ k∈ks,(lo:Int)<=k/\k<hi
 |.nil lo _,k,hk=>by cases hk
 |.cons lo mid hi _ ks h hs,k,hk=>by
  have aX:=h.lt;have hle:=hs.le;rcases bw.1 hk with rfl|hk
  ·omega
  ·have:=hs.ac6 k hk;omega
end
mutual
def lh.flat{m:ah}{P:List Nd}{Q:List Int->Prop}{lo hi:Nat}{ab:List Int}:lh m P Q lo hi ab->∀ i,lo<=i->i<hi->(nd P i).c9.length<=2000/\(nd P i).a7=[]/\(nd P i).cells=[]
 |.leaf lo _ l h hl _ _ _,i,h1,h2=>by
  obtain rfl:i=lo:=GK;rw[h];exact⟨hl,rfl,rfl⟩
 |.node lo hi _ c ks h hc _ hk hs,i,h1,h2=>by
  by_cases e:i=lo
  ·subst e;rw[h];exact⟨aS _,rfl,rfl⟩
  ·exact hs.flat i GK h2
def lj.flat{m:ah}{P:List Nd}{Q:List Int->Prop}{lo hi:Nat}{ab ks:List Int}:lj m P Q lo hi ab ks->∀ i,lo<=i->i<hi->(nd P i).c9.length<=2000/\(nd P i).a7=[]/\(nd P i).cells=[]
 |.nil lo _,i,h1,h2=>GK
 |.cons lo mid hi _ ks h hs,i,h1,h2=>by
  have hle:=hs.le;by_cases e:i<mid
  ·exact h.flat i h1 e
  ·exact hs.flat i GK h2
end
def amH(P:List Nd):uT P 0 P.length=fi P:=by
 unfold uT fi;rw[Nat.sub_zero,<- List.range_eq_range'];have:∀ n,n<=P.length->(bu n).flatMap (λi=>(nd P i).kids)=(P.take n).flatMap (·.kids):=by
  intro n
  induction n with
  |zero=>intro _;rfl
  |succ n ih =>
   intro hn;rw[List.range_succ,sv,ih GK,eu GK,sv,List.flatMap_singleton,List.flatMap_singleton];rfl
 rw[this P.length (aY _),List.take_length]
def lh.shaped{m:ah}{P:List Nd}{Q:List Int->Prop}(h:lh m P Q 0 P.length [])(hn:P.length<=20000):jh m P=true:=by
 have aX:=h.lt;rw[Im ⟨aX,hn⟩ (λi hi=>by
  obtain⟨a,b⟩:=h.Gi i (aS _) hi;show kL m P.length i (nd P i)=true;unfold kL;rw[a,Bool.true_and,fW];intro k hk;have:=b k hk;unfold ln;rw[decide_eq_true_eq];exact this)]
 rw[Bool.not_eq_true',List.any_eq_false];intro x hx;unfold jR at hx;rw[<- List.map_drop]at hx;obtain⟨j,hj,rfl⟩:=List.mem_map.1 hx;have zu:1<=j/\j<P.length:=by
  obtain⟨i,hi,rfl⟩:=List.getElem_of_mem hj;rw[List.length_drop,List.length_range]at hi;rw[List.getElem_drop,List.getElem_range];omega
 have hc:=h.count j;rw[amH,if_pos GK]at hc;rw[hc];decide
def amI{m:ah}{left:List (List Bool)}{l:List Mv}(hl:l.length<=2000)(hv:∀ x∈l,iT m x=true):gH m left l=(l8 m left (iV m l (S0 m,T0 m)),0):=by
 unfold gH;rw[if_neg GK,if_neg (by rw[fW.2 hv];simp)]
mutual
def lh.Gj{m:ah}{P:List Nd}{Q:List Int->Prop}(hd:Down P){lo hi:Nat}{ab:List Int}:lh m P Q lo hi ab->hi<=P.length->∀ left,∀ t∈vs P (lo,left,ab),t.2.2.contains (nd P t.1).cls=false/\((nd P t.1).cls = -1->(nd P t.1).a7.length=0/\(gH m t.2.1 (nd P t.1).c9).2=0)
 |.leaf lo ab l h hl hv ha _,hh,left,t,ht=>by
  rw[Mj hd (by show lo<_;omega) (by show(nd P lo).kids=[];rw[h];rfl),cV]at ht;subst ht;dsimp only;rw[h];refine⟨?_,λ_=>⟨rfl,by show(gH m left l).2=0;rw[amI hl hv]⟩⟩;show ab.contains (-1)=false;rw[Cf];intro hc;exact ha (sq.1 hc)
 |.node lo hi ab c ks h hc ha hk hs,hh,left,t,ht=>by
  have hle:=hs.le;rw[EH hd (by show lo<_;omega),bw]at ht;rcases ht with rfl|ht
  ·dsimp only;rw[h];refine⟨?_,λh2=>absurd (show(c:Int) = -1 from h2) GK⟩;rw[Cf];intro hc;exact ha (sq.1 hc)
  ·obtain⟨u,hu,ht⟩:=Cd.1 ht;obtain⟨o,ho,rfl⟩:=wX (wE.1 hu);dsimp only at ho;have zD:ny P (lo,left,ab) o=((ks.getD o 0).toNat,gZ left c o,ab++[(c:Int)]):=by
    unfold ny;dsimp only;rw[h];rfl
   rw[zD]at ht;rw[h]at ho;exact hs.Gj hd hh o ho _ t ht
def lj.Gj{m:ah}{P:List Nd}{Q:List Int->Prop}(hd:Down P){lo hi:Nat}{ab ks:List Int}:lj m P Q lo hi ab ks->hi<=P.length->∀ o,o<ks.length->∀ left,∀ t∈vs P ((ks.getD o 0).toNat,left,ab),t.2.2.contains (nd P t.1).cls=false/\((nd P t.1).cls = -1->(nd P t.1).a7.length=0/\(gH m t.2.1 (nd P t.1).c9).2=0)
 |.nil _ _,_,o,ho,_,_,_=>by cases ho
 |.cons lo mid hi ab ks h hs,hh,o,ho,left,t,ht=>by
  have hle:=hs.le;cases o with
  |zero =>
   rw[ik,c7]at ht;exact h.Gj hd GK left t ht
  |succ o =>
   rw[e7]at ht;exact hs.Gj hd hh o (by simpa using ho) left t ht
end
mutual
def lh.leaves{m:ah}{P:List Nd}{Q:List Int->Prop}(hd:Down P){lo hi:Nat}{ab:List Int}:lh m P Q lo hi ab->hi<=P.length->∀ left,∀ t∈vs P (lo,left,ab),(nd P t.1).cls = -1->Q t.2.2
 |.leaf lo ab l h hl hv ha hq,hh,left,t,ht,_=>by
  rw[Mj hd (by show lo<_;omega) (by show(nd P lo).kids=[];rw[h];rfl),cV]at ht;subst ht;exact hq
 |.node lo hi ab c ks h hc ha hk hs,hh,left,t,ht,bK=>by
  have hle:=hs.le;rw[EH hd (by show lo<_;omega),bw]at ht;rcases ht with rfl|ht
  ·dsimp only at bK;rw[h]at bK;exact absurd (show(c:Int) = -1 from bK) GK
  ·obtain⟨u,hu,ht⟩:=Cd.1 ht;obtain⟨o,ho,rfl⟩:=wX (wE.1 hu);dsimp only at ho;have zD:ny P (lo,left,ab) o=((ks.getD o 0).toNat,gZ left c o,ab++[(c:Int)]):=by
    unfold ny;dsimp only;rw[h];rfl
   rw[zD]at ht;rw[h]at ho;exact hs.leaves hd hh o ho _ t ht bK
def lj.leaves{m:ah}{P:List Nd}{Q:List Int->Prop}(hd:Down P){lo hi:Nat}{ab ks:List Int}:lj m P Q lo hi ab ks->hi<=P.length->∀ o,o<ks.length->∀ left,∀ t∈vs P ((ks.getD o 0).toNat,left,ab),(nd P t.1).cls = -1->Q t.2.2
 |.nil _ _,_,o,ho,_,_,_,_=>by cases ho
 |.cons lo mid hi ab ks h hs,hh,o,ho,left,t,ht,bK=>by
  have hle:=hs.le;cases o with
  |zero =>
   rw[ik,c7]at ht;exact h.leaves hd GK left t ht bK
  |succ o =>
   rw[e7]at ht;exact hs.leaves hd hh o (by simpa using ho) left t ht bK
end
def lh.fh{m:ah}{P:List Nd}{Q:List Int->Prop}(hm:VM m)(h:lh m P Q 0 P.length [])(hn:P.length<=20000):∃n,nA m P=(n,true)/\∀ a,a<=1099511627776->(∀ s∈vs P (root m),(nd P s.1).cls = -1->a<=(gH m s.2.1 (nd P s.1).c9).1)->a<=n:=by
 have hs:=h.shaped hn;exact agZ hm hs λs kC=>h.Gj (wY hs) (aY _) (cI m) s kC
def O3(w:Nat):Nat->Nat
 |0=>1
 |s+1=>1+w*O3 w s
structure apF(m:ah)(L:List Int)(w:Nat)(s:Nat)(ab:List Int)(nodes:List Nd)(r:List Nd×Nat):Prop where
 k:r.2<=L.length
 lt:nodes.length<r.1.length
 le:r.1.length<=nodes.length+O3 w s
 pre:∀ i,i<nodes.length->nd r.1 i=nd nodes i
 EF:lh m r.1 (λ_=>True) nodes.length r.1.length ab
def agU{P:List Nd}{x:Nd}{i:Nat}(h:i<P.length):nd (P++[x]) i=nd P i:=by
 unfold nd;rw[az,List.getElem?_append_left h,az]
def agV{P:List Nd}{x:Nd}:nd (P++[x]) P.length=x:=by
 unfold nd;rw[az,List.getElem?_append_right (aY _)];simp
def upto(n:Nat):List Int:=(bu n).map λ(j:Nat)=>(j:Int)
structure apG(m:ah)(w d:Nat)(nodes r:List Nd):Prop where
 lt:nodes.length<r.length
 le:r.length<=nodes.length+O3 w d
 pre:∀ i,i<nodes.length->nd r i=nd nodes i
 EF:lh m r (λab=>ab=upto m.cls.length) nodes.length r.length (upto (m.cls.length-d))
def agS{w o:Nat}(h:o<w)(j:Nat):(wZ w o).getD j false=decide (j=o):=by
 unfold wZ;rw[az,List.getElem?_set,List.length_replicate];by_cases e:o=j
 ·subst e;rw[if_pos rfl,if_pos h,decide_eq_true rfl];rfl
 ·rw[if_neg e,List.getElem?_replicate,decide_eq_false (Ne.symm e)];split<;>rfl
end T

