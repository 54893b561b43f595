import Derived.Test.YtfoopmojjjpapaaGreatX29
import Derived.Test.YtfoopmojjjpapaaGreatX30
set_option linter.all false
set_option maxHeartbeats 0
set_option maxRecDepth 20000
open Nat renaming le_refl→aU,zero_le→aS
open List renaming flatMap_append→tN,count_append→O9,mem_cons→a8,range→aY,all_eq_true→e8,mem_singleton→dI,contains_iff_mem→uX,mem_flatMap→Jr,mem_reverse→AY,getD_cons_zero→gA,getD_cons_succ→eS,getD_eq_getElem?_getD→az
open Int renaming toNat_natCast→cF
open Bool renaming eq_false_iff→C2
open Go Go.Am
namespace T
mutual
inductive jN(m:aj)(P:List Nd)(Q:List Int->Prop):Nat->Nat->List Int->Prop
 |leaf (lo:Nat) (ab:List Int) (l:List Mv) (h:nd P lo=Iv l) (hl:l.length<=2000) (hv:∀ x∈l,gK m x=true) (ha:(-1:Int) ∉ ab) (hq:Q ab):jN m P Q lo (lo+1) ab
 |node (lo hi:Nat) (ab:List Int) (c:Nat) (ks:List Int) (h:nd P lo=⟨c,ks,[],[],[]⟩) (hc:c<m.cls.length) (ha:(c:Int) ∉ ab) (hk:ks.length=(m.cls.getD c default).length) (hs:kK m P Q (lo+1) hi (ab++[(c:Int)]) ks):jN m P Q lo hi ab
inductive kK(m:aj)(P:List Nd)(Q:List Int->Prop):Nat->Nat->List Int->List Int->Prop
 |nil (lo:Nat) (ab:List Int):kK m P Q lo lo ab []
 |cons (lo mid hi:Nat) (ab:List Int) (ks:List Int) (h:jN m P Q lo mid ab) (hs:kK m P Q mid hi ab ks):kK m P Q lo hi ab ((lo:Int)::ks)
end
def kK.snoc{m:aj}{P:List Nd}{Q:List Int->Prop}{mid hi:Nat}{ab:List Int}(h2:jN m P Q mid hi ab):∀ {ks:List Int} {lo:Nat},kK m P Q lo mid ab ks->kK m P Q lo hi ab (ks++[(mid:Int)])
 |[],lo,h=>by
  cases h;exact .cons _ _ _ _ _ h2 (.nil _ _)
 |k::ks,lo,h=>by
  cases h with
  |cons _ amk _ _ _ h1 hs=>exact .cons _ _ _ _ _ h1 (kK.snoc h2 hs)
mutual
def jN.lt{m:aj}{P:List Nd}{Q:List Int->Prop}{lo hi:Nat}{ab:List Int}:jN m P Q lo hi ab->lo<hi
 |.leaf _ _ _ _ _ _ _ _=>Nat.lt_succ_self _
 |.node _ _ _ _ _ _ _ _ _ hs=>by have:=hs.le;omega
def kK.le{m:aj}{P:List Nd}{Q:List Int->Prop}{lo hi:Nat}{ab ks:List Int}:kK m P Q lo hi ab ks->lo<=hi
 |.nil _ _=>aU _
 |.cons _ _ _ _ _ h hs=>by have:=h.lt;have:=hs.le;omega
end
def tz(P:List Nd)(lo hi:Nat):List Int:=(List.range' lo (hi-lo)).flatMap λi=>(nd P i).kids
def acM(P:List Nd){lo mid hi:Nat}(h1:lo<=mid)(h2:mid<=hi):tz P lo hi=tz P lo mid++tz P mid hi:=by
 unfold tz;rw[<- tN];congr 1;have:=List.range'_append (s:=lo) (m:=mid-lo) (n:=hi-mid) (step:=1);simp only[Nat.one_mul]at this;rw[show lo+(mid-lo)=mid by omega,show mid-lo+(hi-mid)=hi-lo by omega]at this;exact this.symm
def acN(P:List Nd)(lo:Nat):tz P lo (lo+1)=(nd P lo).kids:=by
 unfold tz;rw[show lo+1-lo=1 by omega];simp
def aml(P:List Nd)(lo:Nat):tz P lo lo=[]:=by unfold tz;rw[Nat.sub_self];rfl
mutual
def jN.count{m:aj}{P:List Nd}{Q:List Int->Prop}{lo hi:Nat}{ab:List Int}:jN m P Q lo hi ab->∀ j:Nat,(tz P lo hi).count (j:Int)=if lo<j/\j<hi then 1 else 0
 |.leaf lo _ l h _ _ _ _,j=>by
  rw[acN,h,if_neg CZ];rfl
 |.node lo hi _ c ks h _ _ _ hs,j=>by
  have hle:=hs.le;rw[acM P (Nat.le_succ lo) hle,acN,h,O9];have:=hs.count j;dsimp only;rw[this];by_cases h1:lo<j/\j<hi
  ·rw[if_pos CZ,if_pos h1]
  ·rw[if_neg CZ,if_neg h1]
def kK.count{m:aj}{P:List Nd}{Q:List Int->Prop}{lo hi:Nat}{ab ks:List Int}:kK m P Q lo hi ab ks->∀ j:Nat,ks.count (j:Int)+(tz P lo hi).count (j:Int)=if lo<=j/\j<hi then 1 else 0
 |.nil lo _,j=>by rw[aml,if_neg CZ];rfl
 |.cons lo mid hi _ ks h hs,j=>by
  have ba:=h.lt;have hle:=hs.le;rw[acM P (Nat.le_of_lt ba) hle,O9,List.count_cons];have h1:=h.count j;have h2:=hs.count j;have hb:((lo:Int)==(j:Int))=decide (lo=j):=by rw[Bool.eq_iff_iff,beq_iff_eq,decide_eq_true_eq];omega
  rw[h1,hb];by_cases e:lo=j
  ·subst e;rw[if_neg CZ]at h2;simp only[decide_true,if_true];rw[if_neg CZ,if_pos CZ];omega
  ·simp only[decide_eq_false e,Bool.false_eq_true,if_false];by_cases h3:lo<j/\j<mid
   ·rw[if_pos h3,if_pos CZ];rw[if_neg CZ]at h2;omega
   ·rw[if_neg h3];by_cases h4:mid<=j/\j<hi
    ·rw[if_pos h4]at h2;rw[if_pos CZ];omega
    ·rw[if_neg h4]at h2;rw[if_neg CZ];omega
end
mutual
def jN.CD{m:aj}{P:List Nd}{Q:List Int->Prop}{lo hi:Nat}{ab:List Int}:jN m P Q lo hi ab->∀ i,lo<=i->i<hi->oN m (nd P i)=true/\∀ k∈(nd P i).kids,(i:Int)<k/\k<hi
 |.leaf lo _ l h _ _ _ _,i,h1,h2=>by
  obtain rfl:i=lo:=CZ;rw[h];exact⟨rfl,λk hk=>by cases hk⟩
 |.node lo hi _ c ks h hc _ hk hs,i,h1,h2=>by
  by_cases e:i=lo
  ·subst e;rw[h];refine⟨?_,λk iN=>?_⟩
   ·unfold oN;rw[if_neg (by show ¬((c:Int) = -1);omega),decide_eq_true_eq];exact⟨by show(0:Int)<=c;omega,by show(c:Int)<_;omega,by show ks.length=_;rw[cF];exact hk,rfl,rfl,rfl⟩
   ·have:=hs.acO k iN;omega
  ·exact hs.CD i CZ h2
def kK.CD{m:aj}{P:List Nd}{Q:List Int->Prop}{lo hi:Nat}{ab ks:List Int}:kK m P Q lo hi ab ks->∀ i,lo<=i->i<hi->oN m (nd P i)=true/\∀ k∈(nd P i).kids,(i:Int)<k/\k<hi
 |.nil lo _,i,h1,h2=>CZ
 |.cons lo mid hi _ ks h hs,i,h1,h2=>by
  have hle:=hs.le;by_cases e:i<mid
  ·obtain⟨a,b⟩:=h.CD i h1 e;exact⟨a,λk hk=>by have:=b k hk;omega⟩
  ·exact hs.CD i CZ h2
def kK.acO{m:aj}{P:List Nd}{Q:List Int->Prop}{lo hi:Nat}{ab ks:List Int}:kK m P Q lo hi ab ks->∀ k∈ks,(lo:Int)<=k/\k<hi
 |.nil lo _,k,hk=>by cases hk
 |.cons lo mid hi _ ks h hs,k,hk=>by
  have ba:=h.lt;have hle:=hs.le;rcases a8.1 hk with rfl|hk
  ·omega
  ·have:=hs.acO k hk;omega
end
mutual
def jN.flat{m:aj}{P:List Nd}{Q:List Int->Prop}{lo hi:Nat}{ab:List Int}:jN m P Q lo hi ab->∀ i,lo<=i->i<hi->(nd P i).dW.length<=2000/\(nd P i).bj=[]/\(nd P i).cells=[]
 |.leaf lo _ l h hl _ _ _,i,h1,h2=>by
  obtain rfl:i=lo:=CZ;rw[h];exact⟨hl,rfl,rfl⟩
 |.node lo hi _ c ks h hc _ hk hs,i,h1,h2=>by
  by_cases e:i=lo
  ·subst e;rw[h];exact⟨aS _,rfl,rfl⟩
  ·exact hs.flat i CZ h2
def kK.flat{m:aj}{P:List Nd}{Q:List Int->Prop}{lo hi:Nat}{ab ks:List Int}:kK m P Q lo hi ab ks->∀ i,lo<=i->i<hi->(nd P i).dW.length<=2000/\(nd P i).bj=[]/\(nd P i).cells=[]
 |.nil lo _,i,h1,h2=>CZ
 |.cons lo mid hi _ ks h hs,i,h1,h2=>by
  have hle:=hs.le;by_cases e:i<mid
  ·exact h.flat i h1 e
  ·exact hs.flat i CZ h2
end
def amm(P:List Nd):tz P 0 P.length=iZ P:=by
 unfold tz iZ;rw[Nat.sub_zero,<- List.range_eq_range'];have:∀ n,n<=P.length->(aY n).flatMap (λi=>(nd P i).kids)=(P.take n).flatMap (·.kids):=by
  intro n
  induction n with
  |zero=>intro _;rfl
  |succ n ih =>
   intro hn;rw[List.range_succ,tN,ih CZ,eQ CZ,tN,List.flatMap_singleton,List.flatMap_singleton];rfl
 rw[this P.length (aU _),List.take_length]
def jN.shaped{m:aj}{P:List Nd}{Q:List Int->Prop}(h:jN m P Q 0 P.length [])(hn:P.length<=20000):l9 m P=true:=by
 have ba:=h.lt;rw[abl ⟨ba,hn⟩ (λi hi=>by
  obtain⟨a,b⟩:=h.CD i (aS _) hi;show mC m P.length i (nd P i)=true;unfold mC;rw[a,Bool.true_and,e8];intro k hk;have:=b k hk;unfold pL;rw[decide_eq_true_eq];exact this)]
 rw[Bool.not_eq_true',List.any_eq_false];intro x hx;unfold j7 at hx;rw[<- List.map_drop]at hx;obtain⟨j,hj,rfl⟩:=List.mem_map.1 hx;have zB:1<=j/\j<P.length:=by
  obtain⟨i,hi,rfl⟩:=List.getElem_of_mem hj;rw[List.length_drop,List.length_range]at hi;rw[List.getElem_drop,List.getElem_range];omega
 have hc:=h.count j;rw[amm,if_pos CZ]at hc;rw[hc];decide
def amn{m:aj}{left:List (List Bool)}{l:List Mv}(hl:l.length<=2000)(hv:∀ x∈l,gK m x=true):gH m left l=(kU m left (fq m l (S0 m,T0 m)),0):=by
 unfold gH;rw[if_neg CZ,if_neg (by rw[e8.2 hv];simp)]
mutual
def jN.E6{m:aj}{P:List Nd}{Q:List Int->Prop}(hd:Down P){lo hi:Nat}{ab:List Int}:jN m P Q lo hi ab->hi<=P.length->∀ left,∀ t∈vs P (lo,left,ab),t.2.2.contains (nd P t.1).cls=false/\((nd P t.1).cls = -1->(nd P t.1).bj.length=0/\(gH m t.2.1 (nd P t.1).dW).2=0)
 |.leaf lo ab l h hl hv ha _,hh,left,t,ht=>by
  rw[N2 hd (by show lo<_;omega) (by show(nd P lo).kids=[];rw[h];rfl),dI]at ht;subst ht;dsimp only;rw[h];refine⟨?_,λ_=>⟨rfl,by show(gH m left l).2=0;rw[amn hl hv]⟩⟩;show ab.contains (-1)=false;rw[C2];intro hc;exact ha (uX.1 hc)
 |.node lo hi ab c ks h hc ha hk hs,hh,left,t,ht=>by
  have hle:=hs.le;rw[EW hd (by show lo<_;omega),a8]at ht;rcases ht with rfl|ht
  ·dsimp only;rw[h];refine⟨?_,λh2=>absurd (show(c:Int) = -1 from h2) CZ⟩;rw[C2];intro hc;exact ha (uX.1 hc)
  ·obtain⟨u,hu,ht⟩:=Jr.1 ht;obtain⟨o,ho,rfl⟩:=AD (AY.1 hu);dsimp only at ho;have CE:oP P (lo,left,ab) o=((ks.getD o 0).toNat,mB left c o,ab++[(c:Int)]):=by
    unfold oP;dsimp only;rw[h];rfl
   rw[CE]at ht;rw[h]at ho;exact hs.E6 hd hh o ho _ t ht
def kK.E6{m:aj}{P:List Nd}{Q:List Int->Prop}(hd:Down P){lo hi:Nat}{ab ks:List Int}:kK m P Q lo hi ab ks->hi<=P.length->∀ o,o<ks.length->∀ left,∀ t∈vs P ((ks.getD o 0).toNat,left,ab),t.2.2.contains (nd P t.1).cls=false/\((nd P t.1).cls = -1->(nd P t.1).bj.length=0/\(gH m t.2.1 (nd P t.1).dW).2=0)
 |.nil _ _,_,o,ho,_,_,_=>by cases ho
 |.cons lo mid hi ab ks h hs,hh,o,ho,left,t,ht=>by
  have hle:=hs.le;cases o with
  |zero =>
   rw[gA,cF]at ht;exact h.E6 hd CZ left t ht
  |succ o =>
   rw[eS]at ht;exact hs.E6 hd hh o (by simpa using ho) left t ht
end
mutual
def jN.leaves{m:aj}{P:List Nd}{Q:List Int->Prop}(hd:Down P){lo hi:Nat}{ab:List Int}:jN m P Q lo hi ab->hi<=P.length->∀ left,∀ t∈vs P (lo,left,ab),(nd P t.1).cls = -1->Q t.2.2
 |.leaf lo ab l h hl hv ha hq,hh,left,t,ht,_=>by
  rw[N2 hd (by show lo<_;omega) (by show(nd P lo).kids=[];rw[h];rfl),dI]at ht;subst ht;exact hq
 |.node lo hi ab c ks h hc ha hk hs,hh,left,t,ht,bz=>by
  have hle:=hs.le;rw[EW hd (by show lo<_;omega),a8]at ht;rcases ht with rfl|ht
  ·dsimp only at bz;rw[h]at bz;exact absurd (show(c:Int) = -1 from bz) CZ
  ·obtain⟨u,hu,ht⟩:=Jr.1 ht;obtain⟨o,ho,rfl⟩:=AD (AY.1 hu);dsimp only at ho;have CE:oP P (lo,left,ab) o=((ks.getD o 0).toNat,mB left c o,ab++[(c:Int)]):=by
    unfold oP;dsimp only;rw[h];rfl
   rw[CE]at ht;rw[h]at ho;exact hs.leaves hd hh o ho _ t ht bz
def kK.leaves{m:aj}{P:List Nd}{Q:List Int->Prop}(hd:Down P){lo hi:Nat}{ab ks:List Int}:kK m P Q lo hi ab ks->hi<=P.length->∀ o,o<ks.length->∀ left,∀ t∈vs P ((ks.getD o 0).toNat,left,ab),(nd P t.1).cls = -1->Q t.2.2
 |.nil _ _,_,o,ho,_,_,_,_=>by cases ho
 |.cons lo mid hi ab ks h hs,hh,o,ho,left,t,ht,bz=>by
  have hle:=hs.le;cases o with
  |zero =>
   rw[gA,cF]at ht;exact h.leaves hd CZ left t ht bz
  |succ o =>
   rw[eS]at ht;exact hs.leaves hd hh o (by simpa using ho) left t ht bz
end
def jN.eO{m:aj}{P:List Nd}{Q:List Int->Prop}(hm:VM m)(h:jN m P Q 0 P.length [])(hn:P.length<=20000):∃n,tx m P=(n,true)/\∀ a,a<=1099511627776->(∀ s∈vs P (root m),(nd P s.1).cls = -1->a<=(gH m s.2.1 (nd P s.1).dW).1)->a<=n:=by
 have hs:=h.shaped hn;exact al5 hm hs λs mg=>h.E6 (NP hs) (aU _) (dR m) s mg
def Oi(w:Nat):Nat->Nat
 |0=>1
 |s+1=>1+w*Oi w s
structure aom(m:aj)(L:List Int)(w:Nat)(s:Nat)(ab:List Int)(nodes:List Nd)(r:List Nd×Nat):Prop where
 k:r.2<=L.length
 lt:nodes.length<r.1.length
 le:r.1.length<=nodes.length+Oi w s
 pre:∀ i,i<nodes.length->nd r.1 i=nd nodes i
 Cu:jN m r.1 (λ_=>True) nodes.length r.1.length ab
def amo{P:List Nd}{x:Nd}{i:Nat}(h:i<P.length):nd (P++[x]) i=nd P i:=by
 unfold nd;rw[az,List.getElem?_append_left h,az]
def amp{P:List Nd}{x:Nd}:nd (P++[x]) P.length=x:=by
 unfold nd;rw[az,List.getElem?_append_right (aU _)];simp
def upto(n:Nat):List Int:=(aY n).map λ(j:Nat)=>(j:Int)
structure aon(m:aj)(w d:Nat)(nodes r:List Nd):Prop where
 lt:nodes.length<r.length
 le:r.length<=nodes.length+Oi w d
 pre:∀ i,i<nodes.length->nd r i=nd nodes i
 Cu:jN m r (λab=>ab=upto m.cls.length) nodes.length r.length (upto (m.cls.length-d))
def amq{w o:Nat}(h:o<w)(j:Nat):(yP w o).getD j false=decide (j=o):=by
 unfold yP;rw[az,List.getElem?_set,List.length_replicate];by_cases e:o=j
 ·subst e;rw[if_pos rfl,if_pos h,decide_eq_true rfl];rfl
 ·rw[if_neg e,List.getElem?_replicate,decide_eq_false (Ne.symm e)];split<;>rfl
end T

