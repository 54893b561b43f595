import Derived.Test.YtfoopmojjjpapaaGreatX30
import Derived.Test.YtfoopmojjjpapaaGreatX32
set_option linter.all false
set_option maxHeartbeats 0
set_option maxRecDepth 20000
open Nat renaming le_refl→aZ,zero_le→aP
open List renaming flatMap_append→sX,count_append→ue,mem_cons→bu,range→bn,all_eq_true→gA,mem_singleton→cS,contains_iff_mem→ny,mem_flatMap→AX,mem_reverse→vH,getD_cons_zero→jc,getD_cons_succ→gB,getD_eq_getElem?_getD→ay,getElem?_set→bU
open Int renaming toNat_natCast→dg
open Bool renaming eq_false_iff→CO
open Go Go.Am
namespace T
mutual
inductive gz(m:ah)(P:List Nd)(Q:List Int->Prop):Nat->Nat->List Int->Prop
 |leaf (lo:Nat) (ab:List Int) (l:List Mv) (h:nd P lo=eP l) (hl:l.length<=2000) (hv:∀ x∈l,jx m x=true) (ha:(-1:Int) ∉ ab) (hq:Q ab):gz m P Q lo (lo+1) ab
 |node (lo hi:Nat) (ab:List Int) (c:Nat) (ks:List Int) (h:nd P lo=⟨c,ks,[],[],[]⟩) (hc:c<m.cls.length) (ha:(c:Int) ∉ ab) (hk:ks.length=(m.cls.getD c default).length) (hs:jI m P Q (lo+1) hi (ab++[(c:Int)]) ks):gz m P Q lo hi ab
inductive jI(m:ah)(P:List Nd)(Q:List Int->Prop):Nat->Nat->List Int->List Int->Prop
 |nil (lo:Nat) (ab:List Int):jI m P Q lo lo ab []
 |cons (lo mid hi:Nat) (ab:List Int) (ks:List Int) (h:gz m P Q lo mid ab) (hs:jI m P Q mid hi ab ks):jI m P Q lo hi ab ((lo:Int)::ks)
end
def jI.snoc{m:ah}{P:List Nd}{Q:List Int->Prop}{mid hi:Nat}{ab:List Int}(h2:gz m P Q mid hi ab):∀ {ks:List Int} {lo:Nat},jI m P Q lo mid ab ks->jI m P Q lo hi ab (ks++[(mid:Int)])
 |[],lo,h=>by
  cases h;exact .cons _ _ _ _ _ h2 (.nil _ _)
 |k::ks,lo,h=>by
  cases h with
  |cons _ alo _ _ _ h1 hs=>exact .cons _ _ _ _ _ h1 (jI.snoc h2 hs)
mutual
def gz.lt{m:ah}{P:List Nd}{Q:List Int->Prop}{lo hi:Nat}{ab:List Int}:gz m P Q lo hi ab->lo<hi
 |.leaf _ _ _ _ _ _ _ _=>Nat.lt_succ_self _
 |.node _ _ _ _ _ _ _ _ _ hs=>by have:=hs.le;omega
def jI.le{m:ah}{P:List Nd}{Q:List Int->Prop}{lo hi:Nat}{ab ks:List Int}:jI m P Q lo hi ab ks->lo<=hi
 |.nil _ _=>aZ _
 |.cons _ _ _ _ _ h hs=>by have:=h.lt;have:=hs.le;omega
end
mutual
def gz.frame{m:ah}{P P':List Nd}{Q:List Int->Prop}{lo hi:Nat}{ab:List Int}:gz m P Q lo hi ab->(∀ i,lo<=i->i<hi->nd P' i=nd P i)->gz m P' Q lo hi ab
 |.leaf _ _ l h hl hv ha hq,hf=>.leaf _ _ l ((hf _ (aZ _) (Nat.lt_succ_self _)).trans h) hl hv ha hq
 |.node _ _ _ c ks h hc ha hk hs,hf=>.node _ _ _ c ks ((hf _ (aZ _) (by have:=hs.le;omega)).trans h) hc ha hk (hs.frame λi h1 h2=>hf i Ey h2)
def jI.frame{m:ah}{P P':List Nd}{Q:List Int->Prop}{lo hi:Nat}{ab ks:List Int}:jI m P Q lo hi ab ks->(∀ i,lo<=i->i<hi->nd P' i=nd P i)->jI m P' Q lo hi ab ks
 |.nil _ _,_=>.nil _ _
 |.cons _ mid _ _ _ h hs,hf=>.cons _ _ _ _ _ (h.frame λi h1 h2=>hf i h1 (by have:=hs.le;omega)) (hs.frame λi h1 h2=>hf i (by have:=h.lt;omega) h2)
end
def vn(P:List Nd)(lo hi:Nat):List Int:=(List.range' lo (hi-lo)).flatMap λi=>(nd P i).kids
def acP(P:List Nd){lo mid hi:Nat}(h1:lo<=mid)(h2:mid<=hi):vn P lo hi=vn P lo mid++vn P mid hi:=by
 unfold vn;rw[<- sX];congr 1;have:=List.range'_append (s:=lo) (m:=mid-lo) (n:=hi-mid) (step:=1);simp only[Nat.one_mul]at this;rw[show lo+(mid-lo)=mid by omega,show mid-lo+(hi-mid)=hi-lo by omega]at this;exact this.symm
def acQ(P:List Nd)(lo:Nat):vn P lo (lo+1)=(nd P lo).kids:=by
 unfold vn;rw[show lo+1-lo=1 by omega];simp
def alJ(P:List Nd)(lo:Nat):vn P lo lo=[]:=by unfold vn;rw[Nat.sub_self];rfl
mutual
def gz.count{m:ah}{P:List Nd}{Q:List Int->Prop}{lo hi:Nat}{ab:List Int}:gz m P Q lo hi ab->∀ j:Nat,(vn P lo hi).count (j:Int)=if lo<j/\j<hi then 1 else 0
 |.leaf lo _ l h _ _ _ _,j=>by
  rw[acQ,h,if_neg Ey];rfl
 |.node lo hi _ c ks h _ _ _ hs,j=>by
  have hle:=hs.le;rw[acP P (Nat.le_succ lo) hle,acQ,h,ue];have:=hs.count j;dsimp only;rw[this];by_cases h1:lo<j/\j<hi
  ·rw[if_pos Ey,if_pos h1]
  ·rw[if_neg Ey,if_neg h1]
def jI.count{m:ah}{P:List Nd}{Q:List Int->Prop}{lo hi:Nat}{ab ks:List Int}:jI m P Q lo hi ab ks->∀ j:Nat,ks.count (j:Int)+(vn P lo hi).count (j:Int)=if lo<=j/\j<hi then 1 else 0
 |.nil lo _,j=>by rw[alJ,if_neg Ey];rfl
 |.cons lo mid hi _ ks h hs,j=>by
  have aX:=h.lt;have hle:=hs.le;rw[acP P (Nat.le_of_lt aX) hle,ue,List.count_cons];have h1:=h.count j;have h2:=hs.count j;have hb:((lo:Int)==(j:Int))=decide (lo=j):=by rw[Bool.eq_iff_iff,beq_iff_eq,decide_eq_true_eq];omega
  rw[h1,hb];by_cases e:lo=j
  ·subst e;rw[if_neg Ey]at h2;simp only[decide_true,if_true];rw[if_neg Ey,if_pos Ey];omega
  ·simp only[decide_eq_false e,Bool.false_eq_true,if_false];by_cases h3:lo<j/\j<mid
   ·rw[if_pos h3,if_pos Ey];rw[if_neg Ey]at h2;omega
   ·rw[if_neg h3];by_cases h4:mid<=j/\j<hi
    ·rw[if_pos h4]at h2;rw[if_pos Ey];omega
    ·rw[if_neg h4]at h2;rw[if_neg Ey];omega
end
mutual
def gz.D8{m:ah}{P:List Nd}{Q:List Int->Prop}{lo hi:Nat}{ab:List Int}:gz m P Q lo hi ab->∀ i,lo<=i->i<hi->mJ m (nd P i)=true/\∀ k∈(nd P i).kids,(i:Int)<k/\k<hi
 |.leaf lo _ l h _ _ _ _,i,h1,h2=>by
  obtain rfl:i=lo:=Ey;rw[h];exact⟨rfl,λk hk=>by cases hk⟩
 |.node lo hi _ c ks h hc _ hk hs,i,h1,h2=>by
  by_cases e:i=lo
  ·subst e;rw[h];refine⟨?_,λk iZ=>?_⟩
   ·unfold mJ;rw[if_neg (by show ¬((c:Int) = -1);omega),decide_eq_true_eq];exact⟨by show(0:Int)<=c;omega,by show(c:Int)<_;omega,by show ks.length=_;rw[dg];exact hk,rfl,rfl,rfl⟩
   ·have:=hs.acR k iZ;omega
  ·exact hs.D8 i Ey h2
def jI.D8{m:ah}{P:List Nd}{Q:List Int->Prop}{lo hi:Nat}{ab ks:List Int}:jI m P Q lo hi ab ks->∀ i,lo<=i->i<hi->mJ m (nd P i)=true/\∀ k∈(nd P i).kids,(i:Int)<k/\k<hi
 |.nil lo _,i,h1,h2=>Ey
 |.cons lo mid hi _ ks h hs,i,h1,h2=>by
  have hle:=hs.le;by_cases e:i<mid
  ·obtain⟨a,b⟩:=h.D8 i h1 e;exact⟨a,λk hk=>by have:=b k hk;omega⟩
  ·exact hs.D8 i Ey h2
def jI.acR{m:ah}{P:List Nd}{Q:List Int->Prop}{lo hi:Nat}{ab ks:List Int}:jI m P Q lo hi ab ks->∀ k∈ks,(lo:Int)<=k/\k<hi
 |.nil lo _,k,hk=>by cases hk
 |.cons lo mid hi _ ks h hs,k,hk=>by
  have aX:=h.lt;have hle:=hs.le;rcases bu.1 hk with rfl|hk
  ·omega
  ·have:=hs.acR k hk;omega
end
mutual
def gz.flat{m:ah}{P:List Nd}{Q:List Int->Prop}{lo hi:Nat}{ab:List Int}:gz m P Q lo hi ab->∀ i,lo<=i->i<hi->(nd P i).df.length<=2000/\(nd P i).a8=[]/\(nd P i).cells=[]
 |.leaf lo _ l h hl _ _ _,i,h1,h2=>by
  obtain rfl:i=lo:=Ey;rw[h];exact⟨hl,rfl,rfl⟩
 |.node lo hi _ c ks h hc _ hk hs,i,h1,h2=>by
  by_cases e:i=lo
  ·subst e;rw[h];exact⟨aP _,rfl,rfl⟩
  ·exact hs.flat i Ey h2
def jI.flat{m:ah}{P:List Nd}{Q:List Int->Prop}{lo hi:Nat}{ab ks:List Int}:jI m P Q lo hi ab ks->∀ i,lo<=i->i<hi->(nd P i).df.length<=2000/\(nd P i).a8=[]/\(nd P i).cells=[]
 |.nil lo _,i,h1,h2=>Ey
 |.cons lo mid hi _ ks h hs,i,h1,h2=>by
  have hle:=hs.le;by_cases e:i<mid
  ·exact h.flat i h1 e
  ·exact hs.flat i Ey h2
end
def alK(P:List Nd):vn P 0 P.length=fM P:=by
 unfold vn fM;rw[Nat.sub_zero,<- List.range_eq_range'];have:∀ n,n<=P.length->(bn n).flatMap (λi=>(nd P i).kids)=(P.take n).flatMap (·.kids):=by
  intro n
  induction n with
  |zero=>intro _;rfl
  |succ n ih =>
   intro hn;rw[List.range_succ,sX,ih Ey,ep Ey,sX,List.flatMap_singleton,List.flatMap_singleton];rfl
 rw[this P.length (aZ _),List.take_length]
def gz.shaped{m:ah}{P:List Nd}{Q:List Int->Prop}(h:gz m P Q 0 P.length [])(hn:P.length<=20000):jk m P=true:=by
 have aX:=h.lt;rw[Iy ⟨aX,hn⟩ (λi hi=>by
  obtain⟨a,b⟩:=h.D8 i (aP _) hi;show kY m P.length i (nd P i)=true;unfold kY;rw[a,Bool.true_and,gA];intro k hk;have:=b k hk;unfold lE;rw[decide_eq_true_eq];exact this)]
 rw[Bool.not_eq_true',List.any_eq_false];intro x hx;unfold jX at hx;rw[<- List.map_drop]at hx;obtain⟨j,hj,rfl⟩:=List.mem_map.1 hx;have zQ:1<=j/\j<P.length:=by
  obtain⟨i,hi,rfl⟩:=List.getElem_of_mem hj;rw[List.length_drop,List.length_range]at hi;rw[List.getElem_drop,List.getElem_range];omega
 have hc:=h.count j;rw[alK,if_pos Ey]at hc;rw[hc];decide
def alL{m:ah}{left:List (List Bool)}{l:List Mv}(hl:l.length<=2000)(hv:∀ x∈l,jx m x=true):gZ m left l=(mL m left (j1 m l (S0 m,T0 m)),0):=by
 unfold gZ;rw[if_neg Ey,if_neg (by rw[gA.2 hv];simp)]
mutual
def gz.Gw{m:ah}{P:List Nd}{Q:List Int->Prop}(hd:Down P){lo hi:Nat}{ab:List Int}:gz m P Q lo hi ab->hi<=P.length->∀ left,∀ t∈vs P (lo,left,ab),t.2.2.contains (nd P t.1).cls=false/\((nd P t.1).cls = -1->(nd P t.1).a8.length=0/\(gZ m t.2.1 (nd P t.1).df).2=0)
 |.leaf lo ab l h hl hv ha _,hh,left,t,ht=>by
  rw[OR hd (by show lo<_;omega) (by show(nd P lo).kids=[];rw[h];rfl),cS]at ht;subst ht;dsimp only;rw[h];refine⟨?_,λ_=>⟨rfl,by show(gZ m left l).2=0;rw[alL hl hv]⟩⟩;show ab.contains (-1)=false;rw[CO];intro hc;exact ha (ny.1 hc)
 |.node lo hi ab c ks h hc ha hk hs,hh,left,t,ht=>by
  have hle:=hs.le;rw[Cg hd (by show lo<_;omega),bu]at ht;rcases ht with rfl|ht
  ·dsimp only;rw[h];refine⟨?_,λh2=>absurd (show(c:Int) = -1 from h2) Ey⟩;rw[CO];intro hc;exact ha (ny.1 hc)
  ·obtain⟨u,hu,ht⟩:=AX.1 ht;obtain⟨o,ho,rfl⟩:=wL (vH.1 hu);dsimp only at ho;have xG:mP P (lo,left,ab) o=((ks.getD o 0).toNat,cM left c o,ab++[(c:Int)]):=by
    unfold mP;dsimp only;rw[h];rfl
   rw[xG]at ht;rw[h]at ho;exact hs.Gw hd hh o ho _ t ht
def jI.Gw{m:ah}{P:List Nd}{Q:List Int->Prop}(hd:Down P){lo hi:Nat}{ab ks:List Int}:jI m P Q lo hi ab ks->hi<=P.length->∀ o,o<ks.length->∀ left,∀ t∈vs P ((ks.getD o 0).toNat,left,ab),t.2.2.contains (nd P t.1).cls=false/\((nd P t.1).cls = -1->(nd P t.1).a8.length=0/\(gZ m t.2.1 (nd P t.1).df).2=0)
 |.nil _ _,_,o,ho,_,_,_=>by cases ho
 |.cons lo mid hi ab ks h hs,hh,o,ho,left,t,ht=>by
  have hle:=hs.le;cases o with
  |zero =>
   rw[jc,dg]at ht;exact h.Gw hd Ey left t ht
  |succ o =>
   rw[gB]at ht;exact hs.Gw hd hh o (by simpa using ho) left t ht
end
mutual
def gz.leaves{m:ah}{P:List Nd}{Q:List Int->Prop}(hd:Down P){lo hi:Nat}{ab:List Int}:gz m P Q lo hi ab->hi<=P.length->∀ left,∀ t∈vs P (lo,left,ab),(nd P t.1).cls = -1->Q t.2.2
 |.leaf lo ab l h hl hv ha hq,hh,left,t,ht,_=>by
  rw[OR hd (by show lo<_;omega) (by show(nd P lo).kids=[];rw[h];rfl),cS]at ht;subst ht;exact hq
 |.node lo hi ab c ks h hc ha hk hs,hh,left,t,ht,bI=>by
  have hle:=hs.le;rw[Cg hd (by show lo<_;omega),bu]at ht;rcases ht with rfl|ht
  ·dsimp only at bI;rw[h]at bI;exact absurd (show(c:Int) = -1 from bI) Ey
  ·obtain⟨u,hu,ht⟩:=AX.1 ht;obtain⟨o,ho,rfl⟩:=wL (vH.1 hu);dsimp only at ho;have xG:mP P (lo,left,ab) o=((ks.getD o 0).toNat,cM left c o,ab++[(c:Int)]):=by
    unfold mP;dsimp only;rw[h];rfl
   rw[xG]at ht;rw[h]at ho;exact hs.leaves hd hh o ho _ t ht bI
def jI.leaves{m:ah}{P:List Nd}{Q:List Int->Prop}(hd:Down P){lo hi:Nat}{ab ks:List Int}:jI m P Q lo hi ab ks->hi<=P.length->∀ o,o<ks.length->∀ left,∀ t∈vs P ((ks.getD o 0).toNat,left,ab),(nd P t.1).cls = -1->Q t.2.2
 |.nil _ _,_,o,ho,_,_,_,_=>by cases ho
 |.cons lo mid hi ab ks h hs,hh,o,ho,left,t,ht,bI=>by
  have hle:=hs.le;cases o with
  |zero =>
   rw[jc,dg]at ht;exact h.leaves hd Ey left t ht bI
  |succ o =>
   rw[gB]at ht;exact hs.leaves hd hh o (by simpa using ho) left t ht bI
end
def gz.fk{m:ah}{P:List Nd}{Q:List Int->Prop}(hm:VM m)(h:gz m P Q 0 P.length [])(hn:P.length<=20000):∃n,mh m P=(n,true)/\∀ a,a<=1099511627776->(∀ s∈vs P (root m),(nd P s.1).cls = -1->a<=(gZ m s.2.1 (nd P s.1).df).1)->a<=n:=by
 have hs:=h.shaped hn;exact alM hm hs λs j5=>h.Gw (vj hs) (aZ _) (b9 m) s j5
def O0(w:Nat):Nat->Nat
 |0=>1
 |s+1=>1+w*O0 w s
structure aqI(m:ah)(L:List Int)(w:Nat)(s:Nat)(ab:List Int)(nodes:List Nd)(r:List Nd×Nat):Prop where
 k:r.2<=L.length
 lt:nodes.length<r.1.length
 le:r.1.length<=nodes.length+O0 w s
 pre:∀ i,i<nodes.length->nd r.1 i=nd nodes i
 zg:gz m r.1 (λ_=>True) nodes.length r.1.length ab
def Gp{P:List Nd}{x:Nd}{i:Nat}(h:i<P.length):nd (P++[x]) i=nd P i:=by
 unfold nd;rw[ay,List.getElem?_append_left h,ay]
def JG{P:List Nd}{x:Nd}:nd (P++[x]) P.length=x:=by
 unfold nd;rw[ay,List.getElem?_append_right (aZ _)];simp
def acS{P:List Nd}{x:Nd}{i j:Nat}(h:j<P.length):nd (P.set j x) i=if i=j then x else nd P i:=by
 unfold nd;rw[ay,bU];by_cases e:j=i
 ·subst e;rw[if_pos rfl,if_pos h,if_pos rfl];rfl
 ·rw[if_neg e,if_neg (Ne.symm e),ay]
def upto(n:Nat):List Int:=(bn n).map λ(j:Nat)=>(j:Int)
structure aqJ(m:ah)(w d:Nat)(nodes r:List Nd):Prop where
 lt:nodes.length<r.length
 le:r.length<=nodes.length+O0 w d
 pre:∀ i,i<nodes.length->nd r i=nd nodes i
 zg:gz m r (λab=>ab=upto m.cls.length) nodes.length r.length (upto (m.cls.length-d))
def alq{w o:Nat}(h:o<w)(j:Nat):(re w o).getD j false=decide (j=o):=by
 unfold re;rw[ay,bU,List.length_replicate];by_cases e:o=j
 ·subst e;rw[if_pos rfl,if_pos h,decide_eq_true rfl];rfl
 ·rw[if_neg e,List.getElem?_replicate,decide_eq_false (Ne.symm e)];split<;>rfl
end T

