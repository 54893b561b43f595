import Derived.Test.YtdipcmigdbnheaaGreatX22
import Derived.Test.YtdipcmigdbnheaaGreatX21
set_option linter.all false
set_option maxHeartbeats 0
set_option maxRecDepth 20000
open Nat renaming lt_succ_self→ql,le_refl→aN,one_mul→tx,sub_self→hJ,zero_le→aI,sub_zero→vU,zero_add→gn,mul_le_mul→BD,le_trans→j7
open List renaming flatMap_append→rA,count_append→tC,mem_cons→cB,range→aW,all_eq_true→fT,any_eq_false→yL,mem_map→cz,mem_singleton→fE,contains_iff_mem→rq,mem_flatMap→z9,mem_reverse→uE,getD_cons_zero→iF,getD_cons_succ→fU,getD_eq_getElem?_getD→aA,getElem?_append_left→cT,getElem?_append_right→fV,getElem?_set→cA,getElem?_replicate→yG,length_append→bQ,append_assoc→cM,mem_range→mH,mem_append→cH,replicate_succ→GK,length_map→dX,getElem?_eq_getElem→bK,getElem?_map→cj,map_cons→dg,length_filter_le→BH,mem_filter→qh,length→oW
open Int renaming toNat_natCast→fq,le_refl→eC,le_trans→sE,lt_irrefl→Kh,natCast_add→yK,add_mul→Kf,mul_nonneg→sF,natCast_mul→GJ
open Bool renaming eq_false_iff→BJ,and_eq_true→bw
open Go Go.Am
namespace T
mutual
inductive kG(m:aj)(P:List Nd)(Q:List Int->Prop):Nat->Nat->List Int->Prop
 |leaf (lo:Nat) (ab:List Int) (l:List Mv) (h:nd P lo=nE l) (hl:l.length<=2000) (hv:∀ x∈l,jL m x=true) (ha:(-1:Int) ∉ ab) (hq:Q ab):kG m P Q lo (lo+1) ab
 |node (lo hi:Nat) (ab:List Int) (c:Nat) (ks:List Int) (h:nd P lo=⟨c,ks,[],[],[]⟩) (hc:c<m.cls.length) (ha:(c:Int) ∉ ab) (hk:ks.length=(m.cls.getD c default).length) (hs:kH m P Q (lo+1) hi (ab++[(c:Int)]) ks):kG m P Q lo hi ab
inductive kH(m:aj)(P:List Nd)(Q:List Int->Prop):Nat->Nat->List Int->List Int->Prop
 |nil (lo:Nat) (ab:List Int):kH m P Q lo lo ab []
 |cons (lo mid hi:Nat) (ab:List Int) (ks:List Int) (h:kG m P Q lo mid ab) (hs:kH m P Q mid hi ab ks):kH m P Q lo hi ab ((lo:Int)::ks)
end
def kH.snoc{m:aj}{P:List Nd}{Q:List Int->Prop}{mid hi:Nat}{ab:List Int}(h2:kG m P Q mid hi ab):∀ {ks:List Int} {lo:Nat},kH m P Q lo mid ab ks->kH m P Q lo hi ab (ks++[(mid:Int)])
 |[],lo,h=>by
  cases h;exact .cons _ _ _ _ _ h2 (.nil _ _)
 |k::ks,lo,h=>by
  cases h with
  |cons _ akw _ _ _ h1 hs=>exact .cons _ _ _ _ _ h1 (kH.snoc h2 hs)
mutual
def kG.lt{m:aj}{P:List Nd}{Q:List Int->Prop}{lo hi:Nat}{ab:List Int}:kG m P Q lo hi ab->lo<hi
 |.leaf _ _ _ _ _ _ _ _=>ql _
 |.node _ _ _ _ _ _ _ _ _ hs=>by have:=hs.le;omega
def kH.le{m:aj}{P:List Nd}{Q:List Int->Prop}{lo hi:Nat}{ab ks:List Int}:kH m P Q lo hi ab ks->lo<=hi
 |.nil _ _=>aN _
 |.cons _ _ _ _ _ h hs=>by have:=h.lt;have:=hs.le;omega
end
mutual
def kG.frame{m:aj}{P P':List Nd}{Q:List Int->Prop}{lo hi:Nat}{ab:List Int}:kG m P Q lo hi ab->(∀ i,lo<=i->i<hi->nd P' i=nd P i)->kG m P' Q lo hi ab
 |.leaf _ _ l h hl hv ha hq,hf=>.leaf _ _ l ((hf _ (aN _) (ql _)).trans h) hl hv ha hq
 |.node _ _ _ c ks h hc ha hk hs,hf=>.node _ _ _ c ks ((hf _ (aN _) (by have:=hs.le;omega)).trans h) hc ha hk (hs.frame λi h1 h2=>hf i GC h2)
def kH.frame{m:aj}{P P':List Nd}{Q:List Int->Prop}{lo hi:Nat}{ab ks:List Int}:kH m P Q lo hi ab ks->(∀ i,lo<=i->i<hi->nd P' i=nd P i)->kH m P' Q lo hi ab ks
 |.nil _ _,_=>.nil _ _
 |.cons _ mid _ _ _ h hs,hf=>.cons _ _ _ _ _ (h.frame λi h1 h2=>hf i h1 (by have:=hs.le;omega)) (hs.frame λi h1 h2=>hf i (by have:=h.lt;omega) h2)
end
def uq(P:List Nd)(lo hi:Nat):List Int:=(List.range' lo (hi-lo)).flatMap λi=>(nd P i).kids
def abb(P:List Nd){lo mid hi:Nat}(h1:lo<=mid)(h2:mid<=hi):uq P lo hi=uq P lo mid++uq P mid hi:=by
 unfold uq;rw[<- rA];congr 1;have:=List.range'_append (s:=lo) (m:=mid-lo) (n:=hi-mid) (step:=1);simp only[tx]at this;rw[show lo+(mid-lo)=mid by omega,show mid-lo+(hi-mid)=hi-lo by omega]at this;exact this.symm
def abc(P:List Nd)(lo:Nat):uq P lo (lo+1)=(nd P lo).kids:=by
 unfold uq;rw[show lo+1-lo=1 by omega];simp
def akx(P:List Nd)(lo:Nat):uq P lo lo=[]:=by unfold uq;rw[hJ];rfl
mutual
def kG.count{m:aj}{P:List Nd}{Q:List Int->Prop}{lo hi:Nat}{ab:List Int}:kG m P Q lo hi ab->∀ j:Nat,(uq P lo hi).count (j:Int)=if lo<j/\j<hi then 1 else 0
 |.leaf lo _ l h _ _ _ _,j=>by
  rw[abc,h,if_neg GC];rfl
 |.node lo hi _ c ks h _ _ _ hs,j=>by
  have hle:=hs.le;rw[abb P (Nat.le_succ lo) hle,abc,h,tC];have:=hs.count j;dsimp only;rw[this];by_cases h1:lo<j/\j<hi
  ·rw[if_pos GC,if_pos h1]
  ·rw[if_neg GC,if_neg h1]
def kH.count{m:aj}{P:List Nd}{Q:List Int->Prop}{lo hi:Nat}{ab ks:List Int}:kH m P Q lo hi ab ks->∀ j:Nat,ks.count (j:Int)+(uq P lo hi).count (j:Int)=if lo<=j/\j<hi then 1 else 0
 |.nil lo _,j=>by rw[akx,if_neg GC];rfl
 |.cons lo mid hi _ ks h hs,j=>by
  have br:=h.lt;have hle:=hs.le;rw[abb P (Nat.le_of_lt br) hle,tC,List.count_cons];have h1:=h.count j;have h2:=hs.count j;have hb:((lo:Int)==(j:Int))=decide (lo=j):=by rw[Bool.eq_iff_iff,beq_iff_eq,decide_eq_true_eq];omega
  rw[h1,hb];by_cases e:lo=j
  ·subst e;rw[if_neg GC]at h2;simp only[decide_true,if_true];rw[if_neg GC,if_pos GC];omega
  ·simp only[decide_eq_false e,Bool.false_eq_true,if_false];by_cases h3:lo<j/\j<mid
   ·rw[if_pos h3,if_pos GC];rw[if_neg GC]at h2;omega
   ·rw[if_neg h3];by_cases h4:mid<=j/\j<hi
    ·rw[if_pos h4]at h2;rw[if_pos GC];omega
    ·rw[if_neg h4]at h2;rw[if_neg GC];omega
end
mutual
def kG.C9{m:aj}{P:List Nd}{Q:List Int->Prop}{lo hi:Nat}{ab:List Int}:kG m P Q lo hi ab->∀ i,lo<=i->i<hi->m4 m (nd P i)=true/\∀ k∈(nd P i).kids,(i:Int)<k/\k<hi
 |.leaf lo _ l h _ _ _ _,i,h1,h2=>by
  obtain rfl:i=lo:=GC;rw[h];exact⟨rfl,λk hk=>by cases hk⟩
 |.node lo hi _ c ks h hc _ hk hs,i,h1,h2=>by
  by_cases e:i=lo
  ·subst e;rw[h];refine⟨?_,λk iO=>?_⟩
   ·unfold m4;rw[if_neg (by show ¬((c:Int) = -1);omega),decide_eq_true_eq];exact⟨by show(0:Int)<=c;omega,by show(c:Int)<_;omega,by show ks.length=_;rw[fq];exact hk,rfl,rfl,rfl⟩
   ·have:=hs.abd k iO;omega
  ·exact hs.C9 i GC h2
def kH.C9{m:aj}{P:List Nd}{Q:List Int->Prop}{lo hi:Nat}{ab ks:List Int}:kH m P Q lo hi ab ks->∀ i,lo<=i->i<hi->m4 m (nd P i)=true/\∀ k∈(nd P i).kids,(i:Int)<k/\k<hi
 |.nil lo _,i,h1,h2=>GC
 |.cons lo mid hi _ ks h hs,i,h1,h2=>by
  have hle:=hs.le;by_cases e:i<mid
  ·obtain⟨a,b⟩:=h.C9 i h1 e;exact⟨a,λk hk=>by have:=b k hk;omega⟩
  ·exact hs.C9 i GC h2
def kH.abd{m:aj}{P:List Nd}{Q:List Int->Prop}{lo hi:Nat}{ab ks:List Int}:kH m P Q lo hi ab ks->∀ k∈ks,(lo:Int)<=k/\k<hi
 |.nil lo _,k,hk=>by cases hk
 |.cons lo mid hi _ ks h hs,k,hk=>by
  have br:=h.lt;have hle:=hs.le;rcases cB.1 hk with rfl|hk
  ·omega
  ·have:=hs.abd k hk;omega
end
mutual
def kG.flat{m:aj}{P:List Nd}{Q:List Int->Prop}{lo hi:Nat}{ab:List Int}:kG m P Q lo hi ab->∀ i,lo<=i->i<hi->(nd P i).cV.length<=2000/\(nd P i).a9=[]/\(nd P i).cells=[]
 |.leaf lo _ l h hl _ _ _,i,h1,h2=>by
  obtain rfl:i=lo:=GC;rw[h];exact⟨hl,rfl,rfl⟩
 |.node lo hi _ c ks h hc _ hk hs,i,h1,h2=>by
  by_cases e:i=lo
  ·subst e;rw[h];exact⟨aI _,rfl,rfl⟩
  ·exact hs.flat i GC h2
def kH.flat{m:aj}{P:List Nd}{Q:List Int->Prop}{lo hi:Nat}{ab ks:List Int}:kH m P Q lo hi ab ks->∀ i,lo<=i->i<hi->(nd P i).cV.length<=2000/\(nd P i).a9=[]/\(nd P i).cells=[]
 |.nil lo _,i,h1,h2=>GC
 |.cons lo mid hi _ ks h hs,i,h1,h2=>by
  have hle:=hs.le;by_cases e:i<mid
  ·exact h.flat i h1 e
  ·exact hs.flat i GC h2
end
def aky(P:List Nd):uq P 0 P.length=gz P:=by
 unfold uq gz;rw[vU,<- List.range_eq_range'];have:∀ n,n<=P.length->(aW n).flatMap (λi=>(nd P i).kids)=(P.take n).flatMap (·.kids):=by
  intro n
  induction n with
  |zero=>intro _;rfl
  |succ n ih =>
   intro hn;rw[List.range_succ,rA,ih GC,eG GC,rA,List.flatMap_singleton,List.flatMap_singleton];rfl
 rw[this P.length (aN _),List.take_length]
def kG.shaped{m:aj}{P:List Nd}{Q:List Int->Prop}(h:kG m P Q 0 P.length [])(hn:P.length<=20000):j5 m P=true:=by
 have br:=h.lt;rw[IX ⟨br,hn⟩ (λi hi=>by
  obtain⟨a,b⟩:=h.C9 i (aI _) hi;show lC m P.length i (nd P i)=true;unfold lC;rw[a,Bool.true_and,fT];intro k hk;have:=b k hk;unfold mB;rw[decide_eq_true_eq];exact this)]
 rw[Bool.not_eq_true',yL];intro x hx;unfold kD at hx;rw[<- List.map_drop]at hx;obtain⟨j,hj,rfl⟩:=cz.1 hx;have El:1<=j/\j<P.length:=by
  obtain⟨i,hi,rfl⟩:=List.getElem_of_mem hj;rw[List.length_drop,List.length_range]at hi;rw[List.getElem_drop,List.getElem_range];omega
 have hc:=h.count j;rw[aky,if_pos GC]at hc;rw[hc];decide
def akz{m:aj}{left:List (List Bool)}{l:List Mv}(hl:l.length<=2000)(hv:∀ x∈l,jL m x=true):iC m left l=(oR m left (jd m l (S0 m,T0 m)),0):=by
 unfold iC;rw[if_neg GC,if_neg (by rw[fT.2 hv];simp)]
mutual
def kG.FZ{m:aj}{P:List Nd}{Q:List Int->Prop}(hd:Down P){lo hi:Nat}{ab:List Int}:kG m P Q lo hi ab->hi<=P.length->∀ left,∀ t∈vs P (lo,left,ab),t.2.2.contains (nd P t.1).cls=false/\((nd P t.1).cls = -1->(nd P t.1).a9.length=0/\(iC m t.2.1 (nd P t.1).cV).2=0)
 |.leaf lo ab l h hl hv ha _,hh,left,t,ht=>by
  rw[Oe hd (by show lo<_;omega) (by show(nd P lo).kids=[];rw[h];rfl),fE]at ht;subst ht;dsimp only;rw[h];refine⟨?_,λ_=>⟨rfl,by show(iC m left l).2=0;rw[akz hl hv]⟩⟩;show ab.contains (-1)=false;rw[BJ];intro hc;exact ha (rq.1 hc)
 |.node lo hi ab c ks h hc ha hk hs,hh,left,t,ht=>by
  have hle:=hs.le;rw[C4 hd (by show lo<_;omega),cB]at ht;rcases ht with rfl|ht
  ·dsimp only;rw[h];refine⟨?_,λh2=>absurd (show(c:Int) = -1 from h2) GC⟩;rw[BJ];intro hc;exact ha (rq.1 hc)
  ·obtain⟨u,hu,ht⟩:=z9.1 ht;obtain⟨o,ho,rfl⟩:=wX (uE.1 hu);dsimp only at ho;have tq:nD P (lo,left,ab) o=((ks.getD o 0).toNat,bV left c o,ab++[(c:Int)]):=by
    unfold nD;dsimp only;rw[h];rfl
   rw[tq]at ht;rw[h]at ho;exact hs.FZ hd hh o ho _ t ht
def kH.FZ{m:aj}{P:List Nd}{Q:List Int->Prop}(hd:Down P){lo hi:Nat}{ab ks:List Int}:kH m P Q lo hi ab ks->hi<=P.length->∀ o,o<ks.length->∀ left,∀ t∈vs P ((ks.getD o 0).toNat,left,ab),t.2.2.contains (nd P t.1).cls=false/\((nd P t.1).cls = -1->(nd P t.1).a9.length=0/\(iC m t.2.1 (nd P t.1).cV).2=0)
 |.nil _ _,_,o,ho,_,_,_=>by cases ho
 |.cons lo mid hi ab ks h hs,hh,o,ho,left,t,ht=>by
  have hle:=hs.le;cases o with
  |zero =>
   rw[iF,fq]at ht;exact h.FZ hd GC left t ht
  |succ o =>
   rw[fU]at ht;exact hs.FZ hd hh o (by simpa using ho) left t ht
end
mutual
def kG.leaves{m:aj}{P:List Nd}{Q:List Int->Prop}(hd:Down P){lo hi:Nat}{ab:List Int}:kG m P Q lo hi ab->hi<=P.length->∀ left,∀ t∈vs P (lo,left,ab),(nd P t.1).cls = -1->Q t.2.2
 |.leaf lo ab l h hl hv ha hq,hh,left,t,ht,_=>by
  rw[Oe hd (by show lo<_;omega) (by show(nd P lo).kids=[];rw[h];rfl),fE]at ht;subst ht;exact hq
 |.node lo hi ab c ks h hc ha hk hs,hh,left,t,ht,cm=>by
  have hle:=hs.le;rw[C4 hd (by show lo<_;omega),cB]at ht;rcases ht with rfl|ht
  ·dsimp only at cm;rw[h]at cm;exact absurd (show(c:Int) = -1 from cm) GC
  ·obtain⟨u,hu,ht⟩:=z9.1 ht;obtain⟨o,ho,rfl⟩:=wX (uE.1 hu);dsimp only at ho;have tq:nD P (lo,left,ab) o=((ks.getD o 0).toNat,bV left c o,ab++[(c:Int)]):=by
    unfold nD;dsimp only;rw[h];rfl
   rw[tq]at ht;rw[h]at ho;exact hs.leaves hd hh o ho _ t ht cm
def kH.leaves{m:aj}{P:List Nd}{Q:List Int->Prop}(hd:Down P){lo hi:Nat}{ab ks:List Int}:kH m P Q lo hi ab ks->hi<=P.length->∀ o,o<ks.length->∀ left,∀ t∈vs P ((ks.getD o 0).toNat,left,ab),(nd P t.1).cls = -1->Q t.2.2
 |.nil _ _,_,o,ho,_,_,_,_=>by cases ho
 |.cons lo mid hi ab ks h hs,hh,o,ho,left,t,ht,cm=>by
  have hle:=hs.le;cases o with
  |zero =>
   rw[iF,fq]at ht;exact h.leaves hd GC left t ht cm
  |succ o =>
   rw[fU]at ht;exact hs.leaves hd hh o (by simpa using ho) left t ht cm
end
def kG.fG{m:aj}{P:List Nd}{Q:List Int->Prop}(hm:VM m)(h:kG m P Q 0 P.length [])(hn:P.length<=20000):∃n,jx m P=(n,true)/\∀ a,a<=1099511627776->(∀ s∈vs P (root m),(nd P s.1).cls = -1->a<=(iC m s.2.1 (nd P s.1).cV).1)->a<=n:=by
 have hs:=h.shaped hn;exact akA hm hs λs jC=>h.FZ (vD hs) (aN _) (dH m) s jC
def Of(w:Nat):Nat->Nat
 |0=>1
 |s+1=>1+w*Of w s
structure an9(m:aj)(L:List Int)(w:Nat)(s:Nat)(ab:List Int)(nodes:List Nd)(r:List Nd×Nat):Prop where
 k:r.2<=L.length
 lt:nodes.length<r.1.length
 le:r.1.length<=nodes.length+Of w s
 pre:∀ i,i<nodes.length->nd r.1 i=nd nodes i
 zQ:kG m r.1 (λ_=>True) nodes.length r.1.length ab
def abe{P:List Nd}{x:Nd}{i:Nat}(h:i<P.length):nd (P++[x]) i=nd P i:=by
 unfold nd;rw[aA,cT h,aA]
def akB{P:List Nd}{x:Nd}:nd (P++[x]) P.length=x:=by
 unfold nd;rw[aA,fV (aN _)];simp
def abf{P:List Nd}{x:Nd}{i j:Nat}(h:j<P.length):nd (P.set j x) i=if i=j then x else nd P i:=by
 unfold nd;rw[aA,cA];by_cases e:j=i
 ·subst e;rw[if_pos rfl,if_pos h,if_pos rfl];rfl
 ·rw[if_neg e,if_neg (Ne.symm e),aA]
def upto(n:Nat):List Int:=(aW n).map λ(j:Nat)=>(j:Int)
structure an'(m:aj)(w d:Nat)(nodes r:List Nd):Prop where
 lt:nodes.length<r.length
 le:r.length<=nodes.length+Of w d
 pre:∀ i,i<nodes.length->nd r i=nd nodes i
 zQ:kG m r (λab=>ab=upto m.cls.length) nodes.length r.length (upto (m.cls.length-d))
def abg{w o:Nat}(h:o<w)(j:Nat):(mV w o).getD j false=decide (j=o):=by
 unfold mV;rw[aA,cA,List.length_replicate];by_cases e:o=j
 ·subst e;rw[if_pos rfl,if_pos h,decide_eq_true rfl];rfl
 ·rw[if_neg e,yG,decide_eq_false (Ne.symm e)];split<;>rfl
def Jq(left:List (List Bool)):Nat->Nat->Nat
 |0,c=>c
 |f+1,c=>if c<left.length/\(left.getD c default).length=1 then Jq left f (c+1) else c
def dr(left:List (List Bool))(c:Nat):Nat:=Jq left (left.length-c) c
def Og{left:List (List Bool)}{c:Nat}(h:c<left.length/\(left.getD c default).length=1):dr left c=dr left (c+1):=by
 unfold dr;rw[show left.length-c=(left.length-(c+1))+1 by omega,Jq,if_pos h]
def Jr{left:List (List Bool)}{c:Nat}(h:¬(c<left.length/\(left.getD c default).length=1)):dr left c=c:=by
 unfold dr;cases left.length-c with
 |zero=>rfl
 |succ f=>rw[Jq,if_neg h]
def Br{left:List (List Bool)}:∀ (k c:Nat),left.length-c=k->c<=dr left c/\(c<=left.length->dr left c<=left.length)/\(∀ j,c<=j->j<dr left c->j<left.length/\(left.getD j default).length=1)/\(dr left c<left.length->(left.getD (dr left c) default).length≠1)
 |k,c,hk=>by
  by_cases h:c<left.length/\(left.getD c default).length=1
  ·rw[Og h];obtain⟨a,b,d,e⟩:=Br (left:=left) (k-1) (c+1) GC;refine⟨GC,λ_=>b GC,λj h1 h2=>?_,e⟩;by_cases e2:j=c
   ·subst e2;exact h
   ·exact d j GC h2
  ·rw[Jr h];exact⟨aN _,λh=>h,λj h1 h2=>GC,λh1 h2=>h ⟨h1,h2⟩⟩
termination_by k c _=>left.length-c
def tX:List Bool->Int->Int
 |[],_=>-1
 |b::r,i=>if b=true then i else tX r (i+1)
def kd(left:List (List Bool)):List Int:=left.map λl=>tX l 0
structure DS where
 nodes:List Nd
 room:Int
 spl:Int
 whole:Bool
 plan:List Int
 bA:Int
 cK:Int
def g7(f:List (List Bool)->DS->DS)(left:List (List Bool))(c:Nat):Nat->Nat->DS->List Int->DS×List Int
 |0,_,s,ks=>(s,ks)
 |w+1,o,s,ks=>g7 f left c w (o+1) (f (bV left c o) s) (ks++[(s.nodes.length:Int)])
def lY(left:List (List Bool))(c:Nat)(v:Int)(s:DS):DS:=⟨s.nodes++[nE []],s.room-(left.getD c default).length,s.spl-1,s.whole,s.plan,s.bA,s.cK⟩
def w5(c j:Nat)(r:DS×List Int):DS:={ r.1 with nodes:=r.1.nodes.set j ⟨(c:Int),r.2,[],[],[]⟩ }
def lZ(m:aj):Nat->Nat->List (List Bool)->DS->DS
 |0,_,_,s=>s
 |f+1,c,left,s =>
  if s.bA<=fc m left then { s with nodes:=s.nodes++[nE []],cK:=min s.cK (fc m left) }
  else if dr left c=left.length then { s with nodes:=s.nodes++[nE []],plan:=kd left,bA:=fc m left,cK:=min s.cK (fc m left) }
  else if s.spl=0\/s.room<(left.getD (dr left c) default).length then { s with nodes:=s.nodes++[nE []],whole:=false,cK:=min s.cK (fc m left) }
  else w5 (dr left c) s.nodes.length (g7 (lZ m f (dr left c+1)) left (dr left c) (left.getD (dr left c) default).length 0 (lY left (dr left c) (fc m left) s) [])
def iz(m:aj)(p:List Int):Int:=jX (jr m p) 0
def qK(f:List Int->List Int×Int)(p:List Int):Nat->Nat->List Int×Int->List Int×Int
 |0,_,a=>a
 |w+1,k,a=>qK f p w (k+1) (if(f (p++[(k:Int)])).2<a.2 then f (p++[(k:Int)]) else a)
def fO(m:aj):Nat->List Int->List Int×Int
 |0,p=>if 1099511627776<=iz m p then([],1099511627776) else(p,iz m p)
 |d+1,p=>qK (fO m d) p (m.cls.getD p.length default).length 0 ([],1099511627776)
def sw(f:List Int->List Int×Int->List Int×Int)(p:List Int):Nat->Nat->List Int×Int->List Int×Int
 |0,_,a=>a
 |w+1,k,a=>sw f p w (k+1) (f (p++[(k:Int)]) a)
def k9(m:aj):Nat->List Int->List Int×Int->List Int×Int
 |0,p,a=>if iz m p<a.2 then(p,iz m p) else a
 |d+1,p,a=>sw (k9 m d) p (m.cls.getD p.length default).length 0 a
def abh{f:List Int->List Int×Int}{g:List Int->List Int×Int->List Int×Int}(p:List Int)(hg:∀ q a,a.2<=1099511627776->g q a=if(f q).2<a.2 then f q else a):∀ (w k:Nat) (a b:List Int×Int),b.2<=1099511627776 ->
  sw g p w k (if b.2<a.2 then b else a)=(if(qK f p w k b).2<a.2 then qK f p w k b else a)\/1099511627776<a.2
 |0,k,a,b,hb=>.inl rfl
 |w+1,k,a,b,hb=>by
  by_cases ha:1099511627776<a.2
  ·exact .inr ha
  rw[sw,qK,hg _ _ (by split<;>omega)];have h1:(if(f (p++[(k:Int)])).2<(if b.2<a.2 then b else a).2 then f (p++[(k:Int)]) else if b.2<a.2 then b else a)=(if(if(f (p++[(k:Int)])).2<b.2 then f (p++[(k:Int)]) else b).2<a.2 then(if(f (p++[(k:Int)])).2<b.2 then f (p++[(k:Int)]) else b) else a):=by
   generalize f (p++[(k:Int)])=x;by_cases c1:b.2<a.2
   ·rw[if_pos c1];by_cases c2:x.2<b.2
    ·rw[if_pos c2,if_pos GC]
    ·rw[if_neg c2,if_pos c1]
   ·rw[if_neg c1];by_cases c2:x.2<b.2
    ·rw[if_pos c2]
    ·rw[if_neg c2,if_neg c1,if_neg GC]
  rw[h1];exact abh p hg w (k+1) a _ (by split<;>omega)
def abi{f:List Int->List Int×Int}(p:List Int):∀ (w k:Nat) (a:List Int×Int),(qK f p w k a).2<=a.2
 |0,k,a=>eC _
 |w+1,k,a=>by
  rw[qK];refine sE (abi p w (k+1) _) ?_;split<;>omega
def abj(m:aj):∀ (d:Nat) (p:List Int),(fO m d p).2<=1099511627776
 |0,p=>by unfold fO;split<;>(dsimp only;omega)
 |d+1,p=>abi p _ _ _
def Oh(m:aj):∀ (d:Nat) (p:List Int) (a:List Int×Int),a.2<=1099511627776->k9 m d p a=if(fO m d p).2<a.2 then fO m d p else a
 |0,p,a,ha=>by
  unfold k9 fO;by_cases h:1099511627776<=iz m p
  ·rw[if_pos h,if_neg GC,if_neg PA]
  ·rw[if_neg h]
 |d+1,p,a,ha=>by
  unfold k9 fO;have h:=(abh p (λq b hb=>Oh m d q b hb) (m.cls.getD p.length default).length 0 a ([],1099511627776) (eC _)).resolve_right GC;rw[if_neg PA]at h;exact h
def Ext(m:aj)(p q:List Int):Prop:=FP m q/\∃ r,q=p++r
def abk{f:List Int->List Int×Int->List Int×Int}{p:List Int}{a:List Int×Int}:∀ (w k:Nat),(∀ j,k<=j->j<k+w->f (p++[(j:Int)]) a=a)->sw f p w k a=a
 |0,k,h=>rfl
 |w+1,k,h=>by rw[sw,h k (aN _) GC];exact abk w (k+1) λj h1 h2=>h j GC GC
structure BP(m:aj)(p:List Int):Prop where
 len:p.length<=m.cls.length
 get:∀ j,j<p.length->0<=p.getD j 0/\p.getD j 0<(m.cls.getD j default).length
def Js{p q:List Int}{j:Nat}(h:j<p.length):(p++q).getD j 0=p.getD j 0:=by
 rw[aA,cT h,<- aA]
def Oi{p:List Int}{x:Int}:(p++[x]).getD p.length 0=x:=by
 rw[aA,fV (aN _),hJ];rfl
def BP.snoc{m:aj}{p:List Int}(h:BP m p){k:Nat}(h1:p.length<m.cls.length)(hk:k<(m.cls.getD p.length default).length):BP m (p++[(k:Int)]):=⟨by rw[bQ];exact h1,λj hj=>by
 rw[bQ]at hj;by_cases e:j<p.length
 ·rw[Js e];exact h.get j e
 ·obtain rfl:j=p.length:=by simp at hj;omega
  rw[Oi];omega⟩
def BP.fp{m:aj}{p:List Int}(h:BP m p)(hl:p.length=m.cls.length):FP m p:=⟨hl,λj hj=>fD.2 (by
 have:=h.get j hj;rw[fq];omega)⟩
def abl{m:aj}:∀ (d:Nat) (p:List Int) (a:List Int×Int),BP m p->p.length+d=m.cls.length->(∀ q,Ext m p q->a.2<=iz m q)->k9 m d p a=a
 |0,p,a,hp,hd,h=>by
  have:=h p ⟨hp.fp GC,[],GF⟩;unfold k9;rw[if_neg GC]
 |d+1,p,a,hp,hd,h=>by
  unfold k9;refine abk _ _ λj _ hj=>?_;refine abl d _ a (hp.snoc GC GC) (by rw[bQ];simp;omega) λq hq=>h q ⟨hq.1,?_⟩;obtain⟨r,rfl⟩:=hq.2;exact⟨(j:Int)::r,GF⟩
def w6(m:aj)(left:List (List Bool)):Int:=oR m left (S0 m,T0 m)
mutual
inductive Tr(m:aj)(P:List Nd):Nat->Nat->List (List Bool)->List Int->List Int->Prop
 |leaf (lo:Nat) (left:List (List Bool)) (ab:List Int) (h:nd P lo=nE []) (ha:(-1:Int) ∉ ab):Tr m P lo (lo+1) left ab [w6 m left]
 |node (lo hi:Nat) (left:List (List Bool)) (ab:List Int) (c:Nat) (ks vs:List Int) (h:nd P lo=⟨c,ks,[],[],[]⟩) (hc:c<m.cls.length) (ha:(c:Int) ∉ ab) (hk:ks.length=(m.cls.getD c default).length) (hs:l4 m P (lo+1) hi left c (ab++[(c:Int)]) 0 ks vs):Tr m P lo hi left ab vs
inductive l4(m:aj)(P:List Nd):Nat->Nat->List (List Bool)->Nat->List Int->Nat->List Int->List Int->Prop
 |nil (lo:Nat) (left:List (List Bool)) (c:Nat) (ab:List Int) (o:Nat):l4 m P lo lo left c ab o [] []
 |cons (lo mid hi:Nat) (left:List (List Bool)) (c:Nat) (ab:List Int) (o:Nat) (ks v vs:List Int) (h:Tr m P lo mid (bV left c o) ab v) (hs:l4 m P mid hi left c ab (o+1) ks vs):l4 m P lo hi left c ab o ((lo:Int)::ks) (v++vs)
end
variable {m:aj} {P P':List Nd} {lo mid hi c o:Nat} {left:List (List Bool)} {ab ks v w:List Int}
def l4.snoc(h2:Tr m P mid hi (bV left c (o+ks.length)) ab w)(h:l4 m P lo mid left c ab o ks v):l4 m P lo hi left c ab o (ks++[(mid:Int)]) (v++w):=by
 induction ks generalizing lo o v with
 |nil =>
  cases h;have:=l4.cons _ _ _ left c ab o [] w [] h2 (.nil _ _ _ _ _);simpa using this
 |cons k ks ih =>
  cases h with
  |cons _ akw _ _ _ _ _ _ v1 vs h1 hs =>
   rw[cM];exact .cons _ _ _ _ _ _ _ _ _ _ h1 (ih (by rw[List.length_cons]at h2;rwa [show o+1+ks.length=o+(ks.length+1) by omega]) hs)
mutual
def Tr.zQ{lo hi:Nat}{left:List (List Bool)}{ab v:List Int}:Tr m P lo hi left ab v->kG m P (λ_=>True) lo hi ab
 |.leaf _ _ _ h ha=>.leaf _ _ [] h (aI _) (λ_ h=>by cases h) ha trivial
 |.node _ _ _ _ c ks _ h hc ha hk hs=>.node _ _ _ c ks h hc ha hk hs.Da
def l4.Da{lo hi c o:Nat}{left:List (List Bool)}{ab ks v:List Int}:l4 m P lo hi left c ab o ks v->kH m P (λ_=>True) lo hi ab ks
 |.nil _ _ _ _ _=>.nil _ _
 |.cons _ mid _ _ _ _ _ _ _ _ h hs=>.cons _ mid _ _ _ h.zQ hs.Da
end
mutual
def Tr.frame{lo hi:Nat}{left:List (List Bool)}{ab v:List Int}:Tr m P lo hi left ab v->(∀ i,lo<=i->i<hi->nd P' i=nd P i)->Tr m P' lo hi left ab v
 |.leaf _ _ _ h ha,hf=>.leaf _ _ _ ((hf _ (aN _) (ql _)).trans h) ha
 |.node _ _ _ _ c ks _ h hc ha hk hs,hf=>.node _ _ _ _ c ks _ ((hf _ (aN _) (by have:=hs.Da.le;omega)).trans h) hc ha hk (hs.frame λi h1 h2=>hf i GC h2)
def l4.frame{lo hi c o:Nat}{left:List (List Bool)}{ab ks v:List Int}:l4 m P lo hi left c ab o ks v->(∀ i,lo<=i->i<hi->nd P' i=nd P i)->l4 m P' lo hi left c ab o ks v
 |.nil _ _ _ _ _,_=>.nil _ _ _ _ _
 |.cons _ mid _ _ _ _ _ _ _ _ h hs,hf=>.cons _ mid _ _ _ _ _ _ _ _ (h.frame λi h1 h2=>hf i h1 (by have:=hs.Da.le;omega)) (hs.frame λi h1 h2=>hf i (by have:=h.zQ.lt;omega) h2)
end
def F0(m:aj)(P:List Nd)(t:dU)(x:Int):Prop:=(nd P t.1).cls = -1/\(nd P t.1).cV=[]/\(nd P t.1).a9=[]/\w6 m t.2.1=x
mutual
def Tr.leaves{lo hi:Nat}{left:List (List Bool)}{ab v:List Int}(hd:Down P):Tr m P lo hi left ab v->hi<=P.length->(∀ t∈vs P (lo,left,ab),(nd P t.1).cls = -1->∃ x∈v,F0 m P t x)/\∀ x∈v,∃ t∈vs P (lo,left,ab),F0 m P t x
 |.leaf lo left ab h ha,hh=>by
  rw[Oe hd (by show lo<_;omega) (by show(nd P lo).kids=[];rw[h];rfl)];have hl:F0 m P (lo,left,ab) (w6 m left):=⟨by show(nd P lo).cls = -1;rw[h];rfl,by show(nd P lo).cV=[];rw[h];rfl,by show(nd P lo).a9=[];rw[h];rfl,rfl⟩;constructor
  ·intro t ht _;rw[fE]at ht;subst ht;exact⟨_,GF,hl⟩
  ·intro x hx;rw[fE]at hx;subst hx;exact⟨_,GF,hl⟩
 |.node lo hi left ab c ks vl h hc ha hk hs,hh=>by
  have hle:=hs.Da.le;obtain⟨i1,i2⟩:=hs.leaves hd hh;have tq:∀ o,nD P (lo,left,ab) o=((ks.getD o 0).toNat,bV left c o,ab++[(c:Int)]):=λo=>by
   unfold nD;dsimp only;rw[h];rfl
  have cI:(nd P lo).kids=ks:=by rw[h]
  rw[C4 hd (by show lo<_;omega)];constructor
  ·intro t ht cm;rw[cB]at ht;rcases ht with rfl|ht
   ·dsimp only at cm;rw[h]at cm;exact absurd (show(c:Int) = -1 from cm) GC
   ·obtain⟨u,hu,ht⟩:=z9.1 ht;obtain⟨o,ho,rfl⟩:=wX (uE.1 hu);dsimp only at ho;rw[cI]at ho;rw[tq]at ht;rw[<- gn o]at ht;exact i1 o ho t (by simpa using ht) cm
  ·intro x hx;obtain⟨o,ho,t,ht,hl⟩:=i2 x hx;rw[gn]at ht;refine⟨t,List.mem_cons_of_mem _ (z9.2 ⟨nD P (lo,left,ab) o,uE.2 ?_,by rw[tq];exact ht⟩),hl⟩;unfold q7 jN;exact cz.2 ⟨o,mH.2 (by show o<(nd P lo).kids.length;rw[cI];exact ho),rfl⟩
def l4.leaves{lo hi c o:Nat}{left:List (List Bool)}{ab ks v:List Int}(hd:Down P):l4 m P lo hi left c ab o ks v->hi<=P.length->(∀ i,i<ks.length->∀ t∈vs P ((ks.getD i 0).toNat,bV left c (o+i),ab),(nd P t.1).cls = -1->∃ x∈v,F0 m P t x)/\∀ x∈v,∃ i,i<ks.length/\∃ t∈vs P ((ks.getD i 0).toNat,bV left c (o+i),ab),F0 m P t x
 |.nil _ _ _ _ _,_=>⟨λi hi=>(by cases hi),λx hx=>(by cases hx)⟩
 |.cons lo mid hi left c ab o ks v w h hs,hh=>by
  have hle:=hs.Da.le;obtain⟨a1,a2⟩:=h.leaves hd GC;obtain⟨b1,b2⟩:=hs.leaves hd hh;constructor
  ·intro i hi t ht cm;cases i with
   |zero =>
    rw[iF,fq]at ht;obtain⟨x,hx,hl⟩:=a1 t ht cm;exact⟨x,List.mem_append_left _ hx,hl⟩
   |succ i =>
    rw[fU,show o+(i+1)=o+1+i by omega]at ht;obtain⟨x,hx,hl⟩:=b1 i (by simpa using hi) t ht cm;exact⟨x,List.mem_append_right _ hx,hl⟩
  ·intro x hx;rcases cH.1 hx with hx|hx
   ·obtain⟨t,ht,hl⟩:=a2 x hx;exact⟨0,GF,t,by rw[iF,fq];exact ht,hl⟩
   ·obtain⟨i,hi,t,ht,hl⟩:=b2 x hx;exact⟨i+1,by simpa using hi,t,by rw[fU,show o+(i+1)=o+1+i by omega];exact ht,hl⟩
end
def nF(l:List Int)(b:Int):Int:=l.foldl min b
def Jt:∀ (l:List Int) (b:Int),nF l b<=b/\(∀ x∈l,nF l b<=x)/\(nF l b=b\/nF l b∈l)
 |[],b=>⟨eC _,λ_ h=>(by cases h),.inl rfl⟩
 |x::l,b=>by
  obtain⟨h1,h2,h3⟩:=Jt l (min b x);have e:nF (x::l) b=nF l (min b x):=rfl;rw[e];refine⟨GC,λy hy=>?_,?_⟩
  ·rcases cB.1 hy with rfl|hy
   ·omega
   ·exact h2 y hy
  ·rcases h3 with h3|h3
   ·rcases Int.le_total b x with hb|hb
    ·left;rw[h3];omega
    ·right;rw[h3,Int.min_eq_right hb];simp
   ·right;simp[h3]
def akC(l k:List Int)(b:Int):nF (l++k) b=nF k (nF l b):=List.foldl_append
def Tr.fG(hm:VM m){v:List Int}(h:Tr m P 0 P.length (dH m) [] v)(hn:P.length<=20000):jx m P=(nF v 1099511627776,true):=by
 have yu:=h.zQ.shaped hn;have hd:=vD yu;obtain⟨n,h1,h2⟩:=h.zQ.fG hm hn;obtain⟨l1,l2⟩:=h.leaves hd (aN _);obtain⟨_,_,hr⟩:=Oj h1;obtain⟨q1,q2⟩:=Ok hr;obtain⟨m1,m2,m3⟩:=Jt v 1099511627776;have e1:nF v 1099511627776<=n:=h2 _ m1 λs hs cm=>by
  obtain⟨x,hx,_,wW,_,hv⟩:=l1 s hs cm;rw[wW,abm];have:=m2 x hx;unfold w6 at hv;dsimp only;omega
 have e2:n<=nF v 1099511627776:=by
  rcases m3 with e|e
  ·omega
  ·obtain⟨t,ht,cm,wW,Be,hv⟩:=l2 _ e;have:=(q2 t ht).2 cm;rw[Be,if_neg GF,wW,abm]at this;unfold w6 at hv;dsimp only at this;omega
 rw[h1,show n=nF v 1099511627776 by omega]
def akD(m:aj)(left:List (List Bool)):fc m left<=1099511627776:=by
 unfold fc CN;split<;>omega
structure Dn(m:aj)(left:List (List Bool))(p:List Int):Prop where
 fit:dD m left
 bp:BP m p
 one:∀ j,j<p.length->left.getD j default=mV (m.cls.getD j default).length (p.getD j 0).toNat
 all:∀ j,p.length<=j->j<m.cls.length->left.getD j default=List.replicate (m.cls.getD j default).length true
variable {m:aj} {left:List (List Bool)} {p:List Int}
def Dn.root(hm:VM m):Dn m (dH m) []:=by
 refine⟨C5 hm,⟨aI _,λj hj=>(by cases hj)⟩,λj hj=>(by cases hj),λj _ hj=>?_⟩;unfold dH lX;rw[if_pos (eK.2 hm),iR _ _ _ hj]
def abn{left:List (List Bool)}{c j:Nat}(x:List Bool)(h:c≠j):(left.set c x).getD j default=left.getD j default:=by
 rw[aA,List.getElem?_set_ne h,<- aA]
def Dn.next(h:Dn m left p)(hc:p.length<m.cls.length){k:Nat}(hk:k<(m.cls.getD p.length default).length):Dn m (bV left p.length k) (p++[(k:Int)]):=by
 refine⟨FT h.fit (Ik _ _ _),h.bp.snoc hc hk,λj hj=>?_,λj h1 h2=>?_⟩
 ·unfold bV;rw[bQ]at hj;by_cases e:j<p.length
  ·rw[abn _ GC,Js e];exact h.one j e
  ·obtain rfl:j=p.length:=by simp at hj;omega
   rw[vz _ _ _ (by rw[h.fit.1];exact hc),Oi,h.fit.2 _ (by rw[h.fit.1];exact hc)];rfl
 ·unfold bV;rw[bQ]at h1;rw[abn _ (by simp at h1;omega)];exact h.all j GC h2
def Dn.single(h:Dn m left p)(hc:p.length<left.length)(h1:(left.getD p.length default).length=1):Dn m left (p++[0]):=by
 have ln:p.length<m.cls.length:=by rw[<- h.fit.1];exact hc
 have hl:=h.fit.2 _ hc;refine⟨h.fit,h.bp.snoc (k:=0) ln GC,λj hj=>?_,λj h2 h3=>h.all j (by rw[bQ]at h2;omega) h3⟩;rw[bQ]at hj;by_cases e:j<p.length
 ·rw[Js e];exact h.one j e
 ·obtain rfl:j=p.length:=by simp at hj;omega
  rw[Oi,h.all _ (aN _) ln,<- hl,h1];rfl
def Dn.skip:∀ (k:Nat) (p:List Int),left.length-p.length=k->Dn m left p->∃ r:List Int,Dn m left (p++r)/\(p++r).length=dr left p.length/\∀ a,k9 m (m.cls.length-p.length) p a=k9 m (m.cls.length-(p++r).length) (p++r) a
 |k,p,hk,h=>by
  by_cases hc:p.length<left.length/\(left.getD p.length default).length=1
  ·have h1:=h.single hc.1 hc.2;obtain⟨r,a1,a2,a3⟩:=Dn.skip (k-1) (p++[0]) (by rw[bQ];simp;omega) h1;have e:p++[0]++r=p++(0::r):=GF;rw[e]at a1 a2 a3;refine⟨0::r,a1,?_,λa=>?_⟩
   ·rw[Og hc,a2];simp
   ·rw[<- a3 a];have hl:=h.fit.2 _ hc.1;have br:p.length<m.cls.length:=by rw[<- h.fit.1];exact hc.1
    rw[show m.cls.length-p.length=(m.cls.length-(p++[0]).length)+1 by simp;omega,k9,<- hl,hc.2];rfl
  ·exact⟨[],by simpa using h,by rw[Jr hc];simp,λa=>GF⟩
termination_by k p _ _=>left.length-p.length
decreasing_by simp;omega
def Dn.Zw(h:Dn m left p){q:List Int}(hq:Ext m p q):zJ m left q:=λi hi=>by
 obtain⟨hf,r,rfl⟩:=hq;have hg:=fD.1 (hf.get i (by rw[hf.len];exact hi));rw[fq]at hg;by_cases e:i<p.length
 ·have:=h.bp.get i e;rw[h.one i e,Js e,abg GC,decide_eq_true rfl]
 ·rw[h.all i GC hi,aA,yG,if_pos GC];rfl
def abo:∀ (w o:Nat) (i:Int),o<w->tX (mV w o) i=i+o
 |0,o,i,h=>GC
 |w+1,0,i,h=>by
  unfold mV;rw[GK,List.set_cons_zero,tX,if_pos rfl];simp
 |w+1,o+1,i,h=>by
  have:=abo w o (i+1) GC;unfold mV at *;rw[GK,List.set_cons_succ,tX,if_neg GF,this];omega
def Dn.Ol(h:Dn m left p)(hl:p.length=m.cls.length):kd left=p:=by
 unfold kd;apply List.ext_getElem
 ·rw[dX,h.fit.1,hl]
 ·intro i h1 h2;rw[List.getElem_map];have a1:=h.one i h2;have a2:=h.bp.get i h2;have e1:left[i]'(by rw[dX]at h1;exact h1)=left.getD i default:=by
   rw[aA,bK (by rw[dX]at h1;exact h1)];rfl
  have e2:p[i]=p.getD i 0:=by rw[aA,bK h2];rfl
  rw[e1,e2,a1,abo _ _ _ GC];omega
def Dn.akE(h:Dn m left p)(hl:p.length=m.cls.length):CM m left p:=λi hi j=>by
 have:=h.bp.get i GC;rw[h.one i GC,abg GC]
def Dn.bound(hm:VM m)(h:Dn m left p){q:List Int}(hq:Ext m p q):fc m left<=iz m q:=by
 rw[Fj hm h.fit];exact ZA hm hq.1 left h.fit (h.Zw hq) [] (λ_ h=>by cases h)
def Dn.exact(hm:VM m)(h:Dn m left p)(hl:p.length=m.cls.length):fc m left=iz m p:=by
 rw[Fj hm h.fit];exact aiA hm (h.bp.fp hl) left h.fit (h.akE hl) [] (λ_ h=>by cases h)
structure DL(m:aj)(left:List (List Bool))(p:List Int)(s r:DS):Prop where
 bA:r.bA<=s.bA
 bl:r.cK<=s.cK
 bt:r.bA<s.bA->r.cK<=r.bA
 wh:r.whole=true->s.whole=true/\(r.plan,r.bA)=k9 m (m.cls.length-p.length) p (s.plan,s.bA)/\min s.cK r.bA<=r.cK
 room:(r.nodes.length:Int)+r.room=s.nodes.length+s.room+1
 rm0:0<=s.room->0<=r.room
 lt:s.nodes.length<r.nodes.length
 pre:∀ i,i<s.nodes.length->nd r.nodes i=nd s.nodes i
 tr:∀ ab:List Int,(∀ x∈ab,0<=x/\x<p.length)->∃ v,Tr m r.nodes s.nodes.length r.nodes.length left ab v/\r.cK=nF v s.cK
def DL.leaf(hm:VM m)(h:dD m left){s r:DS}(hn:r.nodes=s.nodes++[nE []])(hr:r.room=s.room)(hb:r.cK=min s.cK (fc m left))(ht:r.bA<=s.bA)(jO:r.bA<s.bA->r.bA=fc m left)(hw:r.whole=true->s.whole=true/\(r.plan,r.bA)=k9 m (m.cls.length-p.length) p (s.plan,s.bA)/\r.bA<=fc m left):DL m left p s r:=by
 refine⟨ht,GC,λh=>by have:=jO h;omega,λh=>?_,by rw[hn,hr];simp;omega,λh=>GC,by rw[hn];simp,λi hi=>by rw[hn];exact abe hi,λab nB=>⟨[w6 m left],?_,?_⟩⟩
 ·obtain⟨a,b,c⟩:=hw h;exact⟨a,b,GC⟩
 ·rw[hn,bQ];exact .leaf _ _ _ akB (λh=>by have:=nB _ h;omega)
 ·rw[hb];unfold nF w6;rw[Fj hm h];rfl
def abp{f:List (List Bool)->DS->DS}{ab:List Int}(hf:∀ k s,k<(m.cls.getD p.length default).length->DL m (bV left p.length k) (p++[(k:Int)]) s (f (bV left p.length k) s))(nB:∀ x∈ab,0<=x/\x<p.length+1):∀ (w o:Nat) (s:DS) (ks:List Int) (lo:Nat) (v:List Int),o+w=(m.cls.getD p.length default).length->ks.length=o->lo<=s.nodes.length->l4 m s.nodes lo s.nodes.length left p.length ab 0 ks v ->
  (g7 f left p.length w o s ks).1.bA<=s.bA/\(g7 f left p.length w o s ks).1.cK<=s.cK/\((g7 f left p.length w o s ks).1.bA<s.bA->(g7 f left p.length w o s ks).1.cK<=(g7 f left p.length w o s ks).1.bA) /\
  ((g7 f left p.length w o s ks).1.whole=true->s.whole=true/\((g7 f left p.length w o s ks).1.plan,(g7 f left p.length w o s ks).1.bA)=sw (k9 m (m.cls.length-(p.length+1))) p w o (s.plan,s.bA)/\min s.cK (g7 f left p.length w o s ks).1.bA<=(g7 f left p.length w o s ks).1.cK) /\
  (((g7 f left p.length w o s ks).1.nodes.length:Int)+(g7 f left p.length w o s ks).1.room=s.nodes.length+s.room+w)/\(0<=s.room->0<=(g7 f left p.length w o s ks).1.room)/\s.nodes.length<=(g7 f left p.length w o s ks).1.nodes.length /\
  (∀ i,i<s.nodes.length->nd (g7 f left p.length w o s ks).1.nodes i=nd s.nodes i)/\(g7 f left p.length w o s ks).2.length=o+w /\
  ∃ u,l4 m (g7 f left p.length w o s ks).1.nodes lo (g7 f left p.length w o s ks).1.nodes.length left p.length ab 0 (g7 f left p.length w o s ks).2 (v++u)/\(g7 f left p.length w o s ks).1.cK=nF u s.cK
 |0,o,s,ks,lo,v,ho,hk,jv,hs=>⟨eC _,eC _,λh=>absurd h (Kh _),λh=>⟨h,rfl,by show min s.cK s.bA<=s.cK;omega⟩,by show(s.nodes.length:Int)+s.room=_;simp,λh=>h,aN _,λ_ _=>rfl,hk,[],by simpa [g7] using hs,rfl⟩
 |w+1,o,s,ks,lo,v,ho,hk,jv,hs=>by
  have h:=hf o s GC;generalize hr:f (bV left p.length o) s=r at h;have mj:(p++[(o:Int)]).length=p.length+1:=GF;obtain⟨t1,t2,t3,t4,t5,t6,t7,t8,t9⟩:=h;obtain⟨u,hu,hub⟩:=t9 ab λx hx=>by rw[mj];exact nB x hx
  have jC:=l4.snoc (ks:=ks) (o:=0) (by rw[hk,gn];exact hu) (hs.frame λi _ h2=>t8 i h2);obtain⟨i1,i2,i3,i4,i5,i6,i7,i8,i9,u2,i10,i11⟩:=abp hf nB w (o+1) r (ks++[(s.nodes.length:Int)]) lo (v++u) GC (by simp[hk]) GC jC;rw[g7,hr];generalize g7 f left p.length w (o+1) r (ks++[(s.nodes.length:Int)])=z at *;refine⟨GC,GC,λbr=>?_,λhw=>?_,GC,λh=>i6 (t6 h),GC,λi hi=>(i8 i GC).trans (t8 i hi),GC,u++u2,by rw[<- cM];exact i10,by rw[i11,hub,akC]⟩
  ·by_cases e:z.1.bA<r.bA
   ·exact i3 e
   ·have:=t3 GC;omega
  ·obtain⟨a1,a2,a3⟩:=i4 hw;obtain⟨b1,b2,b3⟩:=t4 a1;refine⟨b1,?_,GC⟩;rw[a2,sw];rw[mj]at b2;rw[b2]
def Ju(hm:VM m):∀ (f:Nat) (left:List (List Bool)) (p:List Int) (s:DS),left.length+1<=f+p.length->Dn m left p->DL m left p s (lZ m f p.length left s)
 |0,left,p,s,hf,h=>by have:=h.bp.len;rw[<- h.fit.1]at this;omega
 |f+1,left,p,s,hf,h=>by
  obtain⟨r,h1,h2,h3⟩:=Dn.skip (left:=left) _ p rfl h;obtain⟨g1,g2,g3,g4⟩:=Br (left:=left) _ p.length rfl;have cu:p.length<=left.length:=by rw[h.fit.1];exact h.bp.len
  have ey:=h.fit;rw[lZ];split
  ·rename_i hv;refine DL.leaf hm ey rfl rfl rfl (eC _) (λh=>absurd h (Kh _)) λhw=>⟨hw,?_,hv⟩;exact(abl _ p (s.plan,s.bA) h.bp (by have:=h.bp.len;omega) λq hq=>sE hv (h.bound hm hq)).symm
  rename_i hv;split
  ·rename_i he;have uQ:(p++r).length=m.cls.length:=by rw[h2,he,ey.1]
   refine DL.leaf hm ey rfl rfl rfl PA (λ_=>rfl) λhw=>⟨hw,?_,eC _⟩;rw[h3,uQ,hJ,k9,<- h1.exact hm uQ,if_pos PA,h1.Ol uQ]
  rename_i he;split
  ·exact DL.leaf hm ey rfl rfl rfl (eC _) (λh=>absurd h (Kh _)) λhw=>by cases hw
  rename_i pd;rw[not_or]at pd;rw[<- h2]at he pd ⊢;have br:(p++r).length<m.cls.length:=by
   have:=h1.bp.len;rw[ey.1]at he;omega
  have bq:(left.getD (p++r).length default).length=(m.cls.getD (p++r).length default).length:=ey.2 _ (by rw[ey.1];exact br);have Om:p.length<=(p++r).length:=GF;generalize hP:p++r=P at *;have hK:=λab nB=>abp (m:=m) (left:=left) (p:=P) (f:=lZ m f (P.length+1)) (ab:=ab) (λk s' hk=>by
   have:=Ju hm f (bV left P.length k) (P++[(k:Int)]) s' (by rw[show(bV left P.length k).length=left.length by unfold bV;simp];simp;omega) (h1.next br hk);rwa [show(P++[(k:Int)]).length=P.length+1 by simp]at this) nB (left.getD P.length default).length 0 (lY left P.length (fc m left) s) [] (lY left P.length (fc m left) s).nodes.length [] GC rfl (aN _) (.nil _ _ _ _ _)
  obtain⟨i1,i2,i3,i4,i5,i6,i7,i8,i9,_⟩:=hK [] (λx hx=>by cases hx);have mT:=λab nB=>(hK ab nB).2.2.2.2.2.2.2.2.2;clear hK;generalize g7 (lZ m f (P.length+1)) left P.length (left.getD P.length default).length 0 (lY left P.length (fc m left) s) []=z at *;unfold lY at *;dsimp only at *;have an:(s.nodes++[nE []]).length=s.nodes.length+1:=GF;rw[an]at i5 i7 i8;have F1:∀ i,i≠s.nodes.length->nd (w5 P.length s.nodes.length z).nodes i=nd z.1.nodes i:=λi hi=>by
   unfold w5;rw[abf GC,if_neg hi]
  have zm:nd (w5 P.length s.nodes.length z).nodes s.nodes.length=⟨(P.length:Int),z.2,[],[],[]⟩:=by
   unfold w5;rw[abf GC,if_pos rfl]
  have mn:(w5 P.length s.nodes.length z).nodes.length=z.1.nodes.length:=by unfold w5;simp
  refine⟨i1,i2,i3,λhw=>?_,by rw[mn];show(z.1.nodes.length:Int)+z.1.room=_;omega,λh=>i6 GC,by rw[mn];omega,λi hi=>?_,λab nB=>?_⟩
  ·obtain⟨a1,a2,a3⟩:=i4 hw;refine⟨a1,?_,a3⟩;rw[h3,show m.cls.length-P.length=(m.cls.length-(P.length+1))+1 by omega,k9,<- bq];exact a2
  ·rw[F1 i GC,i8 i GC];exact abe hi
  ·obtain⟨u,hu,hb⟩:=mT (ab++[(P.length:Int)]) λx hx=>by
    rcases cH.1 hx with hx|hx
    ·have:=nB x hx;omega
    ·rw[fE]at hx;omega
   rw[List.nil_append,an]at hu;refine⟨u,?_,hb⟩;rw[mn];refine .node _ _ _ _ P.length z.2 _ zm br (λhx=>by have:=nB _ hx;omega) (by rw[i9];omega) ?_;exact hu.frame λi h1 _=>F1 i GC
def lE(m:aj):Nat->Nat
 |0=>1
 |d+1=>(m.cls.getD (m.cls.length-(d+1)) default).length*lE m d
variable {m:aj} {left:List (List Bool)} {p:List Int}
def abq{c:Nat}(h:c<m.cls.length):lE m (m.cls.length-c)=(m.cls.getD c default).length*lE m (m.cls.length-(c+1)):=by
 rw[show m.cls.length-c=(m.cls.length-(c+1))+1 by omega,lE,show m.cls.length-(m.cls.length-(c+1)+1)=c by omega]
def On(p8:∀ l∈m.cls,1<=l.length):∀ d,d<=m.cls.length->1<=lE m d
 |0,_=>aN _
 |d+1,h=>Nat.mul_pos (p8 _ (ay GC)) (On p8 d GC)
def abr:∀ (k a b:Nat),b-a=k->a<=b->b<=m.cls.length->(∀ j,a<=j->j<b->(m.cls.getD j default).length=1)->lE m (m.cls.length-a)=lE m (m.cls.length-b)
 |0,a,b,hk,h1,h2,h=>by rw[show a=b by omega]
 |k+1,a,b,hk,h1,h2,h=>by
  rw[abq GC,h a (aN _) GC,tx];exact abr k (a+1) b GC GC h2 λj h3 h4=>h j GC h4
def abt{f:List (List Bool)->DS->DS}{c N Q:Nat}(hf:∀ k s,k<N->s.whole=true->(2*Q-2:Int)<=s.room->(Q-1:Int)<=s.spl->(f (bV left c k) s).whole=true/\s.room-(2*Q-2)<=(f (bV left c k) s).room/\s.spl-(Q-1)<=(f (bV left c k) s).spl)(hQ:1<=Q):
  ∀ (w o:Nat) (s:DS) (ks:List Int),o+w=N->s.whole=true->(w:Int)*(2*Q-2)<=s.room->(w:Int)*(Q-1)<=s.spl->(g7 f left c w o s ks).1.whole=true/\s.room-(w:Int)*(2*Q-2)<=(g7 f left c w o s ks).1.room/\s.spl-(w:Int)*(Q-1)<=(g7 f left c w o s ks).1.spl
 |0,o,s,ks,ho,h1,h2,h3=>⟨h1,by show s.room-_<=s.room;omega,by show s.spl-_<=s.spl;omega⟩
 |w+1,o,s,ks,ho,h1,h2,h3=>by
  have e1:((w+1:Nat):Int)*(2*Q-2)=(w:Int)*(2*Q-2)+(2*Q-2):=by rw[yK,Kf];simp
  have e2:((w+1:Nat):Int)*(Q-1)=(w:Int)*(Q-1)+(Q-1):=by rw[yK,Kf];simp
  have p1:0<=(w:Int)*(2*Q-2):=sF GC GC;have p2:0<=(w:Int)*(Q-1):=sF GC GC;rw[e1]at h2 ⊢;rw[e2]at h3 ⊢;obtain⟨a,b,c'⟩:=hf o s GC h1 GC GC;obtain⟨x,y,z⟩:=abt hf hQ w (o+1) (f (bV left c o) s) (ks++[(s.nodes.length:Int)]) GC a GC GC;rw[g7];exact⟨x,GC,GC⟩
def Oo(hm:VM m)(p8:∀ l∈m.cls,1<=l.length):∀ (f:Nat) (left:List (List Bool)) (p:List Int) (s:DS),left.length+1<=f+p.length->Dn m left p->s.whole=true->(2*lE m (m.cls.length-p.length)-2:Int)<=s.room->(lE m (m.cls.length-p.length)-1:Int)<=s.spl ->
  (lZ m f p.length left s).whole=true/\s.room-(2*lE m (m.cls.length-p.length)-2)<=(lZ m f p.length left s).room/\s.spl-(lE m (m.cls.length-p.length)-1)<=(lZ m f p.length left s).spl
 |0,left,p,s,hf,h,_,_,_=>by have:=h.bp.len;rw[<- h.fit.1]at this;omega
 |f+1,left,p,s,hf,h,hw,hr,hs=>by
  obtain⟨r,h1,h2,h3⟩:=Dn.skip (left:=left) _ p rfl h;obtain⟨g1,g2,g3,g4⟩:=Br (left:=left) _ p.length rfl;have ey:=h.fit;have hq1:=On p8 (m.cls.length-p.length) GC;rw[lZ];split
  ·exact⟨hw,by show _<=s.room;omega,by show _<=s.spl;omega⟩
  split
  ·exact⟨hw,by show _<=s.room;omega,by show _<=s.spl;omega⟩
  rename_i he;rw[<- h2]at he g1 g3 g4 ⊢;have Om:p.length<=(p++r).length:=GF;have br:(p++r).length<m.cls.length:=by
   have:=h1.bp.len;rw[ey.1]at he;omega
  have bq:(left.getD (p++r).length default).length=(m.cls.getD (p++r).length default).length:=ey.2 _ (by rw[ey.1];exact br);have iu:=abr (m:=m) _ p.length (p++r).length rfl Om GC λj h4 h5=>by rw[<- ey.2 j (g3 j h4 h5).1];exact(g3 j h4 h5).2
  rw[iu]at hr hs hq1 ⊢;generalize hP:p++r=P at *;have qA:2<=(m.cls.getD P.length default).length:=by
   have:=p8 _ (ay (d:=default) br);have:=g4 (by rw[ey.1];exact br);omega
  rw[abq br]at hr hs hq1 ⊢;have hQ:=On p8 (m.cls.length-(P.length+1)) GC;have ih:=λk s' hk=>Oo hm p8 f (bV left P.length k) (P++[(k:Int)]) s' (by rw[show(bV left P.length k).length=left.length by unfold bV;simp];simp;omega) (h1.next br hk);simp only[bQ,List.length_singleton]at ih;generalize hq:lE m (m.cls.length-(P.length+1))=Q at *;generalize hN:(m.cls.getD P.length default).length=N at *;have hmul:((N*Q:Nat):Int)=(N:Int)*Q:=by rw[GJ]
  rw[hmul]at hr hs ⊢;have nR:(N:Int)*1<=(N:Int)*Q:=Int.mul_le_mul_of_nonneg_left GC GC;have e1:(N:Int)*(2*Q-2)=2*((N:Int)*Q)-2*N:=by rw[Int.mul_sub,Int.mul_left_comm];omega
  have e2:(N:Int)*(Q-1)=(N:Int)*Q-N:=by rw[Int.mul_sub];omega
  rw[bq];split
  ·rename_i gQ;rcases gQ with gQ|gQ<;>omega
  have hK:=abt (left:=left) (f:=lZ m f (P.length+1)) (c:=P.length) (N:=N) (Q:=Q) (λk s' hk a b c=>ih k s' hk a b c) hQ N 0 (lY left P.length (fc m left) s) [] GC hw (by rw[e1];unfold lY;dsimp only;omega) (by rw[e2];unfold lY;dsimp only;omega);generalize g7 (lZ m f (P.length+1)) left P.length N 0 (lY left P.length (fc m left) s) []=z at *;obtain⟨a,b,c⟩:=hK;rw[e1]at b;rw[e2]at c;unfold lY at b c;dsimp only at b c;exact⟨a,by show _<=z.1.room;omega,by show _<=z.1.spl;omega⟩
def abv(left:List (List Bool)):∀ (l:List (List bU)) (i:Nat) (n:Int),[]∈l->oK left i l n=none
 |[],i,n,h=>by cases h
 |c::l,i,n,h=>by
  rw[oK];split
  ·rfl
  ·rename_i hc;refine abv left l _ _ ((cB.1 h).resolve_left λe=>hc ?_);rw[<- e];rfl
def abw(h:[]∈m.cls)(left:List (List Bool)):fc m left=1099511627776:=by
 unfold fc;rw[abv left _ _ _ h];rfl
def abx{f:List Int->List Int×Int}(hf:∀ q,f q=([],1099511627776)\/(f q).2<1099511627776)(p:List Int):∀ (w k:Nat) (a:List Int×Int),(a=([],1099511627776)\/a.2<1099511627776)->(qK f p w k a=([],1099511627776)\/(qK f p w k a).2<1099511627776)
 |0,k,a,h=>h
 |w+1,k,a,h=>by
  rw[qK];refine abx hf p w (k+1) _ ?_;split
  ·exact hf _
  ·exact h
def aby(m:aj):∀ (d:Nat) (p:List Int),fO m d p=([],1099511627776)\/(fO m d p).2<1099511627776
 |0,p=>by
  unfold fO;split
  ·exact .inl rfl
  ·exact .inr PA
 |d+1,p=>abx (aby m d) p _ _ _ (.inl rfl)
def Jv:DS:=⟨[],19999,20000,true,[],1099511627776,1099511627776⟩
def bW(m:aj):DS:=lZ m (m.cls.length+1) 0 (dH m) Jv
def Jw(hm:VM m)(h:[]∈m.cls\/lE m m.cls.length<=8000):(bW m).whole=true/\((bW m).plan,(bW m).bA)=fO m m.cls.length []/\(bW m).cK=(bW m).bA/\jx m (bW m).nodes=((bW m).bA,true)/\(bW m).nodes.length<=20000:=by
 have hr:=Dn.root hm;have hd:=Ju hm (m.cls.length+1) (dH m) [] Jv (by rw[hr.fit.1];simp) hr;have hw:(bW m).whole=true:=by
  by_cases he:[]∈m.cls
  ·unfold bW;rw[lZ,abw he,if_pos (by show(1099511627776:Int)<=_;omega)];rfl
  ·have p8:∀ l∈m.cls,1<=l.length:=λl hl=>by
    cases l with
    |nil=>exact absurd hl he
    |cons a b=>simp
   have hc:=h.resolve_left he;refine(Oo hm p8 (m.cls.length+1) (dH m) [] Jv (by rw[hr.fit.1];simp) hr rfl ?_ ?_).1
   ·show(2*lE m m.cls.length-2:Int)<=19999;omega
   ·show(lE m m.cls.length-1:Int)<=20000;omega
 obtain⟨d1,d2,d3,d4,d5,d6,d7,d8,d9⟩:=hd;change (bW m).bA<=1099511627776 at d1;change (bW m).cK<=1099511627776 at d2;change (bW m).bA<1099511627776->(bW m).cK<=(bW m).bA at d3;obtain⟨_,e1,e2⟩:=d4 hw;change ((bW m).plan,(bW m).bA)=k9 m m.cls.length [] ([],1099511627776) at e1;change min 1099511627776 (bW m).bA<=(bW m).cK at e2;change ((bW m).nodes.length:Int)+(bW m).room=0+19999+1 at d5;have d6:0<=(bW m).room:=d6 (by show(0:Int)<=19999;omega);have hb:(bW m).cK=(bW m).bA:=GC;obtain⟨v,hv,vI⟩:=d9 [] (λx hx=>by cases hx);have vI:(bW m).cK=nF v 1099511627776:=vI;have ek:=Tr.fG (P:=(bW m).nodes) hm hv GC;refine⟨hw,?_,hb,by rw[ek,<- vI,hb],GC⟩;rw[e1,Oh _ _ _ _ (eC _)];rcases aby m m.cls.length [] with e|e
 ·rw[e];rfl
 ·rw[if_pos e]
def rQ:List (List bU)->Int->Int
 |[],n=>n
 |c::r,n=>if c.length=0 then 0 else rQ r (min (n*c.length) 65537)
def gj(m:aj):Int:=if df m=0 then rQ m.cls 1 else 0
def nq:List (List bU)->Nat
 |[]=>1
 |c::r=>c.length*nq r
def abz:∀ {l:List (List bU)},[] ∉ l->1<=nq l
 |[],_=>aN _
 |c::r,h=>Nat.mul_pos (by cases c with|nil=>simp at h|cons a b=>simp) (abz λe=>h (by simp[e]))
def Oq:∀ (l:List (List bU)) (n:Nat),[] ∉ l->n<=65537->rQ l n=min ((n*nq l:Nat):Int) 65537
 |[],n,h,hn=>by show(n:Int)=_;rw[nq,Nat.mul_one];omega
 |c::r,n,h,hn=>by
  have hc:1<=c.length:=by cases c with|nil=>simp at h|cons a b=>simp
  have hr:[] ∉ r:=λe=>h (by simp[e]);have hp:=abz hr;rw[rQ,if_neg GC,show(min ((n:Int)*c.length) 65537:Int)=((min (n*c.length) 65537:Nat):Int) by rw[<- GJ];omega,Oq r _ hr GC,nq,<- Nat.mul_assoc];by_cases e:n*c.length<=65537
  ·rw[Nat.min_eq_left e]
  ·rw[Nat.min_eq_right GC];have h1:65537*1<=65537*nq r:=Nat.mul_le_mul_left _ hp;have h2:65537*1<=n*c.length*nq r:=BD GC hp;omega
def Ot(m:aj):∀ (d:Nat),d<=m.cls.length->lE m d=nq (m.cls.drop (m.cls.length-d))
 |0,_=>by rw[vU,List.drop_length];rfl
 |d+1,h=>by
  rw[lE,cP m.cls (m.cls.length-(d+1)) default GC,nq,Ot m d GC,show m.cls.length-(d+1)+1=m.cls.length-d by omega]
def Jx{m:aj}(hm:VM m)(h:gj m<=1000):[]∈m.cls\/lE m m.cls.length<=8000:=by
 by_cases he:[]∈m.cls
 ·exact .inl he
 ·right;unfold gj at h;rw[if_pos (eK.2 hm),show(1:Int)=((1:Nat):Int) from rfl,Oq _ _ he GC,tx]at h;rw[Ot m _ (aN _),hJ,List.drop_zero];omega
def abA{m:aj}{w:Nat}(h:∀ l∈m.cls,l.length<=w):∀ d,d<=m.cls.length->lE m d<=w^d
 |0,_=>aN _
 |d+1,hd=>by
  rw[lE,Nat.pow_succ,Nat.mul_comm];exact BD (abA h d GC) (h _ (ay GC))
def Ou{m:aj}(Z:List Int×Int->Prop)(h0:Z ([],1099511627776)):∀ (d:Nat) (p:List Int),BP m p->p.length+d=m.cls.length->(∀ q,Ext m p q->iz m q<1099511627776->Z (q,iz m q))->Z (fO m d p)
 |0,p,hp,hd,h=>by
  unfold fO;split
  ·exact h0
  ·exact h p ⟨hp.fp GC,[],GF⟩ GC
 |d+1,p,hp,hd,h=>by
  unfold fO;have key:∀ (w k:Nat) (a:List Int×Int),k+w=(m.cls.getD p.length default).length->Z a->Z (qK (fO m d) p w k a):=by
   intro w
   induction w with
   |zero=>intro k a _ ha;exact ha
   |succ w ih =>
    intro k a hk ha;rw[qK];refine ih (k+1) _ GC ?_;split
    ·refine Ou Z h0 d _ (hp.snoc GC GC) (by rw[bQ];simp;omega) λq hq=>h q ⟨hq.1,?_⟩;obtain⟨r,rfl⟩:=hq.2;exact⟨(k:Int)::r,GF⟩
    ·exact ha
  exact key _ 0 _ GC h0
def Mj(m:aj):BP m []:=⟨aI _,λj hj=>by cases hj⟩
def abB{m:aj}(h:(fO m m.cls.length []).2<1099511627776):FP m (fO m m.cls.length []).1/\iz m (fO m m.cls.length []).1=(fO m m.cls.length []).2 :=
 Ou (λz=>z.2<1099511627776->FP m z.1/\iz m z.1=z.2) (λh=>absurd h (Kh _)) _ [] (Mj m) GF (λq hq _ _=>⟨hq.1,rfl⟩) h
def Ov{m:aj}{q:List Int}(hq:FP m q):(fO m m.cls.length []).2<=iz m q:=by
 rcases Int.lt_or_le (iz m q) (fO m m.cls.length []).2 with h|h
 ·exfalso;have h1:=Oh m m.cls.length [] (fO m m.cls.length []) (abj m _ _);rw[if_neg (Kh _)]at h1;have h2:∀ (d:Nat) (p:List Int) (a:List Int×Int),Ext m p q->p.length+d=m.cls.length->(k9 m d p a).2<=iz m q:=by
   have mono:∀ (d:Nat) (p:List Int) (a:List Int×Int),(k9 m d p a).2<=a.2:=by
    intro d
    induction d with
    |zero=>intro p a;unfold k9;split<;>(try dsimp only)<;>omega
    |succ d ih =>
     intro p a;unfold k9;have:∀ (w k:Nat) (b:List Int×Int),(sw (k9 m d) p w k b).2<=b.2:=by
      intro w
      induction w with
      |zero=>intro k b;exact eC _
      |succ w F2=>intro k b;rw[sw];exact sE (F2 _ _) (ih _ _)
     exact this _ _ _
   intro d
   induction d with
   |zero =>
    intro p a hx hd;obtain⟨hf,r,rfl⟩:=hx;have hl:=hf.len;rw[bQ]at hl;have:r=[]:=List.eq_nil_of_length_eq_zero GC;subst this;rw[List.append_nil];unfold k9;split<;>(try dsimp only)<;>omega
   |succ d ih =>
    intro p a hx hd;obtain⟨hf,r,rfl⟩:=hx;have hl:=hf.len;rw[bQ]at hl;cases r with
    |nil=>simp at hl;omega
    |cons x r =>
     have hg:=fD.1 (hf.get p.length GF);rw[fq,aA,fV (aN _),hJ]at hg;change _/\_/\0<=x/\x<_ at hg;unfold k9;have key:∀ (w k:Nat) (b:List Int×Int),k<=x.toNat->x.toNat<k+w->(sw (k9 m d) p w k b).2<=iz m (p++x::r):=by
      have rS:∀ (w k:Nat) (b:List Int×Int),(sw (k9 m d) p w k b).2<=b.2:=by
       intro w
       induction w with
       |zero=>intro k b;exact eC _
       |succ w F2=>intro k b;rw[sw];exact sE (F2 _ _) (mono _ _ _)
      intro w
      induction w with
      |zero=>intro k b h1 h2;omega
      |succ w F2 =>
       intro k b h1 h2;rw[sw];by_cases e:k=x.toNat
       ·refine sE (rS _ _ _) ?_;rw[show(k:Int)=x by omega];exact ih (p++[x]) b ⟨hf,r,GF⟩ aar
       ·exact F2 _ _ GC GC
     exact key _ 0 a GC GC
  have h3:=h2 m.cls.length [] (fO m m.cls.length []) ⟨hq,q,GF⟩ GF;rw[h1]at h3;omega
 ·exact h
def akG{m:aj}(hm:VM m)(h:m.cls.length=0):iz m []=0:=by
 unfold iz;have xX:FP m []:=⟨h.symm,λj hj=>(by cases hj)⟩;rw[CK hm xX,h];have h1:m.ae.length=0:=by
  cases hp:m.ae with
  |nil=>rfl
  |cons p r =>
   have:=(lT (iA hm.pr p (by rw[hp];simp))).2;omega
 have h2:bE (λi=>jz [] (m.av.getD i default)) m.av.length=0:=by
  have:∀ n,n<=m.av.length->bE (λi=>jz [] (m.av.getD i default)) n=0:=by
   intro n
   induction n with
   |zero=>intro _;rfl
   |succ n ih =>
    intro hn;rw[bE,ih GC];obtain⟨_,q2,_,q4⟩:=lS (hm.ct _ (ay (l:=m.av) (i:=n) (d:=default) GC));have hl:(m.av.getD n default).aH=[]:=by
     cases hl:(m.av.getD n default).aH with
     |nil=>rfl
     |cons x r =>
      have:=fD.1 (pV q4 x (by rw[hl];simp)).1;omega
    unfold jz j4;rw[hl,show ki [] ([]:List Ld) 0=0 from rfl,if_pos GC];rfl
  exact this _ (aN _)
 rw[h1,h2];rfl
def l5(n:Int):Bool:=decide (n=1099511627776)
def nG(n:Int):Int:=if n=1099511627776 then 1099511627776 else 0
def iq(o:bU):bU:={ o with ch:=o.ch.filter λc=>l5 c.2 }
def jP(p:Pr):Pr:={ p with aB:=p.aB.map nG }
def aU(m:aj):aj:=⟨m.cls.map λl=>l.map iq,m.ae.map jP,m.av.filter λc=>l5 c.bM,m.rules⟩
def Bs(m:aj)(j:Nat):((aU m).cls.getD j default).length=(m.cls.getD j default).length:=by
 unfold aU;dsimp only;rw[aA,cj,aA];cases m.cls[j]? with
 |none=>rfl
 |some l=>simp
def rY(m:aj):(aU m).cls.length=m.cls.length:=by unfold aU;simp
def EM(m:aj)(c o:Int):eW (aU m) c o=eW m c o:=by unfold eW;rw[rY,Bs]
def abC(m:aj):∀ (l:List Ld) (q:Option Ld),eI (aU m) q l=eI m q l
 |[],q=>by cases q<;>rfl
 |x::r,q=>by
  rw[eI.eq_def,eI.eq_def m];dsimp only;rw[EM,abC m r]
def abD{m:aj}:∀ (l:List Pr) (q:Option Pr),fH m q l=true->fH (aU m) (q.map jP) (l.map jP)=true
 |[],q,_=>by cases q<;>rfl
 |p::r,q,h=>by
  rw[fH.eq_def]at h;simp only[bw]at h;obtain⟨⟨a,b⟩,c⟩:=h;rw[dg,fH.eq_def];simp only[bw];refine⟨⟨?_,?_⟩,abD r (some p) c⟩
  ·unfold gH at *;simp only[bw,decide_eq_true_eq]at a ⊢;rw[rY,show(jP p).fst=p.fst from rfl,show(jP p).snd=p.snd from rfl,Bs,Bs];obtain⟨⟨a1,a2⟩,a3⟩:=a;refine⟨⟨a1,a2.1,a2.2.1,a2.2.2.1,by show((p.aB.map nG).length:Int)=_;rw[dX];exact a2.2.2.2⟩,?_⟩;have:(jP p).aB.any pY=false:=yL.2 λx hx=>by
    obtain⟨y,hy,rfl⟩:=cz.1 hx;unfold nG;split<;>decide
   rw[this];rfl
  ·cases q with
   |none=>rfl
   |some q=>exact b
def wA{m:aj}(h:VM m):VM (aU m):=by
 refine⟨by rw[rY];exact h.cls,λl hl=>?_,by show(m.ae.map jP).length<=4000;rw[dX];exact h.ae,j7 (BH _ _) h.av,h.jq,λl hl o ho=>?_,abD m.ae none h.pr,λc hc=>?_⟩
 ·obtain⟨l',jT,rfl⟩:=cz.1 hl;rw[dX];exact h.opt _ jT
 ·obtain⟨l',jT,rfl⟩:=cz.1 hl;obtain⟨o',cG,rfl⟩:=cz.1 ho;exact ID _ (h.mA _ jT _ cG)
 ·have ln:=h.ct c (qh.1 hc).1;unfold iQ at *;rw[abC];exact ln
def Zf(n:Int):Prop:=n=0\/1099511627776<=n
def zR{f:Nat->Int}:∀ (n:Nat),(∀ i,i<n->Zf (f i))->Zf (bE f n)
 |0,_=>.inl rfl
 |n+1,h=>by
  have h1:=zR n λi hi=>h i GC;have h2:=h n (ql n);unfold Zf at *;rw[bE];omega
def Ow(o:bU):Zf (jZ (iq o)):=by
 have h:∀ (l:List Int) (a:Int),(∀ x∈l,x=1099511627776)->(a=0\/a=1099511627776)->(l.foldl ee a=0\/l.foldl ee a=1099511627776):=by
  intro l
  induction l with
  |nil=>intro a _ h;exact h
  |cons x l ih =>
   intro a h1 h2;refine ih _ (λy hy=>h1 y (by simp[hy])) (.inr ?_);rw[h1 x GF];unfold ee;omega
 have:=h ((iq o).ch.map (·.2)) 0 (λx hx=>by
  obtain⟨c,hc,rfl⟩:=cz.1 hx;have:=(qh.1 hc).2;unfold l5 at this;simpa using this) (.inl rfl)
 unfold jZ Zf;omega
def akH{m:aj}(hm:VM m){plan:List Int}(hp:FP (aU m) plan):iz (aU m) plan=0\/iz (aU m) plan=1099511627776:=by
 unfold iz;rw[CK (wA hm) hp];have h1:Zf (bE (mX (aU m) plan) (aU m).cls.length):=zR _ λi hi=>by
  unfold mX;have hg:=fD.1 (hp.get i (by rw[hp.len];exact hi));rw[fq]at hg;have hc:(aU m).cls.getD i default=(m.cls.getD i default).map iq:=iR _ _ _ (by rw[rY]at hi;exact hi);rw[hc]at hg ⊢;rw[dX]at hg;rw[iR _ _ _ GC];exact Ow _
 have h2:Zf (bE (λi=>kB (aU m) plan ((aU m).ae.getD i default)) (aU m).ae.length):=zR _ λi hi=>by
  have hc:(aU m).ae.getD i default=jP (m.ae.getD i default):=iR _ _ _ (by simpa [aU] using hi);rw[hc];unfold kB lV;generalize (_:Int).toNat=k;show Zf (((m.ae.getD i default).aB.map nG).getD k 0);rw[aA,cj];cases(m.ae.getD i default).aB[k]? with
  |none=>exact .inl rfl
  |some x=>show Zf (nG x);unfold nG Zf;split<;>omega
 have h3:Zf (bE (λi=>jz plan ((aU m).av.getD i default)) (aU m).av.length):=zR _ λi hi=>by
  have hc:=(qh.1 (ay (d:=default) hi)).2;unfold l5 at hc;rw[decide_eq_true_eq]at hc;unfold jz j4;rw[show((aU m).av.getD i default).bM=1099511627776 from hc];split
  ·exact .inl rfl
  ·right;omega
 unfold Zf at *;omega
def akI{m:aj}(hm:VM m):(fO (aU m) (aU m).cls.length []).2=0\/(fO (aU m) (aU m).cls.length []).2=1099511627776 :=
 Ou (λz=>z.2=0\/z.2=1099511627776) (.inr rfl) _ [] (Mj _) GF λq hq _=>akH hm hq.1
def Ox:∀ (l k:List (List bU)) (n:Int),l.map oW=k.map oW->rQ l n=rQ k n
 |[],[],n,_=>rfl
 |[],b::k,n,h=>by simp at h
 |a::l,[],n,h=>by simp at h
 |a::l,b::k,n,h=>by
  simp only[dg,List.cons.injEq]at h;rw[rQ,rQ,h.1];split
  ·rfl
  ·exact Ox l k _ h.2
def abE{m:aj}(hm:VM m):gj (aU m)=gj m:=by
 unfold gj;rw[if_pos (eK.2 hm),if_pos (eK.2 (wA hm))];refine Ox _ _ _ ?_;show(m.cls.map λl=>l.map iq).map oW=_;rw[List.map_map];exact List.map_congr_left λl _=>GF
def gY(m:aj):List Int:=(aW m.rules.toNat).map λ(i:Nat)=>(i:Int)
def cd(l:List Int)(n:Int):List Int:=l.filter λx=>!(x==n)
def il(R:Int)(l:List Int):List Bool:=(aW R.toNat).map λ(i:Nat)=>l.contains (i:Int)
def bN(m:aj)(l:List Int):aj:=iZ m (il m.rules l)
def zs(r:aj):Prop:=(bW (aU r)).bA=1099511627776\/iz r (bW (aU r)).plan<1099511627776
instance (r:aj):Decidable (zs r):=by unfold zs;infer_instance
def tryD(r:aj):DS:=if zs r then bW (aU r) else bW r
def pT(r:aj):Int:=if(bW (aU r)).whole=false then 61 else if zs r then 0 else if(bW r).whole=false then 61 else 0
def pf(m:aj)(l:List Int):Prop:=l.length<=1000/\∀ x∈l,0<=x/\x<m.rules
def Cp(R:Int)(l:List Int):(il R l).length=R.toNat:=by unfold il;simp
def pf.cd{m:aj}{l:List Int}(h:pf m l)(n:Int):pf m (cd l n):=⟨j7 (BH _ _) h.1,λx hx=>h.2 x (qh.1 hx).1⟩
def Md{m:aj}(hm:VM m):pf m (gY m):=by
 have:=hm.jq;refine⟨by unfold gY;simp;omega,λx hx=>?_⟩;unfold gY at hx;obtain⟨i,hi,rfl⟩:=cz.1 hx;have:=mH.1 hi;omega
end T

