import Derived.Test.YtdipcmigdbnheaaGreatX28
import Derived.Test.YtdipcmigdbnheaaGreatX25
set_option linter.all false
set_option maxHeartbeats 0
set_option maxRecDepth 20000
open Nat renaming lt_succ_self→m5,le_refl→aG,one_mul→pz,sub_self→lV,zero_le→aQ,sub_zero→vJ,zero_add→eW,mul_le_mul→zb,le_trans→iM
open List renaming flatMap_append→qv,count_append→Jl,mem_cons→b8,range→aN,all_eq_true→gz,any_eq_false→ER,mem_map→bZ,mem_singleton→ew,contains_iff_mem→sV,mem_flatMap→EV,mem_reverse→vO,getD_cons_zero→fQ,getD_cons_succ→ep,getD_eq_getElem?_getD→aA,getElem?_append_left→cd,getElem?_append_right→eu,getElem?_set→bV,getElem?_replicate→ug,length_append→bR,append_assoc→dC,mem_range→lz,mem_append→cj,replicate_succ→Jf,length_map→ed,getElem?_eq_getElem→bT,getElem?_map→cg,map_cons→dJ,length_filter_le→zh,mem_filter→mz,length→rS
open Int renaming toNat_natCast→gA,le_refl→dy,le_trans→oP,lt_irrefl→EW,natCast_add→uo,add_mul→Jj,mul_nonneg→rR,natCast_mul→EN
open Bool renaming eq_false_iff→BF,and_eq_true→ba
open Go Go.Am
namespace T
mutual
inductive iZ(m:aj)(P:List Nd)(Q:List Int->Prop):Nat->Nat->List Int->Prop
 |leaf (lo:Nat) (ab:List Int) (l:List Mv) (h:nd P lo=kU l) (hl:l.length<=2000) (hv:∀ x∈l,oG m x=true) (ha:(-1:Int) ∉ ab) (hq:Q ab):iZ m P Q lo (lo+1) ab
 |node (lo hi:Nat) (ab:List Int) (c:Nat) (ks:List Int) (h:nd P lo=⟨c,ks,[],[],[]⟩) (hc:c<m.cls.length) (ha:(c:Int) ∉ ab) (hk:ks.length=(m.cls.getD c default).length) (hs:ja m P Q (lo+1) hi (ab++[(c:Int)]) ks):iZ m P Q lo hi ab
inductive ja(m:aj)(P:List Nd)(Q:List Int->Prop):Nat->Nat->List Int->List Int->Prop
 |nil (lo:Nat) (ab:List Int):ja m P Q lo lo ab []
 |cons (lo mid hi:Nat) (ab:List Int) (ks:List Int) (h:iZ m P Q lo mid ab) (hs:ja m P Q mid hi ab ks):ja m P Q lo hi ab ((lo:Int)::ks)
end
def ja.snoc{m:aj}{P:List Nd}{Q:List Int->Prop}{mid hi:Nat}{ab:List Int}(h2:iZ m P Q mid hi ab):∀ {ks:List Int} {lo:Nat},ja m P Q lo mid ab ks->ja m P Q lo hi ab (ks++[(mid:Int)])
 |[],lo,h=>by
  cases h;exact .cons _ _ _ _ _ h2 (.nil _ _)
 |k::ks,lo,h=>by
  cases h with
  |cons _ aca _ _ _ h1 hs=>exact .cons _ _ _ _ _ h1 (ja.snoc h2 hs)
mutual
def iZ.lt{m:aj}{P:List Nd}{Q:List Int->Prop}{lo hi:Nat}{ab:List Int}:iZ m P Q lo hi ab->lo<hi
 |.leaf _ _ _ _ _ _ _ _=>m5 _
 |.node _ _ _ _ _ _ _ _ _ hs=>by have:=hs.le;omega
def ja.le{m:aj}{P:List Nd}{Q:List Int->Prop}{lo hi:Nat}{ab ks:List Int}:ja m P Q lo hi ab ks->lo<=hi
 |.nil _ _=>aG _
 |.cons _ _ _ _ _ h hs=>by have:=h.lt;have:=hs.le;omega
end
mutual
def iZ.frame{m:aj}{P P':List Nd}{Q:List Int->Prop}{lo hi:Nat}{ab:List Int}:iZ m P Q lo hi ab->(∀ i,lo<=i->i<hi->nd P' i=nd P i)->iZ m P' Q lo hi ab
 |.leaf _ _ l h hl hv ha hq,hf=>.leaf _ _ l ((hf _ (aG _) (m5 _)).trans h) hl hv ha hq
 |.node _ _ _ c ks h hc ha hk hs,hf=>.node _ _ _ c ks ((hf _ (aG _) (by have:=hs.le;omega)).trans h) hc ha hk (hs.frame λi h1 h2=>hf i I6 h2)
def ja.frame{m:aj}{P P':List Nd}{Q:List Int->Prop}{lo hi:Nat}{ab ks:List Int}:ja m P Q lo hi ab ks->(∀ i,lo<=i->i<hi->nd P' i=nd P i)->ja m P' Q lo hi ab ks
 |.nil _ _,_=>.nil _ _
 |.cons _ mid _ _ _ h hs,hf=>.cons _ _ _ _ _ (h.frame λi h1 h2=>hf i h1 (by have:=hs.le;omega)) (hs.frame λi h1 h2=>hf i (by have:=h.lt;omega) h2)
end
def qm(P:List Nd)(lo hi:Nat):List Int:=(List.range' lo (hi-lo)).flatMap λi=>(nd P i).kids
def To(P:List Nd){lo mid hi:Nat}(h1:lo<=mid)(h2:mid<=hi):qm P lo hi=qm P lo mid++qm P mid hi:=by
 unfold qm;rw[<- qv];congr 1;have:=List.range'_append (s:=lo) (m:=mid-lo) (n:=hi-mid) (step:=1);simp only[pz]at this;rw[show lo+(mid-lo)=mid by omega,show mid-lo+(hi-mid)=hi-lo by omega]at this;exact this.symm
def Tp(P:List Nd)(lo:Nat):qm P lo (lo+1)=(nd P lo).kids:=by
 unfold qm;rw[show lo+1-lo=1 by omega];simp
def acb(P:List Nd)(lo:Nat):qm P lo lo=[]:=by unfold qm;rw[lV];rfl
mutual
def iZ.count{m:aj}{P:List Nd}{Q:List Int->Prop}{lo hi:Nat}{ab:List Int}:iZ m P Q lo hi ab->∀ j:Nat,(qm P lo hi).count (j:Int)=if lo<j/\j<hi then 1 else 0
 |.leaf lo _ l h _ _ _ _,j=>by
  rw[Tp,h,if_neg I6];rfl
 |.node lo hi _ c ks h _ _ _ hs,j=>by
  have hle:=hs.le;rw[To P (Nat.le_succ lo) hle,Tp,h,Jl];have:=hs.count j;dsimp only;rw[this];by_cases h1:lo<j/\j<hi
  ·rw[if_pos I6,if_pos h1]
  ·rw[if_neg I6,if_neg h1]
def ja.count{m:aj}{P:List Nd}{Q:List Int->Prop}{lo hi:Nat}{ab ks:List Int}:ja m P Q lo hi ab ks->∀ j:Nat,ks.count (j:Int)+(qm P lo hi).count (j:Int)=if lo<=j/\j<hi then 1 else 0
 |.nil lo _,j=>by rw[acb,if_neg I6];rfl
 |.cons lo mid hi _ ks h hs,j=>by
  have bq:=h.lt;have hle:=hs.le;rw[To P (Nat.le_of_lt bq) hle,Jl,List.count_cons];have h1:=h.count j;have h2:=hs.count j;have hb:((lo:Int)==(j:Int))=decide (lo=j):=by rw[Bool.eq_iff_iff,beq_iff_eq,decide_eq_true_eq];omega
  rw[h1,hb];by_cases e:lo=j
  ·subst e;rw[if_neg I6]at h2;simp only[decide_true,if_true];rw[if_neg I6,if_pos I6];omega
  ·simp only[decide_eq_false e,Bool.false_eq_true,if_false];by_cases h3:lo<j/\j<mid
   ·rw[if_pos h3,if_pos I6];rw[if_neg I6]at h2;omega
   ·rw[if_neg h3];by_cases h4:mid<=j/\j<hi
    ·rw[if_pos h4]at h2;rw[if_pos I6];omega
    ·rw[if_neg h4]at h2;rw[if_neg I6];omega
end
mutual
def iZ.yT{m:aj}{P:List Nd}{Q:List Int->Prop}{lo hi:Nat}{ab:List Int}:iZ m P Q lo hi ab->∀ i,lo<=i->i<hi->mT m (nd P i)=true/\∀ k∈(nd P i).kids,(i:Int)<k/\k<hi
 |.leaf lo _ l h _ _ _ _,i,h1,h2=>by
  obtain rfl:i=lo:=I6;rw[h];exact⟨rfl,λk hk=>by cases hk⟩
 |.node lo hi _ c ks h hc _ hk hs,i,h1,h2=>by
  by_cases e:i=lo
  ·subst e;rw[h];refine⟨?_,λk iK=>?_⟩
   ·unfold mT;rw[if_neg (by show ¬((c:Int) = -1);omega),decide_eq_true_eq];exact⟨by show(0:Int)<=c;omega,by show(c:Int)<_;omega,by show ks.length=_;rw[gA];exact hk,rfl,rfl,rfl⟩
   ·have:=hs.Tq k iK;omega
  ·exact hs.yT i I6 h2
def ja.yT{m:aj}{P:List Nd}{Q:List Int->Prop}{lo hi:Nat}{ab ks:List Int}:ja m P Q lo hi ab ks->∀ i,lo<=i->i<hi->mT m (nd P i)=true/\∀ k∈(nd P i).kids,(i:Int)<k/\k<hi
 |.nil lo _,i,h1,h2=>I6
 |.cons lo mid hi _ ks h hs,i,h1,h2=>by
  have hle:=hs.le;by_cases e:i<mid
  ·obtain⟨a,b⟩:=h.yT i h1 e;exact⟨a,λk hk=>by have:=b k hk;omega⟩
  ·exact hs.yT i I6 h2
def ja.Tq{m:aj}{P:List Nd}{Q:List Int->Prop}{lo hi:Nat}{ab ks:List Int}:ja m P Q lo hi ab ks->∀ k∈ks,(lo:Int)<=k/\k<hi
 |.nil lo _,k,hk=>by cases hk
 |.cons lo mid hi _ ks h hs,k,hk=>by
  have bq:=h.lt;have hle:=hs.le;rcases b8.1 hk with rfl|hk
  ·omega
  ·have:=hs.Tq k hk;omega
end
mutual
def iZ.flat{m:aj}{P:List Nd}{Q:List Int->Prop}{lo hi:Nat}{ab:List Int}:iZ m P Q lo hi ab->∀ i,lo<=i->i<hi->(nd P i).eI.length<=2000/\(nd P i).dh=[]/\(nd P i).cells=[]
 |.leaf lo _ l h hl _ _ _,i,h1,h2=>by
  obtain rfl:i=lo:=I6;rw[h];exact⟨hl,rfl,rfl⟩
 |.node lo hi _ c ks h hc _ hk hs,i,h1,h2=>by
  by_cases e:i=lo
  ·subst e;rw[h];exact⟨aQ _,rfl,rfl⟩
  ·exact hs.flat i I6 h2
def ja.flat{m:aj}{P:List Nd}{Q:List Int->Prop}{lo hi:Nat}{ab ks:List Int}:ja m P Q lo hi ab ks->∀ i,lo<=i->i<hi->(nd P i).eI.length<=2000/\(nd P i).dh=[]/\(nd P i).cells=[]
 |.nil lo _,i,h1,h2=>I6
 |.cons lo mid hi _ ks h hs,i,h1,h2=>by
  have hle:=hs.le;by_cases e:i<mid
  ·exact h.flat i h1 e
  ·exact hs.flat i I6 h2
end
def acd(P:List Nd):qm P 0 P.length=iJ P:=by
 unfold qm iJ;rw[vJ,<- List.range_eq_range'];have:∀ n,n<=P.length->(aN n).flatMap (λi=>(nd P i).kids)=(P.take n).flatMap (·.kids):=by
  intro n
  induction n with
  |zero=>intro _;rfl
  |succ n ih =>
   intro hn;rw[List.range_succ,qv,ih I6,iB I6,qv,List.flatMap_singleton,List.flatMap_singleton];rfl
 rw[this P.length (aG _),List.take_length]
def iZ.shaped{m:aj}{P:List Nd}{Q:List Int->Prop}(h:iZ m P Q 0 P.length [])(hn:P.length<=20000):lx m P=true:=by
 have bq:=h.lt;rw[Sn ⟨bq,hn⟩ (λi hi=>by
  obtain⟨a,b⟩:=h.yT i (aQ _) hi;show lv m P.length i (nd P i)=true;unfold lv;rw[a,Bool.true_and,gz];intro k hk;have:=b k hk;unfold oI;rw[decide_eq_true_eq];exact this)]
 rw[Bool.not_eq_true',ER];intro x hx;unfold jG at hx;rw[<- List.map_drop]at hx;obtain⟨j,hj,rfl⟩:=bZ.1 hx;have Cw:1<=j/\j<P.length:=by
  obtain⟨i,hi,rfl⟩:=List.getElem_of_mem hj;rw[List.length_drop,List.length_range]at hi;rw[List.getElem_drop,List.getElem_range];omega
 have hc:=h.count j;rw[acd,if_pos I6]at hc;rw[hc];decide
def ace{m:aj}{left:List (List Bool)}{l:List Mv}(hl:l.length<=2000)(hv:∀ x∈l,oG m x=true):kB m left l=(mS m left (mi m l (S0 m,T0 m)),0):=by
 unfold kB;rw[if_neg I6,if_neg (by rw[gz.2 hv];simp)]
mutual
def iZ.A0{m:aj}{P:List Nd}{Q:List Int->Prop}(hd:Down P){lo hi:Nat}{ab:List Int}:iZ m P Q lo hi ab->hi<=P.length->∀ left,∀ t∈vs P (lo,left,ab),t.2.2.contains (nd P t.1).cls=false/\((nd P t.1).cls = -1->(nd P t.1).dh.length=0/\(kB m t.2.1 (nd P t.1).eI).2=0)
 |.leaf lo ab l h hl hv ha _,hh,left,t,ht=>by
  rw[HU hd (by show lo<_;omega) (by show(nd P lo).kids=[];rw[h];rfl),ew]at ht;subst ht;dsimp only;rw[h];refine⟨?_,λ_=>⟨rfl,by show(kB m left l).2=0;rw[ace hl hv]⟩⟩;show ab.contains (-1)=false;rw[BF];intro hc;exact ha (sV.1 hc)
 |.node lo hi ab c ks h hc ha hk hs,hh,left,t,ht=>by
  have hle:=hs.le;rw[yO hd (by show lo<_;omega),b8]at ht;rcases ht with rfl|ht
  ·dsimp only;rw[h];refine⟨?_,λh2=>absurd (show(c:Int) = -1 from h2) I6⟩;rw[BF];intro hc;exact ha (sV.1 hc)
  ·obtain⟨u,hu,ht⟩:=EV.1 ht;obtain⟨o,ho,rfl⟩:=wV (vO.1 hu);dsimp only at ho;have po:ml P (lo,left,ab) o=((ks.getD o 0).toNat,bN left c o,ab++[(c:Int)]):=by
    unfold ml;dsimp only;rw[h];rfl
   rw[po]at ht;rw[h]at ho;exact hs.A0 hd hh o ho _ t ht
def ja.A0{m:aj}{P:List Nd}{Q:List Int->Prop}(hd:Down P){lo hi:Nat}{ab ks:List Int}:ja m P Q lo hi ab ks->hi<=P.length->∀ o,o<ks.length->∀ left,∀ t∈vs P ((ks.getD o 0).toNat,left,ab),t.2.2.contains (nd P t.1).cls=false/\((nd P t.1).cls = -1->(nd P t.1).dh.length=0/\(kB m t.2.1 (nd P t.1).eI).2=0)
 |.nil _ _,_,o,ho,_,_,_=>by cases ho
 |.cons lo mid hi ab ks h hs,hh,o,ho,left,t,ht=>by
  have hle:=hs.le;cases o with
  |zero =>
   rw[fQ,gA]at ht;exact h.A0 hd I6 left t ht
  |succ o =>
   rw[ep]at ht;exact hs.A0 hd hh o (by simpa using ho) left t ht
end
mutual
def iZ.leaves{m:aj}{P:List Nd}{Q:List Int->Prop}(hd:Down P){lo hi:Nat}{ab:List Int}:iZ m P Q lo hi ab->hi<=P.length->∀ left,∀ t∈vs P (lo,left,ab),(nd P t.1).cls = -1->Q t.2.2
 |.leaf lo ab l h hl hv ha hq,hh,left,t,ht,_=>by
  rw[HU hd (by show lo<_;omega) (by show(nd P lo).kids=[];rw[h];rfl),ew]at ht;subst ht;exact hq
 |.node lo hi ab c ks h hc ha hk hs,hh,left,t,ht,cy=>by
  have hle:=hs.le;rw[yO hd (by show lo<_;omega),b8]at ht;rcases ht with rfl|ht
  ·dsimp only at cy;rw[h]at cy;exact absurd (show(c:Int) = -1 from cy) I6
  ·obtain⟨u,hu,ht⟩:=EV.1 ht;obtain⟨o,ho,rfl⟩:=wV (vO.1 hu);dsimp only at ho;have po:ml P (lo,left,ab) o=((ks.getD o 0).toNat,bN left c o,ab++[(c:Int)]):=by
    unfold ml;dsimp only;rw[h];rfl
   rw[po]at ht;rw[h]at ho;exact hs.leaves hd hh o ho _ t ht cy
def ja.leaves{m:aj}{P:List Nd}{Q:List Int->Prop}(hd:Down P){lo hi:Nat}{ab ks:List Int}:ja m P Q lo hi ab ks->hi<=P.length->∀ o,o<ks.length->∀ left,∀ t∈vs P ((ks.getD o 0).toNat,left,ab),(nd P t.1).cls = -1->Q t.2.2
 |.nil _ _,_,o,ho,_,_,_,_=>by cases ho
 |.cons lo mid hi ab ks h hs,hh,o,ho,left,t,ht,cy=>by
  have hle:=hs.le;cases o with
  |zero =>
   rw[fQ,gA]at ht;exact h.leaves hd I6 left t ht cy
  |succ o =>
   rw[ep]at ht;exact hs.leaves hd hh o (by simpa using ho) left t ht cy
end
def iZ.dU{m:aj}{P:List Nd}{Q:List Int->Prop}(hm:VM m)(h:iZ m P Q 0 P.length [])(hn:P.length<=20000):∃n,lL m P=(n,true)/\∀ a,a<=1099511627776->(∀ s∈vs P (root m),(nd P s.1).cls = -1->a<=(kB m s.2.1 (nd P s.1).eI).1)->a<=n:=by
 have hs:=h.shaped hn;exact acf hm hs λs jc=>h.A0 (DW hs) (aG _) (dt m) s jc
def HV(w:Nat):Nat->Nat
 |0=>1
 |s+1=>1+w*HV w s
structure afb(m:aj)(L:List Int)(w:Nat)(s:Nat)(ab:List Int)(nodes:List Nd)(r:List Nd×Nat):Prop where
 k:r.2<=L.length
 lt:nodes.length<r.1.length
 le:r.1.length<=nodes.length+HV w s
 pre:∀ i,i<nodes.length->nd r.1 i=nd nodes i
 vt:iZ m r.1 (λ_=>True) nodes.length r.1.length ab
def Ts{P:List Nd}{x:Nd}{i:Nat}(h:i<P.length):nd (P++[x]) i=nd P i:=by
 unfold nd;rw[aA,cd h,aA]
def acg{P:List Nd}{x:Nd}:nd (P++[x]) P.length=x:=by
 unfold nd;rw[aA,eu (aG _)];simp
def Tt{P:List Nd}{x:Nd}{i j:Nat}(h:j<P.length):nd (P.set j x) i=if i=j then x else nd P i:=by
 unfold nd;rw[aA,bV];by_cases e:j=i
 ·subst e;rw[if_pos rfl,if_pos h,if_pos rfl];rfl
 ·rw[if_neg e,if_neg (Ne.symm e),aA]
def upto(n:Nat):List Int:=(aN n).map λ(j:Nat)=>(j:Int)
structure afc(m:aj)(w d:Nat)(nodes r:List Nd):Prop where
 lt:nodes.length<r.length
 le:r.length<=nodes.length+HV w d
 pre:∀ i,i<nodes.length->nd r i=nd nodes i
 vt:iZ m r (λab=>ab=upto m.cls.length) nodes.length r.length (upto (m.cls.length-d))
def Tu{w o:Nat}(h:o<w)(j:Nat):(lq w o).getD j false=decide (j=o):=by
 unfold lq;rw[aA,bV,List.length_replicate];by_cases e:o=j
 ·subst e;rw[if_pos rfl,if_pos h,decide_eq_true rfl];rfl
 ·rw[if_neg e,ug,decide_eq_false (Ne.symm e)];split<;>rfl
def D0(left:List (List Bool)):Nat->Nat->Nat
 |0,c=>c
 |f+1,c=>if c<left.length/\(left.getD c default).length=1 then D0 left f (c+1) else c
def cC(left:List (List Bool))(c:Nat):Nat:=D0 left (left.length-c) c
def HW{left:List (List Bool)}{c:Nat}(h:c<left.length/\(left.getD c default).length=1):cC left c=cC left (c+1):=by
 unfold cC;rw[show left.length-c=(left.length-(c+1))+1 by omega,D0,if_pos h]
def D1{left:List (List Bool)}{c:Nat}(h:¬(c<left.length/\(left.getD c default).length=1)):cC left c=c:=by
 unfold cC;cases left.length-c with
 |zero=>rfl
 |succ f=>rw[D0,if_neg h]
def wY{left:List (List Bool)}:∀ (k c:Nat),left.length-c=k->c<=cC left c/\(c<=left.length->cC left c<=left.length)/\(∀ j,c<=j->j<cC left c->j<left.length/\(left.getD j default).length=1)/\(cC left c<left.length->(left.getD (cC left c) default).length≠1)
 |k,c,hk=>by
  by_cases h:c<left.length/\(left.getD c default).length=1
  ·rw[HW h];obtain⟨a,b,d,e⟩:=wY (left:=left) (k-1) (c+1) I6;refine⟨I6,λ_=>b I6,λj h1 h2=>?_,e⟩;by_cases e2:j=c
   ·subst e2;exact h
   ·exact d j I6 h2
  ·rw[D1 h];exact⟨aG _,λh=>h,λj h1 h2=>I6,λh1 h2=>h ⟨h1,h2⟩⟩
termination_by k c _=>left.length-c
def p8:List Bool->Int->Int
 |[],_=>-1
 |b::r,i=>if b=true then i else p8 r (i+1)
def iD(left:List (List Bool)):List Int:=left.map λl=>p8 l 0
structure DS where
 nodes:List Nd
 room:Int
 spl:Int
 whole:Bool
 plan:List Int
 aU:Int
 bY:Int
def fi(f:List (List Bool)->DS->DS)(left:List (List Bool))(c:Nat):Nat->Nat->DS->List Int->DS×List Int
 |0,_,s,ks=>(s,ks)
 |w+1,o,s,ks=>fi f left c w (o+1) (f (bN left c o) s) (ks++[(s.nodes.length:Int)])
def jR(left:List (List Bool))(c:Nat)(v:Int)(s:DS):DS:=⟨s.nodes++[kU []],s.room-(left.getD c default).length,s.spl-1,s.whole,s.plan,s.aU,s.bY⟩
def sP(c j:Nat)(r:DS×List Int):DS:={ r.1 with nodes:=r.1.nodes.set j ⟨(c:Int),r.2,[],[],[]⟩ }
def jS(m:aj):Nat->Nat->List (List Bool)->DS->DS
 |0,_,_,s=>s
 |f+1,c,left,s =>
  if s.aU<=dI m left then { s with nodes:=s.nodes++[kU []],bY:=min s.bY (dI m left) }
  else if cC left c=left.length then { s with nodes:=s.nodes++[kU []],plan:=iD left,aU:=dI m left,bY:=min s.bY (dI m left) }
  else if s.spl=0\/s.room<(left.getD (cC left c) default).length then { s with nodes:=s.nodes++[kU []],whole:=false,bY:=min s.bY (dI m left) }
  else sP (cC left c) s.nodes.length (fi (jS m f (cC left c+1)) left (cC left c) (left.getD (cC left c) default).length 0 (jR left (cC left c) (dI m left) s) [])
def fM(m:aj)(p:List Int):Int:=jO (iC m p) 0
def qn(f:List Int->List Int×Int)(p:List Int):Nat->Nat->List Int×Int->List Int×Int
 |0,_,a=>a
 |w+1,k,a=>qn f p w (k+1) (if(f (p++[(k:Int)])).2<a.2 then f (p++[(k:Int)]) else a)
def gX(m:aj):Nat->List Int->List Int×Int
 |0,p=>if 1099511627776<=fM m p then([],1099511627776) else(p,fM m p)
 |d+1,p=>qn (gX m d) p (m.cls.getD p.length default).length 0 ([],1099511627776)
def oK(f:List Int->List Int×Int->List Int×Int)(p:List Int):Nat->Nat->List Int×Int->List Int×Int
 |0,_,a=>a
 |w+1,k,a=>oK f p w (k+1) (f (p++[(k:Int)]) a)
def jv(m:aj):Nat->List Int->List Int×Int->List Int×Int
 |0,p,a=>if fM m p<a.2 then(p,fM m p) else a
 |d+1,p,a=>oK (jv m d) p (m.cls.getD p.length default).length 0 a
def Tv{f:List Int->List Int×Int}{g:List Int->List Int×Int->List Int×Int}(p:List Int)(hg:∀ q a,a.2<=1099511627776->g q a=if(f q).2<a.2 then f q else a):∀ (w k:Nat) (a b:List Int×Int),b.2<=1099511627776 ->
  oK g p w k (if b.2<a.2 then b else a)=(if(qn f p w k b).2<a.2 then qn f p w k b else a)\/1099511627776<a.2
 |0,k,a,b,hb=>.inl rfl
 |w+1,k,a,b,hb=>by
  by_cases ha:1099511627776<a.2
  ·exact .inr ha
  rw[oK,qn,hg _ _ (by split<;>omega)];have h1:(if(f (p++[(k:Int)])).2<(if b.2<a.2 then b else a).2 then f (p++[(k:Int)]) else if b.2<a.2 then b else a)=(if(if(f (p++[(k:Int)])).2<b.2 then f (p++[(k:Int)]) else b).2<a.2 then(if(f (p++[(k:Int)])).2<b.2 then f (p++[(k:Int)]) else b) else a):=by
   generalize f (p++[(k:Int)])=x;by_cases c1:b.2<a.2
   ·rw[if_pos c1];by_cases c2:x.2<b.2
    ·rw[if_pos c2,if_pos I6]
    ·rw[if_neg c2,if_pos c1]
   ·rw[if_neg c1];by_cases c2:x.2<b.2
    ·rw[if_pos c2]
    ·rw[if_neg c2,if_neg c1,if_neg I6]
  rw[h1];exact Tv p hg w (k+1) a _ (by split<;>omega)
def Tw{f:List Int->List Int×Int}(p:List Int):∀ (w k:Nat) (a:List Int×Int),(qn f p w k a).2<=a.2
 |0,k,a=>dy _
 |w+1,k,a=>by
  rw[qn];refine oP (Tw p w (k+1) _) ?_;split<;>omega
def Tx(m:aj):∀ (d:Nat) (p:List Int),(gX m d p).2<=1099511627776
 |0,p=>by unfold gX;split<;>(dsimp only;omega)
 |d+1,p=>Tw p _ _ _
def HX(m:aj):∀ (d:Nat) (p:List Int) (a:List Int×Int),a.2<=1099511627776->jv m d p a=if(gX m d p).2<a.2 then gX m d p else a
 |0,p,a,ha=>by
  unfold jv gX;by_cases h:1099511627776<=fM m p
  ·rw[if_pos h,if_neg I6,if_neg aaK]
  ·rw[if_neg h]
 |d+1,p,a,ha=>by
  unfold jv gX;have h:=(Tv p (λq b hb=>HX m d q b hb) (m.cls.getD p.length default).length 0 a ([],1099511627776) (dy _)).resolve_right I6;rw[if_neg aaK]at h;exact h
def Ext(m:aj)(p q:List Int):Prop:=FP m q/\∃ r,q=p++r
def Tz{f:List Int->List Int×Int->List Int×Int}{p:List Int}{a:List Int×Int}:∀ (w k:Nat),(∀ j,k<=j->j<k+w->f (p++[(j:Int)]) a=a)->oK f p w k a=a
 |0,k,h=>rfl
 |w+1,k,h=>by rw[oK,h k (aG _) I6];exact Tz w (k+1) λj h1 h2=>h j I6 I6
structure BP(m:aj)(p:List Int):Prop where
 len:p.length<=m.cls.length
 get:∀ j,j<p.length->0<=p.getD j 0/\p.getD j 0<(m.cls.getD j default).length
def D2{p q:List Int}{j:Nat}(h:j<p.length):(p++q).getD j 0=p.getD j 0:=by
 rw[aA,cd h,<- aA]
def HY{p:List Int}{x:Int}:(p++[x]).getD p.length 0=x:=by
 rw[aA,eu (aG _),lV];rfl
def BP.snoc{m:aj}{p:List Int}(h:BP m p){k:Nat}(h1:p.length<m.cls.length)(hk:k<(m.cls.getD p.length default).length):BP m (p++[(k:Int)]):=⟨by rw[bR];exact h1,λj hj=>by
 rw[bR]at hj;by_cases e:j<p.length
 ·rw[D2 e];exact h.get j e
 ·obtain rfl:j=p.length:=by simp at hj;omega
  rw[HY];omega⟩
def BP.fp{m:aj}{p:List Int}(h:BP m p)(hl:p.length=m.cls.length):FP m p:=⟨hl,λj hj=>gV.2 (by
 have:=h.get j hj;rw[gA];omega)⟩
def TA{m:aj}:∀ (d:Nat) (p:List Int) (a:List Int×Int),BP m p->p.length+d=m.cls.length->(∀ q,Ext m p q->a.2<=fM m q)->jv m d p a=a
 |0,p,a,hp,hd,h=>by
  have:=h p ⟨hp.fp I6,[],Jd⟩;unfold jv;rw[if_neg I6]
 |d+1,p,a,hp,hd,h=>by
  unfold jv;refine Tz _ _ λj _ hj=>?_;refine TA d _ a (hp.snoc I6 I6) (by rw[bR];simp;omega) λq hq=>h q ⟨hq.1,?_⟩;obtain⟨r,rfl⟩:=hq.2;exact⟨(j:Int)::r,Jd⟩
def sQ(m:aj)(left:List (List Bool)):Int:=mS m left (S0 m,T0 m)
mutual
inductive Tr(m:aj)(P:List Nd):Nat->Nat->List (List Bool)->List Int->List Int->Prop
 |leaf (lo:Nat) (left:List (List Bool)) (ab:List Int) (h:nd P lo=kU []) (ha:(-1:Int) ∉ ab):Tr m P lo (lo+1) left ab [sQ m left]
 |node (lo hi:Nat) (left:List (List Bool)) (ab:List Int) (c:Nat) (ks vs:List Int) (h:nd P lo=⟨c,ks,[],[],[]⟩) (hc:c<m.cls.length) (ha:(c:Int) ∉ ab) (hk:ks.length=(m.cls.getD c default).length) (hs:jT m P (lo+1) hi left c (ab++[(c:Int)]) 0 ks vs):Tr m P lo hi left ab vs
inductive jT(m:aj)(P:List Nd):Nat->Nat->List (List Bool)->Nat->List Int->Nat->List Int->List Int->Prop
 |nil (lo:Nat) (left:List (List Bool)) (c:Nat) (ab:List Int) (o:Nat):jT m P lo lo left c ab o [] []
 |cons (lo mid hi:Nat) (left:List (List Bool)) (c:Nat) (ab:List Int) (o:Nat) (ks v vs:List Int) (h:Tr m P lo mid (bN left c o) ab v) (hs:jT m P mid hi left c ab (o+1) ks vs):jT m P lo hi left c ab o ((lo:Int)::ks) (v++vs)
end
variable {m:aj} {P P':List Nd} {lo mid hi c o:Nat} {left:List (List Bool)} {ab ks v w:List Int}
def jT.snoc(h2:Tr m P mid hi (bN left c (o+ks.length)) ab w)(h:jT m P lo mid left c ab o ks v):jT m P lo hi left c ab o (ks++[(mid:Int)]) (v++w):=by
 induction ks generalizing lo o v with
 |nil =>
  cases h;have:=jT.cons _ _ _ left c ab o [] w [] h2 (.nil _ _ _ _ _);simpa using this
 |cons k ks ih =>
  cases h with
  |cons _ aca _ _ _ _ _ _ v1 vs h1 hs =>
   rw[dC];exact .cons _ _ _ _ _ _ _ _ _ _ h1 (ih (by rw[List.length_cons]at h2;rwa [show o+1+ks.length=o+(ks.length+1) by omega]) hs)
mutual
def Tr.vt{lo hi:Nat}{left:List (List Bool)}{ab v:List Int}:Tr m P lo hi left ab v->iZ m P (λ_=>True) lo hi ab
 |.leaf _ _ _ h ha=>.leaf _ _ [] h (aQ _) (λ_ h=>by cases h) ha trivial
 |.node _ _ _ _ c ks _ h hc ha hk hs=>.node _ _ _ c ks h hc ha hk hs.yU
def jT.yU{lo hi c o:Nat}{left:List (List Bool)}{ab ks v:List Int}:jT m P lo hi left c ab o ks v->ja m P (λ_=>True) lo hi ab ks
 |.nil _ _ _ _ _=>.nil _ _
 |.cons _ mid _ _ _ _ _ _ _ _ h hs=>.cons _ mid _ _ _ h.vt hs.yU
end
mutual
def Tr.frame{lo hi:Nat}{left:List (List Bool)}{ab v:List Int}:Tr m P lo hi left ab v->(∀ i,lo<=i->i<hi->nd P' i=nd P i)->Tr m P' lo hi left ab v
 |.leaf _ _ _ h ha,hf=>.leaf _ _ _ ((hf _ (aG _) (m5 _)).trans h) ha
 |.node _ _ _ _ c ks _ h hc ha hk hs,hf=>.node _ _ _ _ c ks _ ((hf _ (aG _) (by have:=hs.yU.le;omega)).trans h) hc ha hk (hs.frame λi h1 h2=>hf i I6 h2)
def jT.frame{lo hi c o:Nat}{left:List (List Bool)}{ab ks v:List Int}:jT m P lo hi left c ab o ks v->(∀ i,lo<=i->i<hi->nd P' i=nd P i)->jT m P' lo hi left c ab o ks v
 |.nil _ _ _ _ _,_=>.nil _ _ _ _ _
 |.cons _ mid _ _ _ _ _ _ _ _ h hs,hf=>.cons _ mid _ _ _ _ _ _ _ _ (h.frame λi h1 h2=>hf i h1 (by have:=hs.yU.le;omega)) (hs.frame λi h1 h2=>hf i (by have:=h.vt.lt;omega) h2)
end
def A1(m:aj)(P:List Nd)(t:dX)(x:Int):Prop:=(nd P t.1).cls = -1/\(nd P t.1).eI=[]/\(nd P t.1).dh=[]/\sQ m t.2.1=x
mutual
def Tr.leaves{lo hi:Nat}{left:List (List Bool)}{ab v:List Int}(hd:Down P):Tr m P lo hi left ab v->hi<=P.length->(∀ t∈vs P (lo,left,ab),(nd P t.1).cls = -1->∃ x∈v,A1 m P t x)/\∀ x∈v,∃ t∈vs P (lo,left,ab),A1 m P t x
 |.leaf lo left ab h ha,hh=>by
  rw[HU hd (by show lo<_;omega) (by show(nd P lo).kids=[];rw[h];rfl)];have hl:A1 m P (lo,left,ab) (sQ m left):=⟨by show(nd P lo).cls = -1;rw[h];rfl,by show(nd P lo).eI=[];rw[h];rfl,by show(nd P lo).dh=[];rw[h];rfl,rfl⟩;constructor
  ·intro t ht _;rw[ew]at ht;subst ht;exact⟨_,Jd,hl⟩
  ·intro x hx;rw[ew]at hx;subst hx;exact⟨_,Jd,hl⟩
 |.node lo hi left ab c ks vl h hc ha hk hs,hh=>by
  have hle:=hs.yU.le;obtain⟨i1,i2⟩:=hs.leaves hd hh;have po:∀ o,ml P (lo,left,ab) o=((ks.getD o 0).toNat,bN left c o,ab++[(c:Int)]):=λo=>by
   unfold ml;dsimp only;rw[h];rfl
  have cr:(nd P lo).kids=ks:=by rw[h]
  rw[yO hd (by show lo<_;omega)];constructor
  ·intro t ht cy;rw[b8]at ht;rcases ht with rfl|ht
   ·dsimp only at cy;rw[h]at cy;exact absurd (show(c:Int) = -1 from cy) I6
   ·obtain⟨u,hu,ht⟩:=EV.1 ht;obtain⟨o,ho,rfl⟩:=wV (vO.1 hu);dsimp only at ho;rw[cr]at ho;rw[po]at ht;rw[<- eW o]at ht;exact i1 o ho t (by simpa using ht) cy
  ·intro x hx;obtain⟨o,ho,t,ht,hl⟩:=i2 x hx;rw[eW]at ht;refine⟨t,List.mem_cons_of_mem _ (EV.2 ⟨ml P (lo,left,ab) o,vO.2 ?_,by rw[po];exact ht⟩),hl⟩;unfold qj im;exact bZ.2 ⟨o,lz.2 (by show o<(nd P lo).kids.length;rw[cr];exact ho),rfl⟩
def jT.leaves{lo hi c o:Nat}{left:List (List Bool)}{ab ks v:List Int}(hd:Down P):jT m P lo hi left c ab o ks v->hi<=P.length->(∀ i,i<ks.length->∀ t∈vs P ((ks.getD i 0).toNat,bN left c (o+i),ab),(nd P t.1).cls = -1->∃ x∈v,A1 m P t x)/\∀ x∈v,∃ i,i<ks.length/\∃ t∈vs P ((ks.getD i 0).toNat,bN left c (o+i),ab),A1 m P t x
 |.nil _ _ _ _ _,_=>⟨λi hi=>(by cases hi),λx hx=>(by cases hx)⟩
 |.cons lo mid hi left c ab o ks v w h hs,hh=>by
  have hle:=hs.yU.le;obtain⟨a1,a2⟩:=h.leaves hd I6;obtain⟨b1,b2⟩:=hs.leaves hd hh;constructor
  ·intro i hi t ht cy;cases i with
   |zero =>
    rw[fQ,gA]at ht;obtain⟨x,hx,hl⟩:=a1 t ht cy;exact⟨x,List.mem_append_left _ hx,hl⟩
   |succ i =>
    rw[ep,show o+(i+1)=o+1+i by omega]at ht;obtain⟨x,hx,hl⟩:=b1 i (by simpa using hi) t ht cy;exact⟨x,List.mem_append_right _ hx,hl⟩
  ·intro x hx;rcases cj.1 hx with hx|hx
   ·obtain⟨t,ht,hl⟩:=a2 x hx;exact⟨0,Jd,t,by rw[fQ,gA];exact ht,hl⟩
   ·obtain⟨i,hi,t,ht,hl⟩:=b2 x hx;exact⟨i+1,by simpa using hi,t,by rw[ep,show o+(i+1)=o+1+i by omega];exact ht,hl⟩
end
def kW(l:List Int)(b:Int):Int:=l.foldl min b
def D3:∀ (l:List Int) (b:Int),kW l b<=b/\(∀ x∈l,kW l b<=x)/\(kW l b=b\/kW l b∈l)
 |[],b=>⟨dy _,λ_ h=>(by cases h),.inl rfl⟩
 |x::l,b=>by
  obtain⟨h1,h2,h3⟩:=D3 l (min b x);have e:kW (x::l) b=kW l (min b x):=rfl;rw[e];refine⟨I6,λy hy=>?_,?_⟩
  ·rcases b8.1 hy with rfl|hy
   ·omega
   ·exact h2 y hy
  ·rcases h3 with h3|h3
   ·rcases Int.le_total b x with hb|hb
    ·left;rw[h3];omega
    ·right;rw[h3,Int.min_eq_right hb];simp
   ·right;simp[h3]
def ach(l k:List Int)(b:Int):kW (l++k) b=kW k (kW l b):=List.foldl_append
def Tr.dU(hm:VM m){v:List Int}(h:Tr m P 0 P.length (dt m) [] v)(hn:P.length<=20000):lL m P=(kW v 1099511627776,true):=by
 have yV:=h.vt.shaped hn;have hd:=DW yV;obtain⟨n,h1,h2⟩:=h.vt.dU hm hn;obtain⟨l1,l2⟩:=h.leaves hd (aG _);obtain⟨_,_,hr⟩:=TB h1;obtain⟨q1,q2⟩:=TC hr;obtain⟨m1,m2,m3⟩:=D3 v 1099511627776;have e1:kW v 1099511627776<=n:=h2 _ m1 λs hs cy=>by
  obtain⟨x,hx,_,HZ,_,hv⟩:=l1 s hs cy;rw[HZ,TD];have:=m2 x hx;unfold sQ at hv;dsimp only;omega
 have e2:n<=kW v 1099511627776:=by
  rcases m3 with e|e
  ·omega
  ·obtain⟨t,ht,cy,HZ,hgr,hv⟩:=l2 _ e;have:=(q2 t ht).2 cy;rw[hgr,if_neg Jd,HZ,TD]at this;unfold sQ at hv;dsimp only at this;omega
 rw[h1,show n=kW v 1099511627776 by omega]
def acj(m:aj)(left:List (List Bool)):dI m left<=1099511627776:=by
 unfold dI yG;split<;>omega
structure Dn(m:aj)(left:List (List Bool))(p:List Int):Prop where
 fit:ej m left
 bp:BP m p
 one:∀ j,j<p.length->left.getD j default=lq (m.cls.getD j default).length (p.getD j 0).toNat
 all:∀ j,p.length<=j->j<m.cls.length->left.getD j default=List.replicate (m.cls.getD j default).length true
variable {m:aj} {left:List (List Bool)} {p:List Int}
def Dn.root(hm:VM m):Dn m (dt m) []:=by
 refine⟨DX hm,⟨aQ _,λj hj=>(by cases hj)⟩,λj hj=>(by cases hj),λj _ hj=>?_⟩;unfold dt mj;rw[if_pos (fc.2 hm),ik _ _ _ hj]
def TE{left:List (List Bool)}{c j:Nat}(x:List Bool)(h:c≠j):(left.set c x).getD j default=left.getD j default:=by
 rw[aA,List.getElem?_set_ne h,<- aA]
def Dn.next(h:Dn m left p)(hc:p.length<m.cls.length){k:Nat}(hk:k<(m.cls.getD p.length default).length):Dn m (bN left p.length k) (p++[(k:Int)]):=by
 refine⟨HG h.fit (GA _ _ _),h.bp.snoc hc hk,λj hj=>?_,λj h1 h2=>?_⟩
 ·unfold bN;rw[bR]at hj;by_cases e:j<p.length
  ·rw[TE _ I6,D2 e];exact h.one j e
  ·obtain rfl:j=p.length:=by simp at hj;omega
   rw[SJ _ _ _ (by rw[h.fit.1];exact hc),HY,h.fit.2 _ (by rw[h.fit.1];exact hc)];rfl
 ·unfold bN;rw[bR]at h1;rw[TE _ (by simp at h1;omega)];exact h.all j I6 h2
def Dn.single(h:Dn m left p)(hc:p.length<left.length)(h1:(left.getD p.length default).length=1):Dn m left (p++[0]):=by
 have jZ:p.length<m.cls.length:=by rw[<- h.fit.1];exact hc
 have hl:=h.fit.2 _ hc;refine⟨h.fit,h.bp.snoc (k:=0) jZ I6,λj hj=>?_,λj h2 h3=>h.all j (by rw[bR]at h2;omega) h3⟩;rw[bR]at hj;by_cases e:j<p.length
 ·rw[D2 e];exact h.one j e
 ·obtain rfl:j=p.length:=by simp at hj;omega
  rw[HY,h.all _ (aG _) jZ,<- hl,h1];rfl
def Dn.skip:∀ (k:Nat) (p:List Int),left.length-p.length=k->Dn m left p->∃ r:List Int,Dn m left (p++r)/\(p++r).length=cC left p.length/\∀ a,jv m (m.cls.length-p.length) p a=jv m (m.cls.length-(p++r).length) (p++r) a
 |k,p,hk,h=>by
  by_cases hc:p.length<left.length/\(left.getD p.length default).length=1
  ·have h1:=h.single hc.1 hc.2;obtain⟨r,a1,a2,a3⟩:=Dn.skip (k-1) (p++[0]) (by rw[bR];simp;omega) h1;have e:p++[0]++r=p++(0::r):=Jd;rw[e]at a1 a2 a3;refine⟨0::r,a1,?_,λa=>?_⟩
   ·rw[HW hc,a2];simp
   ·rw[<- a3 a];have hl:=h.fit.2 _ hc.1;have bq:p.length<m.cls.length:=by rw[<- h.fit.1];exact hc.1
    rw[show m.cls.length-p.length=(m.cls.length-(p++[0]).length)+1 by simp;omega,jv,<- hl,hc.2];rfl
  ·exact⟨[],by simpa using h,by rw[D1 hc];simp,λa=>Jd⟩
termination_by k p _ _=>left.length-p.length
decreasing_by simp;omega
def Dn.RL(h:Dn m left p){q:List Int}(hq:Ext m p q):vo m left q:=λi hi=>by
 obtain⟨hf,r,rfl⟩:=hq;have hg:=gV.1 (hf.get i (by rw[hf.len];exact hi));rw[gA]at hg;by_cases e:i<p.length
 ·have:=h.bp.get i e;rw[h.one i e,D2 e,Tu I6,decide_eq_true rfl]
 ·rw[h.all i I6 hi,aA,ug,if_pos I6];rfl
def TF:∀ (w o:Nat) (i:Int),o<w->p8 (lq w o) i=i+o
 |0,o,i,h=>I6
 |w+1,0,i,h=>by
  unfold lq;rw[Jf,List.set_cons_zero,p8,if_pos rfl];simp
 |w+1,o+1,i,h=>by
  have:=TF w o (i+1) I6;unfold lq at *;rw[Jf,List.set_cons_succ,p8,if_neg Jd,this];omega
def Dn.H0(h:Dn m left p)(hl:p.length=m.cls.length):iD left=p:=by
 unfold iD;apply List.ext_getElem
 ·rw[ed,h.fit.1,hl]
 ·intro i h1 h2;rw[List.getElem_map];have a1:=h.one i h2;have a2:=h.bp.get i h2;have e1:left[i]'(by rw[ed]at h1;exact h1)=left.getD i default:=by
   rw[aA,bT (by rw[ed]at h1;exact h1)];rfl
  have e2:p[i]=p.getD i 0:=by rw[aA,bT h2];rfl
  rw[e1,e2,a1,TF _ _ _ I6];omega
def Dn.ack(h:Dn m left p)(hl:p.length=m.cls.length):yF m left p:=λi hi j=>by
 have:=h.bp.get i I6;rw[h.one i I6,Tu I6]
def Dn.bound(hm:VM m)(h:Dn m left p){q:List Int}(hq:Ext m p q):dI m left<=fM m q:=by
 rw[AK hm h.fit];exact RQ hm hq.1 left h.fit (h.RL hq) [] (λ_ h=>by cases h)
def Dn.exact(hm:VM m)(h:Dn m left p)(hl:p.length=m.cls.length):dI m left=fM m p:=by
 rw[AK hm h.fit];exact aaY hm (h.bp.fp hl) left h.fit (h.ack hl) [] (λ_ h=>by cases h)
structure DL(m:aj)(left:List (List Bool))(p:List Int)(s r:DS):Prop where
 aU:r.aU<=s.aU
 bl:r.bY<=s.bY
 bt:r.aU<s.aU->r.bY<=r.aU
 wh:r.whole=true->s.whole=true/\(r.plan,r.aU)=jv m (m.cls.length-p.length) p (s.plan,s.aU)/\min s.bY r.aU<=r.bY
 room:(r.nodes.length:Int)+r.room=s.nodes.length+s.room+1
 rm0:0<=s.room->0<=r.room
 lt:s.nodes.length<r.nodes.length
 pre:∀ i,i<s.nodes.length->nd r.nodes i=nd s.nodes i
 tr:∀ ab:List Int,(∀ x∈ab,0<=x/\x<p.length)->∃ v,Tr m r.nodes s.nodes.length r.nodes.length left ab v/\r.bY=kW v s.bY
def DL.leaf(hm:VM m)(h:ej m left){s r:DS}(hn:r.nodes=s.nodes++[kU []])(hr:r.room=s.room)(hb:r.bY=min s.bY (dI m left))(ht:r.aU<=s.aU)(gY:r.aU<s.aU->r.aU=dI m left)(hw:r.whole=true->s.whole=true/\(r.plan,r.aU)=jv m (m.cls.length-p.length) p (s.plan,s.aU)/\r.aU<=dI m left):DL m left p s r:=by
 refine⟨ht,I6,λh=>by have:=gY h;omega,λh=>?_,by rw[hn,hr];simp;omega,λh=>I6,by rw[hn];simp,λi hi=>by rw[hn];exact Ts hi,λab oJ=>⟨[sQ m left],?_,?_⟩⟩
 ·obtain⟨a,b,c⟩:=hw h;exact⟨a,b,I6⟩
 ·rw[hn,bR];exact .leaf _ _ _ acg (λh=>by have:=oJ _ h;omega)
 ·rw[hb];unfold kW sQ;rw[AK hm h];rfl
def TG{f:List (List Bool)->DS->DS}{ab:List Int}(hf:∀ k s,k<(m.cls.getD p.length default).length->DL m (bN left p.length k) (p++[(k:Int)]) s (f (bN left p.length k) s))(oJ:∀ x∈ab,0<=x/\x<p.length+1):∀ (w o:Nat) (s:DS) (ks:List Int) (lo:Nat) (v:List Int),o+w=(m.cls.getD p.length default).length->ks.length=o->lo<=s.nodes.length->jT m s.nodes lo s.nodes.length left p.length ab 0 ks v ->
  (fi f left p.length w o s ks).1.aU<=s.aU/\(fi f left p.length w o s ks).1.bY<=s.bY/\((fi f left p.length w o s ks).1.aU<s.aU->(fi f left p.length w o s ks).1.bY<=(fi f left p.length w o s ks).1.aU) /\
  ((fi f left p.length w o s ks).1.whole=true->s.whole=true/\((fi f left p.length w o s ks).1.plan,(fi f left p.length w o s ks).1.aU)=oK (jv m (m.cls.length-(p.length+1))) p w o (s.plan,s.aU)/\min s.bY (fi f left p.length w o s ks).1.aU<=(fi f left p.length w o s ks).1.bY) /\
  (((fi f left p.length w o s ks).1.nodes.length:Int)+(fi f left p.length w o s ks).1.room=s.nodes.length+s.room+w)/\(0<=s.room->0<=(fi f left p.length w o s ks).1.room)/\s.nodes.length<=(fi f left p.length w o s ks).1.nodes.length /\
  (∀ i,i<s.nodes.length->nd (fi f left p.length w o s ks).1.nodes i=nd s.nodes i)/\(fi f left p.length w o s ks).2.length=o+w /\
  ∃ u,jT m (fi f left p.length w o s ks).1.nodes lo (fi f left p.length w o s ks).1.nodes.length left p.length ab 0 (fi f left p.length w o s ks).2 (v++u)/\(fi f left p.length w o s ks).1.bY=kW u s.bY
 |0,o,s,ks,lo,v,ho,hk,gI,hs=>⟨dy _,dy _,λh=>absurd h (EW _),λh=>⟨h,rfl,by show min s.bY s.aU<=s.bY;omega⟩,by show(s.nodes.length:Int)+s.room=_;simp,λh=>h,aG _,λ_ _=>rfl,hk,[],by simpa [fi] using hs,rfl⟩
 |w+1,o,s,ks,lo,v,ho,hk,gI,hs=>by
  have h:=hf o s I6;generalize hr:f (bN left p.length o) s=r at h;have nu:(p++[(o:Int)]).length=p.length+1:=Jd;obtain⟨t1,t2,t3,t4,t5,t6,t7,t8,t9⟩:=h;obtain⟨u,hu,hub⟩:=t9 ab λx hx=>by rw[nu];exact oJ x hx
  have jc:=jT.snoc (ks:=ks) (o:=0) (by rw[hk,eW];exact hu) (hs.frame λi _ h2=>t8 i h2);obtain⟨i1,i2,i3,i4,i5,i6,i7,i8,i9,u2,i10,i11⟩:=TG hf oJ w (o+1) r (ks++[(s.nodes.length:Int)]) lo (v++u) I6 (by simp[hk]) I6 jc;rw[fi,hr];generalize fi f left p.length w (o+1) r (ks++[(s.nodes.length:Int)])=z at *;refine⟨I6,I6,λbq=>?_,λhw=>?_,I6,λh=>i6 (t6 h),I6,λi hi=>(i8 i I6).trans (t8 i hi),I6,u++u2,by rw[<- dC];exact i10,by rw[i11,hub,ach]⟩
  ·by_cases e:z.1.aU<r.aU
   ·exact i3 e
   ·have:=t3 I6;omega
  ·obtain⟨a1,a2,a3⟩:=i4 hw;obtain⟨b1,b2,b3⟩:=t4 a1;refine⟨b1,?_,I6⟩;rw[a2,oK];rw[nu]at b2;rw[b2]
def D4(hm:VM m):∀ (f:Nat) (left:List (List Bool)) (p:List Int) (s:DS),left.length+1<=f+p.length->Dn m left p->DL m left p s (jS m f p.length left s)
 |0,left,p,s,hf,h=>by have:=h.bp.len;rw[<- h.fit.1]at this;omega
 |f+1,left,p,s,hf,h=>by
  obtain⟨r,h1,h2,h3⟩:=Dn.skip (left:=left) _ p rfl h;obtain⟨g1,g2,g3,g4⟩:=wY (left:=left) _ p.length rfl;have cE:p.length<=left.length:=by rw[h.fit.1];exact h.bp.len
  have dT:=h.fit;rw[jS];split
  ·rename_i hv;refine DL.leaf hm dT rfl rfl rfl (dy _) (λh=>absurd h (EW _)) λhw=>⟨hw,?_,hv⟩;exact(TA _ p (s.plan,s.aU) h.bp (by have:=h.bp.len;omega) λq hq=>oP hv (h.bound hm hq)).symm
  rename_i hv;split
  ·rename_i he;have qJ:(p++r).length=m.cls.length:=by rw[h2,he,dT.1]
   refine DL.leaf hm dT rfl rfl rfl aaK (λ_=>rfl) λhw=>⟨hw,?_,dy _⟩;rw[h3,qJ,lV,jv,<- h1.exact hm qJ,if_pos aaK,h1.H0 qJ]
  rename_i he;split
  ·exact DL.leaf hm dT rfl rfl rfl (dy _) (λh=>absurd h (EW _)) λhw=>by cases hw
  rename_i nC;rw[not_or]at nC;rw[<- h2]at he nC ⊢;have bq:(p++r).length<m.cls.length:=by
   have:=h1.bp.len;rw[dT.1]at he;omega
  have aZ:(left.getD (p++r).length default).length=(m.cls.getD (p++r).length default).length:=dT.2 _ (by rw[dT.1];exact bq);have H2:p.length<=(p++r).length:=Jd;generalize hP:p++r=P at *;have hK:=λab oJ=>TG (m:=m) (left:=left) (p:=P) (f:=jS m f (P.length+1)) (ab:=ab) (λk s' hk=>by
   have:=D4 hm f (bN left P.length k) (P++[(k:Int)]) s' (by rw[show(bN left P.length k).length=left.length by unfold bN;simp];simp;omega) (h1.next bq hk);rwa [show(P++[(k:Int)]).length=P.length+1 by simp]at this) oJ (left.getD P.length default).length 0 (jR left P.length (dI m left) s) [] (jR left P.length (dI m left) s).nodes.length [] I6 rfl (aG _) (.nil _ _ _ _ _)
  obtain⟨i1,i2,i3,i4,i5,i6,i7,i8,i9,_⟩:=hK [] (λx hx=>by cases hx);have p6:=λab oJ=>(hK ab oJ).2.2.2.2.2.2.2.2.2;clear hK;generalize fi (jS m f (P.length+1)) left P.length (left.getD P.length default).length 0 (jR left P.length (dI m left) s) []=z at *;unfold jR at *;dsimp only at *;have aq:(s.nodes++[kU []]).length=s.nodes.length+1:=Jd;rw[aq]at i5 i7 i8;have A2:∀ i,i≠s.nodes.length->nd (sP P.length s.nodes.length z).nodes i=nd z.1.nodes i:=λi hi=>by
   unfold sP;rw[Tt I6,if_neg hi]
  have SM:nd (sP P.length s.nodes.length z).nodes s.nodes.length=⟨(P.length:Int),z.2,[],[],[]⟩:=by
   unfold sP;rw[Tt I6,if_pos rfl]
  have j7:(sP P.length s.nodes.length z).nodes.length=z.1.nodes.length:=by unfold sP;simp
  refine⟨i1,i2,i3,λhw=>?_,by rw[j7];show(z.1.nodes.length:Int)+z.1.room=_;omega,λh=>i6 I6,by rw[j7];omega,λi hi=>?_,λab oJ=>?_⟩
  ·obtain⟨a1,a2,a3⟩:=i4 hw;refine⟨a1,?_,a3⟩;rw[h3,show m.cls.length-P.length=(m.cls.length-(P.length+1))+1 by omega,jv,<- aZ];exact a2
  ·rw[A2 i I6,i8 i I6];exact Ts hi
  ·obtain⟨u,hu,hb⟩:=p6 (ab++[(P.length:Int)]) λx hx=>by
    rcases cj.1 hx with hx|hx
    ·have:=oJ x hx;omega
    ·rw[ew]at hx;omega
   rw[List.nil_append,aq]at hu;refine⟨u,?_,hb⟩;rw[j7];refine .node _ _ _ _ P.length z.2 _ SM bq (λhx=>by have:=oJ _ hx;omega) (by rw[i9];omega) ?_;exact hu.frame λi h1 _=>A2 i I6
def jH(m:aj):Nat->Nat
 |0=>1
 |d+1=>(m.cls.getD (m.cls.length-(d+1)) default).length*jH m d
variable {m:aj} {left:List (List Bool)} {p:List Int}
def TH{c:Nat}(h:c<m.cls.length):jH m (m.cls.length-c)=(m.cls.getD c default).length*jH m (m.cls.length-(c+1)):=by
 rw[show m.cls.length-c=(m.cls.length-(c+1))+1 by omega,jH,show m.cls.length-(m.cls.length-(c+1)+1)=c by omega]
def H3(mV:∀ l∈m.cls,1<=l.length):∀ d,d<=m.cls.length->1<=jH m d
 |0,_=>aG _
 |d+1,h=>Nat.mul_pos (mV _ (aC I6)) (H3 mV d I6)
def TI:∀ (k a b:Nat),b-a=k->a<=b->b<=m.cls.length->(∀ j,a<=j->j<b->(m.cls.getD j default).length=1)->jH m (m.cls.length-a)=jH m (m.cls.length-b)
 |0,a,b,hk,h1,h2,h=>by rw[show a=b by omega]
 |k+1,a,b,hk,h1,h2,h=>by
  rw[TH I6,h a (aG _) I6,pz];exact TI k (a+1) b I6 I6 h2 λj h3 h4=>h j I6 h4
def TJ{f:List (List Bool)->DS->DS}{c N Q:Nat}(hf:∀ k s,k<N->s.whole=true->(2*Q-2:Int)<=s.room->(Q-1:Int)<=s.spl->(f (bN left c k) s).whole=true/\s.room-(2*Q-2)<=(f (bN left c k) s).room/\s.spl-(Q-1)<=(f (bN left c k) s).spl)(hQ:1<=Q):
  ∀ (w o:Nat) (s:DS) (ks:List Int),o+w=N->s.whole=true->(w:Int)*(2*Q-2)<=s.room->(w:Int)*(Q-1)<=s.spl->(fi f left c w o s ks).1.whole=true/\s.room-(w:Int)*(2*Q-2)<=(fi f left c w o s ks).1.room/\s.spl-(w:Int)*(Q-1)<=(fi f left c w o s ks).1.spl
 |0,o,s,ks,ho,h1,h2,h3=>⟨h1,by show s.room-_<=s.room;omega,by show s.spl-_<=s.spl;omega⟩
 |w+1,o,s,ks,ho,h1,h2,h3=>by
  have e1:((w+1:Nat):Int)*(2*Q-2)=(w:Int)*(2*Q-2)+(2*Q-2):=by rw[uo,Jj];simp
  have e2:((w+1:Nat):Int)*(Q-1)=(w:Int)*(Q-1)+(Q-1):=by rw[uo,Jj];simp
  have p1:0<=(w:Int)*(2*Q-2):=rR I6 I6;have p2:0<=(w:Int)*(Q-1):=rR I6 I6;rw[e1]at h2 ⊢;rw[e2]at h3 ⊢;obtain⟨a,b,c'⟩:=hf o s I6 h1 I6 I6;obtain⟨x,y,z⟩:=TJ hf hQ w (o+1) (f (bN left c o) s) (ks++[(s.nodes.length:Int)]) I6 a I6 I6;rw[fi];exact⟨x,I6,I6⟩
def H4(hm:VM m)(mV:∀ l∈m.cls,1<=l.length):∀ (f:Nat) (left:List (List Bool)) (p:List Int) (s:DS),left.length+1<=f+p.length->Dn m left p->s.whole=true->(2*jH m (m.cls.length-p.length)-2:Int)<=s.room->(jH m (m.cls.length-p.length)-1:Int)<=s.spl ->
  (jS m f p.length left s).whole=true/\s.room-(2*jH m (m.cls.length-p.length)-2)<=(jS m f p.length left s).room/\s.spl-(jH m (m.cls.length-p.length)-1)<=(jS m f p.length left s).spl
 |0,left,p,s,hf,h,_,_,_=>by have:=h.bp.len;rw[<- h.fit.1]at this;omega
 |f+1,left,p,s,hf,h,hw,hr,hs=>by
  obtain⟨r,h1,h2,h3⟩:=Dn.skip (left:=left) _ p rfl h;obtain⟨g1,g2,g3,g4⟩:=wY (left:=left) _ p.length rfl;have dT:=h.fit;have TK:=H3 mV (m.cls.length-p.length) I6;rw[jS];split
  ·exact⟨hw,by show _<=s.room;omega,by show _<=s.spl;omega⟩
  split
  ·exact⟨hw,by show _<=s.room;omega,by show _<=s.spl;omega⟩
  rename_i he;rw[<- h2]at he g1 g3 g4 ⊢;have H2:p.length<=(p++r).length:=Jd;have bq:(p++r).length<m.cls.length:=by
   have:=h1.bp.len;rw[dT.1]at he;omega
  have aZ:(left.getD (p++r).length default).length=(m.cls.getD (p++r).length default).length:=dT.2 _ (by rw[dT.1];exact bq);have jX:=TI (m:=m) _ p.length (p++r).length rfl H2 I6 λj h4 h5=>by rw[<- dT.2 j (g3 j h4 h5).1];exact(g3 j h4 h5).2
  rw[jX]at hr hs TK ⊢;generalize hP:p++r=P at *;have nx:2<=(m.cls.getD P.length default).length:=by
   have:=mV _ (aC (d:=default) bq);have:=g4 (by rw[dT.1];exact bq);omega
  rw[TH bq]at hr hs TK ⊢;have hQ:=H3 mV (m.cls.length-(P.length+1)) I6;have ih:=λk s' hk=>H4 hm mV f (bN left P.length k) (P++[(k:Int)]) s' (by rw[show(bN left P.length k).length=left.length by unfold bN;simp];simp;omega) (h1.next bq hk);simp only[bR,List.length_singleton]at ih;generalize hq:jH m (m.cls.length-(P.length+1))=Q at *;generalize hN:(m.cls.getD P.length default).length=N at *;have hmul:((N*Q:Nat):Int)=(N:Int)*Q:=by rw[EN]
  rw[hmul]at hr hs ⊢;have lE:(N:Int)*1<=(N:Int)*Q:=Int.mul_le_mul_of_nonneg_left I6 I6;have e1:(N:Int)*(2*Q-2)=2*((N:Int)*Q)-2*N:=by rw[Int.mul_sub,Int.mul_left_comm];omega
  have e2:(N:Int)*(Q-1)=(N:Int)*Q-N:=by rw[Int.mul_sub];omega
  rw[aZ];split
  ·rename_i wZ;rcases wZ with wZ|wZ<;>omega
  have hK:=TJ (left:=left) (f:=jS m f (P.length+1)) (c:=P.length) (N:=N) (Q:=Q) (λk s' hk a b c=>ih k s' hk a b c) hQ N 0 (jR left P.length (dI m left) s) [] I6 hw (by rw[e1];unfold jR;dsimp only;omega) (by rw[e2];unfold jR;dsimp only;omega);generalize fi (jS m f (P.length+1)) left P.length N 0 (jR left P.length (dI m left) s) []=z at *;obtain⟨a,b,c⟩:=hK;rw[e1]at b;rw[e2]at c;unfold jR at b c;dsimp only at b c;exact⟨a,by show _<=z.1.room;omega,by show _<=z.1.spl;omega⟩
def TL(left:List (List Bool)):∀ (l:List (List br)) (i:Nat) (n:Int),[]∈l->lO left i l n=none
 |[],i,n,h=>by cases h
 |c::l,i,n,h=>by
  rw[lO];split
  ·rfl
  ·rename_i hc;refine TL left l _ _ ((b8.1 h).resolve_left λe=>hc ?_);rw[<- e];rfl
def TN(h:[]∈m.cls)(left:List (List Bool)):dI m left=1099511627776:=by
 unfold dI;rw[TL left _ _ _ h];rfl
def TO{f:List Int->List Int×Int}(hf:∀ q,f q=([],1099511627776)\/(f q).2<1099511627776)(p:List Int):∀ (w k:Nat) (a:List Int×Int),(a=([],1099511627776)\/a.2<1099511627776)->(qn f p w k a=([],1099511627776)\/(qn f p w k a).2<1099511627776)
 |0,k,a,h=>h
 |w+1,k,a,h=>by
  rw[qn];refine TO hf p w (k+1) _ ?_;split
  ·exact hf _
  ·exact h
def TP(m:aj):∀ (d:Nat) (p:List Int),gX m d p=([],1099511627776)\/(gX m d p).2<1099511627776
 |0,p=>by
  unfold gX;split
  ·exact .inl rfl
  ·exact .inr aaK
 |d+1,p=>TO (TP m d) p _ _ _ (.inl rfl)
def D5:DS:=⟨[],19999,20000,true,[],1099511627776,1099511627776⟩
def bw(m:aj):DS:=jS m (m.cls.length+1) 0 (dt m) D5
def D6(hm:VM m)(h:[]∈m.cls\/jH m m.cls.length<=8000):(bw m).whole=true/\((bw m).plan,(bw m).aU)=gX m m.cls.length []/\(bw m).bY=(bw m).aU/\lL m (bw m).nodes=((bw m).aU,true)/\(bw m).nodes.length<=20000:=by
 have hr:=Dn.root hm;have hd:=D4 hm (m.cls.length+1) (dt m) [] D5 (by rw[hr.fit.1];simp) hr;have hw:(bw m).whole=true:=by
  by_cases he:[]∈m.cls
  ·unfold bw;rw[jS,TN he,if_pos (by show(1099511627776:Int)<=_;omega)];rfl
  ·have mV:∀ l∈m.cls,1<=l.length:=λl hl=>by
    cases l with
    |nil=>exact absurd hl he
    |cons a b=>simp
   have hc:=h.resolve_left he;refine(H4 hm mV (m.cls.length+1) (dt m) [] D5 (by rw[hr.fit.1];simp) hr rfl ?_ ?_).1
   ·show(2*jH m m.cls.length-2:Int)<=19999;omega
   ·show(jH m m.cls.length-1:Int)<=20000;omega
 obtain⟨d1,d2,d3,d4,d5,d6,d7,d8,d9⟩:=hd;change (bw m).aU<=1099511627776 at d1;change (bw m).bY<=1099511627776 at d2;change (bw m).aU<1099511627776->(bw m).bY<=(bw m).aU at d3;obtain⟨_,e1,e2⟩:=d4 hw;change ((bw m).plan,(bw m).aU)=jv m m.cls.length [] ([],1099511627776) at e1;change min 1099511627776 (bw m).aU<=(bw m).bY at e2;change ((bw m).nodes.length:Int)+(bw m).room=0+19999+1 at d5;have d6:0<=(bw m).room:=d6 (by show(0:Int)<=19999;omega);have hb:(bw m).bY=(bw m).aU:=I6;obtain⟨v,hv,rz⟩:=d9 [] (λx hx=>by cases hx);have rz:(bw m).bY=kW v 1099511627776:=rz;have eC:=Tr.dU (P:=(bw m).nodes) hm hv I6;refine⟨hw,?_,hb,by rw[eC,<- rz,hb],I6⟩;rw[e1,HX _ _ _ _ (dy _)];rcases TP m m.cls.length [] with e|e
 ·rw[e];rfl
 ·rw[if_pos e]
def rA:List (List br)->Int->Int
 |[],n=>n
 |c::r,n=>if c.length=0 then 0 else rA r (min (n*c.length) 65537)
def fo(m:aj):Int:=if eJ m=0 then rA m.cls 1 else 0
def kX:List (List br)->Nat
 |[]=>1
 |c::r=>c.length*kX r
def TQ:∀ {l:List (List br)},[] ∉ l->1<=kX l
 |[],_=>aG _
 |c::r,h=>Nat.mul_pos (by cases c with|nil=>simp at h|cons a b=>simp) (TQ λe=>h (by simp[e]))
def H5:∀ (l:List (List br)) (n:Nat),[] ∉ l->n<=65537->rA l n=min ((n*kX l:Nat):Int) 65537
 |[],n,h,hn=>by show(n:Int)=_;rw[kX,Nat.mul_one];omega
 |c::r,n,h,hn=>by
  have hc:1<=c.length:=by cases c with|nil=>simp at h|cons a b=>simp
  have hr:[] ∉ r:=λe=>h (by simp[e]);have hp:=TQ hr;rw[rA,if_neg I6,show(min ((n:Int)*c.length) 65537:Int)=((min (n*c.length) 65537:Nat):Int) by rw[<- EN];omega,H5 r _ hr I6,kX,<- Nat.mul_assoc];by_cases e:n*c.length<=65537
  ·rw[Nat.min_eq_left e]
  ·rw[Nat.min_eq_right I6];have h1:65537*1<=65537*kX r:=Nat.mul_le_mul_left _ hp;have h2:65537*1<=n*c.length*kX r:=zb I6 hp;omega
def H6(m:aj):∀ (d:Nat),d<=m.cls.length->jH m d=kX (m.cls.drop (m.cls.length-d))
 |0,_=>by rw[vJ,List.drop_length];rfl
 |d+1,h=>by
  rw[jH,cS m.cls (m.cls.length-(d+1)) default I6,kX,H6 m d I6,show m.cls.length-(d+1)+1=m.cls.length-d by omega]
def D7{m:aj}(hm:VM m)(h:fo m<=1000):[]∈m.cls\/jH m m.cls.length<=8000:=by
 by_cases he:[]∈m.cls
 ·exact .inl he
 ·right;unfold fo at h;rw[if_pos (fc.2 hm),show(1:Int)=((1:Nat):Int) from rfl,H5 _ _ he I6,pz]at h;rw[H6 m _ (aG _),lV,List.drop_zero];omega
def TR{m:aj}{w:Nat}(h:∀ l∈m.cls,l.length<=w):∀ d,d<=m.cls.length->jH m d<=w^d
 |0,_=>aG _
 |d+1,hd=>by
  rw[jH,Nat.pow_succ,Nat.mul_comm];exact zb (TR h d I6) (h _ (aC I6))
def H7{m:aj}(Z:List Int×Int->Prop)(h0:Z ([],1099511627776)):∀ (d:Nat) (p:List Int),BP m p->p.length+d=m.cls.length->(∀ q,Ext m p q->fM m q<1099511627776->Z (q,fM m q))->Z (gX m d p)
 |0,p,hp,hd,h=>by
  unfold gX;split
  ·exact h0
  ·exact h p ⟨hp.fp I6,[],Jd⟩ I6
 |d+1,p,hp,hd,h=>by
  unfold gX;have key:∀ (w k:Nat) (a:List Int×Int),k+w=(m.cls.getD p.length default).length->Z a->Z (qn (gX m d) p w k a):=by
   intro w
   induction w with
   |zero=>intro k a _ ha;exact ha
   |succ w ih =>
    intro k a hk ha;rw[qn];refine ih (k+1) _ I6 ?_;split
    ·refine H7 Z h0 d _ (hp.snoc I6 I6) (by rw[bR];simp;omega) λq hq=>h q ⟨hq.1,?_⟩;obtain⟨r,rfl⟩:=hq.2;exact⟨(k:Int)::r,Jd⟩
    ·exact ha
  exact key _ 0 _ I6 h0
def TS(m:aj):BP m []:=⟨aQ _,λj hj=>by cases hj⟩
def TT{m:aj}(h:(gX m m.cls.length []).2<1099511627776):FP m (gX m m.cls.length []).1/\fM m (gX m m.cls.length []).1=(gX m m.cls.length []).2 :=
 H7 (λz=>z.2<1099511627776->FP m z.1/\fM m z.1=z.2) (λh=>absurd h (EW _)) _ [] (TS m) Jd (λq hq _ _=>⟨hq.1,rfl⟩) h
def H8{m:aj}{q:List Int}(hq:FP m q):(gX m m.cls.length []).2<=fM m q:=by
 rcases Int.lt_or_le (fM m q) (gX m m.cls.length []).2 with h|h
 ·exfalso;have h1:=HX m m.cls.length [] (gX m m.cls.length []) (Tx m _ _);rw[if_neg (EW _)]at h1;have h2:∀ (d:Nat) (p:List Int) (a:List Int×Int),Ext m p q->p.length+d=m.cls.length->(jv m d p a).2<=fM m q:=by
   have mono:∀ (d:Nat) (p:List Int) (a:List Int×Int),(jv m d p a).2<=a.2:=by
    intro d
    induction d with
    |zero=>intro p a;unfold jv;split<;>(try dsimp only)<;>omega
    |succ d ih =>
     intro p a;unfold jv;have:∀ (w k:Nat) (b:List Int×Int),(oK (jv m d) p w k b).2<=b.2:=by
      intro w
      induction w with
      |zero=>intro k b;exact dy _
      |succ w A3=>intro k b;rw[oK];exact oP (A3 _ _) (ih _ _)
     exact this _ _ _
   intro d
   induction d with
   |zero =>
    intro p a hx hd;obtain⟨hf,r,rfl⟩:=hx;have hl:=hf.len;rw[bR]at hl;have:r=[]:=List.eq_nil_of_length_eq_zero I6;subst this;rw[List.append_nil];unfold jv;split<;>(try dsimp only)<;>omega
   |succ d ih =>
    intro p a hx hd;obtain⟨hf,r,rfl⟩:=hx;have hl:=hf.len;rw[bR]at hl;cases r with
    |nil=>simp at hl;omega
    |cons x r =>
     have hg:=gV.1 (hf.get p.length Jd);rw[gA,aA,eu (aG _),lV]at hg;change _/\_/\0<=x/\x<_ at hg;unfold jv;have key:∀ (w k:Nat) (b:List Int×Int),k<=x.toNat->x.toNat<k+w->(oK (jv m d) p w k b).2<=fM m (p++x::r):=by
      have vd:∀ (w k:Nat) (b:List Int×Int),(oK (jv m d) p w k b).2<=b.2:=by
       intro w
       induction w with
       |zero=>intro k b;exact dy _
       |succ w A3=>intro k b;rw[oK];exact oP (A3 _ _) (mono _ _ _)
      intro w
      induction w with
      |zero=>intro k b h1 h2;omega
      |succ w A3 =>
       intro k b h1 h2;rw[oK];by_cases e:k=x.toNat
       ·refine oP (vd _ _ _) ?_;rw[show(k:Int)=x by omega];exact ih (p++[x]) b ⟨hf,r,Jd⟩ aaZ
       ·exact A3 _ _ I6 I6
     exact key _ 0 a I6 I6
  have h3:=h2 m.cls.length [] (gX m m.cls.length []) ⟨hq,q,Jd⟩ Jd;rw[h1]at h3;omega
 ·exact h
def acn{m:aj}(hm:VM m)(h:m.cls.length=0):fM m []=0:=by
 unfold fM;have wK:FP m []:=⟨h.symm,λj hj=>(by cases hj)⟩;rw[yC hm wK,h];have h1:m.ae.length=0:=by
  cases hp:m.ae with
  |nil=>rfl
  |cons p r =>
   have:=(lr (jo hm.pr p (by rw[hp];simp))).2;omega
 have h2:bf (λi=>gM [] (m.ar.getD i default)) m.ar.length=0:=by
  have:∀ n,n<=m.ar.length->bf (λi=>gM [] (m.ar.getD i default)) n=0:=by
   intro n
   induction n with
   |zero=>intro _;rfl
   |succ n ih =>
    intro hn;rw[bf,ih I6];obtain⟨_,q2,_,q4⟩:=lp (hm.ct _ (aC (l:=m.ar) (i:=n) (d:=default) I6));have hl:(m.ar.getD n default).aS=[]:=by
     cases hl:(m.ar.getD n default).aS with
     |nil=>rfl
     |cons x r =>
      have:=gV.1 (o8 q4 x (by rw[hl];simp)).1;omega
    unfold gM jP;rw[hl,show kv [] ([]:List Ld) 0=0 from rfl,if_pos I6];rfl
  exact this _ (aG _)
 rw[h1,h2];rfl
def jU(n:Int):Bool:=decide (n=1099511627776)
def kY(n:Int):Int:=if n=1099511627776 then 1099511627776 else 0
def fA(o:br):br:={ o with ch:=o.ch.filter λc=>jU c.2 }
def gZ(p:Pr):Pr:={ p with ay:=p.ay.map kY }
def aH(m:aj):aj:=⟨m.cls.map λl=>l.map fA,m.ae.map gZ,m.ar.filter λc=>jU c.bM,m.rules⟩
def w0(m:aj)(j:Nat):((aH m).cls.getD j default).length=(m.cls.getD j default).length:=by
 unfold aH;dsimp only;rw[aA,cg,aA];cases m.cls[j]? with
 |none=>rfl
 |some l=>simp
def oz(m:aj):(aH m).cls.length=m.cls.length:=by unfold aH;simp
def Ak(m:aj)(c o:Int):gW (aH m) c o=gW m c o:=by unfold gW;rw[oz,w0]
def TU(m:aj):∀ (l:List Ld) (q:Option Ld),dm (aH m) q l=dm m q l
 |[],q=>by cases q<;>rfl
 |x::r,q=>by
  rw[dm.eq_def,dm.eq_def m];dsimp only;rw[Ak,TU m r]
def TV{m:aj}:∀ (l:List Pr) (q:Option Pr),dW m q l=true->dW (aH m) (q.map gZ) (l.map gZ)=true
 |[],q,_=>by cases q<;>rfl
 |p::r,q,h=>by
  rw[dW.eq_def]at h;simp only[ba]at h;obtain⟨⟨a,b⟩,c⟩:=h;rw[dJ,dW.eq_def];simp only[ba];refine⟨⟨?_,?_⟩,TV r (some p) c⟩
  ·unfold eS at *;simp only[ba,decide_eq_true_eq]at a ⊢;rw[oz,show(gZ p).fst=p.fst from rfl,show(gZ p).snd=p.snd from rfl,w0,w0];obtain⟨⟨a1,a2⟩,a3⟩:=a;refine⟨⟨a1,a2.1,a2.2.1,a2.2.2.1,by show((p.ay.map kY).length:Int)=_;rw[ed];exact a2.2.2.2⟩,?_⟩;have:(gZ p).ay.any mR=false:=ER.2 λx hx=>by
    obtain⟨y,hy,rfl⟩:=bZ.1 hx;unfold kY;split<;>decide
   rw[this];rfl
  ·cases q with
   |none=>rfl
   |some q=>exact b
def sy{m:aj}(h:VM m):VM (aH m):=by
 refine⟨by rw[oz];exact h.cls,λl hl=>?_,by show(m.ae.map gZ).length<=4000;rw[ed];exact h.ae,iM (zh _ _) h.ar,h.iS,λl hl o ho=>?_,TV m.ae none h.pr,λc hc=>?_⟩
 ·obtain⟨l',g6,rfl⟩:=bZ.1 hl;rw[ed];exact h.opt _ g6
 ·obtain⟨l',g6,rfl⟩:=bZ.1 hl;obtain⟨o',cL,rfl⟩:=bZ.1 ho;exact Dr _ (h.kQ _ g6 _ cL)
 ·have jZ:=h.ct c (mz.1 hc).1;unfold fN at *;rw[TU];exact jZ
def Zf(n:Int):Prop:=n=0\/1099511627776<=n
def vu{f:Nat->Int}:∀ (n:Nat),(∀ i,i<n->Zf (f i))->Zf (bf f n)
 |0,_=>.inl rfl
 |n+1,h=>by
  have h1:=vu n λi hi=>h i I6;have h2:=h n (m5 n);unfold Zf at *;rw[bf];omega
def H9(o:br):Zf (iU (fA o)):=by
 have h:∀ (l:List Int) (a:Int),(∀ x∈l,x=1099511627776)->(a=0\/a=1099511627776)->(l.foldl dx a=0\/l.foldl dx a=1099511627776):=by
  intro l
  induction l with
  |nil=>intro a _ h;exact h
  |cons x l ih =>
   intro a h1 h2;refine ih _ (λy hy=>h1 y (by simp[hy])) (.inr ?_);rw[h1 x Jd];unfold dx;omega
 have:=h ((fA o).ch.map (·.2)) 0 (λx hx=>by
  obtain⟨c,hc,rfl⟩:=bZ.1 hx;have:=(mz.1 hc).2;unfold jU at this;simpa using this) (.inl rfl)
 unfold iU Zf;omega
def aco{m:aj}(hm:VM m){plan:List Int}(hp:FP (aH m) plan):fM (aH m) plan=0\/fM (aH m) plan=1099511627776:=by
 unfold fM;rw[yC (sy hm) hp];have h1:Zf (bf (kx (aH m) plan) (aH m).cls.length):=vu _ λi hi=>by
  unfold kx;have hg:=gV.1 (hp.get i (by rw[hp.len];exact hi));rw[gA]at hg;have hc:(aH m).cls.getD i default=(m.cls.getD i default).map fA:=ik _ _ _ (by rw[oz]at hi;exact hi);rw[hc]at hg ⊢;rw[ed]at hg;rw[ik _ _ _ I6];exact H9 _
 have h2:Zf (bf (λi=>iX (aH m) plan ((aH m).ae.getD i default)) (aH m).ae.length):=vu _ λi hi=>by
  have hc:(aH m).ae.getD i default=gZ (m.ae.getD i default):=ik _ _ _ (by simpa [aH] using hi);rw[hc];unfold iX mP;generalize (_:Int).toNat=k;show Zf (((m.ae.getD i default).ay.map kY).getD k 0);rw[aA,cg];cases(m.ae.getD i default).ay[k]? with
  |none=>exact .inl rfl
  |some x=>show Zf (kY x);unfold kY Zf;split<;>omega
 have h3:Zf (bf (λi=>gM plan ((aH m).ar.getD i default)) (aH m).ar.length):=vu _ λi hi=>by
  have hc:=(mz.1 (aC (d:=default) hi)).2;unfold jU at hc;rw[decide_eq_true_eq]at hc;unfold gM jP;rw[show((aH m).ar.getD i default).bM=1099511627776 from hc];split
  ·exact .inl rfl
  ·right;omega
 unfold Zf at *;omega
def acp{m:aj}(hm:VM m):(gX (aH m) (aH m).cls.length []).2=0\/(gX (aH m) (aH m).cls.length []).2=1099511627776 :=
 H7 (λz=>z.2=0\/z.2=1099511627776) (.inr rfl) _ [] (TS _) Jd λq hq _=>aco hm hq.1
def H':∀ (l k:List (List br)) (n:Int),l.map rS=k.map rS->rA l n=rA k n
 |[],[],n,_=>rfl
 |[],b::k,n,h=>by simp at h
 |a::l,[],n,h=>by simp at h
 |a::l,b::k,n,h=>by
  simp only[dJ,List.cons.injEq]at h;rw[rA,rA,h.1];split
  ·rfl
  ·exact H' l k _ h.2
def TW{m:aj}(hm:VM m):fo (aH m)=fo m:=by
 unfold fo;rw[if_pos (fc.2 hm),if_pos (fc.2 (sy hm))];refine H' _ _ _ ?_;show(m.cls.map λl=>l.map fA).map rS=_;rw[List.map_map];exact List.map_congr_left λl _=>Jd
def fq(m:aj):List Int:=(aN m.rules.toNat).map λ(i:Nat)=>(i:Int)
def cY(l:List Int)(n:Int):List Int:=l.filter λx=>!(x==n)
def gv(R:Int)(l:List Int):List Bool:=(aN R.toNat).map λ(i:Nat)=>l.contains (i:Int)
def bA(m:aj)(l:List Int):aj:=fX m (gv m.rules l)
def uX(r:aj):Prop:=(bw (aH r)).aU=1099511627776\/fM r (bw (aH r)).plan<1099511627776
instance (r:aj):Decidable (uX r):=by unfold uX;infer_instance
def tryD(r:aj):DS:=if uX r then bw (aH r) else bw r
def mM(r:aj):Int:=if(bw (aH r)).whole=false then 61 else if uX r then 0 else if(bw r).whole=false then 61 else 0
def pZ(m:aj)(l:List Int):Prop:=l.length<=1000/\∀ x∈l,0<=x/\x<m.rules
def yi(R:Int)(l:List Int):(gv R l).length=R.toNat:=by unfold gv;simp
def pZ.cY{m:aj}{l:List Int}(h:pZ m l)(n:Int):pZ m (cY l n):=⟨iM (zh _ _) h.1,λx hx=>h.2 x (mz.1 hx).1⟩
def TX{m:aj}(hm:VM m):pZ m (fq m):=by
 have:=hm.iS;refine⟨by unfold fq;simp;omega,λx hx=>?_⟩;unfold fq at hx;obtain⟨i,hi,rfl⟩:=bZ.1 hx;have:=lz.1 hi;omega
end T

