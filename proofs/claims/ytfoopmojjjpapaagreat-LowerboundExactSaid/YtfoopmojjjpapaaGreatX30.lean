import Derived.Test.YtfoopmojjjpapaaGreatX28
import Derived.Test.YtfoopmojjjpapaaGreatX29
set_option linter.all false
set_option maxHeartbeats 0
set_option maxRecDepth 20000
open List renaming getD_eq_getElem?_getD→ax,getElem?_set→bP
open Go Go.Am
namespace T
def Lr(w:Nat):Nat->Nat
 |0=>1
 |s+1=>1+w*Lr w s
structure amG(m:ah)(L:List Int)(w:Nat)(s:Nat)(ab:List Int)(nodes:List Nd)(r:List Nd×Nat):Prop where
 k:r.2<=L.length
 lt:nodes.length<r.1.length
 le:r.1.length<=nodes.length+Lr w s
 pre:∀ i,i<nodes.length->nd r.1 i=nd nodes i
 wQ:eS m r.1 (λ_=>True) nodes.length r.1.length ab
def Dx{P:List Nd}{x:Nd}{i:Nat}(h:i<P.length):nd (P++[x]) i=nd P i:=by
 unfold nd;rw[ax,List.getElem?_append_left h,ax]
def Gr{P:List Nd}{x:Nd}:nd (P++[x]) P.length=x:=by
 unfold nd;rw[ax,List.getElem?_append_right (Nat.le_refl _)];simp
def UZ{P:List Nd}{x:Nd}{i j:Nat}(h:j<P.length):nd (P.set j x) i=if i=j then x else nd P i:=by
 unfold nd;rw[ax,bP];by_cases e:j=i
 ·subst e;rw[if_pos rfl,if_pos h,if_pos rfl];rfl
 ·rw[if_neg e,if_neg (Ne.symm e),ax]
def upto(n:Nat):List Int:=(List.range n).map λ(j:Nat)=>(j:Int)
structure amH(m:ah)(w d:Nat)(nodes r:List Nd):Prop where
 lt:nodes.length<r.length
 le:r.length<=nodes.length+Lr w d
 pre:∀ i,i<nodes.length->nd r i=nd nodes i
 wQ:eS m r (λab=>ab=upto m.cls.length) nodes.length r.length (upto (m.cls.length-d))
def Ls(m:ah)(s:dS):Prop:=cp m s.2.1/\∀ c∈s.2.2,0<=c/\c<m.cls.length/\∃ o,o<(m.cls.getD c.toNat default).length/\s.2.1.getD c.toNat default=mZ (m.cls.getD c.toNat default).length o
def af'{m:ah}{P:List Nd}(hs:km m P=true):∀ (f:Nat) (s:dS),s.1<P.length->P.length-s.1<=f->Ls m s->∀ t∈vs P s,Ls m t:=by
 have hd:=yk hs;intro f
 induction f with
 |zero=>intro s h1 h2;omega
 |succ f ih =>
  intro s h1 h2 hA t ht;rw[wR hd h1,List.mem_cons]at ht;rcases ht with rfl|ht
  ·exact hA
  obtain⟨u,hu,ht⟩:=List.mem_flatMap.1 ht;obtain⟨o,ho,rfl⟩:=wS (List.mem_reverse.1 hu);have hk:=yF hd h1 ho;refine ih _ hk.2.1 AT ?_ t ht;have hn:=He hs h1;unfold ln nf at hn;rw[Bool.and_eq_true]at hn;have k9:=hn.1;split at k9
  ·rw[decide_eq_true_eq]at k9;omega
  rw[decide_eq_true_eq]at k9;obtain⟨c1,c2,c3,_⟩:=k9;have gK:=hA.1.1;have bE:=hA.1.2 (nd P s.1).cls.toNat AT;refine⟨BD hA.1 (BE _ _ _),λc hc=>?_⟩;have gQ:(lg P s o).2.1=s.2.1.set (nd P s.1).cls.toNat (mZ (m.cls.getD (nd P s.1).cls.toNat default).length o):=by
   show db _ _ _=_;unfold db;rw[bE]
  have eX:(lg P s o).2.2=s.2.2++[(nd P s.1).cls]:=rfl;rw[eX,List.mem_append,List.mem_singleton]at hc;rw[gQ];by_cases e:c=(nd P s.1).cls
  ·subst e;exact⟨c1,c2,o,AT,by rw[rJ _ _ _ AT]⟩
  ·rcases hc with hc|hc
   ·obtain⟨a1,a2,o',a3,a4⟩:=hA.2 c hc;refine⟨a1,a2,o',a3,?_⟩;rw[ax,List.getElem?_set_ne AT,<- ax];exact a4
   ·exact absurd hc e
def RX{w o:Nat}(h:o<w)(j:Nat):(mZ w o).getD j false=decide (j=o):=by
 unfold mZ;rw[ax,bP,List.length_replicate];by_cases e:o=j
 ·subst e;rw[if_pos rfl,if_pos h,decide_eq_true rfl];rfl
 ·rw[if_neg e,List.getElem?_replicate,decide_eq_false (Ne.symm e)];split<;>rfl
end T

