import Derived.Test.YtodilglobhifaaaGreatDoorX28
set_option linter.all false
set_option maxHeartbeats 0
set_option maxRecDepth 20000
open Nat renaming le_refl→aM
open List renaming length_append→aJ,length_set→bt,getElem?_append_left→cr
open Go Go.Am Go.Proofs
namespace T
def QN{α:Type}(p:α->Bool):∀ (l:List α) (k:Nat),eQ p k l = -1->l.filter (λx=>!p x)=l
 |[],k,_=>rfl
 |x::r,k,h=>by
  rw[eQ]at h;split at h
  ·omega
  ·rename_i hp;rw[List.filter_cons_of_pos (by simpa using hp),QN p r (k+1) h]
def QO{α:Type}(p:α->Bool):∀ (l:List α) (k:Nat),eQ p k l≠-1->∃ i,eQ p k l=((k+i:Nat):Int)/\i<l.length/\(l.take (i+1)).filter (λx=>!p x)=l.take i
 |[],k,h=>absurd rfl h
 |x::r,k,h=>by
  rw[eQ]at h ⊢;by_cases hp:p x=true
  ·rw[if_pos hp];exact⟨0,rfl,Dg,by simp[hp]⟩
  ·rw[if_neg hp]at h ⊢;obtain⟨i,h1,h2,h3⟩:=QO p r (k+1) h;refine⟨i+1,by rw[h1];congr 1;omega,aab,?_⟩;rw[List.take_succ_cons,List.filter_cons_of_pos (by simpa using hp),h3];rfl
def Yi{α:Type}{Y:List α}{i:Nat}{x:α}(h:i<Y.length):(Y.set i x).take (i+1)=Y.take i++[x]:=by
 rw[List.take_succ_eq_append_getElem (by simpa using h),List.take_set_of_le (aM _)];simp
def nH(b:Nat)(os ob:List Ob):Prop:=os.length<=ob.length/\∀ k,k≠b->k<os.length->ob[k]?=os[k]?
def nH.refl(b:Nat)(os:List Ob):nH b os os:=⟨aM _,λ_ _ _=>rfl⟩
def nH.step{b:Nat}{os ob:List Ob}(h:nH b os ob)(y:Ob)(L:List Ob):nH b os (ob.set b y++L) :=
 ⟨by rw[aJ,bt];have:=h.1;omega,λk h1 h2=>by
  rw[cr (by rw[bt];have:=h.1;omega),List.getElem?_set_ne (Ne.symm h1)];exact h.2 k h1 h2⟩
def nH.app{b:Nat}{os ob:List Ob}(h:nH b os ob)(L:List Ob):nH b os (ob++L) :=
 ⟨by rw[aJ];have:=h.1;omega,λk h1 h2=>by rw[cr (by have:=h.1;omega)];exact h.2 k h1 h2⟩
end T

