import Derived.Test.YtodilglobhifaaaDoorX26
set_option linter.all false
set_option maxHeartbeats 0
set_option maxRecDepth 20000
open Nat renaming le_refl→aH
open List renaming length_append→aJ,length_set→bm,getElem?_append_left→bL
open Go Go.Am Go.Proofs
namespace T
def LS{α:Type}(p:α->Bool):∀ (l:List α) (k:Nat),dC p k l = -1->l.filter (λx=>!p x)=l
 |[],k,_=>rfl
 |x::r,k,h=>by
  rw[dC]at h;split at h
  ·omega
  ·rename_i hp;rw[List.filter_cons_of_pos (by simpa using hp),LS p r (k+1) h]
def LU{α:Type}(p:α->Bool):∀ (l:List α) (k:Nat),dC p k l≠-1->∃ i,dC p k l=((k+i:Nat):Int)/\i<l.length/\(l.take (i+1)).filter (λx=>!p x)=l.take i
 |[],k,h=>absurd rfl h
 |x::r,k,h=>by
  rw[dC]at h ⊢;by_cases hp:p x=true
  ·rw[if_pos hp];exact⟨0,rfl,Eb,by simp[hp]⟩
  ·rw[if_neg hp]at h ⊢;obtain⟨i,h1,h2,h3⟩:=LU p r (k+1) h;refine⟨i+1,by rw[h1];congr 1;omega,UU,?_⟩;rw[List.take_succ_cons,List.filter_cons_of_pos (by simpa using hp),h3];rfl
def SD{α:Type}{Y:List α}{i:Nat}{x:α}(h:i<Y.length):(Y.set i x).take (i+1)=Y.take i++[x]:=by
 rw[List.take_succ_eq_append_getElem (by simpa using h),List.take_set_of_le (aH _)];simp
def lA(b:Nat)(os ob:List Ob):Prop:=os.length<=ob.length/\∀ k,k≠b->k<os.length->ob[k]?=os[k]?
def lA.refl(b:Nat)(os:List Ob):lA b os os:=⟨aH _,λ_ _ _=>rfl⟩
def lA.step{b:Nat}{os ob:List Ob}(h:lA b os ob)(y:Ob)(L:List Ob):lA b os (ob.set b y++L) :=
 ⟨by rw[aJ,bm];have:=h.1;omega,λk h1 h2=>by
  rw[bL (by rw[bm];have:=h.1;omega),List.getElem?_set_ne (Ne.symm h1)];exact h.2 k h1 h2⟩
def lA.app{b:Nat}{os ob:List Ob}(h:lA b os ob)(L:List Ob):lA b os (ob++L) :=
 ⟨by rw[aJ];have:=h.1;omega,λk h1 h2=>by rw[bL (by have:=h.1;omega)];exact h.2 k h1 h2⟩
end T

