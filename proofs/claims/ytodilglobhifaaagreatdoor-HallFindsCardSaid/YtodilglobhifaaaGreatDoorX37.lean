import Derived.Test.YtodilglobhifaaaGreatDoorX24
import Derived.Test.YtodilglobhifaaaGreatDoorX36
set_option linter.all false
set_option maxHeartbeats 0
set_option maxRecDepth 20000
open List renaming length_set→bt,getD_eq_getElem?_getD→aw
open Go Go.Am
namespace T
def xy(m:ah)(plan:List Int):Int:=rH (rI m plan) 0
def C2(m:ah)(plan:List Int)(c k:Nat):Int:=xy m (plan.set c (k:Int))
def qO(f:Nat->Int):Nat->Nat->Int->Int->Int
 |0,_,_,b=>b
 |n+1,k,l,b=>if f k<l then qO f n (k+1) (f k) k else qO f n (k+1) l b
def nK(m:ah)(plan:List Int)(c:Nat):Int:=qO (C2 m plan c) (m.cls.getD c default).length 0 1099511627776 (-1)
def GM(f:Nat->Int):∀ (n k:Nat) (l b:Int),(-1<=b/\b<k)->-1<=qO f n k l b/\qO f n k l b<(k+n:Nat)
 |0,k,_,b,h=>⟨h.1,by rw[qO,Nat.add_zero];exact h.2⟩
 |n+1,k,l,b,h=>by
  rw[qO,show k+(n+1)=k+1+n by omega];split
  ·exact GM f n (k+1) _ _ ⟨Ay,Ay⟩
  ·exact GM f n (k+1) _ _ ⟨h.1,Ay⟩
def YY(m:ah)(plan:List Int)(c:Nat): -1<=nK m plan c/\nK m plan c<(m.cls.getD c default).length:=by
 have:=GM (C2 m plan c) (m.cls.getD c default).length 0 1099511627776 (-1) ⟨Ay,Ay⟩;rw[Nat.zero_add]at this;exact this
def YZ{m:ah}{plan:List Int}(h:PM m plan){c:Nat}{o:Int}(ho:o = -1\/iN m (c:Nat) o=true):PM m (plan.set c o):=⟨by rw[bt];exact h.len,λj hj=>by
 rw[bt]at hj;by_cases ib:c=j
 ·subst ib;rw[aw,List.getElem?_set_self hj,Option.getD_some];exact ho
 ·rw[aw,List.getElem?_set_ne ib,<- aw];exact h.get j hj⟩
def YX{m:ah}{plan:List Int}(h:PM m plan){c:Nat}(hc:c<m.cls.length):PM m (plan.set c (nK m plan c)):=by
 refine YZ h ?_;have:=YY m plan c;by_cases h1:nK m plan c = -1
 ·exact .inl h1
 ·exact .inr (qA.2 ⟨Ay,Ay,Ay,by rw[Int.toNat_natCast];exact this.2⟩)
structure NS(n:Nat)(R:Int->Int->Prop)(s:List (List Int)):Prop where
 len:s.length=n
 nd:∀ l∈s,l.Nodup
 mem:∀ a,a<n->∀ b,b∈s.getD a []↔(R a b/\(a:Int)≠b)
def C3{α:Type}(l:List α)(i k:Nat)(x d:α)(hi:i<l.length):(l.set i x).getD k d=if i=k then x else l.getD k d:=by
 simp only[aw,List.getElem?_set];by_cases h:i=k
 ·subst h;simp[hi]
 ·simp[h]
def NS.congr{n:Nat}{R R':Int->Int->Prop}{s:List (List Int)}(h:NS n R s)(hr:∀ x y:Int,x≠y->(R x y↔R' x y)):NS n R' s:=⟨h.len,h.nd,λa ha b=>by
 rw[h.mem a ha b];constructor
 ·rintro⟨h1,h2⟩;exact⟨(hr _ _ h2).1 h1,h2⟩
 ·rintro⟨h1,h2⟩;exact⟨(hr _ _ h2).2 h1,h2⟩⟩
end T

