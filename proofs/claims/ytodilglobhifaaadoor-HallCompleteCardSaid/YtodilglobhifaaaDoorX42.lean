import Derived.Test.YtodilglobhifaaaDoorX24
import Derived.Test.YtodilglobhifaaaDoorX41
set_option linter.all false
set_option maxHeartbeats 0
set_option maxRecDepth 20000
open List renaming length_set→bm,getD_eq_getElem?_getD→an
open Go Go.Am
namespace T
def ur(m:ae)(plan:List Int):Int:=oW (oX m plan) 0
def zW(m:ae)(plan:List Int)(c k:Nat):Int:=ur m (plan.set c (k:Int))
def og(f:Nat->Int):Nat->Nat->Int->Int->Int
 |0,_,_,b=>b
 |n+1,k,l,b=>if f k<l then og f n (k+1) (f k) k else og f n (k+1) l b
def lD(m:ae)(plan:List Int)(c:Nat):Int:=og (zW m plan c) (m.cls.getD c default).length 0 1099511627776 (-1)
def DR(f:Nat->Int):∀ (n k:Nat) (l b:Int),(-1<=b/\b<k)->-1<=og f n k l b/\og f n k l b<(k+n:Nat)
 |0,k,_,b,h=>⟨h.1,by rw[og,Nat.add_zero];exact h.2⟩
 |n+1,k,l,b,h=>by
  rw[og,show k+(n+1)=k+1+n by omega];split
  ·exact DR f n (k+1) _ _ ⟨z8,z8⟩
  ·exact DR f n (k+1) _ _ ⟨h.1,z8⟩
def TJ(m:ae)(plan:List Int)(c:Nat): -1<=lD m plan c/\lD m plan c<(m.cls.getD c default).length:=by
 have:=DR (zW m plan c) (m.cls.getD c default).length 0 1099511627776 (-1) ⟨z8,z8⟩;rw[Nat.zero_add]at this;exact this
def TK{m:ae}{plan:List Int}(h:PM m plan){c:Nat}{o:Int}(ho:o = -1\/gn m (c:Nat) o=true):PM m (plan.set c o):=⟨by rw[bm];exact h.len,λj hj=>by
 rw[bm]at hj;by_cases gm:c=j
 ·subst gm;rw[an,List.getElem?_set_self hj,Option.getD_some];exact ho
 ·rw[an,List.getElem?_set_ne gm,<- an];exact h.get j hj⟩
def TL{m:ae}{plan:List Int}(h:PM m plan){c:Nat}(hc:c<m.cls.length):PM m (plan.set c (lD m plan c)):=by
 refine TK h ?_;have:=TJ m plan c;by_cases h1:lD m plan c = -1
 ·exact .inl h1
 ·exact .inr (nQ.2 ⟨z8,z8,z8,by rw[Int.toNat_natCast];exact this.2⟩)
structure NS(n:Nat)(R:Int->Int->Prop)(s:List (List Int)):Prop where
 len:s.length=n
 nd:∀ l∈s,l.Nodup
 mem:∀ a,a<n->∀ b,b∈s.getD a []↔(R a b/\(a:Int)≠b)
def zX{α:Type}(l:List α)(i k:Nat)(x d:α)(hi:i<l.length):(l.set i x).getD k d=if i=k then x else l.getD k d:=by
 simp only[an,List.getElem?_set];by_cases h:i=k
 ·subst h;simp[hi]
 ·simp[h]
def NS.congr{n:Nat}{R R':Int->Int->Prop}{s:List (List Int)}(h:NS n R s)(hr:∀ x y:Int,x≠y->(R x y↔R' x y)):NS n R' s:=⟨h.len,h.nd,λa ha b=>by
 rw[h.mem a ha b];constructor
 ·rintro⟨h1,h2⟩;exact⟨(hr _ _ h2).1 h1,h2⟩
 ·rintro⟨h1,h2⟩;exact⟨(hr _ _ h2).2 h1,h2⟩⟩
structure It where
 cls:Int
 opt:Int
 MH:Int
 deriving Inhabited
structure WD(nb:List Int)(n:Nat)(done:List Bool)(w:List It):Prop where
 len:done.length=n
 MH:∀ x∈w,0<=x.cls/\x.cls<n/\x.MH=nb.getD x.cls.toNat 0
 nd:(w.map (·.cls)).Nodup
 mem:∀ c,c<n->(done.getD c false=false↔∃ x∈w,x.cls=c)
end T

