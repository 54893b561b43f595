import Derived.Test.YtodilglobhifaaaDoorX42
set_option linter.all false
set_option maxHeartbeats 0
set_option maxRecDepth 20000
open List renaming length_set→bm
open Go Go.Am
namespace T
def zY(f:Nat->Int):∀ (n k:Nat) (l b:Int),(og f n k l b=b/\∀ j,k<=j->j<k+n->l<=f j)\/∃ j,k<=j/\j<k+n/\og f n k l b=j/\f j<l
 |0,k,l,b=>.inl ⟨rfl,λj h1 h2=>z8⟩
 |n+1,k,l,b=>by
  rw[og];by_cases h:f k<l
  ·rw[if_pos h];rcases zY f n (k+1) (f k) k with⟨h1,h2⟩|⟨j,h1,h2,h3,h4⟩
   ·exact .inr ⟨k,Nat.le_refl _,z8,h1,h⟩
   ·exact .inr ⟨j,z8,z8,h3,z8⟩
  ·rw[if_neg h];rcases zY f n (k+1) l b with⟨h1,h2⟩|⟨j,h1,h2,h3,h4⟩
   ·refine .inl ⟨h1,λj h3 h4=>?_⟩;by_cases hj:j=k
    ·subst hj;omega
    ·exact h2 j z8 z8
   ·exact .inr ⟨j,z8,z8,h3,h4⟩
def TM{m:ae}{plan:List Int}{c:Nat}(h:lD m plan c = -1):∀ k:Nat,k<(m.cls.getD c default).length->1099511627776<=ur m (plan.set c (k:Int)):=λk hk=>by
 rcases zY (zW m plan c) (m.cls.getD c default).length 0 1099511627776 (-1) with⟨h1,h2⟩|⟨j,h1,h2,h3,h4⟩
 ·exact h2 k (Nat.zero_le _) z8
 ·change lD m plan c=_ at h3;omega
def TN{m:ae}{plan:List Int}{c:Nat}(h:lD m plan c≠-1):ur m (plan.set c (lD m plan c))<1099511627776:=by
 rcases zY (zW m plan c) (m.cls.getD c default).length 0 1099511627776 (-1) with⟨h1,h2⟩|⟨j,h1,h2,h3,h4⟩
 ·exact absurd h1 h
 ·change lD m plan c=_ at h3;rw[h3];exact h4
structure DS(m:ae)(plan:List Int)(done:List Bool):Prop where
 pm:PM m plan
 low:ur m plan<1099511627776
 wait:∀ c,c<m.cls.length->done.getD c false=false->plan.getD c 0 = -1
 not:∀ c,c<m.cls.length->done.getD c false=true->plan.getD c 0 = -1->∀ k:Nat,k<(m.cls.getD c default).length->1099511627776<=ur m (plan.set c (k:Int))
def Up.TO{p q:List Int}(h:Up p q)(c:Nat)(o:Int):Up (p.set c o) (q.set c o):=by
 refine⟨by rw[bm,bm];exact h.1,λj=>?_⟩;rw[n6,n6,h.1];split
 ·exact .inl rfl
 ·exact h.2 j
def TP{plan:List Int}{c:Nat}{x:Int}(hc:c<plan.length)(h:plan.getD c 0=x):plan.set c x=plan:=by
 rw[List.getD_eq_getElem?_getD,List.getElem?_eq_getElem hc,Option.getD_some]at h;rw[<- h];exact List.set_getElem_self hc
def DS.step{m:ae}(hm:VM m){plan:List Int}{done:List Bool}(h:DS m plan done)(hd:done.length=m.cls.length){c:Nat}(hc:c<m.cls.length)(hw:done.getD c false=false):DS m (plan.set c (lD m plan c)) (done.set c true):=by
 have hl:=h.pm.len;have yr:=h.wait c hc hw;by_cases hx:lD m plan c = -1
 ·rw[hx,TP z8 yr];refine⟨h.pm,h.low,λd n8 gF=>?_,λd n8 gF sF=>?_⟩
  ·rw[zX _ _ _ _ _ z8]at gF;by_cases e:c=d
   ·rw[if_pos e]at gF;simp at gF
   ·rw[if_neg e]at gF;exact h.wait d n8 gF
  ·rw[zX _ _ _ _ _ z8]at gF;by_cases e:c=d
   ·subst e;exact TM hx
   ·rw[if_neg e]at gF;exact h.not d n8 gF sF
 ·refine⟨TL h.pm hc,TN hx,λd n8 gF=>?_,λd n8 gF sF k hk=>?_⟩
  ·rw[zX _ _ _ _ _ z8]at gF ⊢;by_cases e:c=d
   ·rw[if_pos e]at gF;simp at gF
   ·rw[if_neg e]at gF ⊢;exact h.wait d n8 gF
  ·rw[zX _ _ _ _ _ z8]at gF sF;by_cases e:c=d
   ·rw[if_pos e]at sF;exact absurd sF hx
   ·rw[if_neg e]at gF sF;have:=h.not d n8 gF sF k hk;have hu:Up (plan.set d (k:Int)) ((plan.set c (lD m plan c)).set d (k:Int)):=(Up.set (lD m plan c) yr).TO d k;have:=Rd hm hu;unfold ur at *;omega
structure UQ where
 plan:List Int
 UR:List Int
 aside:List Bool
 u:Int->Int->Int
end T

