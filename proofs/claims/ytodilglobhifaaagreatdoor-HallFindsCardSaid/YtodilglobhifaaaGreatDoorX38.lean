import Derived.Test.YtodilglobhifaaaGreatDoorX37
set_option linter.all false
set_option maxHeartbeats 0
set_option maxRecDepth 20000
open List renaming length_set→bt
open Go Go.Am
namespace T
structure It where
 cls:Int
 opt:Int
 Rj:Int
 deriving Inhabited
structure WD(nb:List Int)(n:Nat)(done:List Bool)(w:List It):Prop where
 len:done.length=n
 Rj:∀ x∈w,0<=x.cls/\x.cls<n/\x.Rj=nb.getD x.cls.toNat 0
 nd:(w.map (·.cls)).Nodup
 mem:∀ c,c<n->(done.getD c false=false↔∃ x∈w,x.cls=c)
def C1(f:Nat->Int):∀ (n k:Nat) (l b:Int),(qO f n k l b=b/\∀ j,k<=j->j<k+n->l<=f j)\/∃ j,k<=j/\j<k+n/\qO f n k l b=j/\f j<l
 |0,k,l,b=>.inl ⟨rfl,λj h1 h2=>Ay⟩
 |n+1,k,l,b=>by
  rw[qO];by_cases h:f k<l
  ·rw[if_pos h];rcases C1 f n (k+1) (f k) k with⟨h1,h2⟩|⟨j,h1,h2,h3,h4⟩
   ·exact .inr ⟨k,Nat.le_refl _,Ay,h1,h⟩
   ·exact .inr ⟨j,Ay,Ay,h3,Ay⟩
  ·rw[if_neg h];rcases C1 f n (k+1) l b with⟨h1,h2⟩|⟨j,h1,h2,h3,h4⟩
   ·refine .inl ⟨h1,λj h3 h4=>?_⟩;by_cases hj:j=k
    ·subst hj;omega
    ·exact h2 j Ay Ay
   ·exact .inr ⟨j,Ay,Ay,h3,h4⟩
def YT{m:ah}{plan:List Int}{c:Nat}(h:nK m plan c = -1):∀ k:Nat,k<(m.cls.getD c default).length->1099511627776<=xy m (plan.set c (k:Int)):=λk hk=>by
 rcases C1 (C2 m plan c) (m.cls.getD c default).length 0 1099511627776 (-1) with⟨h1,h2⟩|⟨j,h1,h2,h3,h4⟩
 ·exact h2 k (Nat.zero_le _) Ay
 ·change nK m plan c=_ at h3;omega
def YU{m:ah}{plan:List Int}{c:Nat}(h:nK m plan c≠-1):xy m (plan.set c (nK m plan c))<1099511627776:=by
 rcases C1 (C2 m plan c) (m.cls.getD c default).length 0 1099511627776 (-1) with⟨h1,h2⟩|⟨j,h1,h2,h3,h4⟩
 ·exact absurd h1 h
 ·change nK m plan c=_ at h3;rw[h3];exact h4
structure GL(m:ah)(plan:List Int)(done:List Bool):Prop where
 pm:PM m plan
 low:xy m plan<1099511627776
 wait:∀ c,c<m.cls.length->done.getD c false=false->plan.getD c 0 = -1
 not:∀ c,c<m.cls.length->done.getD c false=true->plan.getD c 0 = -1->∀ k:Nat,k<(m.cls.getD c default).length->1099511627776<=xy m (plan.set c (k:Int))
def Up.YV{p q:List Int}(h:Up p q)(c:Nat)(o:Int):Up (p.set c o) (q.set c o):=by
 refine⟨by rw[bt,bt];exact h.1,λj=>?_⟩;rw[qJ,qJ,h.1];split
 ·exact .inl rfl
 ·exact h.2 j
def YW{plan:List Int}{c:Nat}{x:Int}(hc:c<plan.length)(h:plan.getD c 0=x):plan.set c x=plan:=by
 rw[List.getD_eq_getElem?_getD,List.getElem?_eq_getElem hc,Option.getD_some]at h;rw[<- h];exact List.set_getElem_self hc
def GL.step{m:ah}(hm:VM m){plan:List Int}{done:List Bool}(h:GL m plan done)(hd:done.length=m.cls.length){c:Nat}(hc:c<m.cls.length)(hw:done.getD c false=false):GL m (plan.set c (nK m plan c)) (done.set c true):=by
 have hl:=h.pm.len;have BE:=h.wait c hc hw;by_cases hx:nK m plan c = -1
 ·rw[hx,YW Ay BE];refine⟨h.pm,h.low,λd vL gx=>?_,λd vL gx vM=>?_⟩
  ·rw[C3 _ _ _ _ _ Ay]at gx;by_cases e:c=d
   ·rw[if_pos e]at gx;simp at gx
   ·rw[if_neg e]at gx;exact h.wait d vL gx
  ·rw[C3 _ _ _ _ _ Ay]at gx;by_cases e:c=d
   ·subst e;exact YT hx
   ·rw[if_neg e]at gx;exact h.not d vL gx vM
 ·refine⟨YX h.pm hc,YU hx,λd vL gx=>?_,λd vL gx vM k hk=>?_⟩
  ·rw[C3 _ _ _ _ _ Ay]at gx ⊢;by_cases e:c=d
   ·rw[if_pos e]at gx;simp at gx
   ·rw[if_neg e]at gx ⊢;exact h.wait d vL gx
  ·rw[C3 _ _ _ _ _ Ay]at gx vM;by_cases e:c=d
   ·rw[if_pos e]at vM;exact absurd vM hx
   ·rw[if_neg e]at gx vM;have:=h.not d vL gx vM k hk;have hu:Up (plan.set d (k:Int)) ((plan.set c (nK m plan c)).set d (k:Int)):=(Up.set (nK m plan c) BE).YV d k;have:=VY hm hu;unfold xy at *;omega
end T

