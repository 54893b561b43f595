import Derived.Test.YtodilglobhifaaaGreatDoorX20
import Derived.Test.YtodilglobhifaaaGreatDoorX32
set_option linter.all false
set_option maxHeartbeats 0
set_option maxRecDepth 20000
open List renaming length_set→bm,getD_eq_getElem?_getD→ax
open Option renaming getD_some→dE
open Go Go.Am
namespace T
def yH(m:ah)(plan:List Int):Int:=tg (th m plan) 0
def EH(m:ah)(plan:List Int)(c k:Nat):Int:=yH m (plan.set c (k:Int))
def sw(f:Nat->Int):Nat->Nat->Int->Int->Int
 |0,_,_,b=>b
 |n+1,k,l,b=>if f k<l then sw f n (k+1) (f k) k else sw f n (k+1) l b
def oS(m:ah)(plan:List Int)(c:Nat):Int:=sw (EH m plan c) (m.cls.getD c default).length 0 1099511627776 (-1)
def Jh(f:Nat->Int):∀ (n k:Nat) (l b:Int),(-1<=b/\b<k)->-1<=sw f n k l b/\sw f n k l b<(k+n:Nat)
 |0,k,_,b,h=>⟨h.1,by rw[sw,Nat.add_zero];exact h.2⟩
 |n+1,k,l,b,h=>by
  rw[sw,show k+(n+1)=k+1+n by omega];split
  ·exact Jh f n (k+1) _ _ ⟨Bv,Bv⟩
  ·exact Jh f n (k+1) _ _ ⟨h.1,Bv⟩
def adF(m:ah)(plan:List Int)(c:Nat): -1<=oS m plan c/\oS m plan c<(m.cls.getD c default).length:=by
 have:=Jh (EH m plan c) (m.cls.getD c default).length 0 1099511627776 (-1) ⟨Bv,Bv⟩;rw[Nat.zero_add]at this;exact this
def adG{m:ah}{plan:List Int}(h:PM m plan){c:Nat}{o:Int}(ho:o = -1\/fH m (c:Nat) o=true):PM m (plan.set c o):=⟨by rw[bm];exact h.len,λj hj=>by
 rw[bm]at hj;by_cases jr:c=j
 ·subst jr;rw[ax,List.getElem?_set_self hj,dE];exact ho
 ·rw[ax,List.getElem?_set_ne jr,<- ax];exact h.get j hj⟩
def adH{m:ah}{plan:List Int}(h:PM m plan){c:Nat}(hc:c<m.cls.length):PM m (plan.set c (oS m plan c)):=by
 refine adG h ?_;have:=adF m plan c;by_cases h1:oS m plan c = -1
 ·exact .inl h1
 ·exact .inr (mj.2 ⟨Bv,Bv,Bv,by rw[Int.toNat_natCast];exact this.2⟩)
structure NS(n:Nat)(R:Int->Int->Prop)(s:List (List Int)):Prop where
 len:s.length=n
 nd:∀ l∈s,l.Nodup
 mem:∀ a,a<n->∀ b,b∈s.getD a []↔(R a b/\(a:Int)≠b)
def EI{α:Type}(l:List α)(i k:Nat)(x d:α)(hi:i<l.length):(l.set i x).getD k d=if i=k then x else l.getD k d:=by
 simp only[ax,List.getElem?_set];by_cases h:i=k
 ·subst h;simp[hi]
 ·simp[h]
def NS.congr{n:Nat}{R R':Int->Int->Prop}{s:List (List Int)}(h:NS n R s)(hr:∀ x y:Int,x≠y->(R x y↔R' x y)):NS n R' s:=⟨h.len,h.nd,λa ha b=>by
 rw[h.mem a ha b];constructor
 ·rintro⟨h1,h2⟩;exact⟨(hr _ _ h2).1 h1,h2⟩
 ·rintro⟨h1,h2⟩;exact⟨(hr _ _ h2).2 h1,h2⟩⟩
structure It where
 cls:Int
 opt:Int
 UP:Int
 deriving Inhabited
structure WD(nb:List Int)(n:Nat)(done:List Bool)(w:List It):Prop where
 len:done.length=n
 UP:∀ x∈w,0<=x.cls/\x.cls<n/\x.UP=nb.getD x.cls.toNat 0
 nd:(w.map (·.cls)).Nodup
 mem:∀ c,c<n->(done.getD c false=false↔∃ x∈w,x.cls=c)
def EJ(f:Nat->Int):∀ (n k:Nat) (l b:Int),(sw f n k l b=b/\∀ j,k<=j->j<k+n->l<=f j)\/∃ j,k<=j/\j<k+n/\sw f n k l b=j/\f j<l
 |0,k,l,b=>.inl ⟨rfl,λj h1 h2=>Bv⟩
 |n+1,k,l,b=>by
  rw[sw];by_cases h:f k<l
  ·rw[if_pos h];rcases EJ f n (k+1) (f k) k with⟨h1,h2⟩|⟨j,h1,h2,h3,h4⟩
   ·exact .inr ⟨k,Nat.le_refl _,Bv,h1,h⟩
   ·exact .inr ⟨j,Bv,Bv,h3,Bv⟩
  ·rw[if_neg h];rcases EJ f n (k+1) l b with⟨h1,h2⟩|⟨j,h1,h2,h3,h4⟩
   ·refine .inl ⟨h1,λj h3 h4=>?_⟩;by_cases hj:j=k
    ·subst hj;omega
    ·exact h2 j Bv Bv
   ·exact .inr ⟨j,Bv,Bv,h3,h4⟩
def adI{m:ah}{plan:List Int}{c:Nat}(h:oS m plan c = -1):∀ k:Nat,k<(m.cls.getD c default).length->1099511627776<=yH m (plan.set c (k:Int)):=λk hk=>by
 rcases EJ (EH m plan c) (m.cls.getD c default).length 0 1099511627776 (-1) with⟨h1,h2⟩|⟨j,h1,h2,h3,h4⟩
 ·exact h2 k (Nat.zero_le _) Bv
 ·change oS m plan c=_ at h3;omega
def adJ{m:ah}{plan:List Int}{c:Nat}(h:oS m plan c≠-1):yH m (plan.set c (oS m plan c))<1099511627776:=by
 rcases EJ (EH m plan c) (m.cls.getD c default).length 0 1099511627776 (-1) with⟨h1,h2⟩|⟨j,h1,h2,h3,h4⟩
 ·exact absurd h1 h
 ·change oS m plan c=_ at h3;rw[h3];exact h4
structure Ji(m:ah)(plan:List Int)(done:List Bool):Prop where
 pm:PM m plan
 low:yH m plan<1099511627776
 wait:∀ c,c<m.cls.length->done.getD c false=false->plan.getD c 0 = -1
 not:∀ c,c<m.cls.length->done.getD c false=true->plan.getD c 0 = -1->∀ k:Nat,k<(m.cls.getD c default).length->1099511627776<=yH m (plan.set c (k:Int))
def Up.adK{p q:List Int}(h:Up p q)(c:Nat)(o:Int):Up (p.set c o) (q.set c o):=by
 refine⟨by rw[bm,bm];exact h.1,λj=>?_⟩;rw[rV,rV,h.1];split
 ·exact .inl rfl
 ·exact h.2 j
def adL{plan:List Int}{c:Nat}{x:Int}(hc:c<plan.length)(h:plan.getD c 0=x):plan.set c x=plan:=by
 rw[ax,List.getElem?_eq_getElem hc,dE]at h;rw[<- h];exact List.set_getElem_self hc
def Ji.step{m:ah}(hm:VM m){plan:List Int}{done:List Bool}(h:Ji m plan done)(hd:done.length=m.cls.length){c:Nat}(hc:c<m.cls.length)(hw:done.getD c false=false):Ji m (plan.set c (oS m plan c)) (done.set c true):=by
 have hl:=h.pm.len;have zZ:=h.wait c hc hw;by_cases hx:oS m plan c = -1
 ·rw[hx,adL Bv zZ];refine⟨h.pm,h.low,λd wT gU=>?_,λd wT gU wU=>?_⟩
  ·rw[EI _ _ _ _ _ Bv]at gU;by_cases e:c=d
   ·rw[if_pos e]at gU;simp at gU
   ·rw[if_neg e]at gU;exact h.wait d wT gU
  ·rw[EI _ _ _ _ _ Bv]at gU;by_cases e:c=d
   ·subst e;exact adI hx
   ·rw[if_neg e]at gU;exact h.not d wT gU wU
 ·refine⟨adH h.pm hc,adJ hx,λd wT gU=>?_,λd wT gU wU k hk=>?_⟩
  ·rw[EI _ _ _ _ _ Bv]at gU ⊢;by_cases e:c=d
   ·rw[if_pos e]at gU;simp at gU
   ·rw[if_neg e]at gU ⊢;exact h.wait d wT gU
  ·rw[EI _ _ _ _ _ Bv]at gU wU;by_cases e:c=d
   ·rw[if_pos e]at wU;exact absurd wU hx
   ·rw[if_neg e]at gU wU;have:=h.not d wT gU wU k hk;have hu:Up (plan.set d (k:Int)) ((plan.set c (oS m plan c)).set d (k:Int)):=(Up.set (oS m plan c) zZ).adK d k;have:=Zy hm hu;unfold yH at *;omega
end T

