import Derived.Test.YtfoopmojjjpapaaGreatX28
set_option linter.all false
set_option maxHeartbeats 0
set_option maxRecDepth 20000
open List renaming getD_eq_getElem?_getD→ax,take_zero→lZ,append_nil→q7,take_length→ze
open Go Go.Am Go.Proofs
namespace T
abbrev kf:=List (Int×Int)
def mG(up:kf)(j:Nat):Int×Int:=up.getD j default
def IE(n:Nat):kf:=List.replicate n (-1,0)
def abO(up:kf):Nat->Nat->kf
 |0,_=>[]
 |f+1,k=>if 0<=(mG up k).1 then mG up k::abO up f (mG up k).1.toNat else []
def anc(up:kf)(k:Nat):kf:=abO up (k+1) k
def alF(P:List Nd)(c:Int)(l:kf):Bool:=l.any λa=>(nd P a.1.toNat).cls==c
def IF(n i:Nat)(kids:List Int)(up:kf):Nat->Option kf
 |0=>some up
 |o+1=>(IF n i kids up o).bind λu=>if pF n i (kids.getD o 0)=true/\(mG u (kids.getD o 0).toNat).1<0 then some (u.set (kids.getD o 0).toNat ((i:Int),(o:Int))) else none
def NN(m:ah)(P:List Nd)(i:Nat)(up:kf):Option kf :=
 if 0<i/\(mG up i).1<0 then none
 else if nf m (nd P i)=false then none
 else if(nd P i).cls = -1 then some up
 else if alF P (nd P i).cls (anc up i)=true then none
 else IF P.length i (nd P i).kids up (nd P i).kids.length
def abQ(m:ah)(P:List Nd):Nat->Option kf
 |0=>some (IE P.length)
 |i+1=>(abQ m P i).bind (NN m P i)
def alG(m:ah)(P:List Nd):Option kf:=if 1<=P.length/\P.length<=20000 then abQ m P P.length else none
structure UI(P:List Nd)(i o:Nat)(up:kf):Prop where
 len:up.length=P.length
 low:∀ j,j<P.length->mG up j=(-1,0)\/∃ p q:Nat,mG up j=((p:Int),(q:Int))/\p<j/\q<(nd P p).kids.length/\(p<i\/p=i/\q<o)
 set:∀ p q,(p<i\/p=i/\q<o)->p<P.length->q<(nd P p).kids.length->∃ j,j<P.length/\p<j/\(nd P p).kids.getD q 0=(j:Int)/\mG up j=((p:Int),(q:Int))
 qS:∀ j:Nat,j<P.length->((iQ (P.take i)++(nd P i).kids.take o).count (j:Int)=if 0<=(mG up j).1 then 1 else 0)
def abR(n j:Nat)(h:j<n):mG (IE n) j=(-1,0):=by
 unfold mG IE;rw[ax,List.getElem?_replicate_of_lt h];rfl
def UI.zero(P:List Nd):UI P 0 0 (IE P.length) where
 len:=List.length_replicate
 low j hj:=.inl (abR _ _ hj)
 set p q h:=AT
 qS j hj:=by rw[abR _ _ hj];simp[iQ]
def IG{up:kf}{k j:Nat}{x:Int×Int}(hk:k<up.length):mG (up.set k x) j=if k=j then x else mG up j:=by
 unfold mG;rw[ax,List.getElem?_set];by_cases e:k=j
 ·subst e;rw[if_pos rfl,if_pos hk,if_pos rfl];rfl
 ·rw[if_neg e,if_neg e,ax]
def UI.kid{P:List Nd}{i o:Nat}{up:kf}(h:UI P i o up)(hi:i<P.length)(ho:o<(nd P i).kids.length)(hk:pF P.length i ((nd P i).kids.getD o 0)=true)(hu:(mG up ((nd P i).kids.getD o 0).toNat).1<0):
  UI P i (o+1) (up.set ((nd P i).kids.getD o 0).toNat ((i:Int),(o:Int))):=by
 unfold pF at hk;rw[decide_eq_true_eq]at hk;have gV:(nd P i).kids.take (o+1)=(nd P i).kids.take o++[(nd P i).kids.getD o 0]:=ei ho;generalize jU:(nd P i).kids.getD o 0=k at *;obtain⟨kn,rfl⟩:∃kn:Nat,k=kn:=⟨k.toNat,AT⟩;rw[Int.toNat_natCast]at hu ⊢;have ed:kn<up.length:=by rw[h.len];omega
 refine⟨by rw[List.length_set];exact h.len,λj hj=>?_,λp q Md hp hq=>?_,λj hj=>?_⟩
 ·rw[IG ed];by_cases e:kn=j
  ·subst e;rw[if_pos rfl];exact .inr ⟨i,o,rfl,AT,ho,.inr ⟨rfl,AT⟩⟩
  ·rw[if_neg e];rcases h.low j hj with h1|⟨p,q,h1,h2,h3,h4⟩
   ·exact .inl h1
   ·exact .inr ⟨p,q,h1,h2,h3,AT⟩
 ·by_cases e:p=i/\q=o
  ·obtain⟨rfl,rfl⟩:=e;exact⟨kn,AT,AT,jU,by rw[IG ed,if_pos rfl]⟩
  ·obtain⟨j,h1,h2,h3,h4⟩:=h.set p q AT hp hq;refine⟨j,h1,h2,h3,?_⟩;rw[IG ed,if_neg ?_,h4];rintro rfl;rw[h4]at hu;dsimp only at hu;omega
 ·rw[gV,<- List.append_assoc,List.count_append,h.qS j hj,IG ed];by_cases e:kn=j
  ·subst e;rw[if_neg AT,if_pos rfl,if_pos NZ];simp
  ·have hb:((kn:Int)==(j:Int))=false:=by rw[beq_eq_false_iff_ne];omega
   rw[if_neg e,List.count_singleton,hb];rfl
def alI{P:List Nd}{i:Nat}(hi:i<P.length):P.take (i+1)=P.take i++[nd P i]:=ei hi
def UI.next{P:List Nd}{i:Nat}{up:kf}(h:UI P i (nd P i).kids.length up)(hi:i<P.length):UI P (i+1) 0 up where
 len:=h.len
 low j hj:=by
  rcases h.low j hj with h1|⟨p,q,h1,h2,h3,h4⟩
  ·exact .inl h1
  ·exact .inr ⟨p,q,h1,h2,h3,AT⟩
 set p q Md hp hq:=h.set p q (by
  by_cases e:p=i
  ·subst e;exact .inr ⟨rfl,hq⟩
  ·omega) hp hq
 qS j hj:=by
  rw[lZ,q7,alI hi,SY,<- h.qS j hj,ze]
def UI.kids{P:List Nd}{i:Nat}(hi:i<P.length){up:kf}(h:UI P i 0 up):∀ o u,o<=(nd P i).kids.length->IF P.length i (nd P i).kids up o=some u->UI P i o u:=by
 intro o
 induction o with
 |zero=>intro u _ hu;cases hu;exact h
 |succ o ih =>
  intro u ho hu;unfold IF at hu;obtain⟨v,hv,hu⟩:=Option.bind_eq_some_iff.1 hu;by_cases hc:pF P.length i ((nd P i).kids.getD o 0)=true/\(mG v ((nd P i).kids.getD o 0).toNat).1<0
  ·rw[if_pos hc]at hu;cases hu;exact(ih v AT hv).kid hi AT hc.1 hc.2
  ·rw[if_neg hc]at hu;cases hu
def alJ{m:ah}{x:Nd}(h:nf m x=true)(hc:x.cls = -1):x.kids.length=0:=by
 unfold nf at h;rw[if_pos hc,decide_eq_true_eq]at h;exact h.1
def UI.node{m:ah}{P:List Nd}{i:Nat}(hi:i<P.length){up u:kf}(h:UI P i 0 up)(hu:NN m P i up=some u):UI P (i+1) 0 u:=by
 unfold NN at hu;split at hu
 ·cases hu
 split at hu
 ·cases hu
 rename_i h1 h2;rw[Bool.not_eq_false]at h2;split at hu
 ·rename_i h3;cases hu;have:=alJ h2 h3;refine UI.next ?_ hi;rw[this];exact h
 split at hu
 ·cases hu
 exact(UI.kids hi h _ _ (Nat.le_refl _) hu).next hi
def UI.lt{P:List Nd}{i o:Nat}{up:kf}(h:UI P i o up){k:Nat}(hk:k<P.length)(h0:0<=(mG up k).1):(mG up k).1.toNat<k:=by
 rcases h.low k hk with h1|⟨p,q,h1,h2,h3,h4⟩
 ·rw[h1]at h0;exact absurd h0 IP
 ·rw[h1];simpa using h2
def UI.full{P:List Nd}{up:kf}(h:UI P P.length 0 up)(j:Nat)(hj:j<P.length):(iQ P).count (j:Int)=if 0<=(mG up j).1 then 1 else 0:=by
 have:=h.qS j hj;rwa [lZ,q7,ze]at this
def alK(P:List Nd)(l:kf)(x:List (List Bool)):List (List Bool):=l.foldl (λacc a=>db acc (nd P a.1.toNat).cls.toNat a.2.toNat) x
def alL(m:ah)(P:List Nd)(up:kf)(k:Nat):List (List Bool):=alK P (anc up k) (cg m)
def alM(m:ah)(x:Nd)(left:List (List Bool)):Option Int :=
 if x.cls≠-1 then some 1099511627776
 else if 0<x.aT.length then(if ng m x left=true then some 1099511627776 else none)
 else if(fZ m left x.dT).2=0 then some (fZ m left x.dT).1 else none
def abS:List (Option Int)->Int->Option Int
 |[],b=>some b
 |none::_,_=>none
 |some v::l,b=>abS l (min b v)
def alN(m:ah)(P:List Nd)(up:kf)(i:Nat):Option Int:=abS ((List.range i).map λk=>alM m (nd P k) (alL m P up k)) 1099511627776
def jK(m:ah)(P:List Nd):Int×Bool :=
 match alG m P with
 |none=>(0,false)
 |some up=>match alN m P up P.length with
  |none=>(0,false)
  |some b=>(b,true)
end T

