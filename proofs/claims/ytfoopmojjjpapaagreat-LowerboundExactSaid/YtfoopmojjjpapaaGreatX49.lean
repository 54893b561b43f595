import Derived.Test.YtfoopmojjjpapaaGreatX24
set_option linter.all false
set_option maxHeartbeats 0
set_option maxRecDepth 20000
open List renaming mem_append→cT,mem_singleton→c8,length_append→bL,mem_cons_of_mem→dw
open Nat renaming le_refl→aX,mul_le_mul→xM
open Go Go.Am Go.Proofs
namespace T
def yN(par:List Int)(i:Nat):Nat->List (Int×Int)
 |0=>[]
 |c+1=>yN par i c++if par.getD (i+1+c) 0=i then [((i:Int),((i+1+c:Nat):Int))] else []
def yO(par:List Int)(n:Nat):Nat->List (Int×Int)
 |0=>[]
 |i+1=>yO par n i++yN par i (n-(i+1))
def ctU(ch:List (Int×Int)):Prop:=ch=[]\/∃ r c,ch=[(r,c)]/\(0<=r/\r<2)/\1<=c/\c<=40
def opU(l:List cP):Prop:=∀ o∈l,ctU o.ch
def prU(cls:List (List cP))(p:Pr):Prop:=p.dZ=1/\(0<=p.fst/\p.fst<p.snd/\p.snd<cls.length)/\(p.aB.length:Int)=(cls.getD p.fst.toNat default).length*(cls.getD p.snd.toNat default).length/\∀ x∈p.aB,0<=x/\x<=38
structure Z1(m:ah)(par:List Int):Prop where
 n:1<=m.cls.length/\m.cls.length<=5
 pl:par.length=m.cls.length
 pr:∀ i,i<par.length->-1<=par.getD i 0/\par.getD i 0<i
 cl:∀ l∈m.cls,(1<=l.length/\l.length<=3)/\opU l
 fs:m.ae.map (λp=>(p.fst,p.snd))=yO par m.cls.length m.cls.length
 pt:∀ p∈m.ae,prU m.cls p
 ct:m.aC=[]
 ru:m.rules=2
def Cm(a b:Int×Int):Prop:=a.1<b.1\/(a.1=b.1/\a.2<b.2)
def HY(par:List Int)(i:Nat):∀ c,∀ q∈yN par i c,q.1=(i:Int)/\q.2<((i+1+c:Nat):Int)
 |0,q,h=>by cases h
 |c+1,q,h=>by
  rw[yN,cT]at h;rcases h with h|h
  ·have:=HY par i c q h;omega
  ·split at h
   ·rw[c8]at h;subst h;dsimp only;omega
   ·cases h
def Z2(par:List Int)(n:Nat):∀ i,∀ q∈yO par n i,q.1<(i:Int)
 |0,q,h=>by cases h
 |i+1,q,h=>by
  rw[yO,cT]at h;rcases h with h|h
  ·have:=Z2 par n i q h;omega
  ·have:=(HY par i _ q h).1;omega
def Z3(par:List Int)(i:Nat):∀ c,(yN par i c).Pairwise Cm
 |0=>.nil
 |c+1=>by
  rw[yN,List.pairwise_append];refine⟨Z3 par i c,by split<;>simp,λa ha b hb=>?_⟩;have h1:=HY par i c a ha;split at hb
  ·rw[c8]at hb;subst hb;exact .inr ⟨h1.1,h1.2⟩
  ·cases hb
def Z4(par:List Int)(n:Nat):∀ i,(yO par n i).Pairwise Cm
 |0=>.nil
 |i+1=>by
  rw[yO,List.pairwise_append];refine⟨Z4 par n i,Z3 par i _,λa ha b hb=>.inl ?_⟩;have h1:=Z2 par n i a ha;have h2:=(HY par i _ b hb).1;omega
def Z5(par:List Int)(i:Nat):∀ c,(yN par i c).length<=c
 |0=>aX _
 |c+1=>by
  rw[yN,bL];have:=Z5 par i c;split<;>simp<;>omega
def Z6(par:List Int)(n:Nat):∀ i,(yO par n i).length<=i*n
 |0=>by rw[Nat.zero_mul];exact aX _
 |i+1=>by
  rw[yO,bL,Nat.succ_mul];have:=Z6 par n i;have:=Z5 par i (n-(i+1));omega
def Z7{m:ah}:∀ (l:List Pr) (q:Option Pr),(∀ p∈l,gA m p=true/\p.dZ=1)->l.Pairwise (λa b=>Cm (a.fst,a.snd) (b.fst,b.snd))->(∀ p,q=some p->p.dZ=1/\∀ x∈l.head?,Cm (p.fst,p.snd) (x.fst,x.snd))->e7 m q l=true
 |[],q,_,_,_=>by cases q<;>rfl
 |p::r,q,h,hp,hq=>by
  rw[List.pairwise_cons]at hp;have ih:=Z7 r (some p) (λx hx=>h x (dw _ hx)) hp.2 λy hy=>by
   cases hy;exact⟨(h p IM).2,λx hx=>hp.1 x (List.mem_of_mem_head? hx)⟩
  have h1:=h p IM;cases q with
  |none=>rw[e7,ih,h1.1];rfl
  |some q =>
   rw[e7,ih,h1.1,Bool.and_true,Bool.true_and,decide_eq_true_eq];obtain⟨h2,h3⟩:=hq q rfl;have h4:=h3 p rfl;unfold ni;rw[h2,h1.2];unfold Cm at h4;dsimp only at h4;unfold kd;simp only[qQ];repeat' split
   all_goals omega
def Z1.vm{m:ah}{par:List Int}(h:Z1 m par):VM m:=by
 have gK:m.ae.length<=25:=by
  have h1:=congrArg List.length h.fs;rw[List.length_map]at h1;have h2:=Z6 par m.cls.length m.cls.length;have h3:m.cls.length*m.cls.length<=5*5:=xM h.n.2 h.n.2;omega
 have MQ:m.ae.Pairwise (λa b=>Cm (a.fst,a.snd) (b.fst,b.snd)):=by
  have h1:=Z4 par m.cls.length m.cls.length;rw[<- h.fs,List.pairwise_map]at h1;exact h1
 refine⟨by have:=h.n;omega,λl hl=>by have:=(h.cl l hl).1;omega,AT,by rw[h.ct];decide,by rw[h.ru];decide,λl hl o ho=>?_,Z7 _ _ (λp hp=>?_) MQ (λp hp=>by cases hp),λc hc=>by rw[h.ct]at hc;cases hc⟩
 ·rcases(h.cl l hl).2 o ho with h1|⟨r,c,h1,h2,h3⟩
  ·rw[h1];rfl
  ·rw[h1,h.ru];unfold ej jJ jo ej;simp;omega
 ·obtain⟨h1,h2,h3,h4⟩:=h.pt p hp;refine⟨?_,h1⟩;unfold gA jJ;rw[h1,h.ru];simp only[Bool.and_eq_true,Bool.not_eq_true',decide_eq_true_eq];refine⟨⟨IP,AT,h2.2.1,h2.2.2,h3⟩,?_⟩;rw[<- Bool.not_eq_true,List.any_eq_true];rintro⟨x,hx,hb⟩;have:=h4 x hx;unfold oG jo at hb;simp at hb;omega
def HZ:List (List cP)->Nat
 |[]=>1
 |l::r=>max 1 l.length*HZ r
def Z8{b:Nat}(hb:1<=b):∀ cls:List (List cP),(∀ l∈cls,l.length<=b)->HZ cls<=b^cls.length
 |[],_=>aX _
 |l::r,h=>by
  rw[HZ,List.length_cons,Nat.pow_succ,Nat.mul_comm];exact xM (Z8 hb r λx hx=>h x (dw _ hx)) (by have:=h l IM;omega)
structure Z9(m:ah):Prop where
 om:mA 5 m
 cap:HZ m.cls<10000
def Z9.of{m:ah}(h:mA 5 m)(h4:∀ l∈m.cls,l.length<=4):Z9 m :=
 ⟨h,Nat.lt_of_le_of_lt (Z8 IP _ h4) (Nat.lt_of_le_of_lt (Nat.pow_le_pow_right IP h.sZ) IP)⟩
end T

