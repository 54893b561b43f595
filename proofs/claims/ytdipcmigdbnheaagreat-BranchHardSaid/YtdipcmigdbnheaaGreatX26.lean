import Derived.Test.YtdipcmigdbnheaaGreatX24
import Derived.Test.YtdipcmigdbnheaaGreatX14
import Derived.Test.YtdipcmigdbnheaaGreatX25
set_option linter.unusedVariables false
set_option linter.unusedSimpArgs false
set_option linter.unnecessarySimpa false
set_option linter.unusedSectionVars false
set_option maxHeartbeats 64000000
set_option maxRecDepth 20000
open List renaming getD_cons_succ→eS,getD_eq_getElem?_getD→ay,getElem?_set_self→GC,mem_iff_getElem→sm,getElem?_eq_getElem→bI,getElem?_set_ne→bu,length_set→bm,mem_singleton→ek,mem_append→cy,range→aT,all_eq_true→fK,mem_range→mA
open Go Go.Am
namespace T
theorem V6:∀ (l:List Int) (i:Nat) (x:Int),i<l.length→jG (l.set i x)=jG l - l.getD i 0+x
  | [],i,x,h=>by simp at h
  | y::r,0,x,_=>by simp only[List.set_cons_zero,jG,List.getD_cons_zero];omega
  | y::r,i+1,x,h=>by
    have:=V6 r i x (by simpa using h)
    simp only[List.set_cons_succ,jG,eS];omega
structure Rel (R:Int) (out:List Int) (s:SC) (n:Nat):Prop where
  ok:iX R out
  b0:0≤s.1
  c0:0≤s.2∧s.2≤1048576 * n
  eq:s.1=0→jG out=s.2
  ff:0<s.1→1099511627776∈out
theorem Rel.mono {R:Int} {out:List Int} {s:SC} {n k:Nat} (h:Rel R out s n) (hk:n≤k):Rel R out s k :=
  ⟨h.ok,h.b0,by have:=h.c0;omega,h.eq,h.ff⟩
theorem Rel.add {R:Int} {out:List Int} {s:SC} {n k:Nat} (h:Rel R out s n) {r d c t:Int} (hr:0≤r∧r<R) (ht:0≤t)
    (hc:(c=1099511627776∧d=if 0<t then 1099511627776 else 0)∨(c≠1099511627776∧d=c * t∧0≤d∧d≤1048576 * k)) (hb:n+k<1048576) :
    Rel R (eZ out r d) (Co s c t) (n+k):=by
  have gp:bP d:=by
    unfold bP
    rcases hc with ⟨_,h⟩ | ⟨_,_,h1,h2⟩
    · rw[h];split<;>omega
    · omega
  have hlen:=h.ok.1
  have hi:r.toNat<out.length:=by omega
  have hg:=h.ok.get r.toNat
  have cp:=az (d:=(0:Int)) hi
  have hs:=It h.ok.2 _ cp
  have iS:=V6 out r.toNat (dQ (out.getD r.toNat 0) d) hi
  have mM:=h.c0
  have pP:=h.b0
  have Bx:dQ (out.getD r.toNat 0) d∈eZ out r d:=by
    unfold eZ
    have:(out.set r.toNat (dQ (out.getD r.toNat 0) d)).getD r.toNat 0=dQ (out.getD r.toNat 0) d:=by
      rw[ay,GC hi];rfl
    have JY:=az (l:=out.set r.toNat (dQ (out.getD r.toNat 0) d)) (i:=r.toNat) (d:=0) (by simpa using hi)
    rwa [this] at JY
  have V7:1099511627776∈out→1099511627776∈eZ out r d:=by
    intro hm
    obtain ⟨j,hj,V8⟩:=sm.1 hm
    by_cases V9:r.toNat=j
    · subst V9
      have:out.getD r.toNat 0=1099511627776:=by rw[ay,bI hj];exact V8
      rw[this] at Bx
      have e:dQ 1099511627776 d=1099511627776:=by unfold bP at gp;unfold dQ;omega
      rwa [e] at Bx
    · have:(eZ out r d).getD j 0=1099511627776:=by
        unfold eZ
        rw[ay,bu V9,bI hj];exact V8
      have JY:=az (l:=eZ out r d) (i:=j) (d:=0) (by unfold eZ;simpa using hj)
      rwa [this] at JY
  unfold bP at hg gp
  rcases hc with ⟨JZ,hd⟩ | ⟨JZ,hd,hd0,N7⟩
  · unfold Co
    rw[if_pos JZ]
    refine⟨h.ok.add (by unfold bP;exact gp),by dsimp only;omega,by dsimp only;omega,fun hz=>?_,fun hz=>?_⟩
    · dsimp only at hz ⊢
      have:d=0:=by rw[hd,if_neg (by omega)]
      rw[← h.eq (by omega)]
      unfold eZ
      rw[iS]
      unfold dQ
      omega
    · dsimp only at hz
      by_cases htz:0<t
      · have:dQ (out.getD r.toNat 0) d=1099511627776:=by rw[hd,if_pos htz];unfold dQ;omega
        rwa [this] at Bx
      · exact V7 (h.ff (by omega))
  · unfold Co
    rw[if_neg JZ,← hd]
    refine⟨h.ok.add (by unfold bP;exact gp),by dsimp only;omega,by dsimp only;omega,fun hz=>?_,fun hz=>?_⟩
    · dsimp only at hz ⊢
      have he:=h.eq hz
      unfold eZ
      rw[iS]
      unfold dQ
      omega
    · exact V7 (h.ff hz)
theorem V' {m:ah}:∀ (plan:List Int) (i:Nat),(∀ j,j<plan.length→plan.getD j 0 = -1∨eP m ((i+j:Nat):Int) (plan.getD j 0)=true)→qL m i plan=true
  | [],_,_=>rfl
  | o::r,i,h=>by
    rw[qL,Bool.and_eq_true,Bool.or_eq_true,decide_eq_true_eq]
    refine⟨by simpa using h 0 (by simp),V' r (i+1) fun j hj=>?_⟩
    have:=h (j+1) (by simpa using hj)
    rwa [eS,show i+(j+1)=i+1+j by omega] at this
theorem Wa {m:ah} {plan:List Int} (h:PM m plan):qM m plan=true:=by
  rw[qM,if_neg (by rw[h.len];simp)]
  exact V' plan 0 fun j hj=>by rw[Nat.zero_add];exact h.get j hj
theorem NO {m:ah} {plan:List Int} (hm:VM m) (hp:PM m plan):xL m plan=(ny (nq m plan) 0,nq m plan,0):=by
  rw[xL,if_neg (by rw[iJ.2 hm];simp),if_neg (by rw[Wa hp];simp)]
  rfl
theorem ZY {m:ah} {plan:List Int} (hm:VM m) (hp:FP m plan):z6 m plan=0:=by
  unfold z6
  rw[if_neg (by rw[iJ.2 hm];simp),Wa hp.pm,if_neg]
  simp only[Bool.not_true,Bool.false_or,Bool.not_eq_true]
  cases h:plan.contains (-1) with
  | false=>rfl
  | true =>
    obtain ⟨j,hj,e⟩:=sm.1 (List.contains_iff_mem.1 h)
    have:=iy.1 (hp.get j hj)
    rw[ay,bI hj] at this
    simp only[Option.getD_some] at this
    omega
def tG (m:ah) (a x b y:Int) (p:Pr):Bool:=decide (p.fst=a∧p.snd=b∧nB m p x y=1099511627776)
def tH (m:ah) (a x b y:Int):Bool:=if b<a then m.ae.any (tG m b y a x) else m.ae.any (tG m a x b y)
theorem aet {m:ah} {a x b y:Int} (h:a≠b):tH m a x b y=tH m b y a x:=by
  unfold tH
  by_cases h1:b<a
  · rw[if_pos h1,if_neg (by omega)]
  · rw[if_neg h1,if_pos (by omega)]
structure CI (m:ah) (plan out mv:List Int):Prop where
  fp:FP m out
  nd:mv.Nodup
  rg:∀ x∈mv,0≤x∧x<out.length
  un:∀ y:Nat,y<out.length→¬ (y:Int)∈mv→out.getD y 0=plan.getD y 0
theorem J0:∀ {n:Nat} {l:List Int},l.Nodup→(∀ x∈l,0≤x∧x<n)→l.length≤n
  | 0,l,h,hr=>by
    cases l with
    | nil=>simp
    | cons x r=>have:=hr x (by simp);omega
  | n+1,l,h,hr=>by
    by_cases hm:(n:Int)∈l
    · have h1:=List.length_erase_of_mem hm
      have h2:=J0 (n:=n) (h.erase (n:Int)) fun x hx=>by
        have h3:=(List.Nodup.mem_erase_iff h).1 hx
        have:=hr x h3.2
        omega
      omega
    · have:=J0 (n:=n) h fun x hx=>by
        have:=hr x hx
        have:x≠n:=fun e=>hm (e ▸ hx)
        omega
      omega
theorem CI.len {m:ah} {plan out mv:List Int} (h:CI m plan out mv):mv.length≤out.length:=J0 h.nd h.rg
theorem CI.step {m:ah} {plan out mv:List Int} (h:CI m plan out mv) {y:Nat} (hy:y<out.length) (hm:¬ (y:Int)∈mv) {o:Int} (ho:eP m (y:Nat) o=true):CI m plan (out.set y o) (mv++[(y:Int)]):=by
  refine⟨?_,?_,?_,?_⟩
  · refine⟨by rw[bm];exact h.fp.len,fun j hj=>?_⟩
    rw[bm] at hj
    by_cases e:y=j
    · subst e
      rw[ay,GC hj]
      exact ho
    · rw[ay,bu e,← ay]
      exact h.fp.get j hj
  · rw[List.nodup_append]
    refine⟨h.nd,by simp,fun a ha b hb=>?_⟩
    rw[ek] at hb
    subst hb
    intro e;subst e;exact hm ha
  · intro x hx
    rw[bm]
    rcases cy.1 hx with hx | hx
    · exact h.rg x hx
    · rw[ek.1 hx];omega
  · intro j hj hn
    rw[bm] at hj
    rw[cy,not_or,ek] at hn
    rw[ay,bu (by omega),← ay]
    exact h.un j hj hn.1
def oG (c o:Int) (y:Int × Int):Bool:=decide (y=(c,o))
def uS (m:ah) (a b:Int × Int):Bool:=decide (a.1=b.1) || tH m a.1 a.2 b.1 b.2
def ye (m:ah) (g:List Int) (l:List (Int × Int)) (i:Nat):Bool:=g.contains (l.getD i default).1 && eP m (l.getD i default).1 (l.getD i default).2 && (l.take i).all (uS m (l.getD i default))
def wj (m:ah) (g:List Int) (l:List (Int × Int)):Bool:=(aT l.length).all (ye m g l)
def CQ (m:ah) (g:List Int):Bool:=(aT g.length).all fun i=>decide (0≤g.getD i 0∧g.getD i 0<m.cls.length∧(i=0∨g.getD (i - 1) 0<g.getD i 0))
def wm (left:List (List Bool)) (cells:List (List (Int × Int))) (c:Int):Bool :=
  (aT (left.getD c.toNat default).length).all fun o=>!(left.getD c.toNat default).getD o false || cells.any fun l=>l.any (oG c o)
def mr (m:ah) (x:Nd) (left:List (List Bool)):Bool :=
  CQ m x.cM && decide (x.cells.length<x.cM.length) && x.cells.all (wj m x.cM) && x.cM.all (wm left x.cells)
theorem FJ {n:Nat} {f:Nat→Bool}:(aT n).all f=true↔∀ i,i<n→f i=true:=by
  rw[fK]
  exact⟨fun h i hi=>h i (mA.2 hi),fun h i hi=>h i (mA.1 hi)⟩
theorem all_false {α:Type} {l:List α} {f:α→Bool} {x:α} (hx:x∈l) (h:f x=false):l.all f=false:=by
  rw[Bool.eq_false_iff];intro h2
  rw[fK] at h2
  rw[h2 x hx] at h;cases h
theorem J1 {n:Nat} {f:Nat→Bool} {i:Nat} (hi:i<n) (h:f i=false):(aT n).all f=false:=all_false (mA.2 hi) h
theorem aeu {m:ah} {g:List Int} (h:CQ m g=true):∀ c∈g,0≤c∧c<m.cls.length:=fun c hc=>by
  obtain ⟨i,hi,rfl⟩:=List.getElem_of_mem hc
  have:=FJ.1 h i hi
  rw[decide_eq_true_eq,ay,bI hi] at this
  exact⟨this.1,this.2.1⟩
theorem aev {m:ah} {x:Nd} {left:List (List Bool)} (h:CQ m x.cM=false):mr m x left=false:=by unfold mr;rw[h];rfl
theorem aew {m:ah} {x:Nd} {left:List (List Bool)} (h:¬x.cells.length<x.cM.length):mr m x left=false:=by unfold mr;rw[decide_eq_false h];simp
theorem aex {m:ah} {x:Nd} {left:List (List Bool)} (h:x.cells.all (wj m x.cM)=false):mr m x left=false:=by unfold mr;rw[h];simp
theorem aey {m:ah} {x:Nd} {left:List (List Bool)} (h:x.cM.all (wm left x.cells)=false):mr m x left=false:=by unfold mr;rw[h];simp
theorem aez {m:ah} {x:Nd} {left:List (List Bool)} (h1:CQ m x.cM=true) (h2:x.cells.length<x.cM.length) (h3:x.cells.all (wj m x.cM)=true) (h4:x.cM.all (wm left x.cells)=true):mr m x left=true:=by unfold mr;rw[h1,decide_eq_true h2,h3,h4];rfl
end T

