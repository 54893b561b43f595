import Derived.Test.YtibijngmebpmmaaGreatAmF
set_option linter.unusedVariables false
set_option linter.unusedSimpArgs false
set_option linter.unnecessarySimpa false
open Go Go.Am
namespace T
theorem Rc:type_of% @rows_length ∧type_of% @rows_getD ∧type_of% @rows_get ∧type_of% @rows_take ∧type_of% @rows_app ∧type_of% @rows_scal ∧type_of% @rows_ren  :=
  ⟨@rows_length ,@rows_getD ,@rows_get ,@rows_take ,@rows_app ,@rows_scal ,@rows_ren ⟩
def In64 (x:Int):Prop:=-9223372036854775808≤x∧x≤9223372036854775807
def modI (n m:Int):Int:=if m<1 then 0 else n % m
theorem modI_range (n m:Int) (hm:0<m):0≤modI n m∧modI n m<m:=by
  unfold modI
  rw[if_neg (by omega)]
  exact⟨Int.emod_nonneg _ (by omega),Int.emod_lt_of_pos _ (by omega)⟩
theorem tmod_cases (n m:Int) (hm:0<m):(n.tmod m<0→n % m=n.tmod m+m)∧(0≤n.tmod m→n % m=n.tmod m)∧-m<n.tmod m∧n.tmod m<m:=by
  have h1:=Int.emod_nonneg n (show m≠0 by omega)
  have h2:=Int.emod_lt_of_pos n hm
  rcases Int.lt_or_le n 0 with hn | hn
  · have h3:n.tmod m = -((-n) % m):=by
      have:=Int.neg_tmod (a:=-n) (b:=m)
      rw[Int.neg_neg] at this
      rw[this,Int.tmod_eq_emod_of_nonneg (by omega)]
    have h4:=Int.emod_nonneg (-n) (show m≠0 by omega)
    have h5:=Int.emod_lt_of_pos (-n) hm
    have h6:=Int.mul_ediv_add_emod n m
    have h7:=Int.mul_ediv_add_emod (-n) m
    have key:(n % m=0∧(-n) % m=0)∨n % m=m - (-n) % m:=by
      by_cases hz:(-n) % m=0
      · left
        have hd:m ∣ -n:=Int.dvd_of_emod_eq_zero hz
        have hd':m ∣ n:=(Int.dvd_neg).1 hd
        exact⟨Int.emod_eq_zero_of_dvd hd',hz⟩
      · right
        have:n=m * (-((-n) / m) - 1)+(m - (-n) % m):=by
          have : -n=m * ((-n) / m)+(-n) % m:=h7.symm
          rw[Int.mul_sub,Int.mul_neg]
          omega
        rw[this,Int.mul_add_emod_self_left]
        rw[← this]
        exact Int.emod_eq_of_lt (by omega) (by omega)
    rw[h3]
    refine⟨?_,?_,?_,?_⟩<;>omega
  · rw[Int.tmod_eq_emod_of_nonneg hn]
    refine⟨?_,?_,?_,?_⟩<;>omega
def nextV (L:List Int) (at':Nat) (n:Int):Int:=if at' ≥ L.length then 0 else modI (L.getD at' 0) n
def nextA (L:List Int) (at':Nat):Nat:=if at' ≥ L.length then at' else at'+1
theorem nextA_le {L:List Int} {k:Nat} (h:k≤L.length):nextA L k≤L.length:=by unfold nextA;split<;>omega
theorem nextV_range {L:List Int} {k:Nat} {n:Int} (h:0<n):0≤nextV L k n∧nextV L k n<n:=by
  unfold nextV
  split
  · omega
  · exact modI_range _ _ h
def oneV (L:List Int) (k:Nat) (n:Int):Bool:=decide (nextV L k n=n - 1)
theorem getD_mem {α:Type} {l:List α} {i:Nat} {d:α} (h:i<l.length):l.getD i d∈l:=by
  rw[List.getD_eq_getElem?_getD,List.getElem?_eq_getElem h]
  exact List.getElem_mem h
def addC (a b:Int):Int:=min (a+b) 1099511627776
def priceB (n:Int):Bool:=decide ((1≤n∧n≤1048576)∨n=1099511627776)
def ruleB (R n:Int):Bool:=decide (0≤n∧n<R)
def optB (m:Mdl) (c o:Int):Bool:=decide (0≤c∧c<m.cls.length∧0≤o∧o<(m.cls.getD c.toNat default).length)
def cmp3 (a b:Int):Int:=if a<b then -1 else if b<a then 1 else 0
def orL:List Int→Int
  | []=>0
  | x::r=>if x≠0 then x else orL r
def excV (most pen sum:Int):Int:=if sum≤most then 0 else min ((sum - most) * pen) 1099511627776
def timesV (n c:Int):Int:=if n≤0 then 0 else if 1099511627776≤c then 1099511627776 else min (n * c) 1099511627776
def costV (L:List Int) (k:Nat):Int:=if nextV L k 6<3 then 0 else if nextV L k 6=3 then 1099511627776 else 1+nextV L (nextA L k) 20
def costA (L:List Int) (k:Nat):Nat:=if nextV L k 6≤3 then nextA L k else nextA L (nextA L k)
def prevAt {α:Type} [Inhabited α] (l:List α) (k:Nat):Option α:=if k=0 then none else some (l.getD (k - 1) default)
def chL (R:Int):Option (Int × Int)→List (Int × Int)→Bool
  | _,[]=>true
  | q,c::r=>(ruleB R c.1 && priceB c.2 && (match q with | none=>true | some q=>decide (q.1<c.1))) && chL R (some c) r
def ordV (a b:Pr):Int:=orL [cmp3 a.rule b.rule,cmp3 a.fst b.fst,cmp3 a.snd b.snd]
def badN (n:Int):Bool:=decide (n≠0) && !priceB n
def pairB (m:Mdl) (p:Pr):Bool:=ruleB m.rules p.rule && decide (0≤p.fst∧p.fst<p.snd∧p.snd<m.cls.length∧(p.tab.length:Int)=(m.cls.getD p.fst.toNat default).length * (m.cls.getD p.snd.toNat default).length) && !p.tab.any badN
def prsL (m:Mdl):Option Pr→List Pr→Bool
  | _,[]=>true
  | q,p::r=>(pairB m p && (match q with | none=>true | some q=>decide (ordV q p<0))) && prsL m (some p) r
def ldOrd (a b:Ld):Int:=orL [cmp3 a.cls b.cls,cmp3 a.opt b.opt]
def ldL (m:Mdl):Option Ld→List Ld→Bool
  | _,[]=>true
  | q,x::r=>(optB m x.cls x.opt && decide (1≤x.wt∧x.wt≤1000) && (match q with | none=>true | some q=>decide (ldOrd q x<0))) && ldL m (some x) r
def ctB (m:Mdl) (c:Ct):Bool:=ruleB m.rules c.rule && decide (0≤c.most∧c.most≤1048576) && priceB c.pen && ldL m none c.loads
def largeB (m:Mdl):Bool:=decide (24<m.cls.length∨m.cls.any (fun l=>decide (24<l.length))=true∨4000<m.prs.length∨800<m.cts.length∨m.rules<0∨56<m.rules)
def validV (m:Mdl):Int:=if largeB m=true then 2 else if (m.cls.any fun l=>l.any fun o=>!chL m.rules none o.ch)=true then 1 else if prsL m none m.prs=false then 1 else if (m.cts.any fun c=>!ctB m c)=true then 1 else 0
theorem prevAt_succ {α:Type} [Inhabited α] (l:List α) (k:Nat):prevAt l (k+1)=some (l.getD k default):=by simp[prevAt]
theorem chL_at {R:Int} {l r:List (Int × Int)} {k:Nat} {c:Int × Int}:chL R (prevAt l k) (c::r)=((ruleB R c.1 && priceB c.2 && (decide (k=0) || decide ((l.getD (k - 1) default).1<c.1))) && chL R (some c) r):=by
  by_cases h:k=0<;>simp[prevAt,h,chL]
theorem prsL_at {m:Mdl} {l r:List Pr} {k:Nat} {p:Pr}:prsL m (prevAt l k) (p::r)=((pairB m p && (decide (k=0) || decide (ordV (l.getD (k - 1) default) p<0))) && prsL m (some p) r):=by
  by_cases h:k=0<;>simp[prevAt,h,prsL]
theorem ldL_at {m:Mdl} {l r:List Ld} {k:Nat} {x:Ld}:ldL m (prevAt l k) (x::r)=((optB m x.cls x.opt && decide (1≤x.wt∧x.wt≤1000) && (decide (k=0) || decide (ldOrd (l.getD (k - 1) default) x<0))) && ldL m (some x) r):=by
  by_cases h:k=0<;>simp[prevAt,h,ldL]
structure MB (m:Mdl):Prop where
  cls:m.cls.length<9223372036854775808
  opt:∀ l∈m.cls,l.length<9223372036854775808
  ch:∀ l∈m.cls,∀ o∈l,o.ch.length<9223372036854775808
  prs:m.prs.length<9223372036854775808
  tab:∀ p∈m.prs,p.tab.length<9223372036854775808
  cts:m.cts.length<9223372036854775808
  lds:∀ c∈m.cts,c.loads.length<9223372036854775808
end T

