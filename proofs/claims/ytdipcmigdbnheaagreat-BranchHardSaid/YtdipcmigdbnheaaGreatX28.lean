import Derived.Test.YtdipcmigdbnheaaGreatX15
import Derived.Test.YtdipcmigdbnheaaGreatX27
import Derived.Test.YtdipcmigdbnheaaGreatX19
import Derived.Test.YtdipcmigdbnheaaGreatX12
import Derived.Test.YtdipcmigdbnheaaGreatX20
import Derived.Test.YtdipcmigdbnheaaGreatX17
set_option linter.unusedVariables false
set_option linter.unusedSimpArgs false
set_option linter.unnecessarySimpa false
set_option linter.unusedSectionVars false
set_option maxHeartbeats 64000000
set_option maxRecDepth 20000
open List renaming getElem?_append_left→cj,getElem?_set_ne→bu,mem_of_getElem?→gw,range→aT,getElem?_eq_some_iff→aS,getElem?_map→bN,ext_getElem?→ju,getElem?_eq_none→du,map_congr_left→lP,mem_range→mA,length_set→bm,getElem?_append_right→eE,length_append→bJ,take_of_length_le→dC,getElem?_eq_getElem→bI,getD_eq_getElem?_getD→ay,mem_cons→bZ,not_mem_nil→kC,nil_append→dK,append_nil→jc,eq_nil_of_length_eq_zero→p7,append_assoc→cI,length_take→ez,take_length→sy,cons_append→dG,mem_append→cy,filter_append→GF,replicate→bq
open Option renaming getD_some→kW,bind_some→su
open Nat renaming le_refl→aH,le_trans→j5,zero_le→aD,not_lt_zero→mV,sub_self→iC,reduceEqDiff→Dj,reduceBEq→ri,eq_zero_or_pos→mY
open Bool renaming and_eq_true→bh
open And renaming intro→kD
open Go Go.Am
open Go Go.Am Go.Proofs
open Nat (reduceEqDiff reduceAdd reduceLeDiff reduceMul)
open Int (reduceNeg reduceLE reduceToNat)
namespace T
def eJ (lo hi:Nat) (os os':List Ob):Prop:=∀ i,lo≤i→i<hi→os'[i]?=os[i]?
section
variable {lo hi w:Nat} {os os':List Ob} {v:AV} {X:List (List AV)}
theorem eJ.mono (h:eJ lo hi os os') {a b:Nat} (ha:lo≤a) (hb:b≤hi):eJ a b os os':=fun i h1 h2=>h i (by omega) (by omega)
theorem eJ.app {os:List Ob} {hi:Nat} (h:hi≤os.length) (l:List Ob) (lo:Nat):eJ lo hi os (os++l):=fun i _ h2=>by rw[cj (by omega)]
theorem eJ.set {os:List Ob} {k:Nat} (h:k<lo∨hi≤k) (y:Ob):eJ lo hi os (os.set k y):=fun i h1 h2=>by rw[bu (by omega)]
theorem eJ.trans {a b c:List Ob} (h:eJ lo hi a b) (k:eJ lo hi b c):eJ lo hi a c:=fun i h1 h2=>(k i h1 h2).trans (h i h1 h2)
def gW (w:Nat) (os:List Ob) (lo hi:Nat) (v:AV) (X:List (List AV)):Prop :=
  (v=.tree w X∧X=[])∨∃ b rows,v=.ref b w 0 X.length∧lo≤b∧b<hi∧os[b]?=some (.arr w (X++rows))∧∀ row∈X++rows,row.length=w
theorem gW.same (h:gW w os lo hi v X) (k:eJ lo hi os os'):gW w os' lo hi v X:=by
  rcases h with h | ⟨b,rows,h1,h2,h3,h4,h5⟩
  · exact .inl h
  · exact .inr ⟨b,rows,h1,h2,h3,by rw[k b h2 h3];exact h4,h5⟩
theorem gW.mono (h:gW w os lo hi v X) {a b:Nat} (ha:a≤lo) (hb:hi≤b):gW w os a b v X:=by
  rcases h with h | ⟨b,rows,h1,h2,h3,h4,h5⟩
  · exact .inl h
  · exact .inr ⟨b,rows,h1,by omega,by omega,h4,h5⟩
theorem gW.cm (h:gW w os lo hi v X):cm v=true:=by
  rcases h with ⟨rfl,_⟩ | ⟨b,rows,rfl,_⟩<;>rfl
theorem gW.cd {os:List Ob} {e:Nat→AV} {kp:Nat→Prop} (h:gW w os lo hi v X) (hk:∀ i,lo≤i→i<hi→¬ kp i) (hf:∀ row∈X,∀ v∈row,(∃ x,v=AV.lit x)∨∃ s r,v=AV.tree s r):bV ⟨e,os⟩ kp (.tree w X) v:=by
  rcases h with ⟨rfl,rfl⟩ | ⟨b,rows,rfl,h2,h3,h4,h5⟩
  · exact .tree _ _
  · refine .ref b w 0 X.length (X++rows) X (fun r c=>(cellAt X r c).getD .undef) h4 (hk b h2 h3) (by simp) (fun row hr=>h5 row (by simp[hr])) (fun r c v hv=>?_) (fun r c v hv=>?_)
    · simp[hv]
    · rw[hv,kW]
      simp only[cellAt,Option.bind_eq_some_iff] at hv
      obtain ⟨row,h6,h7⟩:=hv
      rcases hf row (gw h6) v (gw h7) with ⟨x,rfl⟩ | ⟨s,r,rfl⟩
      · exact .lit x
      · exact .tree s r
end
structure u7 (Pd:List Ob→Nat→Nat→AV→Prop):Prop where
  same:∀ {os os' l r v},Pd os l r v→eJ l r os os'→Pd os' l r v
  mono:∀ {os l r v l' r'},Pd os l r v→l'≤l→r≤r'→Pd os l' r' v
theorem gW.W8 (w:Nat) (X:List (List AV)):u7 (fun os l r v=>gW w os l r v X):=⟨fun h k=>h.same k,fun h a b=>h.mono a b⟩
structure cg (w:Nat) (Pd:Nat→List Ob→Nat→Nat→AV→Prop) (os:List Ob) (a lo hi n:Nat) (A:Nat→List AV) (C:Nat→AV):Prop where
  arr:os[a]?=some (.arr w ((aT n).map fun k=>A k++[C k]))
  at_:hi≤a
  wid:∀ k,k<n→(A k).length+1=w
  row :∃S:Nat→Nat,lo≤S 0∧S n≤hi∧(∀ k,k<n→S k≤S (k+1))∧∀ k,k<n→Pd k os (S k) (S (k+1)) (C k)
section
variable {lo hi w a n:Nat} {os os':List Ob} {A:Nat→List AV} {C:Nat→AV} {Pd:Nat→List Ob→Nat→Nat→AV→Prop}
theorem W9 {S:Nat→Nat} {n:Nat} (h:∀ k,k<n→S k≤S (k+1)):∀ (d i:Nat),i+d≤n→S i≤S (i+d)
  | 0,i,_=>aH _
  | d+1,i,hd=>j5 (W9 h d i (by omega)) (h (i+d) (by omega))
theorem p5 {S:Nat→Nat} {n:Nat} (h:∀ k,k<n→S k≤S (k+1)) {i j:Nat} (xX:i≤j) (hj:j≤n):S i≤S j:=by
  have:=W9 h (j - i) i (by omega)
  rwa [show i+(j - i)=j by omega] at this
theorem cg.same (hP:∀ k,u7 (Pd k)) (h:cg w Pd os a lo hi n A C) (k:eJ lo hi os os') (ha:os'[a]?=os[a]?):cg w Pd os' a lo hi n A C:=by
  obtain ⟨h1,h2,h3,S,s1,s2,s3,s4⟩:=h
  refine⟨by rw[ha];exact h1,h2,h3,S,s1,s2,s3,fun i hi'=>(hP i).same (s4 i hi') (k.mono ?_ ?_)⟩
  · exact j5 s1 (p5 s3 (aD _) (by omega))
  · exact j5 (p5 s3 (show i+1≤n by omega) (aH _)) s2
theorem cg.q8 (h:cg w Pd os a lo hi n A C):lo≤hi:=by
  obtain ⟨h1,h2,h3,S,s1,s2,s3,s4⟩:=h
  have:=p5 s3 (aD _) (aH n)
  omega
theorem cg.get (h:cg w Pd os a lo hi n A C) {k:Nat} (hk:k<n) :∃l r,lo≤l∧r≤hi∧Pd k os l r (C k):=by
  obtain ⟨h1,h2,h3,S,s1,s2,s3,s4⟩:=h
  exact⟨S k,S (k+1),j5 s1 (p5 s3 (aD _) (by omega)),j5 (p5 s3 (show k+1≤n by omega) (aH _)) s2,s4 k hk⟩
theorem cg.len (h:cg w Pd os a lo hi n A C):a<os.length:=(aS.1 h.arr).1
theorem tN {α:Type} (f:Nat→α) {n k:Nat} (h:k<n):((aT n).map f)[k]?=some (f k):=by rw[bN,List.getElem?_range h];rfl
theorem afR {α:Type} (f:Nat→α) {n k:Nat} (y:α):((aT n).map f).set k y=(aT n).map fun i=>if i=k then y else f i:=by
  apply ju
  intro j
  rw[List.getElem?_set]
  by_cases hj:j<n
  · try simp only[]
    by_cases e:k=j
    · subst e;rw[if_pos rfl,if_pos (by simpa using hj),tN _ hj,if_pos rfl]
    · rw[if_neg e,tN _ hj,tN (fun i=>if i=k then y else f i) hj,if_neg (fun h=>e h.symm)]
  · rw[du (l:=(aT n).map fun i=>if i=k then y else f i) (by simpa using hj)]
    split
    · rename_i e;subst e;rw[if_neg (by simpa using hj)]
    · exact du (by simpa using hj)
theorem cg.at (hP:∀ k,u7 (Pd k)) (h:cg w Pd os a lo hi n A C) {k:Nat} (hk:k<n) :∃l r,lo≤l∧r≤hi∧Pd k os l r (C k) ∧
    ∀ (Pd':Nat→List Ob→Nat→Nat→AV→Prop) (v:AV) (os':List Ob),os'[a]?=some (.arr w ((aT n).map fun i=>A i++[if i=k then v else C i]))→Pd' k os' l r v →
      (∀ i,lo≤i→i<hi→(i<l∨r≤i)→os'[i]?=os[i]?)→(∀ i,i≠k→i<n→∀ os l r v,Pd i os l r v→Pd' i os l r v)→cg w Pd' os' a lo hi n A (fun i=>if i=k then v else C i):=by
  obtain ⟨h1,h2,h3,S,s1,s2,s3,s4⟩:=h
  have b1:lo≤S k:=j5 s1 (p5 s3 (aD _) (by omega))
  have b2:S (k+1)≤hi:=j5 (p5 s3 (show k+1≤n by omega) (aH _)) s2
  refine⟨S k,S (k+1),b1,b2,s4 k hk,fun Pd' v os' ha c1 c2 dP=>⟨ha,h2,h3,S,s1,s2,s3,fun i hi'=>?_⟩⟩
  have e1:lo≤S i:=j5 s1 (p5 s3 (aD _) (by omega))
  have e2:S (i+1)≤hi:=j5 (p5 s3 (show i+1≤n by omega) (aH _)) s2
  by_cases e:i=k
  · subst e
    rw[if_pos rfl]
    exact c1
  · rw[if_neg e]
    refine dP i e hi' _ _ _ _ ((hP i).same (s4 i hi') (fun j j1 j2=>c2 j (by omega) (by omega) ?_))
    rcases Nat.lt_or_gt_of_ne e with e' | e'
    · have:=p5 s3 (show i+1≤k by omega) (by omega)
      omega
    · have:=p5 s3 (show k+1≤i by omega) (by omega)
      omega
theorem cg.push (hP:∀ k,u7 (Pd k)) (h:cg w Pd os a lo hi n A C) {os':List Ob} {a' hi':Nat} {R:List AV} {v:AV}
    (hs:eJ lo hi os os') (hh:hi≤hi') (mh:hi'≤a') (hv:Pd n os' hi hi' v) (hR:R.length+1=w)
    (ka:os'[a']?=some (.arr w ((aT n).map (fun k=>A k++[C k])++[R++[v]]))) :
    cg w Pd os' a' lo hi' (n+1) (fun i=>if i=n then R else A i) (fun i=>if i=n then v else C i):=by
  obtain ⟨h1,h2,h3,S,s1,s2,s3,s4⟩:=h
  refine⟨?_,mh,fun k hk=>?_,fun i=>if i=n+1 then hi' else S i,?_,?_,fun k hk=>?_,fun k hk=>?_⟩
  · rw[ka,List.range_succ,List.map_append]
    congr 3
    · refine lP fun k hk=>?_
      rw[if_neg (by have:=mA.1 hk;omega),if_neg (by have:=mA.1 hk;omega)]
    · simp
  · by_cases e:k=n
    · rw[if_pos e];exact hR
    · rw[if_neg e];exact h3 k (by omega)
  · dsimp only;rw[if_neg (by omega)];exact s1
  · dsimp only;rw[if_pos rfl];exact aH _
  · dsimp only
    rw[if_neg (by omega)]
    by_cases e:k=n
    · subst e;rw[if_pos rfl];omega
    · rw[if_neg (by omega)];exact s3 k (by omega)
  · dsimp only
    rw[if_neg (show k≠n+1 by omega)]
    by_cases e:k=n
    · subst e
      rw[if_pos rfl,if_pos rfl]
      exact (hP k).mono hv s2 (aH _)
    · rw[if_neg e,if_neg (by omega)]
      exact (hP k).same (s4 k (by omega)) (hs.mono (j5 s1 (p5 s3 (aD _) (by omega))) (j5 (p5 s3 (show k+1≤n by omega) (aH _)) s2))
theorem cg.nil {os:List Ob} {a:Nat} (h:os[a]?=some (.arr w [])) (lo:Nat) (hl:lo≤a) (A:Nat→List AV) (C:Nat→AV):cg w Pd os a lo lo 0 A C :=
  ⟨by rw[h];rfl,hl,fun k hk=>absurd hk (mV _),fun _=>lo,aH _,aH _,fun k hk=>absurd hk (mV _),fun k hk=>absurd hk (mV _)⟩
theorem cg.As {A':Nat→List AV} {C':Nat→AV} {Pd':Nat→List Ob→Nat→Nat→AV→Prop} (h:cg w Pd os a lo hi n A C) (hA:∀ k,k<n→A' k=A k) (hC:∀ k,k<n→C' k=C k)
    (hp:∀ k,k<n→∀ os l r v,Pd k os l r v→Pd' k os l r v):cg w Pd' os a lo hi n A' C':=by
  obtain ⟨h1,h2,h3,S,s1,s2,s3,s4⟩:=h
  refine⟨?_,h2,fun k hk=>by rw[hA k hk];exact h3 k hk,S,s1,s2,s3,fun k hk=>by rw[hC k hk];exact hp k hk _ _ _ _ (s4 k hk)⟩
  rw[h1]
  congr 2
  exact lP fun k hk=>by rw[hA k (mA.1 hk),hC k (mA.1 hk)]
theorem cg.app (hP:∀ k,u7 (Pd k)) (h:cg w Pd os a lo hi n A C) (X:List Ob) {v:AV} {l0:Nat} (ha:a<l0) (h0:l0≤os.length) (hR:(A n).length+1=w)
    (hv:∀ os',eJ l0 (os.length+X.length) (os++X) os'→Pd n os' l0 (os.length+X.length) v) :
    cg w Pd (os.set a .gone++(X++[.arr w ((aT n).map (fun k=>A k++[C k])++[A n++[v]])])) (os.length+X.length) lo (os.length+X.length) (n+1) A (fun i=>if i=n then v else C i):=by
  have hb:=h.len
  have T9:=h.at_
  refine (cg.push hP h (os':=os.set a .gone++(X++[.arr w ((aT n).map (fun k=>A k++[C k])++[A n++[v]])])) (hi':=os.length+X.length) (R:=A n) (v:=v) (fun i h1 h2=>?_) (by omega) (aH _) ((hP n).mono (hv _ (fun i h1 h2=>?_)) (by omega) (aH _)) hR ?_).As (fun k hk=>?_) (fun _ _=>rfl) (fun _ _ _ _ _ _ h=>h)
  · rw[cj (by rw[bm];omega),bu (by omega)]
  · by_cases e:i<os.length
    · rw[cj (by rw[bm];omega),cj e,bu (by omega)]
    · rw[eE (by rw[bm];omega),eE (l₁:=os) (by omega),bm,cj (by omega)]
  · rw[eE (by rw[bm];omega),bm,Nat.add_sub_cancel_left,eE (aH _),iC];rfl
  · by_cases e:k=n
    · rw[if_pos e,e]
    · rw[if_neg e]
theorem cg.CZ (hP:∀ k,u7 (Pd k)) (h:cg w Pd os a lo hi n A C) {q:Nat} (hq:q<lo) (y:Ob):cg w Pd (os.set q y) a lo hi n A C :=
  h.same hP (eJ.set (.inl hq) y) (bu (by have:=h.at_;have:=h.q8;omega))
theorem eJ.kill {m b:Nat} {ot:List Ob} (hb:m≤b) (hl:b<ot.length) (L:List Ob):eJ 0 m ot (ot.set b .gone++L):=fun i _ h2=>by
  rw[cj (by rw[bm];omega),bu (by omega)]
theorem cg.cd {os:List Ob} {e:Nat→AV} {kp:Nat→Prop} {T:Nat→AV} (h:cg w Pd os a lo hi n A C) (hk:∀ i,lo≤i→i≤a→¬ kp i) (hA:∀ k,k<n→∀ v∈A k,∃ x,v=AV.lit x)
    (hT:∀ k,k<n→∀ l r v,lo≤l→r≤hi→Pd k os l r v→bV ⟨e,os⟩ kp (T k) v):bV ⟨e,os⟩ kp (.tree w ((aT n).map fun k=>A k++[T k])) (.ref a w 0 n):=by
  have hlh:=h.q8
  have hr:=fun k hk=>h.get (k:=k) hk
  obtain ⟨h1,h2,h3,S,s1,s2,s3,s4⟩:=h
  refine .ref a w 0 n _ _ (fun r c=>(cellAt ((aT n).map fun k=>A k++[C k]) r c).getD .undef) h1 (hk a (by omega) (aH _)) (by simp) (fun row hr=>?_) (fun r c v hv=>?_) (fun r c v hv=>?_)
  · obtain ⟨k,hk,rfl⟩:=List.mem_map.1 hr
    rw[bJ];exact h3 k (mA.1 hk)
  all_goals
    unfold cellAt at hv
    by_cases n9:r<n
    rotate_left
    · rw[du (by simpa using n9)] at hv;simp at hv
    rw[tN _ n9,su] at hv
  · rw[List.drop_zero,dC (by simp)]
    unfold cellAt
    rw[tN _ n9,su]
    have ca:c<(A r++[C r]).length:=by
      have:=(aS.1 hv).1
      simpa using this
    rw[bI ca];rfl
  · unfold cellAt
    rw[tN _ n9,su]
    by_cases hc:c<(A r).length
    · rw[cj hc] at hv ⊢
      rw[hv,kW]
      obtain ⟨x,rfl⟩:=hA r n9 v (gw hv)
      exact .lit x
    · rw[eE (by omega)] at hv ⊢
      have mM:c - (A r).length=0:=by
        have:=(aS.1 hv).1
        simp at this;omega
      rw[mM] at hv ⊢
      simp only[List.getElem?_cons_zero,Option.some.injEq] at hv
      subst hv
      obtain ⟨l,u,u1,u2,hO⟩:=hr r n9
      exact hT r n9 l u _ u1 u2 hO
end
end T
namespace T
def iB (o:bK):List AV:=[.lit (.int .i64 o.wk),.lit (.int .i64 o.day),.lit (.int .i64 o.st),.lit (.int .i64 o.len),.lit (.int .i64 o.room)]
def jb (p:Pr):List AV:=[.lit (.int .i64 p.fst),.lit (.int .i64 p.snd),.lit (.int .i64 p.cB)]
def uZ (xs:List (Int × Int)) (os:List Ob) (l r:Nat) (v:AV):Prop:=gW 2 os l r v (rowsOf aG xs)
def tO (xs:List Int) (os:List Ob) (l r:Nat) (v:AV):Prop:=gW 1 os l r v (ints xs)
theorem F7 (xs:List (Int × Int)):u7 (uZ xs):=gW.W8 2 _
theorem u4 (xs:List Int):u7 (tO xs):=gW.W8 1 _
theorem cg.low {Pd:Nat→List Ob→Nat→Nat→AV→Prop} {w a lo hi n:Nat} {os:List Ob} {A:Nat→List AV} {C:Nat→AV} (h:cg w Pd os a lo hi n A C) {kH:Nat} (hl:kH≤lo):cg w Pd os a kH hi n A C:=by
  obtain ⟨h1,h2,h3,S,s1,s2,s3,s4⟩:=h
  exact⟨h1,h2,h3,S,by omega,s2,s3,s4⟩
def u3 (L:List bK) (os:List Ob) (l r:Nat) (v:AV):Prop :=
  ∃ a hi C,v=.ref a 6 0 L.length∧a<r∧cg 6 (fun k=>uZ (L.getD k default).ch) os a l hi L.length (fun k=>iB (L.getD k default)) C
theorem tL (L:List bK):u7 (u3 L):=by
  refine⟨?_,?_⟩
  · rintro os os' l r v ⟨a,hi,C,h1,h2,h3⟩ hs
    have:=h3.at_
    have:=h3.q8
    exact⟨a,hi,C,h1,h2,h3.same (fun k=>F7 _) (hs.mono (aH _) (by omega)) (hs a (by omega) h2)⟩
  · rintro os l r v l' r' ⟨a,hi,C,h1,h2,h3⟩ hl hr
    exact⟨a,hi,C,h1,by omega,h3.low hl⟩
def Au (cls:List (List bK)) (os:List Ob) (a lo hi n:Nat) (C:Nat→AV):Prop:=cg 1 (fun c=>u3 (cls.getD c default)) os a lo hi n (fun _=>[]) C
def CX (ae:List Pr) (os:List Ob) (a lo hi n:Nat) (C:Nat→AV):Prop:=cg 4 (fun i=>tO (ae.getD i default).ax) os a lo hi n (fun i=>jb (ae.getD i default)) C
theorem KB {α β:Type} [Inhabited α] (xs:List α) (f:α→β):((aT xs.length).map fun k=>f (xs.getD k default))=xs.map f:=by
  apply ju
  intro i
  by_cases h:i<xs.length
  · rw[tN _ h,bN,ay,bI h];rfl
  · rw[du (by simpa using h),du (by simpa using h)]
theorem agk {L:List bK} {os:List Ob} {l r:Nat} {v:AV} {e:Nat→AV} {kp:Nat→Prop} (h:u3 L os l r v) (hk:∀ i,l≤i→i<r→¬ kp i):bV ⟨e,os⟩ kp (.tree 6 (rowsOf bX L)) v:=by
  obtain ⟨a,hi,C,rfl,h2,h3⟩:=h
  have h4:=h3.at_
  have e1:rowsOf bX L=(aT L.length).map fun k=>iB (L.getD k default)++[.tree 2 (rowsOf aG (L.getD k default).ch)]:=by
    exact (KB L fun o=>iB o++[AV.tree 2 (rowsOf aG o.ch)]).symm
  rw[e1]
  refine h3.cd (fun i h5 h6=>hk i h5 (by omega)) (fun k hk v hv=>?_) (fun k aP l' r' v h5 h6 h7=>?_)
  · unfold iB at hv
    simp only[bZ,kC,or_false] at hv
    rcases hv with rfl | rfl | rfl | rfl | rfl<;>exact⟨_,rfl⟩
  · exact gW.cd h7 (fun i h8 h9=>hk i (by omega) (by omega)) (l9 _)
theorem aga {cls:List (List bK)} {os:List Ob} {a lo hi:Nat} {C:Nat→AV} {e:Nat→AV} {kp:Nat→Prop} (h:Au cls os a lo hi cls.length C) (hk:∀ i,lo≤i→i≤a→¬ kp i):bV ⟨e,os⟩ kp (.tree 1 (rowsOf bn cls)) (.ref a 1 0 cls.length):=by
  have h4:=h.at_
  have e1:rowsOf bn cls=(aT cls.length).map fun k=>[]++[.tree 6 (rowsOf bX (cls.getD k default))]:=by
    exact (KB cls fun o=>([]:List AV)++[AV.tree 6 (rowsOf bX o)]).symm
  rw[e1]
  refine cg.cd h hk (fun k hk v hv=>(by cases hv)) (fun k aP l' r' v h5 h6 h7=>?_)
  exact agk h7 fun i h8 h9=>hk i (by omega) (by omega)
theorem agb {ae:List Pr} {os:List Ob} {a lo hi:Nat} {C:Nat→AV} {e:Nat→AV} {kp:Nat→Prop} (h:CX ae os a lo hi ae.length C) (hk:∀ i,lo≤i→i≤a→¬ kp i):bV ⟨e,os⟩ kp (.tree 4 (rowsOf aV ae)) (.ref a 4 0 ae.length):=by
  have h4:=h.at_
  have e1:rowsOf aV ae=(aT ae.length).map fun k=>jb (ae.getD k default)++[.tree 1 (ints (ae.getD k default).ax)]:=by
    exact (KB ae fun o=>jb o++[AV.tree 1 (ints o.ax)]).symm
  rw[e1]
  refine cg.cd h hk (fun k hk v hv=>?_) (fun k aP l' r' v h5 h6 h7=>?_)
  · unfold jb at hv
    simp only[bZ,kC,or_false] at hv
    rcases hv with rfl | rfl | rfl<;>exact⟨_,rfl⟩
  · exact gW.cd h7 (fun i h8 h9=>hk i (by omega) (by omega)) (sL _)
end T
namespace T
theorem agl:ao Tryz.prog 89 [.tree 2 []] [] (.tree 2 []) []:=by
  refine ao.empty (pre:=[]) (post:=[]) (fun a cap=>?_)
  rw[dK]
  cases a with
  | none =>
    refine ao.aF (fn:=Tryz.f89) 8 0 [.tmp 2] Tryz.func89 rfl rfl rfl rfl rfl (by simp) ?_
    ((repeat' (first|refine Vb @Option.isNone_none.{0} ?_|(refine Xi ?_ ?_<;>try intro ht)|exact Xx|fail)))
    all_goals first|(refine eA [] true (by decide) trivial (by decide) (by decide) ?_;exact aN.nil)|(exfalso;simp at *;done)
  | some ad =>
    refine ao.aF (fn:=Tryz.f89) 8 0 [.tmp 2] Tryz.func89 rfl rfl rfl rfl rfl (by simp) ?_
    refine w8 (by decide) ?_
    intro K hK
    simp (disch:=omega) only[Ac,↓Pc,simprocAttr]
    refine hK _ ?_
    clear hK K
    refine Wk ?_
    intro Q hn he
    ((refine w8 (by decide) ?_);intro K hK;simp (disch:=omega) only[Ac,↓Pc,simprocAttr,Option.isNone_some];skip);(refine hK _ ?_;clear hK K)
    refine DK (t:=false) (by simp only[n7,Lc,↓reduceIte,Dj,ri]) (fun ht=>by simp at ht) (fun ht=>?_)
    refine DJ ?_
    refine hn _ ?_
    (try clear hn;try clear he;try clear Q;clear ht)
    refine cA (aA.Eb 0 2 (by (simp only[n7,pR,Rc,↓reduceIte,Dj,ri,ev,dY,St.put];exact rfl))) ?_
    refine Vb (X3 @List.length_nil.{0} @jc.{0} @List.all_nil.{0}) ?_
    refine eA [] true (by decide) trivial (by decide) (by decide) ?_
    exact aN.cd (rows:=[]) rfl (by simp) rfl (hU (by decide)) (by simp)
theorem agm (xs:List (Int × Int)) (h:0<xs.length) (hl:xs.length<549755813888):ao Tryz.prog 89 [.tree 2 (rowsOf aG xs)] [] (.ref 0 2 0 xs.length) [.arr 2 (rowsOf aG xs)]:=by
  refine ao.aF (fn:=Tryz.f89) 8 0 [.tmp 2] Tryz.func89 rfl rfl rfl rfl rfl (by simp) ?_
  ((repeat' (first|refine Vb @Bh ?_|(refine Xi ?_ ?_<;>try intro ht)|exact Xx|fail)))
  exact Xw false [1] X0
end T
namespace T
def zM:List AV:=[.lit (.slice none 0 0),.lit (.slice none 0 0),.lit (.slice none 0 0),.lit (.int .i64 0)]
def TwO (m:ah) (a b d:Nat) (os:List Ob):Prop :=
  ∃ h1 C l2 h2 C2,Au m.cls os a 1 h1 m.cls.length C∧CX m.ae os b l2 h2 m.ae.length C2∧a<l2∧os[d]?=some (.arr 4 (rowsOf aU m.au))∧b<d
theorem Xa {w:Nat} {os:List Ob} {l r b:Nat} {X:List (List AV)} (h:os[b]?=some (.arr w X)) (hl:l≤b) (hr:b<r) (hw:∀ row∈X,row.length=w):gW w os l r (.ref b w 0 X.length) X :=
  .inr ⟨b,[],rfl,hl,hr,by rw[jc];exact h,by rw[jc];exact hw⟩
theorem WW {m:ah} (hm:VM m) {c:List bK} (hc:c∈m.cls) {o:bK} (ho:o∈c):o.ch.length≤100:=by
  have h:=hm.nu c hc o ho
  have hr:=hm.nx
  cases gJ:o.ch with
  | nil=>simp
  | cons x r =>
    rw[gJ,dF] at h
    simp only[bh,decide_eq_true_eq,iL] at h
    rcases ES h.2 with rfl | h2
    · simp
    · simp only[List.length_cons];omega
theorem eJ.KC {m b:Nat} {ot:List Ob} (hb:m≤b) (hl:m≤ot.length) (y:Ob) (L:List Ob):eJ 4 m ot ((ot.set b .gone).set 3 y++L):=fun i h1 h2=>by
  rw[cj (by rw[bm,bm];omega),bu (by omega),bu (by omega)]
theorem yl {α:Type} (f:Nat→α) (n:Nat):((aT n).map f).length=n:=by simp
theorem KD {α:Type} (f:Nat→α) (n:Nat):((aT n).map f).take n=(aT n).map f:=dC (by simp)
theorem afT (m:ah) (hm:VM m):fF Tryz.prog 46 [.agg (ar m)] [.var zM] (fun r os=>os[0]?=some (.var zM)∧∃ a b d,r=.agg [.ref a 1 0 m.cls.length,.ref b 4 0 m.ae.length,.ref d 4 0 m.au.length,.lit (.int .i64 m.rules)]∧TwO m a b d os):=by
  have mc:=hm.cls
  have xU:=hm.ae
  have ht4:=hm.au
  unfold zM
  refine fF.aF (fn:=Tryz.f46) 83 1 [.cell 2 29] Tryz.func46 rfl rfl rfl rfl rfl (by simp) ?_
  repeat' (first|((fail_if_success (first|refine im 2 ?_|refine iq 2 ?_));refine Xr @ar.eq_1 ?_;intro K hK)|(refine hK _ ?_;clear hK K)|refine Xy ?_|fail)
  refine cA (aA.vN 1 1 (cells:=ar m) (by rfl) (by simp only[Kc,simprocAttr]) (by simp[ar])) ?_
  refine cA (aA.ma 3 0 1 (by rfl) rfl (by decide)) ?_
  refine cA (σ':=⟨av [(1,.db (ar m)),(2,.ptr 2 0 0),(3,.ptr 3 0 0)],[.var zM,.gone,.var zM,.var [.ref 4 1 0 0,.lit (.slice none 0 0),.lit (.slice none 0 0),.lit (.int .i64 m.rules)],.arr 1 []]⟩) (Xv X0) ?_
  refine Va @ar.eq_1 ?_
  have Xj:∀ o:bK,iB o=[.lit (.int .i64 o.wk),.lit (.int .i64 o.day),.lit (.int .i64 o.st),.lit (.int .i64 o.len),.lit (.int .i64 o.room)]:=fun _=>rfl
  refine aI (fun z:Nat × List Ob=>(⟨av [(1,.db (ar m)),(2,.ptr 2 0 0),(3,.ptr 3 0 0),(17,.tree 1 (rowsOf bn m.cls)),(18,.lit (.int .i64 m.cls.length)),(19,.lit (.int .i64 z.1))],z.2⟩:St))
    (fun z=>z.1≤m.cls.length∧z.2[0]?=some (.var zM)∧z.2[2]?=some (.var zM)∧∃ a hi C,z.2[3]?=some (.var [.ref a 1 0 z.1,.lit (.slice none 0 0),.lit (.slice none 0 0),.lit (.int .i64 m.rules)])∧Au m.cls z.2 a 4 hi z.1 C)
    (fun z=>m.cls.length - z.1) (0,[.var zM,.gone,.var zM,.var [.ref 4 1 0 0,.lit (.slice none 0 0),.lit (.slice none 0 0),.lit (.int .i64 m.rules)],.arr 1 []])
    ⟨aD _,rfl,rfl,4,4,fun _=>.undef,rfl,cg.nil rfl 4 (aH _) _ _⟩ (Xv @ar.eq_1) ?_
  rintro ⟨i,os⟩ ⟨hi,f0,f2,a,ze,C,f3,hC⟩ Ql ak aq
  dsimp only at hi f0 f2 f3 hC ⊢
  by_cases hi':i<m.cls.length
  · have fY:=az (d:=default) hi'
    have qG:=hm.opt _ fY
    have CP:=fun o ho=>WW hm fY (o:=o) ho
    generalize aO:m.cls.getD i default=l at *
    ((repeat' (first|refine Va (X2 @aO @bn.eq_1) ?_|(refine Xi ?_ ?_<;>try intro ht)|exact Xx|fail)))
    refine aI (fun z:Nat × Nat × List Ob=>(⟨av [(1,.db (ar m)),(2,.ptr 2 0 0),(3,.ptr 3 0 0),(17,.tree 1 (rowsOf bn m.cls)),(18,.lit (.int .i64 m.cls.length)),(19,.lit (.int .i64 i)),(6,.ref z.2.1 6 0 z.1),(23,.tree 6 (rowsOf bX l)),(24,.lit (.int .i64 l.length)),(25,.lit (.int .i64 z.1))],z.2.2⟩:St))
      (fun z=>z.1≤l.length∧eJ 0 os.length os z.2.2∧∃ hi C,cg 6 (fun k=>uZ (l.getD k default).ch) z.2.2 z.2.1 os.length hi z.1 (fun k=>iB (l.getD k default)) C)
      (fun z=>l.length - z.1) (0,os.length,os++[.arr 6 []]) ⟨aD _,eJ.app (aH _) _ _,os.length,fun _=>.undef,cg.nil (jO _ _ _) _ (aH _) _ _⟩ ?_ ?_
    · refine aA.trans (aA.nil 6 6 (by simp only[Kc,simprocAttr]) (by decide)) ?_
      exact Xv X0
    rintro ⟨k,b,ot⟩ ⟨hk,gU,lZ,C2,hR⟩ cP a5 a8
    dsimp only at hk gU hR ⊢
    by_cases aP:k<l.length
    · have eh:=az (l:=l) (d:=default) aP
      have ca:=CP _ eh
      have ka:=hR.arr
      have u9:=hR.len
      have F4:=hR.at_
      have F5:=hR.q8
      have yn:=fun X v h2=>hR.app (fun k=>F7 _) X (v:=v) u9 (aH _) rfl h2
      have gI:=yl (fun k=>iB (l.getD k default)++[C2 k]) k
      have wA:=KD (fun k=>iB (l.getD k default)++[C2 k]) k
      generalize pO:(aT k).map (fun k=>iB (l.getD k default)++[C2 k])=R at *
      generalize jV:l.getD k default=o at *
      repeat' (first|((fail_if_success (first|refine im 1 ?_|refine iq 1 ?_));refine Xr (X3 @jV @cZ @bX.eq_1) ?_;intro K hK)|(refine hK _ ?_;clear hK K)|(refine Xi ?_ ?_<;>try intro ht)|refine Xy ?_|refine Xd ?_ ?_|exact Xx|fail)
      refine cA (aA.vN 8 ot.length (cells:=bX o) (by simp (disch:=omega) only[Ac,↓Pc,simprocAttr,cZ,bX]) (by simp only[Kc,simprocAttr]) (by simp[bX])) ?_
      rw[zx]
      have ik:=a7 ka
      have fL:=fun l y=>fj ka l (y:=y)
      rcases mY o.ch.length with h0 | h0
      · have CV:=p7 h0
        have eB:ao Tryz.prog 89 [.tree 2 (rowsOf aG [])] [] (.tree 2 (rowsOf aG [])) []:=agl
        refine oT [2,4] (.take 0 (.take 3 (.take 4 (.both 1 (.take 2 (.take 5 (.take 6 (.take 7 (.take 8 (.take 9 .nil)))))) 5 (.take 1 (.take 2 (.take 6 (.take 7 (.take 8 (.take 9 .nil)))))))))) rfl (by decide) (by decide +kernel) ?_
        simp (disch:=omega) only[Ac,↓Pc,simprocAttr,Pw,↓Lq,bX,CV]
        (with_reducible refine kD ?_ ?_)
        all_goals
          (refine Xn [] (eB) ?_;simp (disch:=omega) only[Ac,↓Pc,simprocAttr,Pw,↓Lq,cZ,cI,bJ,ik,fL,gI,wA])
          repeat' (first|with_reducible refine kD ?_ ?_|omega)
        all_goals
          repeat (refine Xu ?_)
          ((repeat' (first|refine Va X0 ?_|fail)))
          have hq:=yn [Ob.gone,Ob.arr 6 [iB o++[AV.tree 2 (rowsOf aG [])]]] (AV.tree 2 (rowsOf aG [])) (fun os' _=>by
            show uZ o.ch _ _ _ _
            rw[CV]
            exact .inl ⟨rfl,rfl⟩)
          exact a5 _ (k+1,ot.length+2,ot.set b Ob.gone++[Ob.gone,Ob.arr 6 [iB o++[AV.tree 2 (rowsOf aG [])]],Ob.arr 6 (R++[iB o++[AV.tree 2 (rowsOf aG [])]])]) ⟨by dsimp only;omega,gU.trans (eJ.kill (by omega) u9 _),_,_,hq⟩ (by dsimp only;omega) (Xv @Xj)
      · have eB:=agm o.ch h0 (by omega)
        refine oT [2,4] (.take 0 (.take 3 (.take 4 (.both 1 (.take 2 (.take 5 (.take 6 (.take 7 (.take 8 (.take 9 .nil)))))) 5 (.take 1 (.take 2 (.take 6 (.take 7 (.take 8 (.take 9 .nil)))))))))) rfl (by decide) (by decide +kernel) ?_
        simp (disch:=omega) only[Ac,↓Pc,simprocAttr,Pw,↓Lq,bX]
        (with_reducible refine kD ?_ ?_)
        all_goals
          (refine Xn [] (eB) ?_;simp (disch:=omega) only[Ac,↓Pc,simprocAttr,Pw,↓Lq,cZ,cI,bJ,ik,fL,gI,wA])
          repeat' (first|with_reducible refine kD ?_ ?_|omega)
        all_goals
          repeat (refine Xu ?_)
          ((repeat' (first|refine Va X0 ?_|fail)))
          have hq:=yn [Ob.gone,Ob.arr 2 (rowsOf aG o.ch),Ob.arr 6 [iB o++[AV.ref (ot.length+1) 2 0 o.ch.length]]] (AV.ref (ot.length+1) 2 0 o.ch.length) (fun os' gX=>by
            show gW 2 os' ot.length (ot.length+3) (.ref (ot.length+1) 2 0 o.ch.length) (rowsOf aG o.ch)
            rw[← b5 (enc:=aG)]
            refine Xa (b:=ot.length+1) ?_ (by omega) (by simp) (fZ _)
            rw[gX _ (by omega) (by simp),me];rfl)
          exact a5 _ (k+1,ot.length+3,ot.set b Ob.gone++[Ob.gone,Ob.arr 2 (rowsOf aG o.ch),Ob.arr 6 [iB o++[AV.ref (ot.length+1) 2 0 o.ch.length]],Ob.arr 6 (R++[iB o++[AV.ref (ot.length+1) 2 0 o.ch.length]])]) ⟨by dsimp only;omega,gU.trans (eJ.kill (by omega) u9 _),_,_,hq⟩ (by dsimp only;omega) (Xv @Xj)
    · obtain rfl:k=l.length:=by omega
      have u9:=hR.len
      have F4:=hR.at_
      have F5:=hR.q8
      have C0:=hC.len
      have WV:=hC.at_
      have ago:=hC.q8
      have Xm:=(aS.1 f3).1
      have k0:ot[0]?=some (.var zM):=(gU 0 (by omega) (by omega)).trans f0
      have k2:ot[2]?=some (.var zM):=(gU 2 (by omega) (by omega)).trans f2
      have k3:ot[3]?=some (.var [.ref a 1 0 i,.lit (.slice none 0 0),.lit (.slice none 0 0),.lit (.int .i64 m.rules)]):=(gU 3 (by omega) Xm).trans f3
      have Xp:Au m.cls ot a 4 ze i C:=cg.same (fun c=>tL _) hC (gU.mono (by omega) (by omega)) (gU a (by omega) C0)
      have yn:=fun X v h2=>cg.app (fun c=>tL _) Xp X (v:=v) (l0:=os.length) C0 (by omega) rfl h2
      have ka:=Xp.arr
      have gI:=yl (fun k=>([]:List AV)++[C k]) i
      have wA:=KD (fun k=>([]:List AV)++[C k]) i
      generalize pO:(aT i).map (fun k=>([]:List AV)++[C k])=R at *
      have ik:=a7 ka
      have fL:=fun l y=>fj ka l (y:=y)
      have lu:(ot.set a .gone)[3]?=_:=(bu (by omega)).trans k3
      have dx:=a7 k3
      have yo:=a7 lu
      have yp:=fun l y=>fj lu l (y:=y)
      ((repeat' (first|refine Va X0 ?_|(refine Xi ?_ ?_<;>try intro ht)|exact Xx|fail)))
      refine a8 _ _ rfl ?_
      clear a5 a8
      repeat (refine Xu ?_)
      refine Va (X5 @cZ @cI.{0} @bJ.{0} @ik (X5 @fL @gI @wA @k3 (X4 @lu @dx @yo @yp))) ?_
      have hq:=yn [Ob.arr 1 [[AV.ref b 6 0 l.length]]] (AV.ref b 6 0 l.length) (fun os' gX=>by
        show u3 (m.cls.getD i default) os' os.length (ot.length+1) (.ref b 6 0 l.length)
        rw[aO]
        have iD:∀ j,os.length≤j→j<ot.length→os'[j]?=ot[j]?:=fun j h1 h2=>(gX j h1 (by omega)).trans (cj h2)
        exact⟨b,lZ,C2,rfl,by omega,hR.same (fun k=>F7 _) (fun j h1 h2=>iD j h1 (by omega)) (iD b (by omega) u9)⟩)
      have tF:=cg.CZ (fun c=>tL _) hq (q:=3) (by omega) (Ob.var [.ref (ot.length+1) 1 0 (i+1),.lit (.slice none 0 0),.lit (.slice none 0 0),.lit (.int .i64 m.rules)])
      rw[fj lu] at tF
      exact ak _ (i+1,(ot.set a Ob.gone).set 3 (Ob.var [.ref (ot.length+1) 1 0 (i+1),.lit (.slice none 0 0),.lit (.slice none 0 0),.lit (.int .i64 m.rules)])++[Ob.arr 1 [[AV.ref b 6 0 l.length]],Ob.arr 1 (R++[[AV.ref b 6 0 l.length]])])
        ⟨by dsimp only;omega,a7 ((bu (by omega)).trans ((bu (by omega)).trans k0)) _,a7 ((bu (by omega)).trans ((bu (by omega)).trans k2)) _,ot.length+1,_,_,a7 (jk lu) _,tF⟩ (by dsimp only;omega) (Xv @ar.eq_1)
  obtain rfl:i=m.cls.length:=by omega
  have C0:=hC.len
  have WV:=hC.at_
  have ago:=hC.q8
  have Xm:=(aS.1 f3).1
  ((repeat' (first|refine Va X0 ?_|(refine Xi ?_ ?_<;>try intro ht)|exact Xx|fail)))
  refine aq _ _ rfl ?_;clear ak aq Ql
  repeat (refine Xu ?_)
  refine Va @ar.eq_1 ?_
  refine cA (aA.ma 3 1 4 f3 rfl (by decide)) ?_
  rw[fj f3]
  have sP:∀ Y:Ob,(os.set 3 Y++[Ob.arr 4 []])[os.length]?=some (.arr 4 []):=fun Y=>by
    rw[eE (by rw[bm];exact aH _),bm,iC];rfl
  have uD:∀ Y:Ob,eJ 4 os.length os (os.set 3 Y++[Ob.arr 4 []]):=fun Y j h1 h2=>by
    rw[cj (by rw[bm];exact h2),bu (by omega)]
  refine aI (fun z:Nat × List Ob=>(⟨av [(1,.db (ar m)),(2,.ptr 2 0 0),(3,.ptr 3 0 0),(47,.tree 4 (rowsOf aV m.ae)),(48,.lit (.int .i64 m.ae.length)),(49,.lit (.int .i64 z.1))],z.2⟩:St))
    (fun z=>z.1≤m.ae.length∧z.2[0]?=some (.var zM)∧z.2[2]?=some (.var zM)∧eJ 4 os.length os z.2∧∃ b hi C,z.2[3]?=some (.var [.ref a 1 0 m.cls.length,.ref b 4 0 z.1,.lit (.slice none 0 0),.lit (.int .i64 m.rules)])∧CX m.ae z.2 b os.length hi z.1 C)
    (fun z=>m.ae.length - z.1) (0,os.set 3 (.var [.ref a 1 0 m.cls.length,.ref os.length 4 0 0,.lit (.slice none 0 0),.lit (.int .i64 m.rules)])++[Ob.arr 4 []])
    ⟨aD _,a7 ((bu (by omega)).trans f0) _,a7 ((bu (by omega)).trans f2) _,uD _,os.length,os.length,fun _=>.undef,a7 (jk f3) _,cg.nil (sP _) _ (aH _) _ _⟩ (Xv @ar.eq_1) ?_
  rintro ⟨i,ot⟩ ⟨hi,k0,k2,gU,b,lZ,C2,k3,hP⟩ Ql ak aq
  dsimp only at hi k0 k2 gU k3 hP ⊢
  by_cases hi':i<m.ae.length
  · have tD:=az (l:=m.ae) (d:=default) hi'
    have dz:=Kz hm tD
    have u9:=hP.len
    have F4:=hP.at_
    have F5:=hP.q8
    have yn:=fun X v h2=>cg.app (fun c=>u4 _) hP X (v:=v) u9 (aH _) rfl h2
    have ka:=hP.arr
    have gI:=yl (fun k=>jb (m.ae.getD k default)++[C2 k]) i
    have wA:=KD (fun k=>jb (m.ae.getD k default)++[C2 k]) i
    generalize pO:(aT i).map (fun k=>jb (m.ae.getD k default)++[C2 k])=R at *
    generalize bT:m.ae.getD i default=p at *
    have Xt:∀ p:Pr,jb p=[.lit (.int .i64 p.fst),.lit (.int .i64 p.snd),.lit (.int .i64 p.cB)]:=fun _=>rfl
    have ik:=a7 ka
    have fL:=fun l y=>fj ka l (y:=y)
    have lu:(ot.set b .gone)[3]?=_:=(bu (by omega)).trans k3
    have dx:=a7 k3
    have yo:=a7 lu
    have yp:=fun l y=>fj lu l (y:=y)
    rcases mY p.ax.length with h0 | h0
    · have ht0:=p7 h0
      have eB:=adg [] (by decide)
      ((repeat' (first|refine Vc (X5 @bT @aV.eq_1 @ht0 @cZ (X5 @cI.{0} @bJ.{0} @ik @fL (X5 @gI @wA @k3 @lu (X3 @dx @yo @yp)))) eB ?_|(refine Xi ?_ ?_<;>try intro ht)|exact Xx|fail)))
      have hq:=yn [Ob.var (jb p++[AV.tree 1 (ints [])]),Ob.arr 4 [jb p++[AV.tree 1 (ints [])]]] (AV.tree 1 (ints [])) (fun os' _=>by
        show tO p.ax _ _ _ _
        rw[ht0]
        exact .inl ⟨rfl,rfl⟩)
      have tF:=cg.CZ (fun c=>u4 _) hq (q:=3) (by omega) (Ob.var [.ref a 1 0 m.cls.length,.ref (ot.length+2) 4 0 (i+1),.lit (.slice none 0 0),.lit (.int .i64 m.rules)])
      rw[fj lu] at tF
      exact ak _ (i+1,(ot.set b Ob.gone).set 3 (Ob.var [.ref a 1 0 m.cls.length,.ref (ot.length+2) 4 0 (i+1),.lit (.slice none 0 0),.lit (.int .i64 m.rules)])++[Ob.var (jb p++[AV.tree 1 (ints [])]),Ob.arr 4 [jb p++[AV.tree 1 (ints [])]],Ob.arr 4 (R++[jb p++[AV.tree 1 (ints [])]])])
        ⟨by dsimp only;omega,a7 ((bu (by omega)).trans ((bu (by omega)).trans k0)) _,a7 ((bu (by omega)).trans ((bu (by omega)).trans k2)) _,gU.trans (eJ.KC (by omega) (by omega) _ _),ot.length+2,_,_,a7 (jk lu) _,tF⟩ (by dsimp only;omega) (Xv (X2 @ar.eq_1 @Xt))
    · have eB:=VN p.ax h0 (by omega)
      ((repeat' (first|refine Va (X5 @bT @aV.eq_1 @cZ @cI.{0} (X5 @bJ.{0} @ik @fL @gI (X5 @wA @k3 @lu @dx (X2 @yo @yp)))) ?_|(refine Xi ?_ ?_<;>try intro ht)|exact Xx|fail))<;>try with_reducible intro K hK)
      (refine Xn [] (eB) ?_;simp (disch:=omega) only[Ac,↓Pc,simprocAttr,cZ,cI,bJ])
      ((try revert hK K);((refine Va (X5 @bT @aV.eq_1 @cZ @cI.{0} (X5 @bJ.{0} @ik @fL @gI (X5 @wA @k3 @lu @dx (X2 @yo @yp)))) ?_)))
      have hq:=yn [Ob.var (jb p++[AV.ref (ot.length+1) 1 0 p.ax.length]),Ob.arr 1 (ints p.ax),Ob.arr 4 [jb p++[AV.ref (ot.length+1) 1 0 p.ax.length]]] (AV.ref (ot.length+1) 1 0 p.ax.length) (fun os' gX=>by
        show gW 1 os' ot.length (ot.length+3) (.ref (ot.length+1) 1 0 p.ax.length) (ints p.ax)
        rw[← m8 p.ax]
        refine Xa (b:=ot.length+1) ?_ (by omega) (by omega) (qq _)
        rw[gX _ (by omega) (by simp),me];rfl)
      have tF:=cg.CZ (fun c=>u4 _) hq (q:=3) (by omega) (Ob.var [.ref a 1 0 m.cls.length,.ref (ot.length+3) 4 0 (i+1),.lit (.slice none 0 0),.lit (.int .i64 m.rules)])
      rw[fj lu] at tF
      exact ak _ (i+1,(ot.set b Ob.gone).set 3 (Ob.var [.ref a 1 0 m.cls.length,.ref (ot.length+3) 4 0 (i+1),.lit (.slice none 0 0),.lit (.int .i64 m.rules)])++[Ob.var (jb p++[AV.ref (ot.length+1) 1 0 p.ax.length]),Ob.arr 1 (ints p.ax),Ob.arr 4 [jb p++[AV.ref (ot.length+1) 1 0 p.ax.length]],Ob.arr 4 (R++[jb p++[AV.ref (ot.length+1) 1 0 p.ax.length]])])
        ⟨by dsimp only;omega,a7 ((bu (by omega)).trans ((bu (by omega)).trans k0)) _,a7 ((bu (by omega)).trans ((bu (by omega)).trans k2)) _,gU.trans (eJ.KC (by omega) (by omega) _ _),ot.length+3,_,_,a7 (jk lu) _,tF⟩ (by dsimp only;omega) (Xv (X2 @ar.eq_1 @Xt))
  obtain rfl:i=m.ae.length:=by omega
  have u9:=hP.len
  have F4:=hP.at_
  have F5:=hP.q8
  have ahX:=(aS.1 k3).1
  ((repeat' (first|refine Va X0 ?_|(refine Xi ?_ ?_<;>try intro ht)|exact Xx|fail)))
  refine aq _ _ rfl ?_;clear ak aq Ql
  repeat (refine Xu ?_)
  refine Va @ar.eq_1 ?_
  refine cA (aA.ma 3 2 4 k3 rfl (by decide)) ?_
  rw[fj k3]
  have sP:∀ Y:Ob,(ot.set 3 Y++[Ob.arr 4 []])[ot.length]?=some (.arr 4 []):=fun Y=>by
    rw[eE (by rw[bm];exact aH _),bm,iC];rfl
  have uD:∀ Y:Ob,eJ 4 ot.length ot (ot.set 3 Y++[Ob.arr 4 []]):=fun Y j h1 h2=>by
    rw[cj (by rw[bm];exact h2),bu (by omega)]
  refine aI (fun z:Nat × List Ob=>(⟨av [(1,.db (ar m)),(2,.ptr 2 0 0),(3,.ptr 3 0 0),(65,.tree 4 (rowsOf aU m.au)),(66,.lit (.int .i64 m.au.length)),(67,.lit (.int .i64 z.1))],z.2⟩:St))
    (fun z=>z.1≤m.au.length∧z.2[0]?=some (.var zM)∧z.2[2]?=some (.var zM)∧eJ 4 ot.length ot z.2∧∃ d,z.2[3]?=some (.var [.ref a 1 0 m.cls.length,.ref b 4 0 m.ae.length,.ref d 4 0 z.1,.lit (.int .i64 m.rules)])∧ot.length≤d∧z.2[d]?=some (.arr 4 (rowsOf aU (m.au.take z.1))))
    (fun z=>m.au.length - z.1) (0,ot.set 3 (.var [.ref a 1 0 m.cls.length,.ref b 4 0 m.ae.length,.ref ot.length 4 0 0,.lit (.int .i64 m.rules)])++[Ob.arr 4 []])
    ⟨aD _,a7 ((bu (by omega)).trans k0) _,a7 ((bu (by omega)).trans k2) _,uD _,ot.length,a7 (jk k3) _,aH _,sP _⟩ (Xv @ar.eq_1) ?_
  clear uD sP
  rintro ⟨i,oc⟩ ⟨hi,g0,g2,lY,d,g3,hd,gd⟩ Ql ak aq
  dsimp only at hi g0 g2 lY g3 gd ⊢
  have xF:=(aS.1 gd).1
  by_cases hi':i<m.au.length
  · have fY:=az (l:=m.au) (d:=default) hi'
    have ur:(m.au.getD i default).aK.length<549755813888:=by
      obtain ⟨_,_,_,h4⟩:=nw (hm.ct _ fY)
      have:=BO hm h4
      omega
    have cS:=eu hi'
    have wi:(rowsOf aU (m.au.take i)).length=i:=by rw[b5,ez];omega
    have km:(rowsOf aU (m.au.take i)).take i=rowsOf aU (m.au.take i):=dC (by omega)
    have m6:=l8 (enc:=aU) (m.au.take i) (m.au.getD i default)
    rw[← cS] at m6
    generalize hR:rowsOf aU (m.au.take i)=R at *
    generalize aO:m.au.getD i default=c at *
    have eB:=adh c.aK ur
    have ik:=a7 gd
    have fL:=fun l y=>fj gd l (y:=y)
    have lu:(oc.set d .gone)[3]?=_:=(bu (by omega)).trans g3
    have dx:=a7 g3
    have yo:=a7 lu
    have yp:=fun l y=>fj lu l (y:=y)
    ((repeat' (first|refine Vc (X5 @aO @aU.eq_1 @cZ @cI.{0} (X5 @bJ.{0} @ik @fL @wi (X5 @km @g3 @lu @dx (X2 @yo @yp)))) eB ?_|(refine Xi ?_ ?_<;>try intro ht)|exact Xx|fail)))
    refine ak _ (i+1,(oc.set d Ob.gone).set 3 (Ob.var [.ref a 1 0 m.cls.length,.ref b 4 0 m.ae.length,.ref (oc.length+2) 4 0 (i+1),.lit (.int .i64 m.rules)])++[Ob.var (aU c),Ob.arr 4 [aU c],Ob.arr 4 (R++[aU c])])
      ⟨by dsimp only;omega,a7 ((bu (by omega)).trans ((bu (by omega)).trans g0)) _,a7 ((bu (by omega)).trans ((bu (by omega)).trans g2)) _,lY.trans (eJ.KC (by omega) (by omega) _ _),oc.length+2,a7 (jk lu) _,by omega,?_⟩ (by dsimp only;omega) (Xv (X2 @ar.eq_1 @aU.eq_1))
    rw[eE (by rw[bm,bm];omega),bm,bm,Nat.add_sub_cancel_left,← m6]
    rfl
  obtain rfl:i=m.au.length:=by omega
  rw[sy] at gd
  ((repeat' (first|refine Va X0 ?_|(refine Xi ?_ ?_<;>try intro ht)|exact Xx|fail)))
  refine aq _ _ rfl ?_;clear ak aq Ql
  repeat (refine Xu ?_)
  refine Va (X3 @g3 @g2 @zM.eq_1) ?_
  have g2s:=fun y=>jk (y:=y) g2
  unfold gH
  simp only[ei,ee]
  simp (disch:=omega) only[Ac,↓Pc,simprocAttr,g2s]
  have ahY:=(aS.1 g3).1
  have e1:=cg.same (fun c=>tL _) hC (gU.mono (aH _) (by omega)) (gU a (by omega) C0)
  have e2:=cg.same (fun c=>tL _) e1 (lY.mono (aH _) (by omega)) (lY a (by omega) (by omega))
  have e3:=cg.same (fun c=>u4 _) hP (lY.mono (by omega) (by omega)) (lY b (by omega) u9)
  refine⟨_,_,⟨(bu (by omega)).trans g0,a,b,d,rfl,ze,C,os.length,lZ,C2,cg.low (cg.CZ (fun c=>tL _) e2 (by omega) _) (by omega),cg.CZ (fun c=>u4 _) e3 (by omega) _,C0,(bu (by omega)).trans gd,by omega⟩,gR rfl ?_ rfl⟩
  rw[bm];omega
end T
namespace T
theorem WS (l:List (Int × Int)) (g:FuncId) (bk:List AV) (aa:List Ob) (p:(Int × Int)→Bool) (hl:l.length<9223372036854775808) (hg:∀ x∈l,ao Tryz.prog g ([.agg (aG x)]++bk) aa (.lit (.bool (p x))) aa) :
    ao Tryz.prog 92 [.tree 2 (rowsOf aG l),.fn g bk] aa (.lit (.int .i64 (fy p 0 l))) aa:=by
  generalize an:fy p 0 l=res
  refine ao.aF (fn:=Tryz.f92) 19 aa.length [.tmp 4] Tryz.func92 rfl rfl rfl rfl rfl (by simp) ?_
  ((try revert hK K);(repeat' (first|refine Vb (X3 @b5 @gr @aG.eq_1) ?_|(refine V2 (X3 @b5 @gr @aG.eq_1) ?_ ?_<;>try with_reducible intro hb)|(refine Xi ?_ ?_<;>try intro ht)|refine VD ?_ ?_|exact Xx|fail))<;>try with_reducible intro K hK)
  refine aI (fun k:Nat=>(⟨av [(0,.tree 2 (rowsOf aG l)),(1,.fn g bk),(7,.lit (.int .i64 l.length)),(8,.lit (.int .i64 k))],aa⟩:St)) (fun k=>k≤l.length∧fy p k (l.drop k)=res) (fun k=>l.length - k) 0 ⟨aD _,an⟩ (Xv X0) ?_
  rintro k ⟨hk,hr⟩ Ql ak aq
  by_cases aP:k<l.length
  · have hx:=hg _ (az (d:=default) aP)
    have hd:=dr l k default aP
    generalize bA:l.getD k default=x at *
    rw[hd,fy] at hr
    simp only[dG,dK,aG] at hx
    ((try revert hK K);(repeat' (first|refine Vb (X4 @b5 @gr @aG.eq_1 @bA) ?_|(refine V2 (X4 @b5 @gr @aG.eq_1 @bA) ?_ ?_<;>try with_reducible intro hb)|(refine Xi ?_ ?_<;>try intro ht)|refine VD ?_ ?_|exact Xx|fail))<;>try with_reducible intro K hK)
    refine mD hx (aH _) ?_
    ((try revert hK K);(repeat' (first|refine Vb (X3 @b5 @gr @aG.eq_1) ?_|(refine V2 (X3 @b5 @gr @aG.eq_1) ?_ ?_<;>try with_reducible intro hb)|(refine Xi ?_ ?_<;>try intro ht)|refine VD ?_ ?_|exact Xx|fail))<;>try with_reducible intro K hK)
    · rw[if_pos (by assumption)] at hr
      rw[← hr]
      exact gR rfl (aH _) rfl
    · rw[if_neg (by simp_all)] at hr
      exact ak _ (k+1) ⟨by omega,hr⟩ (by omega) (Xv X0)
  · ((try revert hK K);(repeat' (first|refine Vb (X3 @b5 @gr @aG.eq_1) ?_|(refine V2 (X3 @b5 @gr @aG.eq_1) ?_ ?_<;>try with_reducible intro hb)|(refine Xi ?_ ?_<;>try intro ht)|refine VD ?_ ?_|exact Xx|fail))<;>try with_reducible intro K hK)
    rw[List.drop_eq_nil_of_le (by omega),fy] at hr
    rw[← hr]
    exact gR rfl (aH _) rfl
end T
namespace T
theorem Ko {α:Type} (p:α→Bool):∀ (l:List α) (k:Nat),fy p k l = -1→l.filter (fun x=>!p x)=l
  | [],k,_=>rfl
  | x::r,k,h=>by
    rw[fy] at h
    split at h
    · omega
    · rename_i hp
      rw[List.filter_cons_of_pos (by simpa using hp),Ko p r (k+1) h]
theorem Kp {α:Type} (p:α→Bool):∀ (l:List α) (k:Nat),fy p k l≠-1→∃ i,fy p k l=((k+i:Nat):Int)∧i<l.length∧(l.take (i+1)).filter (fun x=>!p x)=l.take i
  | [],k,h=>absurd rfl h
  | x::r,k,h=>by
    rw[fy] at h ⊢
    by_cases hp:p x=true
    · rw[if_pos hp]
      exact⟨0,rfl,by simp,by simp[hp]⟩
    · rw[if_neg hp] at h ⊢
      obtain ⟨i,h1,h2,h3⟩:=Kp p r (k+1) h
      refine⟨i+1,by rw[h1];congr 1;omega,by simp;omega,?_⟩
      rw[List.take_succ_cons,List.filter_cons_of_pos (by simpa using hp),h3];rfl
theorem WL {α:Type} {Y:List α} {i:Nat} {x:α} (h:i<Y.length):(Y.set i x).take (i+1)=Y.take i++[x]:=by
  rw[List.take_succ_eq_append_getElem (by simpa using h),List.take_set_of_le (aH _)];simp
theorem fD.Ks {σ:St} {kp:Nat→Prop} {ρ:Nat→Nat} {snap:Bool}:∀ {l:List AV},iO l=true→fD (aN σ kp ρ snap) l l
  | [],_=>trivial
  | v::l,h=>by
    simp only[iO,bh] at h
    exact⟨.pure h.1,fD.Ks h.2⟩
def my (b:Nat) (os ob:List Ob):Prop:=os.length≤ob.length∧∀ k,k≠b→k<os.length→ob[k]?=os[k]?
theorem my.refl (b:Nat) (os:List Ob):my b os os:=⟨aH _,fun _ _ _=>rfl⟩
theorem my.step {b:Nat} {os ob:List Ob} (h:my b os ob) (y:Ob) (L:List Ob):my b os (ob.set b y++L) :=
  ⟨by rw[bJ,bm];have:=h.1;omega,fun k h1 h2=>by
    rw[cj (by rw[bm];have:=h.1;omega),bu (Ne.symm h1)];exact h.2 k h1 h2⟩
theorem my.app {b:Nat} {os ob:List Ob} (h:my b os ob) (L:List Ob):my b os (ob++L) :=
  ⟨by rw[bJ];have:=h.1;omega,fun k h1 h2=>by rw[cj (by have:=h.1;omega)];exact h.2 k h1 h2⟩
theorem af3 (xs:List (Int × Int)) (rest:List (List AV)) (g:FuncId) (bk:List AV) (p:(Int × Int)→Bool) (os:List Ob) (b:Nat) (hb:os[b]?=some (.arr 2 (rowsOf aG xs++rest))) (hw:∀ row∈rest,row.length=2) (hl:xs.length<1000000)
    (tK:iO bk=true) (hg:∀ x∈xs,ao Tryz.prog g ([.agg (aG x)]++bk) [] (.lit (.bool (p x))) []) :
    fF Tryz.prog 47 [.ref b 2 0 xs.length,.fn g bk] os (fun r ob=>r=.ref b 2 0 (xs.filter fun x=>!p x).length∧my b os ob∧∃ uY,ob[b]?=some (.arr 2 (rowsOf aG (xs.filter fun x=>!p x)++uY))∧∀ row∈uY,row.length=2):=by
  have e7:=WS xs g bk [] p (by omega) hg
  have pH:=(aS.1 hb).1
  have Kn:∀ row∈rowsOf aG xs++rest,row.length=2:=fun row hr=>by
    rcases cy.1 hr with h | h
    · exact fZ _ row h
    · exact hw row h
  have lS:∀ e:Nat→AV,bV ⟨e,os⟩ (·∈([]:List Nat)) (.tree 2 (rowsOf aG xs)) (.ref b 2 0 xs.length):=fun e =>
    gW.cd (.inr ⟨b,rest,by rw[b5],aD _,pH,hb,Kn⟩) (fun i _ _=>by simp) (l9 _)
  refine fF.aF (fn:=Tryz.f47) 42 os.length [.tmp 4] Tryz.func47 rfl rfl rfl rfl rfl (by simp) ?_
  ((refine Va X0 ?_)<;>try with_reducible intro K hK)
  refine nR [] e7 (by decide) trivial ⟨aN.snap _ _ rfl (lS _),.pure (by simpa [gT] using tK),trivial⟩ rfl (by simp) ?_
  simp (disch:=omega) only[Ac,↓Pc,simprocAttr]
  by_cases yj:fy p 0 xs = -1
  · have eW:=Ko p xs 0 yj
    rw[yj]
    ((try revert hK K);(repeat' (first|refine Va X0 ?_|(refine Xi ?_ ?_<;>try intro ht)|exact Xx|fail)))
    unfold gH
    simp only[ei,ee]
    simp (disch:=omega) only[Ac,↓Pc,simprocAttr]
    exact⟨_,_,⟨by rw[eW],my.refl _ _,rest,by rw[eW];exact hb,hw⟩,gR rfl (aH _) rfl⟩
  · obtain ⟨i0,h1,h2,h3⟩:=Kp p xs 0 yj
    rw[Nat.zero_add] at h1
    rw[h1]
    clear e7 lS
    ((try revert hK K);(repeat' (first|refine Va X0 ?_|(refine Xi ?_ ?_<;>try intro ht)|exact Xx|fail)))
    refine aI (fun z:Nat × Nat × List (Int × Int) × List Ob=>(⟨av [(0,.ref b 2 0 xs.length),(1,.fn g bk),(5,.lit (.int .i64 z.2.1)),(6,.lit (.int .i64 z.1))],z.2.2.2⟩:St))
      (fun z=>z.1≤xs.length∧z.2.1<z.1∧z.2.2.1.length=xs.length∧(xs.take z.1).filter (fun x=>!p x)=z.2.2.1.take z.2.1∧(∀ k,z.1≤k→z.2.2.1.getD k default=xs.getD k default)∧my b os z.2.2.2∧z.2.2.2[b]?=some (.arr 2 (rowsOf aG z.2.2.1++rest)))
      (fun z=>xs.length - z.1) (i0+1,i0,xs,os) ⟨h2,Nat.lt_succ_self _,rfl,h3,fun _ _=>rfl,my.refl _ _,hb⟩ (Xv X0) ?_
    rintro ⟨j,i,Y,ob⟩ ⟨hj,xX,hY,k8,rT,jP,aZ⟩ Ql ak aq
    dsimp only at hj xX hY k8 rT jP aZ ⊢
    have gI:(rowsOf aG Y++rest).length=xs.length+rest.length:=by rw[bJ,b5,hY]
    have ik:=a7 aZ
    have fL:=fun l y=>fj aZ l (y:=y)
    by_cases dZ:j<xs.length
    · have uI:=az (l:=xs) (d:=default) dZ
      have hx:=hg _ uI
      have a6:(rowsOf aG Y++rest)[j]?=some (aG (xs.getD j default)):=by
        rw[cj (by rw[b5];omega),zn _ _ (by omega),rT j (aH _)]
      have Kq:(rowsOf aG Y++rest).getD j []=aG (xs.getD j default):=by rw[ay,a6];rfl
      have Kr:(rowsOf aG Y++rest)[i]?=some (aG (Y.getD i default)):=by
        rw[cj (by rw[b5];omega),zn _ _ (by omega)]
      generalize Y.getD i default=y0 at *
      have cS:=eu dZ
      generalize bA:xs.getD j default=x at *
      simp only[dG,dK,aG] at hx
      have iS:(rowsOf aG Y++rest).set i [.lit (.int .i64 x.1),.lit (.int .i64 x.2)]=rowsOf aG (Y.set i x)++rest:=by
        rw[List.set_append_left _ _ (by rw[b5];omega),← D5];rfl
      generalize pO:rowsOf aG Y++rest=R at *
      repeat' (first|((fail_if_success (first|refine im 8 ?_|refine iq 8 ?_));refine Xr (X5 @aZ @gI @a6 @Kq (X2 @aG.eq_1 @cZ)) ?_;intro K hK)|(refine hK _ ?_;clear hK K)|(refine Xi ?_ ?_<;>try intro ht)|refine Xy ?_|refine Xd ?_ ?_|exact Xx|fail)
      ((refine Va @cZ ?_)<;>try with_reducible intro K hK)
      refine ic [] hx (by decide) trivial ⟨.pure rfl,fD.Ks tK⟩ ?_
      simp (disch:=omega) only[Ac,↓Pc,simprocAttr,cZ]
      have uw:=(aS.1 aZ).1
      cases sh:p x
      · ((try revert hK K);(repeat' (first|refine Va (X5 @aZ @ik @fL @gI (X5 @Kr @aG.eq_1 @iS @sh (X2 @cZ @Bool.not_false))) ?_|(refine Xi ?_ ?_<;>try intro ht)|exact Xx|fail)))
        all_goals try (exfalso;simp_all;done)
        all_goals
          exact ak _ (j+1,i+1,Y.set i x,ob.set b (.arr 2 (rowsOf aG (Y.set i x)++rest))++[.var (aG x)]) ⟨by dsimp only;omega,by dsimp only;omega,by simpa using hY,by
            dsimp only
            rw[cS,GF,k8,WL (by omega)]
            simp[sh],fun k hk=>by
            dsimp only at hk ⊢
            rw[ay,bu (by omega),← ay]
            exact rT k (by omega),jP.step _ _,a7 (jk aZ) _⟩ (by dsimp only;omega) (Xv @aG.eq_1)
      · ((try revert hK K);(repeat' (first|refine Va (X5 @aZ @ik @fL @gI (X3 @sh @cZ @Bool.not_true)) ?_|(refine Xi ?_ ?_<;>try intro ht)|exact Xx|fail)))
        all_goals try (exfalso;simp_all;done)
        all_goals
          exact ak _ (j+1,i,Y,ob++[.var (aG x)]) ⟨by dsimp only;omega,by dsimp only;omega,hY,by
            dsimp only
            rw[cS,GF,k8]
            simp[sh],fun k hk=>rT k (by dsimp only at hk;omega),jP.app _,by dsimp only;rw[pO];exact a7 aZ _⟩ (by dsimp only;omega) (Xv @aG.eq_1)
    · obtain rfl:j=xs.length:=by omega
      rw[sy] at k8
      ((repeat' (first|refine Va (X2 @aZ @gI) ?_|(refine Xi ?_ ?_<;>try intro ht)|exact Xx|fail)))
      refine aq _ _ rfl ?_;clear ak aq Ql
      repeat (refine Xu ?_)
      have k7:=fun y=>jk (y:=y) aZ
      have Kt:∀ row∈(rowsOf aG Y++rest).drop (i+(xs.length - i)),row.length=2:=fun row hr=>by
        rcases cy.1 (List.mem_of_mem_drop hr) with h | h
        · exact fZ _ row h
        · exact hw row h
      refine Va (X5 @aZ @gI @k7 @Option.map_none.{0,0} @Option.map_some.{0,0}) ?_
      unfold gH
      simp only[ei,ee]
      simp (disch:=omega) only[Ac,↓Pc,simprocAttr]
      have fi:(xs.filter fun x=>!p x).length=i:=by rw[k8,ez];omega
      refine⟨_,_,⟨by rw[fi],by have:=jP.step (.arr 2 ((rowsOf aG Y++rest).take i++bq (xs.length - i) [.lit (.int .i64 0),.lit (.int .i64 0)]++(rowsOf aG Y++rest).drop (i+(xs.length - i)))) [];rwa [jc] at this,bq (xs.length - i) [.lit (.int .i64 0),.lit (.int .i64 0)]++(rowsOf aG Y++rest).drop (i+(xs.length - i)),?_,fun row hr=>?_⟩,gR rfl (by rw[bm];exact jP.1) rfl⟩
      · rw[k7,← cI,k8]
        congr 4
        unfold rowsOf
        rw[List.map_take,List.take_append_of_le_length (by rw[List.length_map];omega)]
      · rcases cy.1 hr with h | h
        · rw[List.eq_of_mem_replicate h];rfl
        · exact Kt row h
end T

