set_option linter.unusedVariables false
set_option linter.unusedSimpArgs false
set_option linter.unnecessarySimpa false
set_option linter.unusedSectionVars false
set_option maxHeartbeats 64000000
set_option maxRecDepth 20000
namespace T
section
variable {α:Type} [Inhabited α] (lt:α→α→Bool)
def swapL (l:List α) (i j:Nat):List α:=(l.set i (l.getD j default)).set j (l.getD i default)
def kidL (l:List α) (i n:Nat):Nat:=if 2 * i+2<n∧lt (l.getD (2 * i+2) default) (l.getD (2 * i+1) default)=true then 2 * i+2 else 2 * i+1
def downL:Nat→List α→Nat→Nat→List α
  | 0,l,_,_=>l
  | f+1,l,i,n=>if n≤2 * i+1 then l else if lt (l.getD (kidL lt l i n) default) (l.getD i default)=true then downL f (swapL l i (kidL lt l i n)) (kidL lt l i n) n else l
def initL:Nat→List α→Nat→List α
  | 0,l,_=>l
  | k+1,l,n=>initL k (downL lt n l k n) n
def popL (l:List α):α × List α :=
  let r:=downL lt l.length (swapL l 0 (l.length - 1)) 0 (l.length - 1)
  (r.getD (l.length - 1) default,r.take (l.length - 1))
end
section
variable {α:Type} {lt:α→α→Bool}
structure Ord (lt:α→α→Bool):Prop where
  asym:∀ a b,lt a b=true→lt b a=false
  trans:∀ a b c,lt b a=false→lt c b=false→lt c a=false
theorem Ord.irr (h:Ord lt) (a:α):lt a a=false:=by
  cases hh:lt a a
  · rfl
  · exact absurd ((h.asym a a hh).symm.trans hh) (by decide)
end
section
variable {α:Type} [Inhabited α] {lt:α→α→Bool}
theorem swapL_len (l:List α) (i j:Nat):(swapL l i j).length=l.length:=by unfold swapL;simp
theorem swapL_get (l:List α) {i j:Nat} (hi:i<l.length) (hj:j<l.length) (k:Nat):(swapL l i j).getD k default=if k=j then l.getD i default else if k=i then l.getD j default else l.getD k default:=by
  unfold swapL
  simp only[List.getD_eq_getElem?_getD,List.getElem?_set,List.length_set]
  by_cases h1:j=k
  · subst h1;simp[hj]
  · by_cases h2:i=k
    · subst h2;simp[h1,Ne.symm h1,hi]
    · simp[h1,h2,Ne.symm h1,Ne.symm h2]
theorem swapL_perm (l:List α) {i j:Nat} (hi:i<l.length) (hj:j<l.length):(swapL l i j).Perm l:=by
  by_cases hij:i=j
  · subst hij
    have:swapL l i i=l:=by
      apply List.ext_getElem?
      intro k
      unfold swapL
      simp only[List.getElem?_set,List.length_set,List.getD_eq_getElem?_getD]
      by_cases h:i=k
      · subst h;simp[hi]
      · simp[h]
    rw[this]
  · unfold swapL
    rw[List.getD_eq_getElem?_getD,List.getD_eq_getElem?_getD,List.getElem?_eq_getElem hi,List.getElem?_eq_getElem hj,Option.getD_some,Option.getD_some]
    exact List.set_set_perm hi hj
theorem kidL_lt {l:List α} {i n:Nat} (h:¬ n≤2 * i+1):kidL lt l i n<n:=by unfold kidL;split<;>omega
theorem kidL_gt {l:List α} {i n:Nat}:i<kidL lt l i n:=by unfold kidL;split<;>omega
theorem downL_perm:∀ (f:Nat) (l:List α) (i n:Nat),n≤l.length→(downL lt f l i n).Perm l
  | 0,l,i,n,_=>.refl _
  | f+1,l,i,n,hn=>by
    unfold downL
    split
    · exact .refl _
    · rename_i h
      split
      · have hk:=kidL_lt (lt:=lt) (l:=l) h
        exact (downL_perm f _ _ _ (by rw[swapL_len];exact hn)).trans (swapL_perm l (by omega) (by omega))
      · exact .refl _
theorem downL_len (f:Nat) (l:List α) (i n:Nat) (hn:n≤l.length):(downL lt f l i n).length=l.length:=(downL_perm f l i n hn).length_eq
theorem downL_out:∀ (f:Nat) (l:List α) (i n:Nat),n≤l.length→∀ k,n≤k→(downL lt f l i n).getD k default=l.getD k default
  | 0,l,i,n,_,k,_=>rfl
  | f+1,l,i,n,hn,k,hk=>by
    unfold downL
    split
    · rfl
    · rename_i h
      split
      · have hk2:=kidL_lt (lt:=lt) (l:=l) h
        rw[downL_out f _ _ _ (by rw[swapL_len];exact hn) k hk,swapL_get l (by omega) (by omega),if_neg (by omega),if_neg (by omega)]
      · rfl
theorem initL_perm:∀ (k:Nat) (l:List α) (n:Nat),n≤l.length→(initL lt k l n).Perm l
  | 0,l,n,_=>.refl _
  | k+1,l,n,hn=>by
    unfold initL
    exact (initL_perm k _ n (by rw[downL_len _ _ _ _ hn];exact hn)).trans (downL_perm _ _ _ _ hn)
def HpX (lt:α→α→Bool) (l:List α) (s x n:Nat):Prop :=
  (∀ j,0<j→j<n→s≤(j - 1) / 2→(j - 1) / 2≠x→lt (l.getD j default) (l.getD ((j - 1) / 2) default)=false) ∧
  (∀ j,0<j→j<n→(j - 1) / 2=x→0<x→s≤(x - 1) / 2→lt (l.getD j default) (l.getD ((x - 1) / 2) default)=false)
def Hp (lt:α→α→Bool) (l:List α) (s n:Nat):Prop:=∀ j,0<j→j<n→s≤(j - 1) / 2→lt (l.getD j default) (l.getD ((j - 1) / 2) default)=false
theorem downL_heap (ho:Ord lt):∀ (f:Nat) (l:List α) (s x n:Nat),n≤l.length→n≤f+x→s≤x→HpX lt l s x n→Hp lt (downL lt f l x n) s n
  | 0,l,s,x,n,hn,hf,hs,hh=>by
    unfold downL
    intro j h0 hj hp
    exact hh.1 j h0 hj hp (by omega)
  | f+1,l,s,x,n,hn,hf,hs,hh=>by
    unfold downL
    split
    · rename_i h
      intro j h0 hj hp
      exact hh.1 j h0 hj hp (by omega)
    · rename_i h
      have hk:=kidL_lt (lt:=lt) (l:=l) h
      have hg:=kidL_gt (lt:=lt) (l:=l) (i:=x) (n:=n)
      have hmin:∀ j,0<j→j<n→(j - 1) / 2=x→lt (l.getD j default) (l.getD (kidL lt l x n) default)=false:=by
        intro j h0 hj hp
        have hj2:j=2 * x+1∨j=2 * x+2:=by omega
        unfold kidL
        split
        · rename_i hc
          rcases hj2 with rfl | rfl
          · exact ho.asym _ _ hc.2
          · exact ho.irr _
        · rename_i hc
          rcases hj2 with rfl | rfl
          · exact ho.irr _
          · cases hh:lt (l.getD (2 * x+2) default) (l.getD (2 * x+1) default)
            · rfl
            · exact absurd ⟨hj,hh⟩ hc
      have hkp:(kidL lt l x n - 1) / 2=x:=by unfold kidL;split<;>omega
      split
      · rename_i hlt
        refine downL_heap ho f _ s _ n (by rw[swapL_len];exact hn) (by omega) (by omega) ⟨fun j h0 hj hp hne=>?_,fun j h0 hj hpj _ hsp=>?_⟩
        · rw[swapL_get l (by omega) (by omega),swapL_get l (by omega) (by omega)]
          by_cases hpx:(j - 1) / 2=x
          ·
            rw[if_neg (show ¬ (j - 1) / 2=kidL lt l x n by omega),if_pos hpx]
            by_cases hjk:j=kidL lt l x n
            · rw[if_pos hjk];exact ho.asym _ _ hlt
            · rw[if_neg hjk,if_neg (by omega)];exact hmin j h0 hj hpx
          · rw[if_neg (show ¬ j=kidL lt l x n by omega),if_neg hne,if_neg hpx]
            by_cases hjx:j=x
            · rw[if_pos hjx]
              have:=hh.2 (kidL lt l x n) (by omega) hk hkp (by omega) (by omega)
              rw[hjx];exact this
            · rw[if_neg hjx];exact hh.1 j h0 hj hp hpx
        · rw[swapL_get l (by omega) (by omega),swapL_get l (by omega) (by omega),hkp,if_neg (show ¬ j=kidL lt l x n by omega),if_neg (show ¬ j=x by omega),if_neg (show ¬ x=kidL lt l x n by omega),if_pos rfl]
          have:=hh.1 j h0 hj (by omega) (by omega)
          rw[hpj] at this
          exact this
      · rename_i hlt
        have hlt':lt (l.getD (kidL lt l x n) default) (l.getD x default)=false:=by simpa using hlt
        intro j h0 hj hp
        by_cases hpx:(j - 1) / 2=x
        · rw[hpx];exact ho.trans _ _ _ hlt' (hmin j h0 hj hpx)
        · exact hh.1 j h0 hj hp hpx
theorem initL_heap (ho:Ord lt):∀ (k:Nat) (l:List α) (n:Nat),n≤l.length→Hp lt l k n→Hp lt (initL lt k l n) 0 n
  | 0,l,n,_,h=>h
  | k+1,l,n,hn,h=>by
    unfold initL
    refine initL_heap ho k _ n (by rw[downL_len _ _ _ _ hn];exact hn) (downL_heap ho n l k k n hn (by omega) (Nat.le_refl _) ⟨fun j h0 hj hp hne=>h j h0 hj (by omega),fun j h0 hj hp hx hs=>?_⟩)
    omega
theorem Hp.root (ho:Ord lt) {l:List α} {n:Nat} (h:Hp lt l 0 n):∀ j,j<n→lt (l.getD j default) (l.getD 0 default)=false:=by
  intro j
  induction j using Nat.strongRecOn with
  | ind j ih =>
    intro hj
    by_cases h0:j=0
    · subst h0;exact ho.irr _
    · exact ho.trans _ _ _ (ih ((j - 1) / 2) (by omega) (by omega)) (h j (by omega) hj (by omega))
theorem init_heap (ho:Ord lt) (l:List α):Hp lt (initL lt (l.length / 2) l l.length) 0 l.length :=
  initL_heap ho _ l _ (Nat.le_refl _) (fun j h0 hj hp=>by omega)
theorem pop_least (ho:Ord lt) {l:List α} (h0:0<l.length):(∀ y∈l,lt y (popL lt (initL lt (l.length / 2) l l.length)).1=false)∧((popL lt (initL lt (l.length / 2) l l.length)).1::(popL lt (initL lt (l.length / 2) l l.length)).2).Perm l:=by
  have hh:=init_heap ho l
  have hp:=initL_perm (lt:=lt) (l.length / 2) l l.length (Nat.le_refl _)
  generalize initL lt (l.length / 2) l l.length=r at *
  have hlen:=hp.length_eq
  rw[← hlen] at hh h0
  have hroot:=hh.root ho
  have hsl:=swapL_len r 0 (r.length - 1)
  have hdp:=downL_perm (lt:=lt) r.length (swapL r 0 (r.length - 1)) 0 (r.length - 1) (by omega)
  have hout:=downL_out (lt:=lt) r.length (swapL r 0 (r.length - 1)) 0 (r.length - 1) (by omega) (r.length - 1) (Nat.le_refl _)
  rw[swapL_get r (by omega) (by omega),if_pos rfl] at hout
  have hdl:=hdp.length_eq
  have hsp:=swapL_perm r (i:=0) (j:=r.length - 1) (by omega) (by omega)
  constructor
  · intro y hy
    show lt y ((downL lt r.length (swapL r 0 (r.length - 1)) 0 (r.length - 1)).getD (r.length - 1) default)=false
    rw[hout]
    obtain ⟨j,hj,rfl⟩:=List.getElem_of_mem (hp.mem_iff.2 hy)
    have:=hroot j hj
    rwa [List.getD_eq_getElem?_getD,List.getElem?_eq_getElem hj,Option.getD_some] at this
  · show ((downL lt r.length (swapL r 0 (r.length - 1)) 0 (r.length - 1)).getD (r.length - 1) default::(downL lt r.length (swapL r 0 (r.length - 1)) 0 (r.length - 1)).take (r.length - 1)).Perm l
    generalize downL lt r.length (swapL r 0 (r.length - 1)) 0 (r.length - 1)=d at *
    have hd:d=d.take (r.length - 1)++[d.getD (r.length - 1) default]:=by
      have h1:d.drop (r.length - 1)=[d.getD (r.length - 1) default]:=by
        rw[List.drop_eq_getElem_cons (by omega),List.drop_eq_nil_of_le (by omega),List.getD_eq_getElem?_getD,List.getElem?_eq_getElem (by omega),Option.getD_some]
      rw[← h1,List.take_append_drop]
    exact ((List.perm_append_comm (l₁:=[d.getD (r.length - 1) default]) (l₂:=d.take (r.length - 1))).trans (by rw[← hd])).trans (hdp.trans (hsp.trans hp))
end
end T

