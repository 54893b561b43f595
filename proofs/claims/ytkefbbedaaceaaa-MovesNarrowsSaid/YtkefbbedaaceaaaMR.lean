import Derived.Test.YtkefbbedaaceaaaMQ
set_option linter.unusedVariables false
set_option linter.unusedSimpArgs false
open Go Go.Am
namespace T
theorem lowN_some:∀ (l:List Nm) (s:List Bool) (b:Int × Bool),b.2=true→(lowN l s b).2=true∧(lowN l s b).1≤b.1
  | [],s,b,h=>by cases s<;>exact⟨h,Int.le_refl _⟩
  | p::r,[],b,h=>⟨h,Int.le_refl _⟩
  | p::r,is::s,b,h=>by
    rw[lowN]
    split
    · rename_i hc
      have h2:=lowN_some r s (p.1,true) rfl
      have h3:p.1<b.1:=by
        rcases hc.2.2 with h4 | h4
        · rw[h] at h4;cases h4
        · exact h4
      exact⟨h2.1,by have:=h2.2;dsimp only at this;omega⟩
    · exact lowN_some r s b h
theorem lowN_le:∀ (l:List Nm) (s:List Bool) (b:Int × Bool) (i:Nat),i<l.length→s.getD i false=true→(l.getD i default).2=false→(lowN l s b).2=true∧(lowN l s b).1≤(l.getD i default).1
  | [],s,b,i,h,_,_=>by simp at h
  | p::r,[],b,i,_,h,_=>by simp at h
  | p::r,is::s,b,0,_,h1,h2=>by
    rw[List.getD_cons_zero] at h1 h2 ⊢
    rw[lowN]
    split
    · exact lowN_some r s (p.1,true) rfl
    · rename_i hc
      have hb:b.2=true∧b.1≤p.1:=by
        cases hb2:b.2 with
        | false=>exact absurd ⟨h1,h2,.inl hb2⟩ hc
        | true=>exact⟨rfl,by rcases Int.lt_or_le p.1 b.1 with h | h;exact absurd ⟨h1,h2,.inr h⟩ hc;exact h⟩
      have:=lowN_some r s b hb.1
      exact⟨this.1,by omega⟩
  | p::r,is::s,b,i+1,h,h1,h2=>by
    rw[List.getD_cons_succ] at h1 h2 ⊢
    rw[lowN]
    exact lowN_le r s _ i (by simpa using h) h1 h2
theorem lowN_none:∀ (l:List Nm) (s:List Bool) (b:Int × Bool),(∀ i,s.getD i false=false)→lowN l s b=b
  | [],s,b,_=>by cases s<;>rfl
  | p::r,[],b,_=>rfl
  | p::r,is::s,b,h=>by
    have h0:=h 0
    rw[List.getD_cons_zero] at h0
    rw[lowN,if_neg (by rw[h0];simp)]
    exact lowN_none r s b fun i=>by have:=h (i+1);rwa [List.getD_cons_succ] at this
theorem accV_fst (f:Nat→Int × Bool) (z:Int × Bool):∀ n,(accV ((List.range n).map f) z).1=z.1+sumN (fun i=>(f i).1) n
  | 0=>by simp[accV,sumN]
  | n+1=>by rw[range_snoc,accV_snoc,sumN];dsimp only;rw[accV_fst f z n];omega
theorem accV_snd (f:Nat→Int × Bool) (z:Int × Bool):∀ n,(accV ((List.range n).map f) z).2=true↔(z.2=true∨∃ i,i<n∧(f i).2=false)
  | 0=>by simp[accV]
  | n+1=>by
    rw[range_snoc,accV_snoc]
    dsimp only
    rw[Bool.or_eq_true,accV_snd f z n,Bool.not_eq_true']
    constructor
    · rintro ((h | ⟨i,hi,h⟩) | h)
      · exact .inl h
      · exact .inr ⟨i,by omega,h⟩
      · exact .inr ⟨n,by omega,h⟩
    · rintro (h | ⟨i,hi,h⟩)
      · exact .inl (.inl h)
      · by_cases e:i=n
        · subst e;exact .inr h
        · exact .inl (.inr ⟨i,by omega,h⟩)
def pcV (left:List (List Bool)) (g:Lg) (i:Nat):Int × Bool:=lowN (g.1.getD i default) (left.getD i default) (0,false)
def ppV (m:Mdl) (left:List (List Bool)) (g:Lg) (i:Nat):Int × Bool:=lowN (g.2.getD i default) (prB m left i) (0,false)
def pkV (m:Mdl) (left:List (List Bool)) (i:Nat):Int × Bool:=(leastV left (m.cts.getD i default),!(decide ((m.cts.getD i default).pen=1099511627776) && decide (0<leastV left (m.cts.getD i default))))
def vsV (m:Mdl) (left:List (List Bool)) (g:Lg):Int:=sumN (fun i=>(pcV left g i).1) m.cls.length+sumN (fun i=>(ppV m left g i).1) m.prs.length+sumN (fun i=>(pkV m left i).1) m.cts.length
def nvV (m:Mdl) (left:List (List Bool)) (g:Lg):Prop:=(∃ i,i<m.cls.length∧(pcV left g i).2=false)∨(∃ i,i<m.prs.length∧(ppV m left g i).2=false)∨∃ i,i<m.cts.length∧(pkV m left i).2=false
theorem val_never {m:Mdl} {left:List (List Bool)} {g:Lg} (h:nvV m left g):valV m left g=1099511627776:=by
  unfold valV
  rw[if_pos]
  show (accV ((List.range m.cts.length).map (pkV m left)) (accV ((List.range m.prs.length).map (ppV m left g)) (accV ((List.range m.cls.length).map (pcV left g)) (0,false)))).2=true
  rw[accV_snd,accV_snd,accV_snd]
  rcases h with h | h | h
  · exact .inl (.inl (.inr h))
  · exact .inl (.inr h)
  · exact .inr h
theorem val_sum {m:Mdl} {left:List (List Bool)} {g:Lg} (h:¬ nvV m left g):valV m left g=min (vsV m left g) 1099511627776:=by
  have h1:¬ (accV ((List.range m.cts.length).map (pkV m left)) (accV ((List.range m.prs.length).map (ppV m left g)) (accV ((List.range m.cls.length).map (pcV left g)) (0,false)))).2=true:=by
    rw[accV_snd,accV_snd,accV_snd]
    rintro (((h2 | h2) | h2) | h2)
    · cases h2
    · exact h (.inl h2)
    · exact h (.inr (.inl h2))
    · exact h (.inr (.inr h2))
  have h2:(accV ((List.range m.cts.length).map (pkV m left)) (accV ((List.range m.prs.length).map (ppV m left g)) (accV ((List.range m.cls.length).map (pcV left g)) (0,false)))).1=vsV m left g:=by
    rw[accV_fst,accV_fst,accV_fst]
    unfold vsV
    dsimp only
    omega
  show (if (accV ((List.range m.cts.length).map (pkV m left)) (accV ((List.range m.prs.length).map (ppV m left g)) (accV ((List.range m.cls.length).map (pcV left g)) (0,false)))).2=true then (1099511627776:Int) else min (accV ((List.range m.cts.length).map (pkV m left)) (accV ((List.range m.prs.length).map (ppV m left g)) (accV ((List.range m.cls.length).map (pcV left g)) (0,false)))).1 1099511627776)=_
  rw[if_neg h1,h2]
theorem val_top (m:Mdl) (left:List (List Bool)) (g:Lg):valV m left g≤1099511627776:=by
  unfold valV;split<;>omega
theorem lowW_pos {l:List Ld} (h:∀ x∈l,1≤x.wt∧x.wt≤1000) (c:Int):∀ (row:List Bool) (o:Nat) (b:Int),0≤b→0≤lowW l c o row b∧lowW l c o row b≤b
  | [],_,b,hb=>⟨hb,Int.le_refl _⟩
  | is::r,o,b,hb=>by
    rw[lowW]
    have hw:=wlV_rg h c o 0 (by omega)
    split
    · rename_i hc
      have:=lowW_pos h c r (o+1) (wlV l c o 0) hw.1
      omega
    · exact lowW_pos h c r (o+1) b hb
theorem lowW_le {l:List Ld} (h:∀ x∈l,1≤x.wt∧x.wt≤1000) (c:Int):∀ (row:List Bool) (o:Nat) (b:Int) (i:Nat),row.getD i false=true→lowW l c o row b≤wlV l c (o+i:Nat) 0
  | [],_,b,i,hi=>by simp at hi
  | is::r,o,b,0,hi=>by
    rw[List.getD_cons_zero] at hi
    have hw:=wlV_rg h c o 0 (by omega)
    rw[lowW]
    simp only[Nat.add_zero]
    split
    · exact (lowW_pos h c r (o+1) _ hw.1).2
    · rename_i hc
      have hb:0≤b∧b≤wlV l c o 0:=by
        constructor
        · rcases Int.lt_or_le b 0 with h2 | h2
          · exact absurd ⟨hi,.inl h2⟩ hc
          · exact h2
        · rcases Int.lt_or_le (wlV l c o 0) b with h2 | h2
          · exact absurd ⟨hi,.inr h2⟩ hc
          · exact h2
      have:=lowW_pos h c r (o+1) b hb.1
      omega
  | is::r,o,b,i+1,hi=>by
    rw[List.getD_cons_succ] at hi
    rw[lowW,show o+(i+1)=o+1+i by omega]
    exact lowW_le h c r (o+1) _ i hi
end T

