import Derived.Test.YtkefbbedaaceaaaMS
set_option linter.unusedVariables false
set_option linter.unusedSimpArgs false
open Go Go.Am
namespace T
theorem lowN_att:∀ (l:List Nm) (t:List Bool) (b:Int × Bool),lowN l t b=b∨∃ i,i<l.length∧t.getD i false=true∧(l.getD i default).2=false∧lowN l t b=((l.getD i default).1,true)
  | [],t,b=>.inl (by cases t<;>rfl)
  | p::r,[],b=>.inl rfl
  | p::r,is::t,b=>by
    rw[lowN]
    split
    · rename_i hc
      rcases lowN_att r t (p.1,true) with h | ⟨i,h1,h2,h3,h4⟩
      · exact .inr ⟨0,by simp,by simpa using hc.1,by simpa using hc.2.1,by rw[h];simp⟩
      · exact .inr ⟨i+1,by simpa using h1,by simpa using h2,by simpa using h3,by rw[h4];simp⟩
    · rcases lowN_att r t b with h | ⟨i,h1,h2,h3,h4⟩
      · exact .inl h
      · exact .inr ⟨i+1,by simpa using h1,by simpa using h2,by simpa using h3,by rw[h4];simp⟩
theorem lowN_sub {l:List Nm} {s t:List Bool} (h:∀ j,t.getD j false=true→s.getD j false=true) (h2:(lowN l t (0,false)).2=true):(lowN l s (0,false)).2=true∧(lowN l s (0,false)).1≤(lowN l t (0,false)).1:=by
  rcases lowN_att l t (0,false) with h3 | ⟨i,h1,h3,h4,h5⟩
  · rw[h3] at h2;cases h2
  · rw[h5];exact lowN_le l s _ i h1 (h i h3) h4
theorem lowN_has {l:List Nm} {t:List Bool} (h2:(lowN l t (0,false)).2=true) :∃i,t.getD i false=true:=by
  rcases lowN_att l t (0,false) with h3 | ⟨i,h1,h3,h4,h5⟩
  · rw[h3] at h2;cases h2
  · exact⟨i,h3⟩
theorem lowW_att (l:List Ld) (c:Int):∀ (row:List Bool) (o:Nat) (b:Int),lowW l c o row b=b∨∃ i,row.getD i false=true∧lowW l c o row b=wlV l c (o+i:Nat) 0
  | [],_,_=>.inl rfl
  | is::r,o,b=>by
    rw[lowW]
    split
    · rename_i hc
      rcases lowW_att l c r (o+1) (wlV l c o 0) with h | ⟨i,h1,h2⟩
      · exact .inr ⟨0,by simpa using hc.1,by rw[h];rfl⟩
      · exact .inr ⟨i+1,by simpa using h1,by rw[h2,show o+1+i=o+(i+1) by omega]⟩
    · rcases lowW_att l c r (o+1) b with h | ⟨i,h1,h2⟩
      · exact .inl h
      · exact .inr ⟨i+1,by simpa using h1,by rw[h2,show o+1+i=o+(i+1) by omega]⟩
theorem lowW_ge {l:List Ld} (h:∀ x∈l,1≤x.wt∧x.wt≤1000) (c:Int):∀ (row:List Bool) (o:Nat) (b:Int) (i:Nat),row.getD i false=true→0≤lowW l c o row b
  | [],_,b,i,hi=>by simp at hi
  | is::r,o,b,0,hi=>by
    rw[List.getD_cons_zero] at hi
    have hw:=wlV_rg h c o 0 (by omega)
    rw[lowW]
    split
    · exact (lowW_pos h c r (o+1) _ hw.1).1
    · rename_i hc
      have hb:0≤b:=by
        rcases Int.lt_or_le b 0 with h2 | h2
        · exact absurd ⟨hi,.inl h2⟩ hc
        · exact h2
      exact (lowW_pos h c r (o+1) b hb).1
  | is::r,o,b,i+1,hi=>by
    rw[List.getD_cons_succ] at hi
    rw[lowW]
    exact lowW_ge h c r (o+1) _ i hi
theorem lowC_sub {l:List Ld} (h:∀ x∈l,1≤x.wt∧x.wt≤1000) {c:Int} {s t:List Bool} (hs:∀ j,t.getD j false=true→s.getD j false=true) (ht :∃j,t.getD j false=true):lowC l c s≤lowC l c t:=by
  obtain ⟨j,hj⟩:=ht
  have h1:=lowW_ge h c t 0 (-1) j hj
  unfold lowC
  rcases lowW_att l c t 0 (-1) with h2 | ⟨i,h2,h3⟩
  · omega
  · have:=lowW_le h c s 0 (-1) i (hs i h2)
    omega
def SubP (y x:List (List Bool)):Prop:=∀ i j,(y.getD i default).getD j false=true→(x.getD i default).getD j false=true
theorem prB_sub {m:Mdl} (hm:VM m) {x y:List (List Bool)} (hx:FitsP m x) (hy:FitsP m y) (h:SubP y x) {i:Nat} (hi:i<m.prs.length) (j:Nat) (hj:(prB m y i).getD j false=true):(prB m x i).getD j false=true:=by
  have hpb:=prsL_mem hm.pr _ (getD_mem (l:=m.prs) (i:=i) (d:=default) hi)
  obtain ⟨q1,q2,q3,q4,q5⟩:=pairB_iff hpb
  have a1:=hx.2 (m.prs.getD i default).fst.toNat (by have:=hx.1;omega)
  have a2:=hx.2 (m.prs.getD i default).snd.toNat (by have:=hx.1;omega)
  have b1:=hy.2 (m.prs.getD i default).fst.toNat (by have:=hy.1;omega)
  have b2:=hy.2 (m.prs.getD i default).snd.toNat (by have:=hy.1;omega)
  have s1:=h (m.prs.getD i default).fst.toNat
  have s2:=h (m.prs.getD i default).snd.toNat
  unfold prB at *
  generalize y.getD (m.prs.getD i default).fst.toNat default=ya at *
  generalize y.getD (m.prs.getD i default).snd.toNat default=yb at *
  generalize x.getD (m.prs.getD i default).fst.toNat default=xa at *
  generalize x.getD (m.prs.getD i default).snd.toNat default=xb at *
  by_cases hlt:j<ya.length * yb.length
  · rw[bothV_get _ _ _ hlt,Bool.and_eq_true] at hj
    rw[bothV_get _ _ _ (by rw[a1,a2,← b1,← b2];exact hlt),a2,← b2,s1 _ hj.1,s2 _ hj.2];rfl
  · rw[List.getD_eq_getElem?_getD,List.getElem?_eq_none (by rw[bothV_len];omega)] at hj
    cases hj
theorem narrow_law {m:Mdl} (hm:VM m) {x y:List (List Bool)} (hx:FitsP m x) (hy:FitsP m y) (h:SubP y x) (g:Lg):valV m x g≤valV m y g:=by
  by_cases hn:nvV m y g
  · rw[val_never hn];exact val_top m x g
  have e1:∀ i,i<m.cls.length→(pcV y g i).2=true:=fun i hi=>by
    cases hz:(pcV y g i).2 with
    | true=>rfl
    | false=>exact absurd (.inl ⟨i,hi,hz⟩) hn
  have e2:∀ i,i<m.prs.length→(ppV m y g i).2=true:=fun i hi=>by
    cases hz:(ppV m y g i).2 with
    | true=>rfl
    | false=>exact absurd (.inr (.inl ⟨i,hi,hz⟩)) hn
  have e3:∀ i,i<m.cts.length→(pkV m y i).2=true:=fun i hi=>by
    cases hz:(pkV m y i).2 with
    | true=>rfl
    | false=>exact absurd (.inr (.inr ⟨i,hi,hz⟩)) hn
  have f1:∀ i,i<m.cls.length→(pcV x g i).2=true∧(pcV x g i).1≤(pcV y g i).1:=fun i hi=>lowN_sub (h i) (e1 i hi)
  have f2:∀ i,i<m.prs.length→(ppV m x g i).2=true∧(ppV m x g i).1≤(ppV m y g i).1:=fun i hi=>lowN_sub (prB_sub hm hx hy h hi) (e2 i hi)
  have f3:∀ i,i<m.cts.length→leastV x (m.cts.getD i default)≤leastV y (m.cts.getD i default):=fun i hi=>by
    obtain ⟨_,_,q3,q4⟩:=ctB_iff (hm.ct _ (getD_mem (l:=m.cts) (i:=i) (d:=default) hi))
    have hw:∀ z∈(m.cts.getD i default).loads,1≤z.wt∧z.wt≤1000:=fun z hz=>(ldL_mem q4 z hz).2
    refine excV_le (price_in q3).1 ?_
    rw[lowS_eq,lowS_eq,hx.1,hy.1]
    have:=sumN_le (f:=fun j=>lowC (m.cts.getD i default).loads (0+j:Nat) (x.getD j [])) (g:=fun j=>lowC (m.cts.getD i default).loads (0+j:Nat) (y.getD j [])) m.cls.length fun j hj=>lowC_sub hw (h j) (lowN_has (e1 j hj))
    omega
  have f4:∀ i,i<m.cts.length→(pkV m x i).2=true:=fun i hi=>by
    have h1:=e3 i hi
    have h2:=f3 i hi
    unfold pkV at h1 ⊢
    dsimp only at h1 ⊢
    rw[Bool.not_eq_true',Bool.and_eq_false_iff,decide_eq_false_iff_not,decide_eq_false_iff_not] at h1 ⊢
    rcases h1 with h1 | h1
    · exact .inl h1
    · exact .inr (by omega)
  rw[val_sum hn,val_sum]
  · have s1:=sumN_le m.cls.length fun i hi=>(f1 i hi).2
    have s2:=sumN_le m.prs.length fun i hi=>(f2 i hi).2
    have s3:sumN (fun i=>(pkV m x i).1) m.cts.length≤sumN (fun i=>(pkV m y i).1) m.cts.length:=sumN_le m.cts.length fun i hi=>f3 i hi
    unfold vsV
    omega
  · rintro (⟨i,hi,hz⟩ | ⟨i,hi,hz⟩ | ⟨i,hi,hz⟩)
    · rw[(f1 i hi).1] at hz;cases hz
    · rw[(f2 i hi).1] at hz;cases hz
    · rw[f4 i hi] at hz;cases hz
theorem empty_law {m:Mdl} {y:List (List Bool)} {c:Nat} (hc:c<m.cls.length) (h:∀ j,(y.getD c default).getD j false=false) (g:Lg):valV m y g=1099511627776 :=
  val_never (.inl ⟨c,hc,by unfold pcV;rw[lowN_none _ _ _ h]⟩)
theorem none_law {m:Mdl} (hm:VM m) {x:List (List Bool)} (hx:FitsP m x) (h0:m.cls.length=0) (g:Lg):valV m x g=0:=by
  have hp:m.prs.length=0:=by
    rcases Nat.eq_zero_or_pos m.prs.length with h | h
    · exact h
    · obtain ⟨q1,q2,q3,q4,q5⟩:=pairB_iff (prsL_mem hm.pr _ (getD_mem (l:=m.prs) (i:=0) (d:=default) h))
      omega
  have hk:∀ i,i<m.cts.length→leastV x (m.cts.getD i default)=0:=fun i hi=>by
    obtain ⟨_,q2,_,_⟩:=ctB_iff (hm.ct _ (getD_mem (l:=m.cts) (i:=i) (d:=default) hi))
    unfold leastV
    rw[lowS_eq,hx.1,h0]
    unfold excV
    rw[if_pos (by show (0:Int)+0≤_;omega)]
  rw[val_sum]
  · unfold vsV
    rw[h0,hp,sumN_congr (f:=fun i=>(pkV m x i).1) (g:=fun _=>0) m.cts.length fun i hi=>hk i hi]
    have:∀ n,sumN (fun _=>0) n=0:=fun n=>by induction n with
      | zero=>rfl
      | succ n ih=>rw[sumN,ih];rfl
    rw[this]
    rfl
  · rintro (⟨i,hi,hz⟩ | ⟨i,hi,hz⟩ | ⟨i,hi,hz⟩)
    · omega
    · omega
    · unfold pkV at hz
      dsimp only at hz
      rw[hk i hi] at hz
      simp at hz
end T

