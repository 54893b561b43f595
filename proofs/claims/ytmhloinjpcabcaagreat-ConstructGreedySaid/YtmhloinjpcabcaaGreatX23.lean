import Derived.Test.YtmhloinjpcabcaaGreatX21
set_option linter.unusedVariables false
set_option linter.unusedSimpArgs false
set_option linter.unnecessarySimpa false
set_option linter.unusedSectionVars false
set_option maxHeartbeats 64000000
set_option maxRecDepth 20000
open Go Go.Am
namespace T
def LE (a b:List Int):Prop:=a.length=b.length∧∀ i,a.getD i 0≤b.getD i 0
theorem LE.refl (a:List Int):LE a a:=⟨rfl,fun _=>Int.le_refl _⟩
theorem getD_setI (l:List Int) (n i:Nat) (x:Int):(l.set n x).getD i 0=if n=i∧i<l.length then x else l.getD i 0:=by
  rw[List.getD_eq_getElem?_getD,List.getElem?_set,List.getD_eq_getElem?_getD]
  by_cases h:n=i
  · subst h
    by_cases h2:n<l.length
    · rw[if_pos rfl,if_pos h2,if_pos ⟨rfl,h2⟩];rfl
    · rw[if_pos rfl,if_neg h2,if_neg (fun h=>h2 h.2),List.getElem?_eq_none (by omega)]
  · rw[if_neg h,if_neg (fun h'=>h h'.1)]
theorem LE.add {a b:List Int} (h:LE a b) {r c d:Int} (hcd:c≤d):LE (addAt a r c) (addAt b r d):=by
  refine⟨by simp only[addAt,List.length_set];exact h.1,fun i=>?_⟩
  rw[addAt,addAt,getD_setI,getD_setI,h.1]
  have:=h.2 i
  have:=h.2 r.toNat
  split
  · unfold addC;omega
  · exact h.2 i
theorem LE.up {R:Int} {a b:List Int} (h:LE a b) (hb:OutOK R b) {r c:Int} (hc:0≤c):LE a (addAt b r c):=by
  refine⟨by simp only[addAt,List.length_set];exact h.1,fun i=>?_⟩
  rw[addAt,getD_setI]
  have h1:=h.2 i
  have h2:=hb.get i
  unfold In41 at h2
  split
  · rename_i hh
    rw[hh.1];unfold addC;omega
  · exact h1
theorem chargesL_le:∀ (l:List (Int × Int)) {a b:List Int},LE a b→LE (chargesL l a) (chargesL l b)
  | [],_,_,h=>h
  | c::r,_,_,h=>chargesL_le r (h.add (Int.le_refl _))
theorem chargesL_up {R:Int}:∀ (l:List (Int × Int)) {a b:List Int},LE a b→OutOK R b→(∀ c∈l,priceB c.2=true)→LE a (chargesL l b)
  | [],_,_,h,_,_=>h
  | c::r,_,_,h,hb,hp=>by
    have:=price_in (hp c (by simp))
    exact chargesL_up r (h.up hb this.1) (hb.add this) fun x hx=>hp x (by simp[hx])
def Up (p q:List Int):Prop:=p.length=q.length∧∀ j,p.getD j 0=q.getD j 0∨p.getD j 0<0
theorem price_of {m:Mdl} (hm:VM m) (i:Nat) (o:Int):∀ c∈((m.cls.getD i default).getD o.toNat default).ch,priceB c.2=true:=by
  intro c hc
  rcases Nat.lt_or_ge i m.cls.length with hi | hi
  · have hl:=getD_mem (d:=(default:List Opt)) hi
    generalize m.cls.getD i default=l at *
    rcases Nat.lt_or_ge o.toNat l.length with ho | ho
    · exact (chL_mem (hm.chs l hl _ (getD_mem ho)) c hc).2
    · rw[show l.getD o.toNat default=default by rw[List.getD_eq_getElem?_getD,List.getElem?_eq_none ho];rfl] at hc
      exact absurd hc (by rw[opt_default_ch];simp)
  · rw[show m.cls.getD i default=[] by rw[List.getD_eq_getElem?_getD,List.getElem?_eq_none hi];rfl] at hc
    exact absurd hc (by rw[List.getD_nil,opt_default_ch];simp)
theorem planC_le {m:Mdl} (hm:VM m):∀ (p q:List Int) (i:Nat) (a b:List Int),p.length=q.length→(∀ j,p.getD j 0=q.getD j 0∨p.getD j 0<0)→LE a b→OutOK m.rules b→LE (planC m i p a) (planC m i q b)
  | [],[],_,_,_,_,_,h,_=>h
  | [],_::_,_,_,_,hl,_,_,_=>by simp at hl
  | _::_,[],_,_,_,hl,_,_,_=>by simp at hl
  | o::p,o'::q,i,a,b,hl,hj,h,hb=>by
    have hok:OutOK m.rules (planC m i [o'] b):=planC_ok hm _ _ _ hb
    rw[planC,planC] at hok
    rw[planC,planC]
    refine planC_le hm p q (i+1) _ _ (by simpa using hl) (fun j=>?_) ?_ hok
    · have:=hj (j+1)
      rwa [List.getD_cons_succ,List.getD_cons_succ] at this
    · have h0:=hj 0
      rw[List.getD_cons_zero,List.getD_cons_zero] at h0
      rcases h0 with h0 | h0
      · subst h0
        split
        · exact h
        · exact chargesL_le _ h
      · rw[if_pos h0]
        split
        · exact h
        · exact chargesL_up _ h hb (price_of hm i o')
theorem pairC_le {m:Mdl} {p q:List Int} (hu:Up p q):∀ (l:List Pr) (a b:List Int),(∀ x∈l,pairB m x=true)→LE a b→OutOK m.rules b→LE (pairC m p l a) (pairC m q l b)
  | [],_,_,_,h,_=>h
  | x::r,a,b,hp,h,hb=>by
    have he:=entry_in (hp x (by simp)) (q.getD x.fst.toNat 0) (q.getD x.snd.toNat 0)
    rw[pairC,pairC]
    refine pairC_le hu r _ _ (fun y hy=>hp y (by simp[hy])) ?_ ?_
    · by_cases hc:0≤p.getD x.fst.toNat 0∧0≤p.getD x.snd.toNat 0
      · have h1:p.getD x.fst.toNat 0=q.getD x.fst.toNat 0:=(hu.2 _).resolve_right (by omega)
        have h2:p.getD x.snd.toNat 0=q.getD x.snd.toNat 0:=(hu.2 _).resolve_right (by omega)
        rw[if_pos hc,if_pos (by rw[← h1,← h2];exact hc),h1,h2]
        exact h.add (Int.le_refl _)
      · rw[if_neg hc]
        split
        · exact h.up hb he.1
        · exact h
    · split
      · exact hb.add he
      · exact hb
theorem loadS_le {m:Mdl} {p q:List Int} (hu:Up p q):∀ (l:List Ld) (n k:Int),(∀ x∈l,optB m x.cls x.opt=true∧1≤x.wt∧x.wt≤1000)→n≤k→loadS p l n≤loadS q l k
  | [],_,_,_,h=>h
  | x::r,n,k,hp,h=>by
    have hx:=hp x (by simp)
    have ho:=(optB_iff.1 hx.1).2.2.1
    rw[loadS,loadS]
    refine loadS_le (m:=m) hu r _ _ (fun y hy=>hp y (by simp[hy])) ?_
    rcases hu.2 x.cls.toNat with h1 | h1
    · rw[h1];split<;>omega
    · rw[if_neg (by omega)];split<;>omega
theorem excV_le {most pen s t:Int} (hp:0≤pen) (h:s≤t):excV most pen s≤excV most pen t:=by
  unfold excV
  have h1:(s - most) * pen≤(t - most) * pen:=Int.mul_le_mul_of_nonneg_right (by omega) hp
  split
  · split
    · exact Int.le_refl _
    · have:0≤(t - most) * pen:=Int.mul_nonneg (by omega) hp
      omega
  · rw[if_neg (by omega)];omega
theorem countC_le {m:Mdl} {p q:List Int} (hu:Up p q):∀ (l:List Ct) (a b:List Int),(∀ x∈l,ctB m x=true)→LE a b→LE (countC p l a) (countC q l b)
  | [],_,_,_,h=>h
  | x::r,a,b,hp,h=>by
    have hx:=ctB_iff (hp x (by simp))
    have hw:=ldL_mem hx.2.2.2
    rw[countC,countC]
    exact countC_le (m:=m) hu r _ _ (fun y hy=>hp y (by simp[hy])) (h.add (excV_le (price_in hx.2.2.1).1 (loadS_le (m:=m) hu _ _ _ hw (Int.le_refl _))))
theorem rulesV_le {m:Mdl} (hm:VM m) {p q:List Int} (hu:Up p q):LE (rulesV m p) (rulesV m q):=by
  have h0:=OutOK.rep hm.rul.1
  refine countC_le hu _ _ _ hm.ct (pairC_le hu _ _ _ (prsL_mem hm.pr) (planC_le hm _ _ _ _ _ hu.1 hu.2 (LE.refl _) h0) (planC_ok hm _ _ _ h0))
theorem sumL_le:∀ {a b:List Int},a.length=b.length→(∀ i,a.getD i 0≤b.getD i 0)→sumL a≤sumL b
  | [],[],_,_=>Int.le_refl _
  | [],_::_,h,_=>by simp at h
  | _::_,[],h,_=>by simp at h
  | x::a,y::b,h,hi=>by
    have h0:=hi 0
    rw[List.getD_cons_zero,List.getD_cons_zero] at h0
    have:=sumL_le (a:=a) (b:=b) (by simpa using h) fun i=>by
      have:=hi (i+1)
      rwa [List.getD_cons_succ,List.getD_cons_succ] at this
    simp only[sumL];omega
theorem totalL_le {m:Mdl} (hm:VM m) {p q:List Int} (hu:Up p q):totalL (rulesV m p) 0≤totalL (rulesV m q) 0:=by
  have h:=rulesV_le hm hu
  rw[totalL_sum (rulesV_ok hm p).2 (by unfold In41;decide),totalL_sum (rulesV_ok hm q).2 (by unfold In41;decide)]
  have:=sumL_le h.1 h.2
  omega
theorem Up.set {p:List Int} {c:Nat} (o:Int) (h:p.getD c 0 = -1):Up p (p.set c o):=by
  refine⟨by simp,fun j=>?_⟩
  rw[getD_setI]
  split
  · rename_i hh
    rw[← hh.1,h];omega
  · exact .inl rfl
theorem PM.set {m:Mdl} {p:List Int} (h:PM m p) {c:Nat} {o:Int} (ho:o = -1∨optB m (c:Nat) o=true):PM m (p.set c o):=by
  refine⟨by rw[List.length_set];exact h.len,fun j hj=>?_⟩
  rw[List.length_set] at hj
  rw[getD_setI]
  split
  · rename_i hh
    rw[← hh.1];exact ho
  · exact h.get j hj
def kpt (keep:List Bool) (r:Int):Bool:=keep.getD r.toNat false
def Cut (keep:List Bool) (a b:List Int):Prop:=b.length=a.length∧∀ i:Nat,b.getD i 0=if kpt keep i=true then a.getD i 0 else 0
theorem Cut.add {keep:List Bool} {a b:List Int} (h:Cut keep a b) {r c:Int} (hr:0≤r):Cut keep (addAt a r c) (if kpt keep r=true then addAt b r c else b):=by
  have hrr:((r.toNat:Nat):Int)=r:=Int.toNat_of_nonneg hr
  refine⟨by split<;>simp only[addAt,List.length_set]<;>exact h.1,fun i=>?_⟩
  have hi:=h.2 i
  have hr':=h.2 r.toNat
  rw[hrr] at hr'
  by_cases hk:kpt keep r=true
  · rw[if_pos hk]
    rw[if_pos hk] at hr'
    rw[addAt,addAt,getD_setI,getD_setI,hr',h.1]
    by_cases hi2:r.toNat=i∧i<a.length
    · rw[if_pos hi2,if_pos hi2,if_pos]
      rw[← hi2.1,hrr];exact hk
    · rw[if_neg hi2,if_neg hi2];exact hi
  · rw[if_neg hk,addAt,getD_setI]
    by_cases hi2:r.toNat=i∧i<a.length
    · rw[if_pos hi2]
      rw[← hi2.1,hrr,if_neg hk] at hi
      rw[← hi2.1,hrr,if_neg hk];exact hi
    · rw[if_neg hi2];exact hi
end T

