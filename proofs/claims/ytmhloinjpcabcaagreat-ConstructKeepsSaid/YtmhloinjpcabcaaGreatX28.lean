import Derived.Test.YtmhloinjpcabcaaGreatX26
import Derived.Test.YtmhloinjpcabcaaGreatX27
import Derived.Test.YtmhloinjpcabcaaGreatX24
set_option linter.unusedVariables false
set_option linter.unusedSimpArgs false
set_option linter.unnecessarySimpa false
set_option linter.unusedSectionVars false
set_option maxHeartbeats 64000000
set_option maxRecDepth 20000
open Go Go.Am
namespace T
def costP (m:Mdl) (plan:List Int):Int:=totalL (rulesV m plan) 0
def chgF (m:Mdl) (plan:List Int) (c k:Nat):Int:=costP m (plan.set c (k:Int))
def posV (f:Nat→Int):Nat→Nat→Int→Int→Int→Int × Int × Int
  | 0,_,a,b,l=>(a,b,l)
  | n+1,k,a,b,l=>if 1099511627776≤f k then posV f n (k+1) a b l else posV f n (k+1) (a+1) (if f k<l then (k:Int) else b) (if f k<l then f k else l)
def possV (m:Mdl) (plan:List Int) (c:Nat):Int × Int :=
  ((posV (chgF m plan c) (m.cls.getD c default).length 0 0 (-1) 1099511627776).1,(posV (chgF m plan c) (m.cls.getD c default).length 0 0 (-1) 1099511627776).2.1)
def plcV (f:Nat→Int):Nat→Nat→Int→Int→Int
  | 0,_,_,b=>b
  | n+1,k,l,b=>if f k<l then plcV f n (k+1) (f k) k else plcV f n (k+1) l b
def cntV (f:Nat→Int):Nat→Nat→Int→Int
  | 0,_,a=>a
  | n+1,k,a=>if f k<1099511627776 then cntV f n (k+1) (a+1) else cntV f n (k+1) a
theorem posV_plc (f:Nat→Int):∀ (n k:Nat) (a b l:Int),l≤1099511627776→(posV f n k a b l).2.1=plcV f n k l b
  | 0,_,_,_,_,_=>rfl
  | n+1,k,a,b,l,h=>by
    rw[posV,plcV]
    by_cases h1:1099511627776≤f k
    · rw[if_pos h1,if_neg (by omega)];exact posV_plc f n _ _ _ _ h
    · rw[if_neg h1]
      by_cases h2:f k<l
      · rw[if_pos h2,if_pos h2,if_pos h2];exact posV_plc f n _ _ _ _ (by omega)
      · rw[if_neg h2,if_neg h2,if_neg h2];exact posV_plc f n _ _ _ _ h
theorem posV_cnt (f:Nat→Int):∀ (n k:Nat) (a b l:Int),(posV f n k a b l).1=cntV f n k a
  | 0,_,_,_,_=>rfl
  | n+1,k,a,b,l=>by
    unfold posV cntV
    by_cases h1:1099511627776≤f k
    · rw[if_pos h1,if_neg (by omega)];exact posV_cnt f n _ _ _ _
    · have h2:f k<1099511627776:=by omega
      rw[if_neg h1,if_pos h2];exact posV_cnt f n _ _ _ _
def plcM (m:Mdl) (plan:List Int) (c:Nat):Int:=plcV (chgF m plan c) (m.cls.getD c default).length 0 1099511627776 (-1)
def cntM (m:Mdl) (plan:List Int) (c:Nat):Int:=cntV (chgF m plan c) (m.cls.getD c default).length 0 0
theorem possV_eq (m:Mdl) (plan:List Int) (c:Nat):possV m plan c=(cntM m plan c,plcM m plan c):=by
  unfold possV cntM plcM
  rw[posV_cnt,posV_plc _ _ _ _ _ _ (Int.le_refl _)]
theorem plcV_range (f:Nat→Int):∀ (n k:Nat) (l b:Int),(-1≤b∧b<k)→-1≤plcV f n k l b∧plcV f n k l b<(k+n:Nat)
  | 0,k,_,b,h=>⟨h.1,by rw[plcV,Nat.add_zero];exact h.2⟩
  | n+1,k,l,b,h=>by
    rw[plcV,show k+(n+1)=k+1+n by omega]
    split
    · exact plcV_range f n (k+1) _ _ ⟨by omega,by omega⟩
    · exact plcV_range f n (k+1) _ _ ⟨h.1,by omega⟩
theorem plcM_range (m:Mdl) (plan:List Int) (c:Nat) : -1≤plcM m plan c∧plcM m plan c<(m.cls.getD c default).length:=by
  have:=plcV_range (chgF m plan c) (m.cls.getD c default).length 0 1099511627776 (-1) ⟨by omega,by omega⟩
  rw[Nat.zero_add] at this
  exact this
theorem pm_set {m:Mdl} {plan:List Int} (h:PM m plan) {c:Nat} {o:Int} (ho:o = -1∨optB m (c:Nat) o=true):PM m (plan.set c o):=⟨by rw[List.length_set];exact h.len,fun j hj=>by
  rw[List.length_set] at hj
  by_cases hjc:c=j
  · subst hjc
    rw[List.getD_eq_getElem?_getD,List.getElem?_set_self hj,Option.getD_some];exact ho
  · rw[List.getD_eq_getElem?_getD,List.getElem?_set_ne hjc,← List.getD_eq_getElem?_getD];exact h.get j hj⟩
theorem plcM_pm {m:Mdl} {plan:List Int} (h:PM m plan) {c:Nat} (hc:c<m.cls.length):PM m (plan.set c (plcM m plan c)):=by
  refine pm_set h ?_
  have:=plcM_range m plan c
  by_cases h1:plcM m plan c = -1
  · exact .inl h1
  · exact .inr (optB_iff.2 ⟨by omega,by omega,by omega,by rw[Int.toNat_natCast];exact this.2⟩)
def noneV (m:Mdl):List Int:=List.replicate m.cls.length (-1)
theorem noneV_pm (m:Mdl):PM m (noneV m):=⟨by unfold noneV;simp,fun j hj=>.inl (by
  unfold noneV at hj ⊢
  rw[List.length_replicate] at hj
  rw[List.getD_eq_getElem?_getD,List.getElem?_replicate,if_pos hj];rfl)⟩
def hardB (c:Ct):Bool:=decide (c.pen=1099511627776)
def hasF (p:Pr):Bool:=p.tab.any fun n=>decide (n=1099511627776)
def inCt (c:Ct) (a:Int):Bool:=c.loads.any fun l=>decide (l.cls=a)
def nearB (m:Mdl) (a b:Int):Bool:=(m.prs.any fun p=>decide (p.fst=min a b∧p.snd=max a b) && hasF p) || (m.cts.any fun c=>hardB c && inCt c a && inCt c b)
def nbC (m:Mdl) (a:Nat):Nat→Nat→Int→Int
  | 0,_,n=>n
  | f+1,b,n=>nbC m a f (b+1) (if a≠b∧nearB m a b=true then n+1 else n)
def nbV (m:Mdl):List Int:=(List.range m.cls.length).map fun a=>nbC m a m.cls.length 0 0
def insN (l:List Int) (k:Int):List Int:=if k∈l then l else l++[k]
def joinN (near:List (List Int)) (a b:Int):List (List Int) :=
  if a=b then near else
    let n1:=near.set a.toNat (insN (near.getD a.toNat []) b)
    n1.set b.toNat (insN (n1.getD b.toNat []) a)
def nbPrs:List Pr→List (List Int)→List (List Int)
  | [],s=>s
  | p::r,s=>nbPrs r (if hasF p=true then joinN s p.fst p.snd else s)
def nbLd2 (a:Int):List Ld→List (List Int)→List (List Int)
  | [],s=>s
  | l::r,s=>nbLd2 a r (joinN s a l.cls)
def nbLd (ls:List Ld):List Ld→List (List Int)→List (List Int)
  | [],s=>s
  | l::r,s=>nbLd ls r (nbLd2 l.cls ls s)
def nbCts:List Ct→List (List Int)→List (List Int)
  | [],s=>s
  | c::r,s=>nbCts r (if hardB c=true then nbLd c.loads c.loads s else s)
def nbSets (m:Mdl):List (List Int):=nbCts m.cts (nbPrs m.prs (List.replicate m.cls.length []))
structure NS (n:Nat) (R:Int→Int→Prop) (s:List (List Int)):Prop where
  len:s.length=n
  nd:∀ l∈s,l.Nodup
  mem:∀ a,a<n→∀ b,b∈s.getD a []↔(R a b∧(a:Int)≠b)
theorem insN_mem {l:List Int} {k x:Int}:x∈insN l k↔x∈l∨x=k:=by
  unfold insN
  split
  · rename_i h
    constructor
    · exact .inl
    · rintro (h1 | rfl)
      · exact h1
      · exact h
  · simp
theorem insN_nd {l:List Int} {k:Int} (h:l.Nodup):(insN l k).Nodup:=by
  unfold insN
  split
  · exact h
  · rename_i hk
    rw[List.nodup_append]
    exact⟨h,by simp,fun a ha b hb=>by rw[List.mem_singleton.1 hb];exact fun e=>hk (e ▸ ha)⟩
theorem getD_set' {α:Type} (l:List α) (i k:Nat) (x d:α) (hi:i<l.length):(l.set i x).getD k d=if i=k then x else l.getD k d:=by
  simp only[List.getD_eq_getElem?_getD,List.getElem?_set]
  by_cases h:i=k
  · subst h;simp[hi]
  · simp[h]
theorem NS.join {n:Nat} {R:Int→Int→Prop} {s:List (List Int)} (h:NS n R s) {a b:Int} (ha:0≤a∧a<n) (hb:0≤b∧b<n):NS n (fun x y=>R x y∨(x=a∧y=b)∨(x=b∧y=a)) (joinN s a b):=by
  unfold joinN
  by_cases hab:a=b
  · rw[if_pos hab]
    refine⟨h.len,h.nd,fun x hx y=>?_⟩
    rw[h.mem x hx y]
    constructor
    · rintro ⟨h1,h2⟩;exact⟨.inl h1,h2⟩
    · rintro ⟨h1 | ⟨h1,h2⟩ | ⟨h1,h2⟩,h3⟩
      · exact⟨h1,h3⟩
      · exact absurd (h1.trans (hab.trans h2.symm)) h3
      · exact absurd (h1.trans (hab.symm.trans h2.symm)) h3
  · rw[if_neg hab]
    dsimp only
    have hl:=h.len
    have hne:a.toNat≠b.toNat:=by omega
    refine⟨by simp[hl],fun l hlm=>?_,fun x hx y=>?_⟩
    · have hnd:∀ k,(s.getD k []).Nodup:=fun k=>by
        rcases Nat.lt_or_ge k s.length with hk | hk
        · exact h.nd _ (getD_mem hk)
        · rw[List.getD_eq_getElem?_getD,List.getElem?_eq_none hk];exact List.nodup_nil
      rcases List.mem_or_eq_of_mem_set hlm with h1 | h1
      · rcases List.mem_or_eq_of_mem_set h1 with h2 | h2
        · exact h.nd _ h2
        · rw[h2];exact insN_nd (hnd _)
      · rw[h1,getD_set' _ _ _ _ _ (by omega),if_neg hne];exact insN_nd (hnd _)
    · rw[getD_set' _ _ _ _ _ (by rw[List.length_set];omega)]
      by_cases h1:b.toNat=x
      · rw[if_pos h1,getD_set' _ _ _ _ _ (by omega),if_neg hne,insN_mem,h1,h.mem x hx y]
        constructor
        · rintro (⟨h2,h3⟩ | h2)
          · exact⟨.inl h2,h3⟩
          · exact⟨.inr (.inr ⟨by omega,h2⟩),by omega⟩
        · rintro ⟨h2 | ⟨h2,h3⟩ | ⟨h2,h3⟩,h4⟩
          · exact .inl ⟨h2,h4⟩
          · omega
          · exact .inr h3
      · rw[if_neg h1,getD_set' _ _ _ _ _ (by omega)]
        by_cases h2:a.toNat=x
        · rw[if_pos h2,insN_mem,h2,h.mem x hx y]
          constructor
          · rintro (⟨h3,h4⟩ | h3)
            · exact⟨.inl h3,h4⟩
            · exact⟨.inr (.inl ⟨by omega,h3⟩),by omega⟩
          · rintro ⟨h3 | ⟨h3,h4⟩ | ⟨h3,h4⟩,h5⟩
            · exact .inl ⟨h3,h5⟩
            · exact .inr h4
            · omega
        · rw[if_neg h2,h.mem x hx y]
          constructor
          · rintro ⟨h3,h4⟩;exact⟨.inl h3,h4⟩
          · rintro ⟨h3 | ⟨h3,h4⟩ | ⟨h3,h4⟩,h5⟩
            · exact⟨h3,h5⟩
            · omega
            · omega
theorem NS.congr {n:Nat} {R R':Int→Int→Prop} {s:List (List Int)} (h:NS n R s) (hr:∀ x y:Int,x≠y→(R x y↔R' x y)):NS n R' s:=⟨h.len,h.nd,fun a ha b=>by
  rw[h.mem a ha b]
  constructor
  · rintro ⟨h1,h2⟩;exact⟨(hr _ _ h2).1 h1,h2⟩
  · rintro ⟨h1,h2⟩;exact⟨(hr _ _ h2).2 h1,h2⟩⟩
theorem ns_prs {m:Mdl}:∀ (l:List Pr) (R:Int→Int→Prop) (s:List (List Int)),(∀ p∈l,pairB m p=true)→NS m.cls.length R s →
    NS m.cls.length (fun x y=>R x y∨∃ p∈l,hasF p=true∧((x=p.fst∧y=p.snd)∨(x=p.snd∧y=p.fst))) (nbPrs l s)
  | [],R,s,_,h=>h.congr fun x y _=>by simp
  | p::r,R,s,hp,h=>by
    rw[nbPrs]
    obtain ⟨q1,q2,q3,q4,q5⟩:=pairB_iff (hp p (by simp))
    by_cases hf:hasF p=true
    · rw[if_pos hf]
      refine (ns_prs r _ _ (fun x hx=>hp x (by simp[hx])) (h.join (a:=p.fst) (b:=p.snd) (by omega) (by omega))).congr fun x y _=>?_
      simp only[List.mem_cons,exists_eq_or_imp,hf,true_and]
      rw[or_assoc]
    · rw[if_neg hf]
      refine (ns_prs r _ _ (fun x hx=>hp x (by simp[hx])) h).congr fun x y _=>?_
      simp only[List.mem_cons,exists_eq_or_imp,hf,Bool.false_eq_true,false_and,false_or]
theorem ns_ld2 {n:Nat} {a:Int} (ha:0≤a∧a<n):∀ (l:List Ld) (R:Int→Int→Prop) (s:List (List Int)),(∀ x∈l,0≤x.cls∧x.cls<n)→NS n R s →
    NS n (fun x y=>R x y∨∃ q∈l,(x=a∧y=q.cls)∨(x=q.cls∧y=a)) (nbLd2 a l s)
  | [],R,s,_,h=>h.congr fun x y _=>by simp
  | q::r,R,s,hp,h=>by
    rw[nbLd2]
    refine (ns_ld2 ha r _ _ (fun x hx=>hp x (by simp[hx])) (h.join ha (hp q (by simp)))).congr fun x y _=>?_
    simp only[List.mem_cons,exists_eq_or_imp]
    rw[or_assoc]
theorem ns_ld {n:Nat} {ls:List Ld} (hls:∀ x∈ls,0≤x.cls∧x.cls<n):∀ (l:List Ld) (R:Int→Int→Prop) (s:List (List Int)),(∀ x∈l,0≤x.cls∧x.cls<n)→NS n R s →
    NS n (fun x y=>R x y∨∃ p∈l,∃ q∈ls,(x=p.cls∧y=q.cls)∨(x=q.cls∧y=p.cls)) (nbLd ls l s)
  | [],R,s,_,h=>h.congr fun x y _=>by simp
  | p::r,R,s,hp,h=>by
    rw[nbLd]
    refine (ns_ld hls r _ _ (fun x hx=>hp x (by simp[hx])) (ns_ld2 (hp p (by simp)) ls _ _ hls h)).congr fun x y _=>?_
    simp only[List.mem_cons,exists_eq_or_imp]
    rw[or_assoc]
theorem ld_cls {m:Mdl} {c:Ct} (hc:ctB m c=true):∀ x∈c.loads,0≤x.cls∧x.cls<m.cls.length:=fun x hx=>by
  have:=(ldL_mem (ctB_iff hc).2.2.2 x hx).1
  have:=optB_iff.1 this
  omega
theorem ns_cts {m:Mdl}:∀ (l:List Ct) (R:Int→Int→Prop) (s:List (List Int)),(∀ c∈l,ctB m c=true)→NS m.cls.length R s →
    NS m.cls.length (fun x y=>R x y∨∃ c∈l,hardB c=true∧inCt c x=true∧inCt c y=true) (nbCts l s)
  | [],R,s,_,h=>h.congr fun x y _=>by simp
  | c::r,R,s,hp,h=>by
    rw[nbCts]
    have hl:=ld_cls (hp c (by simp))
    by_cases hf:hardB c=true
    · rw[if_pos hf]
      refine (ns_cts r _ _ (fun x hx=>hp x (by simp[hx])) (ns_ld hl c.loads _ _ hl h)).congr fun x y _=>?_
      simp only[List.mem_cons,exists_eq_or_imp,hf,true_and]
      rw[or_assoc]
      refine or_congr Iff.rfl (or_congr ?_ Iff.rfl)
      unfold inCt
      simp only[List.any_eq_true,decide_eq_true_eq]
      constructor
      · rintro ⟨p,hp1,q,hq,(⟨h1,h2⟩ | ⟨h1,h2⟩)⟩
        · exact⟨⟨p,hp1,h1.symm⟩,⟨q,hq,h2.symm⟩⟩
        · exact⟨⟨q,hq,h1.symm⟩,⟨p,hp1,h2.symm⟩⟩
      · rintro ⟨⟨p,hp1,h1⟩,⟨q,hq,h2⟩⟩
        exact⟨p,hp1,q,hq,.inl ⟨h1.symm,h2.symm⟩⟩
    · rw[if_neg hf]
      refine (ns_cts r _ _ (fun x hx=>hp x (by simp[hx])) h).congr fun x y _=>?_
      simp only[List.mem_cons,exists_eq_or_imp,hf,Bool.false_eq_true,false_and,false_or]
theorem ns_all {m:Mdl} (hm:VM m):NS m.cls.length (fun x y=>nearB m x y=true) (nbSets m):=by
  have h0:NS m.cls.length (fun _ _=>False) (List.replicate m.cls.length []):=by
    refine⟨by simp,fun l hl=>by rw[(List.mem_replicate.1 hl).2];exact List.nodup_nil,fun a ha b=>?_⟩
    rw[List.getD_eq_getElem?_getD,List.getElem?_replicate,if_pos ha];simp
  refine (ns_cts m.cts _ _ hm.ct (ns_prs m.prs _ _ (prsL_mem hm.pr) h0)).congr fun x y hxy=>?_
  unfold nearB
  rw[Bool.or_eq_true,List.any_eq_true,List.any_eq_true,false_or]
  refine or_congr ?_ ?_
  · constructor
    · rintro ⟨p,hp,hf,h⟩
      obtain ⟨q1,q2,q3,q4,q5⟩:=pairB_iff (prsL_mem hm.pr p hp)
      refine⟨p,hp,?_⟩
      rw[hf,Bool.and_true,decide_eq_true_eq]
      omega
    · rintro ⟨p,hp,h⟩
      rw[Bool.and_eq_true,decide_eq_true_eq] at h
      exact⟨p,hp,h.2,by omega⟩
  · constructor
    · rintro ⟨c,hc,h1,h2,h3⟩;exact⟨c,hc,by rw[h1,h2,h3];rfl⟩
    · rintro ⟨c,hc,h⟩
      simp only[Bool.and_eq_true] at h
      exact⟨c,hc,h.1.1,h.1.2,h.2⟩
theorem nbC_count (m:Mdl) (a:Nat):∀ (f b:Nat) (n:Int),nbC m a f b n=n+((List.range' b f).countP fun b=>decide (a≠b) && nearB m a b:Nat)
  | 0,b,n=>by simp[nbC]
  | f+1,b,n=>by
    rw[nbC,nbC_count m a f,List.range'_succ,List.countP_cons]
    by_cases h1:a≠b∧nearB m a b=true
    · rw[if_pos h1]
      simp only[h1.2,Bool.and_true,decide_eq_true_eq]
      rw[if_pos h1.1];omega
    · rw[if_neg h1,if_neg (by rw[Bool.and_eq_true,decide_eq_true_eq];exact h1)];omega
theorem nb_eq {m:Mdl} (hm:VM m):(nbSets m).map (fun l=>(l.length:Int))=nbV m:=by
  have h:=ns_all hm
  apply List.ext_getElem
  · simp[nbV,h.len]
  · intro a h1 h2
    have ha:a<m.cls.length:=by simpa [h.len] using h1
    have hs:a<(nbSets m).length:=by rw[h.len];exact ha
    simp only[nbV,List.getElem_map,List.getElem_range]
    rw[nbC_count]
    have hmem:=h.mem a ha
    have hnd:=h.nd _ (List.getElem_mem hs)
    rw[List.getD_eq_getElem?_getD,List.getElem?_eq_getElem hs,Option.getD_some] at hmem
    generalize (nbSets m)[a]=l at *
    have hp:l.Perm (((List.range' 0 m.cls.length).filter fun b=>decide (a≠b) && nearB m a b).map (fun b:Nat=>(b:Int))):=by
      rw[List.perm_ext_iff_of_nodup hnd]
      · intro x
        rw[hmem x,List.mem_map]
        constructor
        · rintro ⟨h3,h4⟩
          have hx:0≤x∧x<m.cls.length:=by
            unfold nearB at h3
            rw[Bool.or_eq_true,List.any_eq_true,List.any_eq_true] at h3
            rcases h3 with ⟨p,hp,h5⟩ | ⟨c,hc,h5⟩
            · rw[Bool.and_eq_true,decide_eq_true_eq] at h5
              obtain ⟨q1,q2,q3,q4,q5⟩:=pairB_iff (prsL_mem hm.pr p hp)
              omega
            · simp only[Bool.and_eq_true] at h5
              have h6:=h5.2
              unfold inCt at h6
              rw[List.any_eq_true] at h6
              obtain ⟨q,hq,h7⟩:=h6
              rw[decide_eq_true_eq] at h7
              have:=ld_cls (hm.ct c hc) q hq
              omega
          refine⟨x.toNat,?_,by omega⟩
          rw[List.mem_filter,List.mem_range'_1]
          refine⟨by omega,?_⟩
          rw[Bool.and_eq_true,decide_eq_true_eq,show ((x.toNat:Nat):Int)=x by omega]
          exact⟨by omega,h3⟩
        · rintro ⟨b,hb,rfl⟩
          rw[List.mem_filter,Bool.and_eq_true,decide_eq_true_eq] at hb
          exact⟨hb.2.2,by have:=hb.2.1;omega⟩
      · rw[List.nodup_iff_pairwise_ne,List.pairwise_map]
        refine (List.Pairwise.filter _ (List.nodup_iff_pairwise_ne.1 List.nodup_range')).imp fun hxy e=>hxy (by omega)
    rw[hp.length_eq,List.length_map,← List.countP_eq_length_filter]
    omega
structure It where
  cls:Int
  opt:Int
  near:Int
  deriving Inhabited
def ltI (a b:It):Bool:=decide (orL [cmp3 a.opt b.opt,cmp3 b.near a.near,cmp3 a.cls b.cls]<0)
theorem ltI_iff {a b:It}:ltI a b=true↔a.opt<b.opt∨(a.opt=b.opt∧(b.near<a.near∨(a.near=b.near∧a.cls<b.cls))):=by
  unfold ltI
  rw[decide_eq_true_eq]
  unfold orL orL orL orL cmp3
  repeat' split
  all_goals omega
theorem ordI:Ord ltI:=⟨fun a b h=>by
  rw[ltI_iff] at h
  cases hh:ltI b a
  · rfl
  · rw[ltI_iff] at hh;omega,fun a b c h1 h2=>by
  cases hh:ltI c a
  · rfl
  · rw[ltI_iff] at hh
    have n1:¬ ltI b a=true:=by rw[h1];simp
    have n2:¬ ltI c b=true:=by rw[h2];simp
    rw[ltI_iff] at n1 n2
    omega⟩
def pickR (many best:Nat→Int) (nb:List Int) (done:List Bool):Nat→Nat→Int × Int × Int→Int × Int × Int
  | 0,_,s=>s
  | f+1,c,s=>pickR many best nb done f (c+1) (if done.getD c false=true then s else if s.1<0∨many c<s.2.1∨(many c=s.2.1∧nb.getD c 0 > nb.getD s.1.toNat 0) then ((c:Int),many c,best c) else s)
def pickM (m:Mdl) (nb:List Int) (plan:List Int) (done:List Bool):Int × Int × Int:=pickR (cntM m plan) (plcM m plan) nb done m.cls.length 0 (-1,0,-1)
def satR (m:Mdl) (nb:List Int):Nat→List Int→List Bool→List Int
  | 0,plan,_=>plan
  | r+1,plan,done=>satR m nb r (plan.set (pickM m nb plan done).1.toNat (pickM m nb plan done).2.2) (done.set (pickM m nb plan done).1.toNat true)
def satV (m:Mdl):List Int:=satR m (nbV m) m.cls.length (noneV m) (List.replicate m.cls.length false)
def setO (m:Mdl) (plan:List Int) (x:It):It:=⟨x.cls,cntM m plan x.cls.toNat,x.near⟩
def rndP (m:Mdl) (plan:List Int) (w:List It):It × List It:=popL ltI (initL ltI ((w.map (setO m plan)).length / 2) (w.map (setO m plan)) (w.map (setO m plan)).length)
def satP (m:Mdl):Nat→List Int→List It→List Int
  | 0,plan,_=>plan
  | r+1,plan,w=>satP m r (plan.set (rndP m plan w).1.cls.toNat (plcM m plan (rndP m plan w).1.cls.toNat)) (rndP m plan w).2
def w0 (nb:List Int):List It:=(List.range nb.length).map fun c:Nat=>(⟨(c:Int),0,nb.getD c 0⟩:It)
def Pk (many best:Nat→Int) (nb:List Int) (done:List Bool) (n:Nat) (s:Int × Int × Int):Prop :=
  (s.1 = -1∧∀ c,c<n→done.getD c false=true)∨(0≤s.1∧s.1<n∧done.getD s.1.toNat false=false∧s.2.1=many s.1.toNat∧s.2.2=best s.1.toNat ∧
    ∀ c:Nat,c<n→done.getD c false=false→(c:Int)≠s.1→s.2.1<many c∨(s.2.1=many c∧(nb.getD c 0<nb.getD s.1.toNat 0∨(nb.getD s.1.toNat 0=nb.getD c 0∧s.1<c))))
theorem pickR_pk {many best:Nat→Int} {nb:List Int} {done:List Bool}:∀ (f c:Nat) (s:Int × Int × Int),Pk many best nb done c s→Pk many best nb done (c+f) (pickR many best nb done f c s)
  | 0,c,s,h=>h
  | f+1,c,s,h=>by
    rw[pickR,show c+(f+1)=c+1+f by omega]
    refine pickR_pk f (c+1) _ ?_
    cases hd:done.getD c false with
    | true =>
      rw[if_pos rfl]
      rcases h with ⟨h1,h2⟩ | ⟨h1,h2,h3,h4,h5,h6⟩
      · refine .inl ⟨h1,fun k hk=>?_⟩
        by_cases hkc:k=c
        · rw[hkc];exact hd
        · exact h2 k (by omega)
      · refine .inr ⟨h1,by omega,h3,h4,h5,fun k hk hkd hne=>?_⟩
        by_cases hkc:k=c
        · rw[hkc,hd] at hkd;simp at hkd
        · exact h6 k (by omega) hkd hne
    | false =>
      rw[if_neg (by simp)]
      split
      · rename_i hc
        refine .inr ⟨by dsimp only;omega,by dsimp only;omega,by rw[Int.toNat_natCast];exact hd,by rw[Int.toNat_natCast],by rw[Int.toNat_natCast],fun k hk hkd hne=>?_⟩
        dsimp only at hne ⊢
        rw[Int.toNat_natCast]
        rcases h with ⟨h1,h2⟩ | ⟨h1,h2,h3,h4,h5,h6⟩
        · have:=h2 k (by omega)
          rw[this] at hkd;simp at hkd
        · by_cases hks:(k:Int)=s.1
          · have:s.1.toNat=k:=by omega
            rw[this] at hc h4
            omega
          · have:=h6 k (by omega) hkd hks
            omega
      · rename_i hc
        rcases h with ⟨h1,h2⟩ | ⟨h1,h2,h3,h4,h5,h6⟩
        · exact absurd (.inl (by omega)) hc
        · refine .inr ⟨h1,by omega,h3,h4,h5,fun k hk hkd hne=>?_⟩
          by_cases hkc:k=c
          · subst hkc;omega
          · exact h6 k (by omega) hkd hne
structure WD (nb:List Int) (n:Nat) (done:List Bool) (w:List It):Prop where
  len:done.length=n
  near:∀ x∈w,0≤x.cls∧x.cls<n∧x.near=nb.getD x.cls.toNat 0
  nd:(w.map (·.cls)).Nodup
  mem:∀ c,c<n→(done.getD c false=false↔∃ x∈w,x.cls=c)
theorem rnd_pick {m:Mdl} {nb plan:List Int} {done:List Bool} {w:List It} (h:WD nb m.cls.length done w) (hw:0<w.length) :
    (rndP m plan w).1.cls=(pickM m nb plan done).1∧plcM m plan (rndP m plan w).1.cls.toNat=(pickM m nb plan done).2.2∧WD nb m.cls.length (done.set (pickM m nb plan done).1.toNat true) (rndP m plan w).2∧(rndP m plan w).2.length+1=w.length ∧
    (0≤(rndP m plan w).1.cls∧(rndP m plan w).1.cls<m.cls.length):=by
  have hp:=pickR_pk (many:=cntM m plan) (best:=plcM m plan) (nb:=nb) (done:=done) m.cls.length 0 (-1,0,-1) (.inl ⟨rfl,fun c hc=>by omega⟩)
  rw[Nat.zero_add] at hp
  change Pk _ _ _ _ _ (pickM m nb plan done) at hp
  obtain ⟨hl1,hl2⟩:=pop_least ordI (l:=w.map (setO m plan)) (by simpa using hw)
  change (∀ y∈w.map (setO m plan),ltI y (rndP m plan w).1=false) at hl1
  change ((rndP m plan w).1::(rndP m plan w).2).Perm _ at hl2
  generalize pickM m nb plan done=s at *
  generalize rndP m plan w=q at *
  obtain ⟨x,rest⟩:=q
  dsimp only at hl1 hl2 ⊢
  have hx:x∈w.map (setO m plan):=hl2.mem_iff.1 List.mem_cons_self
  obtain ⟨x0,hx0,rfl⟩:=List.mem_map.1 hx
  have hxn:=h.near x0 hx0
  have hxd:=(h.mem x0.cls.toNat (by omega)).2 ⟨x0,hx0,by omega⟩
  rcases hp with ⟨h1,h2⟩ | ⟨h1,h2,h3,h4,h5,h6⟩
  · rw[h2 _ (by omega)] at hxd;simp at hxd
  · have hcls:x0.cls=s.1:=by
      obtain ⟨y,hy,hyc⟩:=(h.mem s.1.toNat (by omega)).1 h3
      have hyn:=h.near y hy
      have hlt:=hl1 (setO m plan y) (List.mem_map.2 ⟨y,hy,rfl⟩)
      by_cases he:x0.cls=s.1
      · exact he
      · have h7:=h6 x0.cls.toNat (by omega) hxd (by omega)
        have:ltI (setO m plan y) (setO m plan x0)=true:=by
          rw[ltI_iff]
          show cntM m plan y.cls.toNat<cntM m plan x0.cls.toNat∨(cntM m plan y.cls.toNat=cntM m plan x0.cls.toNat∧(x0.near<y.near∨(y.near=x0.near∧y.cls<x0.cls)))
          have e1:y.cls.toNat=s.1.toNat:=by omega
          rw[hyn.2.2,hxn.2.2,e1]
          omega
        rw[this] at hlt;simp at hlt
    have hperm:(x0.cls::rest.map (·.cls)).Perm (w.map (·.cls)):=by
      have:=hl2.map (·.cls)
      rw[List.map_cons,List.map_map] at this
      exact this
    have hnd:=hperm.nodup_iff.2 h.nd
    rw[List.nodup_cons] at hnd
    refine⟨hcls,by show plcM m plan x0.cls.toNat=_;rw[hcls,h5],⟨by rw[List.length_set];exact h.len,fun y hy=>?_,hnd.2,fun c hc=>?_⟩,?_,hxn.1,hxn.2.1⟩
    · have:y∈w.map (setO m plan):=hl2.mem_iff.1 (List.mem_cons_of_mem _ hy)
      obtain ⟨y0,hy0,rfl⟩:=List.mem_map.1 this
      exact h.near y0 hy0
    · have hlen:=h.len
      rw[getD_set' _ _ _ _ _ (by omega)]
      by_cases hcs:s.1.toNat=c
      · rw[if_pos hcs]
        refine⟨fun e=>by simp at e,fun ⟨y,hy,hyc⟩=>?_⟩
        refine absurd (List.mem_map.2 ⟨y,hy,?_⟩) hnd.1
        rw[hyc,hcls];omega
      · rw[if_neg hcs,h.mem c hc]
        constructor
        · rintro ⟨y,hy,hyc⟩
          have:y.cls∈x0.cls::rest.map (·.cls):=hperm.mem_iff.2 (List.mem_map.2 ⟨y,hy,rfl⟩)
          rcases List.mem_cons.1 this with h8 | h8
          · omega
          · obtain ⟨z,hz,hzc⟩:=List.mem_map.1 h8
            exact⟨z,hz,by rw[hzc];exact hyc⟩
        · rintro ⟨y,hy,hyc⟩
          have:y.cls∈w.map (·.cls):=hperm.mem_iff.1 (List.mem_cons_of_mem _ (List.mem_map.2 ⟨y,hy,rfl⟩))
          obtain ⟨z,hz,hzc⟩:=List.mem_map.1 this
          exact⟨z,hz,by rw[hzc];exact hyc⟩
    · have:=hl2.length_eq
      simpa using this
theorem sat_eq {m:Mdl} {nb:List Int}:∀ (r:Nat) (plan:List Int) (done:List Bool) (w:List It),WD nb m.cls.length done w→w.length=r→satP m r plan w=satR m nb r plan done
  | 0,_,_,_,_,_=>rfl
  | r+1,plan,done,w,h,hw=>by
    obtain ⟨h1,h2,h3,h4,h5⟩:=rnd_pick (plan:=plan) h (by omega)
    rw[satP,satR,h2,h1]
    exact sat_eq r _ _ _ h3 (by omega)
theorem wd0 {n:Nat} {nb:List Int} (hn:nb.length=n):WD nb n (List.replicate n false) (w0 nb):=by
  refine⟨by simp,fun x hx=>?_,?_,fun c hc=>?_⟩
  · obtain ⟨c,hc,rfl⟩:=List.mem_map.1 hx
    rw[List.mem_range] at hc
    exact⟨by dsimp only;omega,by dsimp only;omega,by dsimp only;rw[Int.toNat_natCast]⟩
  · unfold w0
    rw[List.map_map,List.nodup_iff_pairwise_ne,List.pairwise_map]
    exact (List.nodup_iff_pairwise_ne.1 List.nodup_range).imp fun hxy e=>hxy (by have e':=e;simp only[Function.comp] at e';omega)
  · rw[List.getD_eq_getElem?_getD,List.getElem?_replicate,if_pos hc,Option.getD_some]
    exact⟨fun _=>⟨⟨c,0,nb.getD c 0⟩,List.mem_map.2 ⟨c,List.mem_range.2 (by omega),rfl⟩,rfl⟩,fun _=>rfl⟩
theorem nbV_len (m:Mdl):(nbV m).length=m.cls.length:=by unfold nbV;simp
theorem w0_len (nb:List Int):(w0 nb).length=nb.length:=by unfold w0;simp
theorem sat_law (m:Mdl):satP m m.cls.length (noneV m) (w0 (nbV m))=satV m:=by
  unfold satV
  exact sat_eq _ _ _ _ (wd0 (nbV_len m)) (by rw[w0_len,nbV_len])
theorem satR_pm {m:Mdl} {nb:List Int}:∀ (r:Nat) (plan:List Int) (done:List Bool) (w:List It),WD nb m.cls.length done w→w.length=r→PM m plan→PM m (satR m nb r plan done)
  | 0,_,_,_,_,_,h=>h
  | r+1,plan,done,w,h,hw,hp=>by
    obtain ⟨h1,h2,h3,h4,h5⟩:=rnd_pick (plan:=plan) h (by omega)
    rw[satR]
    refine satR_pm r _ _ _ h3 (by omega) ?_
    rw[← h2,← h1]
    exact plcM_pm hp (by omega)
theorem satV_pm (m:Mdl):PM m (satV m):=satR_pm _ _ _ _ (wd0 (nbV_len m)) (by rw[w0_len,nbV_len]) (noneV_pm m)
def freeB (o:Opt):Bool:=!o.ch.any fun c=>decide (c.2=1099511627776)
def ejPrs (m:Mdl) (cl:Int):List Pr→List Int→List Int
  | [],nx=>nx
  | p::r,nx=>ejPrs m cl r (if (p.fst≠cl∧p.snd≠cl)∨nx.getD (p.fst+p.snd - cl).toNat 0<0 then nx else if entryV m p (nx.getD p.fst.toNat 0) (nx.getD p.snd.toNat 0)=1099511627776 then nx.set (p.fst+p.snd - cl).toNat (-1) else nx)
def exPr (m:Mdl) (a x b y:Int):Bool:=m.prs.any fun p=>decide (p.fst=a∧p.snd=b∧entryV m p x y=1099511627776)
def exclB (m:Mdl) (a x b y:Int):Bool:=if b<a then exPr m b y a x else exPr m a x b y
def ejRef (m:Mdl) (cl o:Int):Nat→Nat→List Int→List Int
  | 0,_,nx=>nx
  | f+1,c,nx=>ejRef m cl o f (c+1) (if (c:Int)≠cl∧0≤nx.getD c 0∧exclB m cl o c (nx.getD c 0)=true then nx.set c (-1) else nx)
def agn (m:Mdl) (l:List Pr) (cl o:Int) (nx:List Int) (c:Nat):Prop :=
  (c:Int)≠cl∧0≤nx.getD c 0∧∃ p∈l,(p.fst=cl∧p.snd=c∧entryV m p o (nx.getD c 0)=1099511627776)∨(p.fst=c∧p.snd=cl∧entryV m p (nx.getD c 0) o=1099511627776)
theorem ejPrs_get {m:Mdl} {cl o:Int} (hcl:0≤cl∧cl<m.cls.length):∀ (l:List Pr) (nx:List Int),(∀ p∈l,pairB m p=true)→nx.length=m.cls.length→nx.getD cl.toNat 0=o →
    (ejPrs m cl l nx).length=m.cls.length∧∀ c,c<m.cls.length→((agn m l cl o nx c→(ejPrs m cl l nx).getD c 0 = -1)∧(¬ agn m l cl o nx c→(ejPrs m cl l nx).getD c 0=nx.getD c 0))
  | [],nx,_,hl,_=>⟨hl,fun c hc=>⟨fun ⟨_,_,p,hp,_⟩=>(by cases hp),fun _=>rfl⟩⟩
  | p::r,nx,hp,hl,ho=>by
    rw[ejPrs]
    obtain ⟨q1,q2,q3,q4,q5⟩:=pairB_iff (hp p (by simp))
    have hpr:∀ x∈r,pairB m x=true:=fun x hx=>hp x (by simp[hx])
    by_cases h1:(p.fst≠cl∧p.snd≠cl)∨nx.getD (p.fst+p.snd - cl).toNat 0<0
    · rw[if_pos h1]
      obtain ⟨i1,i2⟩:=ejPrs_get hcl r nx hpr hl ho
      refine⟨i1,fun c hc=>?_⟩
      have e:agn m (p::r) cl o nx c↔agn m r cl o nx c:=by
        unfold agn
        constructor
        · rintro ⟨a,b,x,hx,h⟩
          refine⟨a,b,?_⟩
          rcases List.mem_cons.1 hx with rfl | hx
          · exfalso
            rcases h with ⟨h2,h3,h4⟩ | ⟨h2,h3,h4⟩
            · rw[show (x.fst+x.snd - cl).toNat=c by omega] at h1;omega
            · rw[show (x.fst+x.snd - cl).toNat=c by omega] at h1;omega
          · exact⟨x,hx,h⟩
        · rintro ⟨a,b,x,hx,h⟩;exact⟨a,b,x,by simp[hx],h⟩
      rw[e];exact i2 c hc
    · rw[if_neg h1]
      obtain ⟨c2,hc2⟩ :∃c2,(p.fst+p.snd - cl).toNat=c2:=⟨_,rfl⟩
      rw[hc2] at h1 ⊢
      have hside:(p.fst=cl∧p.snd=c2)∨(p.fst=c2∧p.snd=cl):=by omega
      have hc2l:c2<nx.length:=by omega
      have hne:cl.toNat≠c2:=by omega
      have hent:entryV m p (nx.getD p.fst.toNat 0) (nx.getD p.snd.toNat 0)=1099511627776↔((p.fst=cl∧p.snd=c2∧entryV m p o (nx.getD c2 0)=1099511627776)∨(p.fst=c2∧p.snd=cl∧entryV m p (nx.getD c2 0) o=1099511627776)):=by
        rcases hside with ⟨h2,h3⟩ | ⟨h2,h3⟩
        · have e1:p.snd.toNat=c2:=by omega
          rw[h2,ho,e1]
          constructor
          · exact fun h=>.inl ⟨rfl,h3,h⟩
          · rintro (⟨_,_,h⟩ | ⟨h,_,_⟩)
            · exact h
            · omega
        · have e1:p.fst.toNat=c2:=by omega
          rw[h3,ho,e1]
          constructor
          · exact fun h=>.inr ⟨h2,rfl,h⟩
          · rintro (⟨_,h,_⟩ | ⟨_,_,h⟩)
            · omega
            · exact h
      by_cases h2:entryV m p (nx.getD p.fst.toNat 0) (nx.getD p.snd.toNat 0)=1099511627776
      · rw[if_pos h2]
        obtain ⟨i1,i2⟩:=ejPrs_get (o:=o) hcl r (nx.set c2 (-1)) hpr (by rw[List.length_set];exact hl) (by rw[getD_set' _ _ _ _ _ hc2l,if_neg (Ne.symm hne)];exact ho)
        refine⟨i1,fun c hc=>?_⟩
        by_cases hcc:c=c2
        · subst hcc
          have hb:agn m (p::r) cl o nx c:=⟨by omega,by omega,p,by simp,hent.1 h2⟩
          have hn:¬ agn m r cl o (nx.set c (-1)) c:=by
            rintro ⟨_,h,_⟩
            rw[getD_set' _ _ _ _ _ hc2l,if_pos rfl] at h
            omega
          exact⟨fun _=>by rw[(i2 c hc).2 hn,getD_set' _ _ _ _ _ hc2l,if_pos rfl],fun h=>absurd hb h⟩
        · have hg:(nx.set c2 (-1)).getD c 0=nx.getD c 0:=by rw[getD_set' _ _ _ _ _ hc2l,if_neg (Ne.symm hcc)]
          have e:agn m (p::r) cl o nx c↔agn m r cl o (nx.set c2 (-1)) c:=by
            unfold agn
            rw[hg]
            constructor
            · rintro ⟨a,b,x,hx,h⟩
              refine⟨a,b,?_⟩
              rcases List.mem_cons.1 hx with rfl | hx
              · exfalso;omega
              · exact⟨x,hx,h⟩
            · rintro ⟨a,b,x,hx,h⟩;exact⟨a,b,x,by simp[hx],h⟩
          rw[e,← hg];exact i2 c hc
      · rw[if_neg h2]
        obtain ⟨i1,i2⟩:=ejPrs_get (o:=o) hcl r nx hpr hl ho
        refine⟨i1,fun c hc=>?_⟩
        have e:agn m (p::r) cl o nx c↔agn m r cl o nx c:=by
          unfold agn
          constructor
          · rintro ⟨a,b,x,hx,h⟩
            refine⟨a,b,?_⟩
            rcases List.mem_cons.1 hx with rfl | hx
            · exfalso
              have hcc:c=c2:=by omega
              subst hcc
              exact h2 (hent.2 h)
            · exact⟨x,hx,h⟩
          · rintro ⟨a,b,x,hx,h⟩;exact⟨a,b,x,by simp[hx],h⟩
        rw[e];exact i2 c hc
theorem exclB_iff {m:Mdl} {cl o y:Int} {c:Nat} (hne:(c:Int)≠cl) (hp:∀ p∈m.prs,pairB m p=true):exclB m cl o c y=true↔∃ p∈m.prs,(p.fst=cl∧p.snd=c∧entryV m p o y=1099511627776)∨(p.fst=c∧p.snd=cl∧entryV m p y o=1099511627776):=by
  unfold exclB exPr
  by_cases h:(c:Int)<cl
  · rw[if_pos h,List.any_eq_true]
    constructor
    · rintro ⟨p,hp1,h1⟩
      rw[decide_eq_true_eq] at h1
      exact⟨p,hp1,.inr h1⟩
    · rintro ⟨p,hp1,h1 | h1⟩
      · obtain ⟨q1,q2,q3,q4,q5⟩:=pairB_iff (hp p hp1)
        omega
      · exact⟨p,hp1,by rw[decide_eq_true_eq];exact h1⟩
  · rw[if_neg h,List.any_eq_true]
    constructor
    · rintro ⟨p,hp1,h1⟩
      rw[decide_eq_true_eq] at h1
      exact⟨p,hp1,.inl h1⟩
    · rintro ⟨p,hp1,h1 | h1⟩
      · exact⟨p,hp1,by rw[decide_eq_true_eq];exact h1⟩
      · obtain ⟨q1,q2,q3,q4,q5⟩:=pairB_iff (hp p hp1)
        omega
theorem ejRef_get {m:Mdl} {cl o:Int}:∀ (f k:Nat) (nx:List Int),k+f≤nx.length →
    (ejRef m cl o f k nx).length=nx.length∧∀ c,(ejRef m cl o f k nx).getD c 0=if k≤c∧c<k+f∧(c:Int)≠cl∧0≤nx.getD c 0∧exclB m cl o c (nx.getD c 0)=true then -1 else nx.getD c 0
  | 0,k,nx,_=>⟨rfl,fun c=>by rw[if_neg (by omega)];rfl⟩
  | f+1,k,nx,hk=>by
    rw[ejRef]
    by_cases h:(k:Int)≠cl∧0≤nx.getD k 0∧exclB m cl o k (nx.getD k 0)=true
    · rw[if_pos h]
      obtain ⟨i1,i2⟩:=ejRef_get (cl:=cl) (o:=o) (m:=m) f (k+1) (nx.set k (-1)) (by rw[List.length_set];omega)
      refine⟨by rw[i1,List.length_set],fun c=>?_⟩
      rw[i2 c,getD_set' _ _ _ _ _ (by omega)]
      by_cases hkc:k=c
      · subst hkc
        rw[if_neg (by omega),if_pos rfl,if_pos ⟨Nat.le_refl _,by omega,h⟩]
      · rw[if_neg (c:=k=c) hkc]
        by_cases h2:k+1≤c∧c<k+1+f∧(c:Int)≠cl∧0≤nx.getD c 0∧exclB m cl o c (nx.getD c 0)=true
        · rw[if_pos h2,if_pos ⟨by omega,by omega,h2.2.2⟩]
        · rw[if_neg h2,if_neg (fun h3=>h2 ⟨by omega,by omega,h3.2.2⟩)]
    · rw[if_neg h]
      obtain ⟨i1,i2⟩:=ejRef_get (cl:=cl) (o:=o) (m:=m) f (k+1) nx (by omega)
      refine⟨i1,fun c=>?_⟩
      rw[i2 c]
      by_cases hkc:k=c
      · subst hkc
        rw[if_neg (by omega),if_neg (fun h3=>h h3.2.2)]
      · by_cases h2:k+1≤c∧c<k+1+f∧(c:Int)≠cl∧0≤nx.getD c 0∧exclB m cl o c (nx.getD c 0)=true
        · rw[if_pos h2,if_pos ⟨by omega,by omega,h2.2.2⟩]
        · rw[if_neg h2,if_neg (fun h3=>h2 ⟨by omega,by omega,h3.2.2⟩)]
theorem ej_eq {m:Mdl} (hm:VM m) {cl o:Int} (hcl:0≤cl∧cl<m.cls.length) {nx:List Int} (hl:nx.length=m.cls.length) (ho:nx.getD cl.toNat 0=o):ejPrs m cl m.prs nx=ejRef m cl o m.cls.length 0 nx:=by
  have hp:=prsL_mem hm.pr
  obtain ⟨a1,a2⟩:=ejPrs_get hcl m.prs nx hp hl ho
  obtain ⟨b1,b2⟩:=ejRef_get (cl:=cl) (o:=o) (m:=m) m.cls.length 0 nx (by omega)
  apply List.ext_getElem
  · rw[a1,b1,hl]
  · intro c h1 h2
    have hc:c<m.cls.length:=by omega
    have e1:=a2 c hc
    have e2:=b2 c
    rw[List.getD_eq_getElem?_getD,List.getElem?_eq_getElem h2,Option.getD_some] at e2
    rw[List.getD_eq_getElem?_getD (l:=ejPrs m cl m.prs nx),List.getElem?_eq_getElem h1,Option.getD_some] at e1
    rw[e2]
    by_cases hc1:(c:Int)≠cl
    · by_cases h:0≤nx.getD c 0∧exclB m cl o c (nx.getD c 0)=true
      · rw[if_pos ⟨Nat.zero_le _,by omega,hc1,h⟩]
        exact e1.1 ⟨hc1,h.1,(exclB_iff hc1 hp).1 h.2⟩
      · rw[if_neg (fun h3=>h h3.2.2.2)]
        exact e1.2 (fun ⟨_,h3,h4⟩=>h ⟨h3,(exclB_iff hc1 hp).2 h4⟩)
    · rw[if_neg (fun h3=>hc1 h3.2.2.1)]
      exact e1.2 (fun ⟨h3,_⟩=>hc1 h3)
def heavP (nx:List Int) (cl:Int):List Ld→Int→Int→Int
  | [],b,_=>b
  | l::r,b,w=>if (l.cls≠cl∧nx.getD l.cls.toNat 0=l.opt)∧w≤l.wt then heavP nx cl r l.cls l.wt else heavP nx cl r b w
def wtA (ls:List Ld) (nx:List Int) (c:Int):Int:=wtV ls c (nx.getD c.toNat 0)
def heavR (ls:List Ld) (nx:List Int) (cl:Int):Nat→Nat→Int→Int
  | 0,_,o=>o
  | f+1,c,o=>heavR ls nx cl f (c+1) (if ((c:Int)≠cl∧0<wtA ls nx c)∧(o<0∨wtA ls nx o≤wtA ls nx c) then (c:Int) else o)
def Hv (ls:List Ld) (nx:List Int) (cl:Int) (k b:Int):Prop :=
  (b = -1∧∀ c:Int,0≤c→c<k→c≠cl→wtA ls nx c≤0)∨(0≤b∧b<k∧b≠cl∧0<wtA ls nx b∧∀ c:Int,0≤c→c<k→c≠cl→0<wtA ls nx c→wtA ls nx c<wtA ls nx b∨(wtA ls nx c=wtA ls nx b∧c≤b))
theorem hv_uniq {ls:List Ld} {nx:List Int} {cl k a b:Int} (ha:Hv ls nx cl k a) (hb:Hv ls nx cl k b):a=b:=by
  rcases ha with ⟨h1,h2⟩ | ⟨h1,h2,h3,h4,h5⟩
  · rcases hb with ⟨g1,g2⟩ | ⟨g1,g2,g3,g4,g5⟩
    · omega
    · have:=h2 b g1 g2 g3;omega
  · rcases hb with ⟨g1,g2⟩ | ⟨g1,g2,g3,g4,g5⟩
    · have:=g2 a h1 h2 h3;omega
    · have:=h5 b g1 g2 g3 g4
      have:=g5 a h1 h2 h3 h4
      omega
theorem heavR_hv {ls:List Ld} {nx:List Int} {cl:Int}:∀ (f c:Nat) (o:Int),Hv ls nx cl c o→Hv ls nx cl (c+f:Nat) (heavR ls nx cl f c o)
  | 0,c,o,h=>h
  | f+1,c,o,h=>by
    rw[heavR,show c+(f+1)=c+1+f by omega]
    refine heavR_hv f (c+1) _ ?_
    by_cases h1:((c:Int)≠cl∧0<wtA ls nx c)∧(o<0∨wtA ls nx o≤wtA ls nx c)
    · rw[if_pos h1]
      refine .inr ⟨by omega,by omega,h1.1.1,h1.1.2,fun d h0 hd hne hw=>?_⟩
      by_cases hdc:d=c
      · subst hdc;exact .inr ⟨rfl,Int.le_refl _⟩
      · rcases h with ⟨g1,g2⟩ | ⟨g1,g2,g3,g4,g5⟩
        · have:=g2 d h0 (by omega) hne;omega
        · have:=g5 d h0 (by omega) hne hw;omega
    · rw[if_neg h1]
      rcases h with ⟨g1,g2⟩ | ⟨g1,g2,g3,g4,g5⟩
      · refine .inl ⟨g1,fun d h0 hd hne=>?_⟩
        by_cases hdc:d=c
        · subst hdc;omega
        · exact g2 d h0 (by omega) hne
      · refine .inr ⟨g1,by omega,g3,g4,fun d h0 hd hne hw=>?_⟩
        by_cases hdc:d=c
        · subst hdc;omega
        · exact g5 d h0 (by omega) hne hw
theorem heavP_hv {m:Mdl} {nx:List Int} {cl:Int} (hn:nx.length=m.cls.length):∀ (l:List Ld) (ls:List Ld) (q:Option Ld) (b w:Int),ldL m q l=true →
    (∀ y,q=some y→0≤y.cls) →
    (∀ c:Int,0≤c→c<m.cls.length→c≠cl→wtV l c (nx.getD c.toNat 0) > 0→wtA ls nx c=wtV l c (nx.getD c.toNat 0)∧b<c) →
    ((b = -1∧w=0)∨(0≤b∧b<m.cls.length∧b≠cl∧0<w∧wtA ls nx b=w)) →
    (∀ c:Int,0≤c→c<m.cls.length→c≠cl→0<wtA ls nx c→wtV l c (nx.getD c.toNat 0) > 0∨(0≤b∧(wtA ls nx c<w∨(wtA ls nx c=w∧c≤b)))) →
    Hv ls nx cl m.cls.length (heavP nx cl l b w)
  | [],ls,q,b,w,_,_,h1,h2,h3=>by
    rw[heavP]
    rcases h2 with ⟨g1,g2⟩ | ⟨g1,g2,g3,g4,g5⟩
    · refine .inl ⟨g1,fun c h0 hc hne=>?_⟩
      by_cases hw:0<wtA ls nx c
      · rcases h3 c h0 hc hne hw with h | h
        · simp[wtV] at h
        · omega
      · omega
    · refine .inr ⟨g1,g2,g3,by omega,fun c h0 hc hne hw=>?_⟩
      rcases h3 c h0 hc hne hw with h | h
      · simp[wtV] at h
      · omega
  | l::r,ls,q,b,w,hl,hq,h1,h2,h3=>by
    have hr:ldL m (some l) r=true:=by
      rw[ldL.eq_def] at hl
      simp only[Bool.and_eq_true] at hl
      exact hl.2
    have hx:=ldL_mem hl l (by simp)
    have ho:=optB_iff.1 hx.1
    have hwt:=hx.2
    have hgt:=ldL_gt hr
    have hrl:∀ c o:Int,wtV r c o > 0→l.cls<c∨(l.cls=c∧l.opt<o):=fun c o hc=>by
      by_cases h :∃y∈r,y.cls=c∧y.opt=o
      · obtain ⟨y,hy,e1,e2⟩:=h
        have:=hgt y hy
        omega
      · rw[wtV_none r c o (fun y hy e=>h ⟨y,hy,e⟩)] at hc;omega
    rw[heavP]
    by_cases hm1:l.cls≠cl∧nx.getD l.cls.toNat 0=l.opt
    · have hwl:wtV (l::r) l.cls (nx.getD l.cls.toNat 0)=l.wt:=by rw[wtV,if_pos ⟨rfl,hm1.2.symm⟩]
      obtain ⟨k1,k2⟩:=h1 l.cls ho.1 ho.2.1 hm1.1 (by omega)
      rw[hwl] at k1
      have hnext:∀ c:Int,wtV r c (nx.getD c.toNat 0) > 0→l.cls<c:=fun c hc=>by
        rcases hrl c _ hc with h | ⟨h,h'⟩
        · exact h
        · rw[← h,hm1.2] at h';omega
      have hwr:∀ c:Int,c≠l.cls→wtV (l::r) c (nx.getD c.toNat 0)=wtV r c (nx.getD c.toNat 0):=fun c hc=>by rw[wtV,if_neg (fun e=>hc e.1.symm)]
      have hr1:∀ (b':Int),b'≤l.cls→∀ c:Int,0≤c→c<m.cls.length→c≠cl→wtV r c (nx.getD c.toNat 0) > 0→wtA ls nx c=wtV r c (nx.getD c.toNat 0)∧b'<c:=fun b' hb' c h0 hc hne hw=>by
        have hlt:=hnext c hw
        have:=h1 c h0 hc hne (by rw[hwr c (by omega)];exact hw)
        rw[hwr c (by omega)] at this
        exact⟨this.1,by omega⟩
      by_cases hw1:w≤l.wt
      · rw[if_pos ⟨hm1,hw1⟩]
        refine heavP_hv hn r ls (some l) l.cls l.wt hr (fun y hy=>by cases hy;exact ho.1) (hr1 _ (Int.le_refl _)) (.inr ⟨ho.1,ho.2.1,hm1.1,by omega,k1⟩) (fun c h0 hc hne hw=>?_)
        by_cases hcl:c=l.cls
        · subst hcl;exact .inr ⟨h0,.inr ⟨k1,Int.le_refl _⟩⟩
        · rcases h3 c h0 hc hne hw with h | h
          · rw[hwr c hcl] at h;exact .inl h
          · exact .inr ⟨ho.1,by omega⟩
      · rw[if_neg (fun e=>hw1 e.2)]
        have hb0:0≤b∧b<m.cls.length:=by
          rcases h2 with ⟨g1,g2⟩ | ⟨g1,g2,g3,g4,g5⟩<;>omega
        refine heavP_hv hn r ls (some l) b w hr (fun y hy=>by cases hy;exact ho.1) (hr1 _ (by omega)) h2 (fun c h0 hc hne hw=>?_)
        by_cases hcl:c=l.cls
        · subst hcl;exact .inr ⟨hb0.1,.inl (by omega)⟩
        · rcases h3 c h0 hc hne hw with h | h
          · rw[hwr c hcl] at h;exact .inl h
          · exact .inr h
    · rw[if_neg (fun e=>hm1 e.1)]
      have hwr:∀ c:Int,c≠cl→wtV (l::r) c (nx.getD c.toNat 0)=wtV r c (nx.getD c.toNat 0):=fun c hc=>by
        rw[wtV,if_neg (fun e=>hm1 ⟨by rw[e.1];exact hc,by rw[e.1];exact e.2.symm⟩)]
      refine heavP_hv hn r ls (some l) b w hr (fun y hy=>by cases hy;exact ho.1) (fun c h0 hc hne hw=>?_) h2 (fun c h0 hc hne hw=>?_)
      · have:=h1 c h0 hc hne (by rw[hwr c hne];exact hw)
        rw[hwr c hne] at this;exact this
      · rw[← hwr c hne];exact h3 c h0 hc hne hw
theorem heav_eq {m:Mdl} {nx:List Int} {cl:Int} (hn:nx.length=m.cls.length) {c:Ct} (hc:ctB m c=true):heavP nx cl c.loads (-1) 0=heavR c.loads nx cl m.cls.length 0 (-1):=by
  have hl:=(ctB_iff hc).2.2.2
  have h1:=heavP_hv (cl:=cl) hn c.loads c.loads none (-1) 0 hl (fun y hy=>by cases hy) (fun k h0 hk hne hw=>⟨rfl,by omega⟩) (.inl ⟨rfl,rfl⟩) (fun k h0 hk hne hw=>.inl hw)
  have h2:=heavR_hv (ls:=c.loads) (nx:=nx) (cl:=cl) m.cls.length 0 (-1) (.inl ⟨rfl,fun k h0 hk=>by omega⟩)
  rw[Nat.zero_add] at h2
  exact hv_uniq h1 h2
end T

