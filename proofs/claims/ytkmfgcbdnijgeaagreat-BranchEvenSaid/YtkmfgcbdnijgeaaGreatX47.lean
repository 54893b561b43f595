import Derived.Test.YtkmfgcbdnijgeaaGreatX19
import Derived.Test.YtkmfgcbdnijgeaaGreatX30
import Derived.Test.YtkmfgcbdnijgeaaGreatX29
import Derived.Test.YtkmfgcbdnijgeaaGreatX42
set_option linter.unusedVariables false
set_option linter.unusedSimpArgs false
set_option linter.unnecessarySimpa false
set_option linter.unusedSectionVars false
set_option maxHeartbeats 64000000
set_option maxRecDepth 20000
open Go Go.Am
open Go Go.Am Go.Proofs
open Nat (reduceEqDiff reduceAdd reduceLeDiff reduceMul)
open Int (reduceNeg reduceLE reduceToNat)
namespace T
theorem NB1.start0 (x:Ob):NB1 [(1,.arr 1 []),(0,x)] [] [] [x,.arr 1 []]:=⟨by simp,rfl,by simp,(show ([1,0]:List Nat).Nodup by decide)⟩
theorem NB1.ret0 {D:List (Nat × Nat)} {S:List (List Bool)} {os:List Ob} {oi:Nat} (h:NB1 [(oi,.arr 1 (rowsOf eRb D))] D S os) (e:Nat→AV) :
    RetOK 0 ⟨e,os⟩ (.ref oi 1 0 S.length) (.ref 0 1 0 S.length) (.arr 1 (refsB 1 S)::ownB S):=by
  have hd:=h.len
  have h1:=h.base (oi,.arr 1 (rowsOf eRb D)) (by simp)
  dsimp only at h1
  have hl:∀ i∈oi::D.map (·.1),i<os.length:=fun i hi=>by
    rcases List.mem_cons.1 hi with rfl | hi
    · exact (List.getElem?_eq_some_iff.1 h1).1
    obtain ⟨q,hq,rfl⟩:=List.mem_map.1 hi
    obtain ⟨k,hk,rfl⟩:=List.mem_iff_getElem.1 hq
    have h3:=(h.row k hk).1
    have a1:D.getD k default=D[k]:=by simp[hk]
    rw[a1] at h3
    exact (List.getElem?_eq_some_iff.1 h3).1
  have hrho:∀ j,j<S.length→rho os.length (oi::D.map (·.1)) (1+j)=(D.getD j default).1:=fun j hj=>by
    unfold rho
    rw[if_pos (by simp;omega),show 1+j=j+1 by omega,List.getD_cons_succ,List.getD_eq_getElem?_getD,List.getElem?_map,List.getD_eq_getElem?_getD,List.getElem?_eq_getElem (by omega)];rfl
  refine⟨oi::D.map (·.1),false,by simpa using h.nd,by simp[ownB_len,hd],fun j o hj=>.inr ?_,hl,by simp,fun i hi=>?_,.eq ?_⟩
  · match j with
    | 0 =>
      simp only[List.getElem?_cons_zero,Option.some.injEq] at hj
      subst hj
      refine h1.trans (congrArg some ?_)
      rw[renO]
      refine congrArg _ (List.ext_getElem? fun i=>?_)
      rw[List.getElem?_map]
      by_cases hi:i<S.length
      · rw[eRb_D h hi,refsB_get 1 S i hi,Option.map_some,List.map_cons,List.map_nil,ren,hrho i hi]
      · rw[List.getElem?_eq_none (by simp[rowsOf];omega),List.getElem?_eq_none (by rw[refsB_len];omega)];rfl
    | j+1 =>
      simp only[List.getElem?_cons_succ] at hj
      have hjl:j<S.length:=by have:=(List.getElem?_eq_some_iff.1 hj).1;rwa [ownB_len] at this
      have h3:=(h.row j (by omega)).1
      unfold ownB at hj
      rw[List.getElem?_map,List.getElem?_eq_getElem hjl] at hj
      simp only[Option.map_some,Option.some.injEq] at hj
      subst hj
      rw[bools_ren]
      have e1:(oi::D.map (·.1)).getD (j+1) 0=(D.getD j default).1:=by
        rw[List.getD_cons_succ,List.getD_eq_getElem?_getD,List.getElem?_map,List.getD_eq_getElem?_getD,List.getElem?_eq_getElem (by omega)];rfl
      have e2:S.getD j default=S[j]:=by rw[List.getD_eq_getElem?_getD,List.getElem?_eq_getElem hjl];rfl
      rw[e1,← e2]
      exact h3
  · omega
  · rw[ren]
    have:rho os.length (oi::D.map (·.1)) 0=oi:=by unfold rho;rw[if_pos (by simp)];rfl
    rw[this]
end T
namespace T
theorem refAllO_ok (m:Mdl) (hm:MB m) (hv:VM m):Holds Tryz.prog 115 [.agg (eMdl m)] [] (.ref 0 1 0 (allT m).length) (.arr 1 (refsB 1 (allT m))::ownB (allT m)):=by
  have h1:=refValid_ok m hm
  have hm1:=hm.cls
  have hal0:allT m=allV m:=if_pos (valid_iff.2 hv)
  generalize hres:allT m=res
  refine Holds.of_body' (fn:=Tryz.f115) 38 0 [.tmp 2] Tryz.func115 rfl rfl rfl rfl rfl (by simp) ?_
  rw[valid_iff.2 hv] at h1
  have hc24:=hv.cls
  ((repeat' (first|refine Vd @bne_self_eq_false.{0} h1 ?_|(refine Xi ?_ ?_<;>try intro ht)|exact Xx|fail)))
  refine W_loopS (fun z:Nat × List (List Bool) × List Ob × Nat × List (Nat × Nat)=>(⟨slots [(1,.ptr 0 0 0),(3,.ref z.2.2.2.1 1 0 z.2.2.2.2.length),(4,.lit (.int .i64 z.1))],z.2.2.1⟩:St))
    (fun z=>z.1≤m.cls.length∧z.2.1=(allV m).take z.1∧NB1 [(z.2.2.2.1,.arr 1 (rowsOf eRb z.2.2.2.2)),(0,.var (eMdl m))] z.2.2.2.2 z.2.1 z.2.2.1) (fun z=>m.cls.length - z.1) (0,[],[.var (eMdl m),.arr 1 []],1,[]) ⟨Nat.zero_le _,rfl,NB1.start0 _⟩ ?_ ?_
  · refine Turns.trans (Turns.nil 3 1 (by simp only[Kc,simprocAttr]) (by decide)) ?_
    exact Xv X0
  rintro ⟨i,xs,os,oi,D⟩ ⟨hi,hxs,hB⟩ Ql hnl hel
  dsimp only at hi hxs hB ⊢
  have hal:(allV m).length=m.cls.length:=by simp[allV]
  have hDl:=hB.len
  have fo:=hB.b0
  have fm:=hB.b1
  dsimp only at fm fo
  by_cases hi':i<m.cls.length
  · have hxl:xs.length=i:=by rw[hxs,List.length_take];omega
    have hts:(allV m).take (i+1)=xs++[List.replicate (m.cls.getD i default).length true]:=by
      rw[take_snoc (by omega),← hxs];unfold allV;rw[map_getD _ _ _ hi']
    have hl24:=hv.opt _ (getD_mem (d:=default) hi')
    generalize hcc:m.cls.getD i default=c at *
    ((repeat' (first|refine Va (X3 @fm @hcc @eCls.eq_1) ?_|(refine Xi ?_ ?_<;>try intro ht)|exact Xx|fail)))
    refine W_loopS (fun z:Nat × List Ob=>(⟨slots [(1,.ptr 0 0 0),(3,.ref oi 1 0 D.length),(4,.lit (.int .i64 i)),(5,.ref os.length 1 0 c.length),(6,.lit (.int .i64 z.1))],z.2⟩:St))
      (fun z=>z.1≤c.length∧NB1 [(os.length,.arr 1 (bools (List.replicate z.1 true++List.replicate (c.length - z.1) false))),(oi,.arr 1 (rowsOf eRb D)),(0,.var (eMdl m))] D xs z.2) (fun z=>c.length - z.1)
      (0,os++[.arr 1 (bools (List.replicate 0 true++List.replicate (c.length - 0) false))]) ⟨Nat.zero_le _,(hB.app _).add (oL0 _ _ _) (hB.fresh (Nat.le_refl _))⟩ (by simp only[Nat.sub_zero,List.replicate_zero,List.nil_append];exact Xv X0) ?_
    rintro ⟨k,os1⟩ ⟨hk,hB1⟩ Ql2 hnl2 hel2
    dsimp only at hk hB1 ⊢
    have hrl:(List.replicate k true++List.replicate (c.length - k) false).length=c.length:=by simp;omega
    have fp1:=hB1.b0
    have fo1:=hB1.b1
    have fm1:=hB1.b2
    dsimp only at fp1 fo1 fm1
    by_cases hk':k<c.length
    · have hset:(List.replicate k true++List.replicate (c.length - k) false).set k true=List.replicate (k+1) true++List.replicate (c.length - (k+1)) false:=by
        rw[List.set_append_right _ _ (by simp),List.length_replicate,Nat.sub_self,show c.length - k=(c.length - (k+1))+1 by omega,List.replicate_succ,List.set_cons_zero,List.replicate_succ',List.append_assoc];rfl
      ((repeat' (first|refine Va (X3 @fp1 @hrl @bools_set) ?_|(refine Xi ?_ ?_<;>try intro ht)|exact Xx|fail)))
      rw[hset]
      exact hnl2 _ (k+1,os1.set os.length (.arr 1 (bools (List.replicate (k+1) true++List.replicate (c.length - (k+1)) false)))) ⟨by dsimp only;omega,hB1.put _⟩ (by dsimp only;omega) (Xv X0)
    · obtain rfl:k=c.length:=by omega
      ((repeat' (first|refine Va @fp1 ?_|(refine Xi ?_ ?_<;>try intro ht)|exact Xx|fail)))
      refine hel2 _ _ rfl ?_
      clear hnl2 hel2 Ql2
      repeat (refine Xu ?_)
      rw[Nat.sub_self,List.replicate_zero,List.append_nil] at *
      have hB2:=hB1.snoc
      rw[List.length_replicate] at hB2
      obtain ⟨hB4,hfr⟩:=hB2.drop
      generalize os.length=p at *
      refine Va (X5 @fo1 (oLo fo1) (oSo fo1) @eRb_app (X4 @Oc2 @List.append_assoc.{0} @List.length_append.{0} @List.length_set.{0})) ?_
      refine hnl _ (i+1,xs++[List.replicate c.length true],os1.set oi .gone++[.arr 1 [[.ref p 1 0 c.length]],.arr 1 (rowsOf eRb (D++[(p,c.length)]))],os1.length+1,D++[(p,c.length)]) ⟨by dsimp only;omega,hts.symm,?_⟩ (by dsimp only;omega) ?_
      · refine ((hB4.other hfr .gone).app _).add ?_ ((hB4.other hfr .gone).fresh (by simp))
        have hl3:(os1.set oi Ob.gone).length=os1.length:=List.length_set ..
        rw[← hl3,oLk];rfl
      · exact Xv X0
  · rw[List.take_of_length_le (by omega)] at hxs
    ((repeat' (first|refine Va @fm ?_|(refine Xi ?_ ?_<;>try intro ht)|exact Xx|fail)))
    refine hel _ _ rfl ?_;clear hnl hel Ql
    repeat (refine Xu ?_)
    refine Vb X0 ?_
    have hrx:res=xs:=by rw[← hres,hal0,hxs]
    subst hrx
    have h3:=(hB.swap.drop).1
    rw[hDl]
    exact h3.ret0 _
end T
namespace T
theorem forU_all {m:Mdl} {P:List Nd} {n:Nat} {up:UpL} (h:forU m P n=some up):∀ i,i<n→∃ u v,forU m P i=some u∧nodeU m P i u=some v:=by
  intro i hi
  cases hu:forU m P i with
  | none=>rw[forU_none hu n (by omega)] at h;cases h
  | some u =>
    cases hv:nodeU m P i u with
    | none =>
      have h1:forU m P (i+1)=none:=by
        show (forU m P i).bind _=none
        rw[hu];exact hv
      rw[forU_none h1 n (by omega)] at h;cases h
    | some v=>exact⟨u,v,rfl,hv⟩
theorem kidN_all {n i:Nat} {kids:List Int} {up v:UpL} (h:kidN n i kids up kids.length=some v):∀ k∈kids,kidB n i k=true:=by
  intro k hk
  obtain ⟨o,ho,rfl⟩:=List.getElem_of_mem hk
  cases hw:kidN n i kids up o with
  | none=>rw[kidN_none hw kids.length (by omega)] at h;cases h
  | some w =>
    by_cases hc:kidB n i (kids.getD o 0)=true∧(upG w (kids.getD o 0).toNat).1<0
    · have:=hc.1
      rwa [List.getD_eq_getElem?_getD,List.getElem?_eq_getElem ho] at this
    · rw[kid_cut hw ho hc] at h;cases h
theorem nodeU_some {m:Mdl} {P:List Nd} {i:Nat} {u v:UpL} (h:nodeU m P i u=some v) :
    ¬(0<i∧(upG u i).1<0)∧ndB m (nd P i)=true∧((nd P i).cls≠-1→hitB P (nd P i).cls (anc u i)=false)∧nodeB m P.length i (nd P i)=true:=by
  unfold nodeU at h
  split at h
  · cases h
  rename_i h1
  split at h
  · cases h
  rename_i h2
  rw[Bool.not_eq_false] at h2
  split at h
  · rename_i h3
    refine⟨h1,h2,fun hh=>absurd h3 hh,?_⟩
    unfold nodeB
    rw[h2,Bool.true_and,List.eq_nil_of_length_eq_zero (leaf_kids h2 h3)];rfl
  split at h
  · cases h
  rename_i h3 h4
  refine⟨h1,h2,fun _=>by simpa using h4,?_⟩
  unfold nodeB
  rw[h2,Bool.true_and,List.all_eq_true]
  exact kidN_all h
theorem allK_take_le {P:List Nd} (i:Nat) (k:Int):(allK (P.take i)).count k≤(allK P).count k:=by
  conv=>rhs;rw[← List.take_append_drop i P]
  unfold allK
  rw[List.flatMap_append,List.count_append];omega
theorem formed_len {m:Mdl} {P:List Nd} {up:UpL} (h:formedV m P=some up):(1≤P.length∧P.length≤20000)∧forU m P P.length=some up:=by
  unfold formedV at h
  split at h
  · rename_i hs;exact⟨hs,h⟩
  · cases h
theorem UI.full {P:List Nd} {up:UpL} (h:UI P P.length 0 up) (j:Nat) (hj:j<P.length):(allK P).count (j:Int)=if 0≤(upG up j).1 then 1 else 0:=by
  have:=h.cnt j hj
  rwa [List.take_zero,List.append_nil,List.take_length] at this
theorem formed_shaped {m:Mdl} {P:List Nd} {up:UpL} (h:formedV m P=some up):shapedB m P=true:=by
  obtain ⟨hs,hf⟩:=formed_len h
  have hall:=forU_all hf
  have hui:=forU_UI _ _ (Nat.le_refl _) hf
  have hone:∀ j,1≤j→j<P.length→(allK P).count (j:Int)=1:=fun j h1 h2=>by
    obtain ⟨u,v,hu,hv⟩:=hall j h2
    have hn:=(nodeU_some hv).1
    have hc:=(forU_UI _ _ (by omega) hu).cnt j h2
    rw[List.take_zero,List.append_nil,if_pos (by omega)] at hc
    have hle:=allK_take_le (P:=P) j (j:Int)
    have hfc:=hui.full j h2
    split at hfc<;>omega
  rw[shaped_end hs fun i hi=>by obtain ⟨u,v,_,hv⟩:=hall i hi;exact (nodeU_some hv).2.2.2,Bool.not_eq_true']
  rw[List.any_eq_false]
  intro x hx
  obtain ⟨j,hj,rfl⟩:=List.getElem_of_mem hx
  rw[List.length_drop,parV_len] at hj
  rw[List.getElem_drop]
  have:=parV_get (allK P) (j:=1+j) (show 1+j<P.length by omega)
  rw[List.getD_eq_getElem?_getD,List.getElem?_eq_getElem (by rw[parV_len];omega),hone (1+j) (by omega) (by omega)] at this
  rw[Option.getD_some] at this
  rw[this];decide
theorem vis_ind {P:List Nd} (hd:Down P) (R:St3→Prop) (hst:∀ s o,s.1<P.length→o<(nd P s.1).kids.length→R s→R (kidS P s o)) :
    ∀ (f:Nat) (s:St3),s.1<P.length→R s→∀ v∈vis P f s,R v:=by
  intro f
  induction f with
  | zero=>intro s _ _ v hv;exact absurd hv (by simp[vis])
  | succ f ih =>
    intro s hs hr v hv
    rw[vis] at hv
    rcases List.mem_cons.1 hv with rfl | hv
    · exact hr
    · obtain ⟨t,ht,hv⟩:=List.mem_flatMap.1 hv
      obtain ⟨o,ho,rfl⟩:=kid_mem (List.mem_reverse.1 ht)
      exact ih _ (kid_in hd hs ho).2.1 (hst s o hs ho hr) v hv
def wayF (P:List Nd) (l:UpL) (x:List (List Bool)):List (List Bool):=l.foldl (fun acc a=>onlyV acc (nd P a.1.toNat).cls.toNat a.2.toNat) x
def RelW (m:Mdl) (P:List Nd) (u:UpL) (s:St3):Prop:=(anc u s.1).map (fun a=>(nd P a.1.toNat).cls)=s.2.2.reverse∧s.2.1=wayF P (anc u s.1).reverse (allT m)
theorem rel_vis {m:Mdl} {P:List Nd} (hd:Down P) {i:Nat} {u:UpL} (h:UI P i 0 u) (h0:0<P.length):∀ v∈vs P (root m),v.1≤i→RelW m P u v:=by
  refine vis_ind hd (fun s=>s.1≤i→RelW m P u s) ?_ _ (root m) h0 ?_
  · intro s o hs ho hr hle
    obtain ⟨h1,h2,h3⟩:=kid_in hd hs ho
    obtain ⟨r1,r2⟩:=hr (by omega)
    obtain ⟨j,hj1,hj2,hj3,hj4⟩:=h.set s.1 o (.inl (by omega)) hs ho
    have e:(kidS P s o).1=j:=by omega
    unfold RelW
    rw[e,anc_step h hj1,hj4,if_pos (by dsimp only;omega)]
    dsimp only
    rw[Int.toNat_natCast]
    refine⟨?_,?_⟩
    · rw[List.map_cons,r1]
      show _=(s.2.2++[(nd P s.1).cls]).reverse
      rw[List.reverse_append];rfl
    · unfold wayF
      rw[List.reverse_cons,List.foldl_append]
      show onlyV s.2.1 _ _=_
      rw[r2];rfl
  · intro _
    have hr0:upG u 0=(-1,0):=by
      rcases h.low 0 h0 with h1 | ⟨p,q,h1,h2,_⟩
      · exact h1
      · omega
    unfold RelW
    rw[anc_step h (show (root m).1<P.length from h0)]
    show _∧_
    have:(upG u (root m).1)=(-1,0):=hr0
    rw[this,if_neg (by decide)]
    exact⟨rfl,rfl⟩
theorem rel_hit {m:Mdl} {P:List Nd} {u:UpL} {s:St3} (h:RelW m P u s) (c:Int):hitB P c (anc u s.1)=s.2.2.contains c:=by
  have h1:hitB P c (anc u s.1)=((anc u s.1).map fun a=>(nd P a.1.toNat).cls).any (· == c):=by
    unfold hitB;rw[List.any_map];rfl
  rw[h1,h.1,List.any_reverse,Bool.eq_iff_iff,List.any_eq_true,List.contains_iff_mem]
  constructor
  · rintro ⟨x,hx,e⟩
    rw[beq_iff_eq] at e;subst e;exact hx
  · exact fun hx=>⟨c,hx,by simp⟩
theorem visit_of {m:Mdl} {P:List Nd} (h:shapedB m P=true) {j:Nat} (hj:j<P.length) :∃v∈vs P (root m),v.1=j:=by
  have:=vs_once h (s:=root m) rfl j hj
  have hm:j∈(vs P (root m)).map (·.1):=by
    rw[← List.count_pos_iff];omega
  obtain ⟨v,hv,e⟩:=List.mem_map.1 hm
  exact⟨v,hv,e⟩
theorem unformed {m:Mdl} {P:List Nd} (h:shapedB m P=true) (hn:formedV m P=none) :∃v∈vs P (root m),v.2.2.contains (nd P v.1).cls=true:=by
  have hl:=shaped_len h
  have hd:=shaped_down h
  have hbad :∃i u,i<P.length∧forU m P i=some u∧nodeU m P i u=none:=by
    refine Classical.byContradiction fun hno=>?_
    have hall:∀ i,i≤P.length→∃ u,forU m P i=some u:=by
      intro i
      induction i with
      | zero=>exact fun _=>⟨_,rfl⟩
      | succ i ih =>
        intro hi
        obtain ⟨u,hu⟩:=ih (by omega)
        cases hv:nodeU m P i u with
        | none=>exact absurd ⟨i,u,by omega,hu,hv⟩ hno
        | some v =>
          refine⟨v,?_⟩
          show (forU m P i).bind _=_
          rw[hu];exact hv
    obtain ⟨u,hu⟩:=hall _ (Nat.le_refl _)
    unfold formedV at hn
    rw[if_pos hl,hu] at hn
    cases hn
  obtain ⟨i,u,hi,hu,hv⟩:=hbad
  have hui:=forU_UI i u (by omega) hu
  obtain ⟨v,hvm,hve⟩:=visit_of h hi
  refine⟨v,hvm,?_⟩
  have hrel:=rel_vis hd hui (by omega) v hvm (by omega)
  rw[← rel_hit hrel,hve]
  have hnode:=shaped_node h hi
  unfold nodeB at hnode
  rw[Bool.and_eq_true,List.all_eq_true] at hnode
  unfold nodeU at hv
  split at hv
  · rename_i hp
    obtain ⟨p,hp1,hp2,_⟩:=shaped_par h (show 1≤i by omega) hi
    have:i∈kN P p:=by rw[← List.count_pos_iff];omega
    unfold kN at this
    obtain ⟨k,hk,e⟩:=List.mem_map.1 this
    obtain ⟨q,hq,rfl⟩:=List.getElem_of_mem hk
    obtain ⟨j,h1,h2,h3,h4⟩:=hui.set p q (.inl hp1) (by omega) hq
    rw[List.getD_eq_getElem?_getD,List.getElem?_eq_getElem hq,Option.getD_some] at h3
    rw[h3,Int.toNat_natCast] at e
    subst e
    rw[h4] at hp
    exact absurd hp.2 (by dsimp only;omega)
  split at hv
  · rename_i h2
    rw[hnode.1] at h2;cases h2
  split at hv
  · cases hv
  split at hv
  · assumption
  exfalso
  have hkall:∀ o,o≤(nd P i).kids.length→∃ w,kidN P.length i (nd P i).kids u o=some w:=by
    intro o
    induction o with
    | zero=>exact fun _=>⟨_,rfl⟩
    | succ o ih =>
      intro ho
      obtain ⟨w,hw⟩:=ih (by omega)
      have hkb:=hnode.2 _ (getD_mem (l:=(nd P i).kids) (i:=o) (d:=0) (by omega))
      refine⟨_,kid_go hw ⟨hkb,?_⟩⟩
      unfold kidB at hkb
      rw[decide_eq_true_eq] at hkb
      have hwi:=UI.kids hi hui o w (by omega) hw
      have htk:(nd P i).kids.take (o+1)=(nd P i).kids.take o++[(nd P i).kids.getD o 0]:=take_snoc (by omega)
      generalize hkk:(nd P i).kids.getD o 0=k at *
      obtain ⟨kn,rfl⟩ :∃kn:Nat,k=kn:=⟨k.toNat,by omega⟩
      rw[Int.toNat_natCast]
      refine Classical.byContradiction fun hge=>?_
      have hc:=hwi.cnt kn (by omega)
      rw[if_pos (by omega)] at hc
      have h1:=shaped_one h (j:=kn) (by omega) (by omega)
      have h2:(allK (P.take (i+1))).count (kn:Int)≤(allK P).count (kn:Int):=allK_take_le _ _
      rw[nd_take hi,allK_snoc,List.count_append] at h2
      have h3:((nd P i).kids.take (o+1)).count (kn:Int)≤(nd P i).kids.count (kn:Int):=by
        conv=>rhs;rw[← List.take_append_drop (o+1) (nd P i).kids]
        rw[List.count_append];omega
      rw[htk,List.count_append] at h3
      rw[List.count_append] at hc
      have h4:([(kn:Int)]:List Int).count (kn:Int)=1:=by simp
      omega
  obtain ⟨w,hw⟩:=hkall _ (Nat.le_refl _)
  rw[hw] at hv;cases hv
end T
namespace T
def leftU (m:Mdl) (P:List Nd) (up:UpL) (k:Nat):List (List Bool):=wayF P (anc up k) (allT m)
theorem anc_mem {P:List Nd} {i o:Nat} {up:UpL} (h:UI P i o up):∀ k,k<P.length→∀ a∈anc up k,∃ p q:Nat,a=((p:Int),(q:Int))∧p<k∧q<(nd P p).kids.length:=by
  intro k
  induction k using Nat.strongRecOn with
  | _ k ih =>
    intro hk a ha
    rw[anc_step h hk] at ha
    rcases h.low k hk with h1 | ⟨p,q,h1,h2,h3,_⟩
    · rw[h1,if_neg (by decide)] at ha;cases ha
    · rw[h1,if_pos (by dsimp only;omega)] at ha
      rcases List.mem_cons.1 ha with rfl | ha
      · exact⟨p,q,rfl,h2,h3⟩
      · dsimp only at ha
        rw[Int.toNat_natCast] at ha
        obtain ⟨p',q',e1,e2,e3⟩:=ih p h2 (by omega) a ha
        exact⟨p',q',e1,by omega,e3⟩
theorem kids_cls {m:Mdl} {P:List Nd} (h:shapedB m P=true) {p:Nat} (hp:p<P.length) {q:Nat} (hq:q<(nd P p).kids.length):0≤(nd P p).cls∧(nd P p).cls<m.cls.length:=by
  have hnode:=shaped_node h hp
  unfold nodeB at hnode
  rw[Bool.and_eq_true] at hnode
  have h1:=hnode.1
  by_cases hc:(nd P p).cls = -1
  · have:=leaf_kids h1 hc;omega
  · unfold ndB at h1
    rw[if_neg hc,decide_eq_true_eq] at h1
    exact⟨h1.1,h1.2.1⟩
theorem some_nohit {m:Mdl} {P:List Nd} {up:UpL} (h:formedV m P=some up):∀ v∈vs P (root m),v.2.2.contains (nd P v.1).cls=false:=by
  intro v hv
  have hs:=formed_shaped h
  have hl:=shaped_len hs
  have hd:=shaped_down hs
  have hvl:=vis_range hd _ (root m) (show 0<P.length by omega) v hv
  obtain ⟨u,w,hu,hw⟩:=forU_all (formed_len h).2 v.1 hvl
  have hui:=forU_UI _ _ (by omega) hu
  have hrel:=rel_vis hd hui (by omega) v hv (by omega)
  rw[← rel_hit hrel]
  by_cases hc:(nd P v.1).cls = -1
  · unfold hitB
    rw[List.any_eq_false]
    intro a ha
    obtain ⟨p,q,e1,e2,e3⟩:=anc_mem hui v.1 hvl a ha
    subst e1
    have:=kids_cls hs (show p<P.length by omega) e3
    dsimp only
    rw[Int.toNat_natCast,hc,beq_iff_eq]
    omega
  · exact (nodeU_some hw).2.2.1 hc
theorem only_comm (x:List (List Bool)) {a b:Nat} (h:a≠b) (o q:Nat):onlyV (onlyV x a o) b q=onlyV (onlyV x b q) a o:=by
  have g:∀ {a b:Nat} (r:List Bool),a≠b→(x.set a r).getD b default=x.getD b default:=fun r h=>by
    rw[List.getD_eq_getElem?_getD,List.getElem?_set_ne h,← List.getD_eq_getElem?_getD]
  unfold onlyV
  rw[g _ h,g _ (Ne.symm h)]
  exact List.set_comm _ _ h
def clsN (P:List Nd) (l:UpL):List Nat:=l.map fun a=>(nd P a.1.toNat).cls.toNat
theorem way_snoc {P:List Nd} (a:Int × Int):∀ (l:UpL) (x:List (List Bool)),(nd P a.1.toNat).cls.toNat ∉ clsN P l→wayF P (l++[a]) x=wayF P (a::l) x:=by
  intro l
  induction l with
  | nil=>intro x _;rfl
  | cons b l ih =>
    intro x hx
    have h1:(nd P b.1.toNat).cls.toNat≠(nd P a.1.toNat).cls.toNat:=fun e=>hx (by unfold clsN;rw[List.map_cons,e];simp)
    have h2:(nd P a.1.toNat).cls.toNat ∉ clsN P l:=fun e=>hx (by unfold clsN at e ⊢;rw[List.map_cons];exact List.mem_cons_of_mem _ e)
    show wayF P (l++[a]) (onlyV x _ _)=wayF P l (onlyV (onlyV x _ _) _ _)
    rw[ih _ h2]
    show wayF P l (onlyV (onlyV x _ _) _ _)=_
    rw[only_comm x h1]
theorem way_rev {P:List Nd}:∀ (l:UpL) (x:List (List Bool)),(clsN P l).Nodup→wayF P l.reverse x=wayF P l x:=by
  intro l
  induction l with
  | nil=>intro x _;rfl
  | cons b l ih =>
    intro x hx
    unfold clsN at hx
    rw[List.map_cons,List.nodup_cons] at hx
    rw[List.reverse_cons,way_snoc b _ x (fun hm=>hx.1 (by unfold clsN at hm;rw[List.map_reverse,List.mem_reverse] at hm;exact hm))]
    show wayF P l.reverse (onlyV x _ _)=wayF P l (onlyV x _ _)
    exact ih _ hx.2
theorem anc_nodup {m:Mdl} {P:List Nd} {up:UpL} (h:formedV m P=some up):∀ k,k<P.length→(clsN P (anc up k)).Nodup:=by
  have hs:=formed_shaped h
  have hl:=shaped_len hs
  have hd:=shaped_down hs
  have hui:=forU_UI _ _ (Nat.le_refl _) (formed_len h).2
  intro k
  induction k using Nat.strongRecOn with
  | _ k ih =>
    intro hk
    rw[anc_step hui hk]
    rcases hui.low k hk with h1 | ⟨p,q,h1,h2,h3,_⟩
    · rw[h1,if_neg (by decide)];exact List.nodup_nil
    · rw[h1,if_pos (by dsimp only;omega)]
      unfold clsN
      dsimp only
      rw[List.map_cons,List.nodup_cons,Int.toNat_natCast]
      refine⟨fun hm=>?_,ih p h2 (by omega)⟩
      obtain ⟨a,ha,e⟩:=List.mem_map.1 hm
      obtain ⟨v,hv,hve⟩:=visit_of hs (show p<P.length by omega)
      have hno:=some_nohit h v hv
      rw[← rel_hit (rel_vis hd hui (by omega) v hv (by omega)),hve] at hno
      unfold hitB at hno
      rw[List.any_eq_false] at hno
      have:=hno a ha
      obtain ⟨p',q',e1,e2,e3⟩:=anc_mem hui p (by omega) a ha
      subst e1
      have c1:=kids_cls hs (show p'<P.length by omega) e3
      have c2:=kids_cls hs (show p<P.length by omega) h3
      dsimp only at e this
      rw[Int.toNat_natCast] at e this
      rw[beq_iff_eq] at this
      omega
theorem left_eq {m:Mdl} {P:List Nd} {up:UpL} (h:formedV m P=some up):∀ v∈vs P (root m),leftU m P up v.1=v.2.1:=by
  intro v hv
  have hs:=formed_shaped h
  have hl:=shaped_len hs
  have hd:=shaped_down hs
  have hui:=forU_UI _ _ (Nat.le_refl _) (formed_len h).2
  have hvl:=vis_range hd _ (root m) (show 0<P.length by omega) v hv
  rw[(rel_vis hd hui (by omega) v hv (by omega)).2,way_rev _ _ (anc_nodup h _ hvl)];rfl
def leafO (m:Mdl) (x:Nd) (left:List (List Bool)):Option Int :=
  if x.cls≠-1 then some 1099511627776
  else if 0<x.grp.length then (if crowdedB m x left=true then some 1099511627776 else none)
  else if (leafT m left x.mvs).2=0 then some (leafT m left x.mvs).1 else none
def foldO:List (Option Int)→Int→Option Int
  | [],b=>some b
  | none::_,_=>none
  | some v::l,b=>foldO l (min b v)
theorem foldO_perm {l l':List (Option Int)} (h:l.Perm l'):∀ b,foldO l b=foldO l' b:=by
  induction h with
  | nil=>exact fun _=>rfl
  | cons x _ ih=>intro b;cases x<;>simp only[foldO,ih]
  | swap x y l =>
    intro b
    cases x<;>cases y<;>simp only[foldO]
    congr 1;omega
  | trans _ _ h1 h2=>exact fun b=>(h1 b).trans (h2 b)
theorem run_fold {m:Mdl} {P:List Nd}:∀ (L:List St3) (b:Int),b≤1099511627776→(∀ s∈L,s.2.2.contains (nd P s.1).cls=false) →
    foldO (L.map fun s=>leafO m (nd P s.1) s.2.1) b=if (runL P (chkS m P) L b).2=true then some (runL P (chkS m P) L b).1 else none:=by
  intro L
  induction L with
  | nil=>intro b _ _;rfl
  | cons s L ih =>
    intro b hb h
    have hc:=h s (by simp)
    have hL:=fun b hb=>ih b hb fun t ht=>h t (by simp[ht])
    rw[List.map_cons,runL,if_neg (show ¬(s.2.2.contains (nd P s.1).cls=true) by rw[hc];simp)]
    generalize hml:(L.map fun s=>leafO m (nd P s.1) s.2.1)=ml at *
    clear hml ih
    generalize hcs:chkS m P b s=cs at *
    unfold chkS at hcs
    subst hcs
    unfold leafO
    by_cases h1:(nd P s.1).cls≠-1
    · rw[if_pos h1,if_pos h1,if_pos rfl]
      show foldO _ (min b _)=_
      rw[Int.min_eq_left hb]
      exact hL b hb
    · rw[if_neg h1,if_neg h1]
      by_cases h2:0<(nd P s.1).grp.length
      · rw[if_pos h2,if_pos h2]
        by_cases h3:crowdedB m (nd P s.1) s.2.1=true
        · rw[if_pos h3,h3,if_pos rfl]
          show foldO _ (min b _)=_
          rw[Int.min_eq_left hb]
          exact hL b hb
        · rw[if_neg h3,if_neg h3];rfl
      · rw[if_neg h2,if_neg h2]
        by_cases h3:(leafT m s.2.1 (nd P s.1).mvs).2=0
        · rw[if_pos h3,h3,if_pos (show (((0:Int) == 0)=true) from rfl)]
          exact hL _ (by omega)
        · have h4:((leafT m s.2.1 (nd P s.1).mvs).2 == 0)=false:=beq_false_of_ne h3
          rw[if_neg h3,h4];rfl
def refN (m:Mdl) (P:List Nd) (up:UpL) (i:Nat):Option Int:=foldO ((List.range i).map fun k=>leafO m (nd P k) (leftU m P up k)) 1099511627776
theorem foldO_snoc (x:Option Int):∀ (l:List (Option Int)) (b:Int),foldO (l++[x]) b=(foldO l b).bind fun c=>x.map (min c):=by
  intro l
  induction l with
  | nil=>intro b;cases x<;>rfl
  | cons y l ih=>intro b;cases y with
    | none=>rfl
    | some v=>exact ih _
theorem refN_succ (m:Mdl) (P:List Nd) (up:UpL) (i:Nat):refN m P up (i+1)=(refN m P up i).bind fun c=>(leafO m (nd P i) (leftU m P up i)).map (min c):=by
  unfold refN
  rw[List.range_succ,List.map_append]
  exact foldO_snoc _ _ _
theorem vs_perm {m:Mdl} {P:List Nd} (h:shapedB m P=true):((vs P (root m)).map (·.1)).Perm (List.range P.length):=by
  have hl:=shaped_len h
  rw[List.perm_iff_count]
  intro a
  by_cases ha:a<P.length
  · rw[vs_once h rfl a ha,List.nodup_range.count,if_pos (List.mem_range.2 ha)]
  · rw[List.count_eq_zero.2,List.count_eq_zero.2 (by rw[List.mem_range];exact ha)]
    intro hm
    obtain ⟨v,hv,e⟩:=List.mem_map.1 hm
    have:=vis_range (shaped_down h) _ (root m) (show 0<P.length by omega) v hv
    omega
def chkR (m:Mdl) (P:List Nd):Int × Bool :=
  match formedV m P with
  | none=>(0,false)
  | some up=>match refN m P up P.length with
    | none=>(0,false)
    | some b=>(b,true)
theorem check_eq {m:Mdl} (hm:VM m) (P:List Nd):chkV m P=chkR m P:=by
  unfold chkR
  cases hf:formedV m P with
  | none =>
    dsimp only
    by_cases hs:shapedB m P=true
    · obtain ⟨v,hv,hh⟩:=unformed hs hf
      generalize hc:chkV m P=c
      obtain ⟨n,ok⟩:=c
      cases ok
      · unfold chkV at hc
        split at hc
        · cases hc
        · exact hc.symm
      · obtain ⟨_,_,h3⟩:=chkV_iff hc
        have:=((chk_leaf h3).2 v hv).1
        rw[this] at hh;cases hh
    · have hw:walkV m P (chkS m P) 1099511627776=(1099511627776,false):=if_neg fun h=>hs h.2
      unfold chkV
      rw[hw,if_neg (by simp)]
  | some up =>
    dsimp only
    have hs:=formed_shaped hf
    have hw:walkV m P (chkS m P) 1099511627776=runL P (chkS m P) (vs P (root m)) 1099511627776:=if_pos ⟨valid_iff.2 hm,hs⟩
    have hr:=run_fold (m:=m) (P:=P) (vs P (root m)) 1099511627776 (Int.le_refl _) (some_nohit hf)
    have he:refN m P up P.length=foldO ((vs P (root m)).map fun s=>leafO m (nd P s.1) s.2.1) 1099511627776:=by
      unfold refN
      rw[← foldO_perm ((vs_perm hs).map _),List.map_map]
      congr 1
      refine List.map_congr_left fun v hv=>?_
      show leafO m (nd P v.1) (leftU m P up v.1)=_
      rw[left_eq hf v hv]
    rw[he,hr]
    unfold chkV
    rw[hw]
    by_cases h2:(runL P (chkS m P) (vs P (root m)) 1099511627776).2=true
    · rw[if_pos h2,if_pos h2]
    · rw[if_neg h2,if_neg h2]
end T
namespace T
end T
namespace T
def nP (x y:Ob) (A:List (List AV)) (Y:List (List Bool)):List Ob:=x::y::.arr 1 A::ownB Y
theorem nP0 (x y:Ob) (A:List (List AV)) (Y:List (List Bool)):(nP x y A Y)[0]?=some x:=rfl
theorem nP1 (x y:Ob) (A:List (List AV)) (Y:List (List Bool)):(nP x y A Y)[1]?=some y:=rfl
theorem nP2 (x y:Ob) (A:List (List AV)) (Y:List (List Bool)):(nP x y A Y)[2]?=some (.arr 1 A):=rfl
theorem nPk (x y:Ob) (A:List (List AV)) {Y:List (List Bool)} {i:Nat} (h:i<Y.length):(nP x y A Y)[3+i]?=some (.arr 1 (bools (Y.getD i default))):=by
  have:=nOk y A h
  have e:3+i=(2+i)+1:=by omega
  rw[e];exact this
theorem nPs (x y:Ob) (A:List (List AV)) (Y:List (List Bool)) (i:Nat) (r:List Bool):(nP x y A Y).set (3+i) (.arr 1 (bools r))=nP x y A (Y.set i r):=by
  have:=nOs y A Y i r
  have e:3+i=(2+i)+1:=by omega
  rw[e]
  show x::(nO y A Y).set (2+i) _=_
  rw[this];rfl
theorem len_setB {x:List (List Bool)} {i:Nat} {r:List Bool} (hr:r.length=(x.getD i default).length):(x.set i r).map List.length=x.map List.length:=by
  apply List.ext_getElem?
  intro j
  rw[List.getElem?_map,List.getElem?_map,List.getElem?_set]
  split
  · rename_i e;subst e
    split
    · rename_i h2;rw[List.getElem?_eq_getElem h2] ;rw[List.getD_eq_getElem?_getD,List.getElem?_eq_getElem h2] at hr;simpa using hr
    · rename_i h2;rw[List.getElem?_eq_none (by omega)]
  · rfl
theorem onlyR_step {w o k:Nat} {r:List Bool} (hw:r.length=w) (h:∀ b,b<k→r.getD b false=(b == o)) (hk:k<w):∀ b,b<k+1→(r.set k (k == o)).getD b false=(b == o):=by
  intro b hb
  rw[List.getD_eq_getElem?_getD,List.getElem?_set]
  by_cases e:k=b
  · subst e;rw[if_pos rfl,if_pos (by omega)];rfl
  · rw[if_neg e,← List.getD_eq_getElem?_getD];exact h b (by omega)
theorem onlyR_end {w o:Nat} {r:List Bool} (hw:r.length=w) (h:∀ b,b<w→r.getD b false=(b == o)):r=onlyR w o:=by
  apply List.ext_getElem?
  intro b
  unfold onlyR
  rw[List.getElem?_set,List.length_replicate]
  by_cases hb:b<w
  · have:=h b hb
    rw[List.getD_eq_getElem?_getD,List.getElem?_eq_getElem (by omega),Option.getD_some] at this
    rw[List.getElem?_eq_getElem (by omega),this]
    by_cases e:o=b
    · subst e;rw[if_pos rfl,if_pos hb];simp
    · rw[if_neg e,List.getElem?_replicate_of_lt hb]
      congr 1
      exact beq_false_of_ne (Ne.symm e)
  · rw[List.getElem?_eq_none (by omega)]
    by_cases e:o=b
    · subst e;rw[if_pos rfl,if_neg hb]
    · rw[if_neg e,List.getElem?_eq_none (by simp;omega)]
end T
namespace T
theorem NB1.setRow {B:List (Nat × Ob)} {D:List (Nat × Nat)} {S:List (List Bool)} {os:List Ob} (h:NB1 B D S os) {j:Nat} (hj:j<S.length) {r:List Bool} (hr:r.length=(S.getD j default).length) :
    NB1 B D (S.set j r) (os.set (D.getD j default).1 (.arr 1 (bools r))):=by
  have hjD:j<D.length:=by rw[h.len];exact hj
  have hnd:=List.nodup_append.1 h.nd
  have hDj:D.getD j default=D[j]:=by simp[hjD]
  have hmem:(D.getD j default).1∈D.map (·.1):=by rw[hDj];exact List.mem_map.2 ⟨_,List.getElem_mem hjD,rfl⟩
  refine⟨fun b hb=>?_,by rw[List.length_set];exact h.len,fun k hk=>?_,h.nd⟩
  · rw[List.getElem?_set_ne ?_]
    · exact h.base b hb
    · intro e
      exact hnd.2.2 _ (List.mem_map.2 ⟨b,hb,rfl⟩) _ hmem e.symm
  · obtain ⟨h1,h2⟩:=h.row k hk
    by_cases e:k=j
    · subst e
      have hlt:=(List.getElem?_eq_some_iff.1 h1).1
      have hg:(S.set k r).getD k default=r:=by rw[List.getD_eq_getElem?_getD,List.getElem?_set,if_pos rfl,if_pos hj];rfl
      rw[List.getElem?_set,if_pos rfl,if_pos hlt,hg]
      exact⟨rfl,hr.trans h2⟩
    · have hg:(S.set j r).getD k default=S.getD k default:=by rw[List.getD_eq_getElem?_getD,List.getElem?_set_ne (Ne.symm e),← List.getD_eq_getElem?_getD]
      rw[hg,List.getElem?_set_ne ?_]
      · exact⟨h1,h2⟩
      · intro e2
        have hDk:D.getD k default=D[k]:=by simp[hk]
        rw[hDj,hDk] at e2
        have hp:=List.pairwise_iff_getElem.1 hnd.2.1
        rcases Nat.lt_or_gt_of_ne e with hl | hl
        · exact hp k j (by simpa using hk) (by simpa using hjD) hl (by simpa using e2.symm)
        · exact hp j k (by simpa using hjD) (by simpa using hk) hl (by simpa using e2)
end T
namespace T
def inV (m:Mdl) (g:List Int):List Bool:=(List.range m.cls.length).map fun (c:Nat)=>g.contains (c:Int)
theorem inV_len (m:Mdl) (g:List Int):(inV m g).length=m.cls.length:=by simp[inV]
theorem inV_get {m:Mdl} (g:List Int) {c:Nat} (h:c<m.cls.length):(inV m g).getD c false=g.contains (c:Int):=by
  unfold inV
  rw[List.getD_eq_getElem?_getD,List.getElem?_map,List.getElem?_range h];rfl
theorem inV_nil (m:Mdl):inV m []=List.replicate m.cls.length false:=by
  apply List.ext_getElem?
  intro j
  unfold inV
  rw[List.getElem?_map]
  by_cases h:j<m.cls.length
  · rw[List.getElem?_range h,List.getElem?_replicate_of_lt h];rfl
  · rw[List.getElem?_eq_none (by simp;omega),List.getElem?_eq_none (by simp;omega)];rfl
theorem inV_snoc {m:Mdl} (g:List Int) {c:Nat} (h:c<m.cls.length):inV m (g++[(c:Int)])=(inV m g).set c true:=by
  apply List.ext_getElem?
  intro j
  rw[List.getElem?_set,inV_len]
  unfold inV
  rw[List.getElem?_map,List.getElem?_map]
  by_cases hj:j<m.cls.length
  · rw[List.getElem?_range hj,Option.map_some,Option.map_some]
    by_cases e:c=j
    · subst e;rw[if_pos rfl,if_pos h];simp
    · rw[if_neg e]
      congr 1
      rw[Bool.eq_iff_iff,List.contains_iff_mem,List.contains_iff_mem,List.mem_append,List.mem_singleton]
      constructor
      · rintro (h1 | h1)
        · exact h1
        · omega
      · exact .inl
  · rw[List.getElem?_eq_none (by simp;omega)]
    by_cases e:c=j
    · subst e;omega
    · rw[if_neg e];rfl
def covR (m:Mdl) (L:List (Int × Int)):List (List Bool):=(List.range m.cls.length).map fun (c:Nat)=>(List.range (m.cls.getD c default).length).map fun (o:Nat)=>L.any (isC (c:Int) (o:Int))
theorem covR_len (m:Mdl) (L:List (Int × Int)):(covR m L).length=m.cls.length:=by simp[covR]
theorem covR_row {m:Mdl} (L:List (Int × Int)) {c:Nat} (h:c<m.cls.length):(covR m L).getD c default=(List.range (m.cls.getD c default).length).map fun (o:Nat)=>L.any (isC (c:Int) (o:Int)):=by
  unfold covR
  rw[List.getD_eq_getElem?_getD,List.getElem?_map,List.getElem?_range h];rfl
theorem covR_get {m:Mdl} (L:List (Int × Int)) {c o:Nat} (h:c<m.cls.length) (ho:o<(m.cls.getD c default).length):((covR m L).getD c default).getD o false=L.any (isC (c:Int) (o:Int)):=by
  rw[covR_row L h,List.getD_eq_getElem?_getD,List.getElem?_map,List.getElem?_range ho];rfl
theorem covR_nil (m:Mdl):covR m []=m.cls.map fun l=>List.replicate l.length false:=by
  apply List.ext_getElem?
  intro j
  unfold covR
  rw[List.getElem?_map,List.getElem?_map]
  by_cases h:j<m.cls.length
  · rw[List.getElem?_range h,List.getElem?_eq_getElem h,Option.map_some,Option.map_some]
    congr 1
    rw[List.getD_eq_getElem?_getD,List.getElem?_eq_getElem h,Option.getD_some]
    apply List.ext_getElem?
    intro o
    rw[List.getElem?_map]
    by_cases ho:o<m.cls[j].length
    · rw[List.getElem?_range ho,List.getElem?_replicate_of_lt ho];rfl
    · rw[List.getElem?_eq_none (by simp;omega),List.getElem?_eq_none (by simp;omega)];rfl
  · rw[List.getElem?_eq_none (by simp;omega),List.getElem?_eq_none (by omega)];rfl
theorem covR_snoc {m:Mdl} (L:List (Int × Int)) {c o:Nat} (h:c<m.cls.length) (ho:o<(m.cls.getD c default).length) :
    covR m (L++[((c:Int),(o:Int))])=(covR m L).set c (((covR m L).getD c default).set o true):=by
  apply List.ext_getElem?
  intro j
  rw[List.getElem?_set,covR_len,covR_row L h]
  by_cases hj:j<m.cls.length
  · have hg:∀ K,(covR m K)[j]?=some ((List.range (m.cls.getD j default).length).map fun (o:Nat)=>K.any (isC (j:Int) (o:Int))):=fun K=>by
      unfold covR;rw[List.getElem?_map,List.getElem?_range hj];rfl
    rw[hg,hg]
    by_cases e:c=j
    · subst e
      rw[if_pos rfl,if_pos h]
      congr 1
      apply List.ext_getElem?
      intro q
      rw[List.getElem?_set,List.length_map,List.length_range,List.getElem?_map,List.getElem?_map]
      by_cases hq:q<(m.cls.getD c default).length
      · rw[List.getElem?_range hq,Option.map_some,Option.map_some,List.any_append]
        by_cases e2:o=q
        · subst e2;rw[if_pos rfl,if_pos ho];simp[isC]
        · rw[if_neg e2]
          congr 1
          have:isC (c:Int) (q:Int) ((c:Int),(o:Int))=false:=by
            unfold isC;rw[decide_eq_false_iff_not,Prod.mk.injEq];omega
          simp[this]
      · rw[List.getElem?_eq_none (by rw[List.length_range];omega)]
        by_cases e2:o=q
        · subst e2;omega
        · rw[if_neg e2];rfl
    · rw[if_neg e]
      congr 2
      funext q
      rw[List.any_append]
      have:isC (j:Int) (q:Int) ((c:Int),(o:Int))=false:=by
        unfold isC;rw[decide_eq_false_iff_not,Prod.mk.injEq];omega
      simp[this]
  · rw[List.getElem?_eq_none (by rw[covR_len];omega)]
    by_cases e:c=j
    · subst e;omega
    · rw[if_neg e,List.getElem?_eq_none (by rw[covR_len];omega)]
end T

