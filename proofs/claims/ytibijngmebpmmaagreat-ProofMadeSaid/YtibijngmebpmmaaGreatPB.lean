import Derived.Test.YtibijngmebpmmaaGreatM1
import Derived.Test.YtibijngmebpmmaaGreatSM
import Derived.Test.YtibijngmebpmmaaGreatSP
set_option linter.unusedVariables false
set_option linter.unusedSimpArgs false
set_option linter.unnecessarySimpa false
open Go Go.Am
namespace T
def eRb (q:Nat × Nat):List AV:=[.ref q.1 1 0 q.2]
theorem eRb_app (D:List (Nat × Nat)) (p n:Nat):rowsOf eRb D++[[AV.ref p 1 0 n]]=rowsOf eRb (D++[(p,n)]):=by simp[rowsOf,eRb]
structure NB1 (B:List (Nat × Ob)) (D:List (Nat × Nat)) (S:List (List Bool)) (os:List Ob):Prop where
  base:∀ b∈B,os[b.1]?=some b.2
  len:D.length=S.length
  row:∀ j,j<D.length→os[(D.getD j default).1]?=some (.arr 1 (bools (S.getD j default)))∧(S.getD j default).length=(D.getD j default).2
  nd:(B.map (·.1)++D.map (·.1)).Nodup
section
variable {B:List (Nat × Ob)} {D:List (Nat × Nat)} {S:List (List Bool)} {os:List Ob}
theorem NB1.app (h:NB1 B D S os) (l:List Ob):NB1 B D S (os++l):=⟨fun b hb=>oLo (h.base b hb) l,h.len,fun j hj=>⟨oLo (h.row j hj).1 l,(h.row j hj).2⟩,h.nd⟩
theorem NB1.fresh (h:NB1 B D S os) {p:Nat} (hp:os.length≤p):p ∉ B.map (·.1)++D.map (·.1):=fun hh=>by
  rw[List.mem_append] at hh
  rcases hh with hh | hh
  · obtain ⟨q,hq,rfl⟩:=List.mem_map.1 hh
    have:=(List.getElem?_eq_some_iff.1 (h.base q hq)).1
    omega
  · obtain ⟨q,hq,rfl⟩:=List.mem_map.1 hh
    obtain ⟨k,hk,rfl⟩:=List.mem_iff_getElem.1 hq
    have h1:=(h.row k hk).1
    have a1:D.getD k default=D[k]:=by simp[hk]
    rw[a1] at h1
    have:=(List.getElem?_eq_some_iff.1 h1).1
    omega
theorem NB1.other (h:NB1 B D S os) {i:Nat} (hi:i ∉ B.map (·.1)++D.map (·.1)) (y:Ob):NB1 B D S (os.set i y):=by
  rw[List.mem_append,not_or] at hi
  refine⟨fun b hb=>?_,h.len,fun k hk=>⟨?_,(h.row k hk).2⟩,h.nd⟩
  · rw[List.getElem?_set_ne (fun e=>hi.1 (List.mem_map.2 ⟨b,hb,e.symm⟩))];exact h.base b hb
  · rw[List.getElem?_set_ne (fun e=>hi.2 (List.mem_map.2 ⟨D.getD k default,getD_mem hk,e.symm⟩))];exact (h.row k hk).1
theorem NB1.add (h:NB1 B D S os) {k:Nat} {x:Ob} (hk:os[k]?=some x) (hf:k ∉ B.map (·.1)++D.map (·.1)):NB1 ((k,x)::B) D S os :=
  ⟨fun b hb=>by rcases List.mem_cons.1 hb with rfl | hb;exact hk;exact h.base b hb,h.len,h.row,by
    rw[List.map_cons,List.cons_append,List.nodup_cons];exact⟨hf,h.nd⟩⟩
theorem NB1.b0 {a:Nat × Ob} (h:NB1 (a::B) D S os):os[a.1]?=some a.2:=h.base a (by simp)
theorem NB1.b1 {a b:Nat × Ob} (h:NB1 (a::b::B) D S os):os[b.1]?=some b.2:=h.base b (by simp)
theorem NB1.b2 {a b c:Nat × Ob} (h:NB1 (a::b::c::B) D S os):os[c.1]?=some c.2:=h.base c (by simp)
theorem NB1.b3 {a b c d:Nat × Ob} (h:NB1 (a::b::c::d::B) D S os):os[d.1]?=some d.2:=h.base d (by simp)
theorem NB1.put {i:Nat} {x:Ob} (h:NB1 ((i,x)::B) D S os) (y:Ob):NB1 ((i,y)::B) D S (os.set i y):=by
  have hn:=h.nd
  rw[List.map_cons,List.cons_append,List.nodup_cons] at hn
  have hx:=h.base (i,x) (by simp)
  have h2:NB1 B D S os:=⟨fun b hb=>h.base b (by simp[hb]),h.len,h.row,hn.2⟩
  exact (h2.other hn.1 y).add (oSe hx) hn.1
theorem NB1.drop {i:Nat} {x:Ob} (h:NB1 ((i,x)::B) D S os):NB1 B D S os∧i ∉ B.map (·.1)++D.map (·.1):=by
  have hn:=h.nd
  rw[List.map_cons,List.cons_append,List.nodup_cons] at hn
  exact⟨⟨fun b hb=>h.base b (by simp[hb]),h.len,h.row,hn.2⟩,hn.1⟩
theorem NB1.swap {a b:Nat × Ob} (h:NB1 (a::b::B) D S os):NB1 (b::a::B) D S os :=
  ⟨fun c hc=>h.base c (by simp only[List.mem_cons] at hc ⊢;rcases hc with hc | hc | hc<;>simp[hc]),h.len,h.row,by
    have:=h.nd
    simp only[List.map_cons,List.cons_append,List.nodup_cons,List.mem_cons,not_or] at this ⊢
    exact⟨⟨Ne.symm this.1.1,this.2.1⟩,this.1.2,this.2.2⟩⟩
theorem NB1.snoc {p:Nat} {r:List Bool} (h:NB1 ((p,.arr 1 (bools r))::B) D S os):NB1 B (D++[(p,r.length)]) (S++[r]) os:=by
  obtain ⟨h2,hf⟩:=h.drop
  have hp:=h.base (p,.arr 1 (bools r)) (by simp)
  refine⟨h2.base,by simp[h2.len],fun j hj=>?_,?_⟩
  · rw[getD_snoc,getD_snoc,← h2.len]
    by_cases h1:j<D.length
    · rw[if_pos h1,if_pos h1];exact h2.row j h1
    · have:j=D.length:=by simp at hj;omega
      rw[if_neg h1,if_neg h1,if_pos this,if_pos this];exact⟨hp,rfl⟩
  · rw[List.map_append,← List.append_assoc,List.nodup_append]
    refine⟨h2.nd,by simp,fun a ha b hb=>?_⟩
    simp only[List.map_cons,List.map_nil,List.mem_singleton] at hb
    subst hb
    exact fun e=>hf (e ▸ ha)
end
def refsB (p:Nat):List (List Bool)→List (List AV)
  | []=>[]
  | r::t=>[.ref p 1 0 r.length]::refsB (p+1) t
def ownB (S:List (List Bool)):List Ob:=S.map fun r=>.arr 1 (bools r)
theorem ownB_len (S:List (List Bool)):(ownB S).length=S.length:=List.length_map _
theorem refsB_len:∀ (p:Nat) (S:List (List Bool)),(refsB p S).length=S.length
  | _,[]=>rfl
  | p,r::t=>by simp only[refsB,List.length_cons,refsB_len (p+1) t]
theorem refsB_get:∀ (p:Nat) (S:List (List Bool)) (j:Nat),j<S.length→(refsB p S)[j]?=some [.ref (p+j) 1 0 (S.getD j default).length]
  | _,[],j,h=>by simp at h
  | p,r::t,0,h=>rfl
  | p,r::t,j+1,h=>by
    rw[refsB,List.getElem?_cons_succ,refsB_get (p+1) t j (by simpa using h)]
    rw[show p+1+j=p+(j+1) by omega,List.getD_cons_succ]
theorem refsB_same {S T:List (List Bool)} (p:Nat) (h:S.map List.length=T.map List.length):refsB p S=refsB p T:=by
  induction S generalizing T p with
  | nil=>cases T with
    | nil=>rfl
    | cons=>simp at h
  | cons r S ih=>cases T with
    | nil=>simp at h
    | cons t T =>
      simp only[List.map_cons,List.cons.injEq] at h
      rw[refsB,refsB,h.1,ih (p+1) h.2]
theorem refsB_ren (ρ:Nat→Nat) (S:List (List Bool)):∀ (q p:Nat),(∀ j,j<S.length→ρ (p+j)=q+j)→(refsB p S).map (List.map (ren ρ))=refsB q S:=by
  induction S with
  | nil=>intro q p _;rfl
  | cons r t ih =>
    intro q p h
    have h0:=h 0 (by simp)
    rw[Nat.add_zero,Nat.add_zero] at h0
    rw[refsB,refsB,List.map_cons,List.map_cons,List.map_nil,ren,h0]
    refine congrArg _ (ih (q+1) (p+1) fun j hj=>?_)
    have:=h (j+1) (by simpa using hj)
    rw[show p+1+j=p+(j+1) by omega,this];omega
theorem ownB_ren (ρ:Nat→Nat) (S:List (List Bool)):(ownB S).map (renO ρ)=ownB S:=by
  unfold ownB
  rw[List.map_map]
  refine List.map_congr_left fun r _=>?_
  show renO ρ (.arr 1 (bools r))=_
  exact bools_ren _ _ _
theorem eRb_D {B:List (Nat × Ob)} {D:List (Nat × Nat)} {S:List (List Bool)} {os:List Ob} (h:NB1 B D S os) {j:Nat} (hj:j<S.length):(rowsOf eRb D)[j]?=some [.ref (D.getD j default).1 1 0 (S.getD j default).length]:=by
  have hd:=h.len
  have h2:=(h.row j (by omega)).2
  rw[h2]
  unfold rowsOf
  rw[List.getElem?_map,List.getD_eq_getElem?_getD,List.getElem?_eq_getElem (by omega)];rfl
theorem NB1.ret {D:List (Nat × Nat)} {S:List (List Bool)} {os:List Ob} {x:Ob} {oi:Nat} (h:NB1 [(0,x),(oi,.arr 1 (rowsOf eRb D))] D S os) (hx:∀ ρ,renO ρ x=x) (hg:x≠.gone) (e:Nat→AV) :
    RetOK 1 ⟨e,os⟩ (.ref oi 1 0 S.length) (.ref 1 1 0 S.length) (x::.arr 1 (refsB 2 S)::ownB S):=by
  have hd:=h.len
  have h0:=h.base (0,x) (by simp)
  have h1:=h.base (oi,.arr 1 (rowsOf eRb D)) (by simp)
  dsimp only at h0 h1
  have hl:∀ i∈0::oi::D.map (·.1),i<os.length:=fun i hi=>by
    rcases List.mem_cons.1 hi with rfl | hi
    · exact (List.getElem?_eq_some_iff.1 h0).1
    rcases List.mem_cons.1 hi with rfl | hi
    · exact (List.getElem?_eq_some_iff.1 h1).1
    obtain ⟨q,hq,rfl⟩:=List.mem_map.1 hi
    obtain ⟨k,hk,rfl⟩:=List.mem_iff_getElem.1 hq
    have h3:=(h.row k hk).1
    have a1:D.getD k default=D[k]:=by simp[hk]
    rw[a1] at h3
    exact (List.getElem?_eq_some_iff.1 h3).1
  have hrho:∀ j,j<S.length→rho os.length (0::oi::D.map (·.1)) (2+j)=(D.getD j default).1:=fun j hj=>by
    unfold rho
    rw[if_pos (by simp;omega),show 2+j=j+1+1 by omega,List.getD_cons_succ,List.getD_cons_succ,List.getD_eq_getElem?_getD,List.getElem?_map,List.getD_eq_getElem?_getD,List.getElem?_eq_getElem (by omega)];rfl
  refine⟨0::oi::D.map (·.1),false,by simpa using h.nd,by simp[ownB_len,hd],fun j o hj=>.inr ?_,hl,by simp,fun i hi=>?_,.eq ?_⟩
  · match j with
    | 0 =>
      simp only[List.getElem?_cons_zero,Option.some.injEq] at hj
      subst hj
      rw[hx];exact h0
    | 1 =>
      simp only[List.getElem?_cons_succ,List.getElem?_cons_zero,Option.some.injEq] at hj
      subst hj
      refine h1.trans (congrArg some ?_)
      rw[renO]
      refine congrArg _ (List.ext_getElem? fun i=>?_)
      rw[List.getElem?_map]
      by_cases hi:i<S.length
      · rw[eRb_D h hi,refsB_get 2 S i hi,Option.map_some,List.map_cons,List.map_nil,ren,hrho i hi]
      · rw[List.getElem?_eq_none (by simp[rowsOf];omega),List.getElem?_eq_none (by rw[refsB_len];omega)];rfl
    | j+2 =>
      simp only[List.getElem?_cons_succ] at hj
      have hjl:j<S.length:=by have:=(List.getElem?_eq_some_iff.1 hj).1;rwa [ownB_len] at this
      have h3:=(h.row j (by omega)).1
      unfold ownB at hj
      rw[List.getElem?_map,List.getElem?_eq_getElem hjl] at hj
      simp only[Option.map_some,Option.some.injEq] at hj
      subst hj
      rw[bools_ren]
      have e1:(0::oi::D.map (·.1)).getD (j+2) 0=(D.getD j default).1:=by
        rw[List.getD_cons_succ,List.getD_cons_succ,List.getD_eq_getElem?_getD,List.getElem?_map,List.getD_eq_getElem?_getD,List.getElem?_eq_getElem (by omega)];rfl
      have e2:S.getD j default=S[j]:=by rw[List.getD_eq_getElem?_getD,List.getElem?_eq_getElem hjl];rfl
      rw[e1,← e2]
      exact h3
  · have:i=0:=by omega
    subst this;rfl
  · rw[ren]
    have:rho os.length (0::oi::D.map (·.1)) 1=oi:=by unfold rho;rw[if_pos (by simp)];rfl
    rw[this]
end T
namespace T
def nO (x:Ob) (A:List (List AV)) (Y:List (List Bool)):List Ob:=x::.arr 1 A::ownB Y
theorem nOk (x:Ob) (A:List (List AV)) {Y:List (List Bool)} {i:Nat} (h:i<Y.length):(nO x A Y)[2+i]?=some (.arr 1 (bools (Y.getD i default))):=by
  unfold nO
  rw[show 2+i=i+1+1 by omega,List.getElem?_cons_succ,List.getElem?_cons_succ]
  unfold ownB
  rw[List.getElem?_map,List.getD_eq_getElem?_getD,List.getElem?_eq_getElem h];rfl
theorem nOs (x:Ob) (A:List (List AV)) (Y:List (List Bool)) (i:Nat) (r:List Bool):(nO x A Y).set (2+i) (.arr 1 (bools r))=nO x A (Y.set i r):=by
  unfold nO ownB
  rw[show 2+i=i+1+1 by omega,List.set_cons_succ,List.set_cons_succ,List.map_set]
theorem RowsR.of_get {R:AV→AV→Prop} {f:Nat→List AV} {g:Nat→List AV}:∀ {cs ds:List (List AV)},cs.length=ds.length→(∀ (j:Nat) c d,cs[j]?=some c→ds[j]?=some d→ArgsR R c d)→RowsR R cs ds
  | [],[],_,_=>trivial
  | [],_::_,h,_=>by simp at h
  | _::_,[],h,_=>by simp at h
  | c::cs,d::ds,h,k=>⟨k 0 c d rfl rfl,RowsR.of_get (f:=f) (g:=g) (by simpa using h) fun j c d hc hd=>k (j+1) c d (by simpa using hc) (by simpa using hd)⟩
theorem frz_bools {σ:St} {kp:Nat→Prop} {id:Nat} {bs:List Bool} (ho:σ.objs[id]?=some (.arr 1 (bools bs))) (hk:¬ kp id):Frz σ kp (.tree 1 (bools bs)) (.ref id 1 0 bs.length) :=
  Frz.mk ho (by simp[bools]) hk (bools_wid _) (RowsR.of_get (f:=fun _=>[]) (g:=fun _=>[]) rfl fun j c d hc hd=>by
    rw[hc] at hd
    cases hd
    unfold bools at hc
    rw[List.getElem?_map] at hc
    cases hb:bs[j]? with
    | none=>rw[hb] at hc;cases hc
    | some b=>rw[hb] at hc;simp only[Option.map_some,Option.some.injEq] at hc;subst hc;exact⟨.lit _,trivial⟩)
theorem frz_rows {σ:St} {kp:Nat→Prop} {oi:Nat} {A:List (List AV)} {S:List (List Bool)} (ho:σ.objs[oi]?=some (.arr 1 A)) (hk:¬ kp oi) (hA:A.length=S.length)
    (h:∀ j,j<S.length→∃ id,A[j]?=some [.ref id 1 0 (S.getD j default).length]∧σ.objs[id]?=some (.arr 1 (bools (S.getD j default)))∧¬ kp id):Frz σ kp (.tree 1 (rowsOf eBs S)) (.ref oi 1 0 S.length) :=
  Frz.mk ho hA.symm hk (rows_wid _) (RowsR.of_get (f:=fun _=>[]) (g:=fun _=>[]) (by simp[rowsOf,hA]) fun j c d hc hd=>by
    unfold rowsOf at hc
    rw[List.getElem?_map] at hc
    have hj:j<S.length:=by
      cases hb:S[j]? with
      | none=>rw[hb] at hc;cases hc
      | some b=>exact (List.getElem?_eq_some_iff.1 hb).1
    obtain ⟨id,h1,h2,h3⟩:=h j hj
    rw[h1] at hd
    simp only[Option.some.injEq] at hd
    subst hd
    rw[List.getElem?_eq_getElem hj] at hc
    simp only[Option.map_some,Option.some.injEq] at hc
    subst hc
    have e2:S.getD j default=S[j]:=by rw[List.getD_eq_getElem?_getD,List.getElem?_eq_getElem hj];rfl
    rw[e2] at h2 ⊢
    exact⟨frz_bools h2 h3,trivial⟩)
end T
open Go Go.Am
namespace T
def onlyR (w o:Nat):List Bool:=(List.replicate w false).set o true
def onlyV (left:List (List Bool)) (c o:Nat):List (List Bool):=left.set c (onlyR (left.getD c default).length o)
theorem onlyR_len (w o:Nat):(onlyR w o).length=w:=by simp[onlyR]
theorem onlyV_len (left:List (List Bool)) (c o:Nat):(onlyV left c o).map List.length=left.map List.length:=by
  unfold onlyV
  apply List.ext_getElem?
  intro j
  rw[List.getElem?_map,List.getElem?_map,List.getElem?_set]
  split
  · rename_i e;subst e
    split
    · rename_i h2;rw[List.getElem?_eq_getElem h2];simp[onlyR_len,h2]
    · rename_i h2;rw[List.getElem?_eq_none (by omega)]
  · rfl
theorem frz_row {σ:St} {kp:Nat→Prop} {c d:List AV} (h:∀ v∈c,(∃ x,v=AV.lit x)∨∃ s r,v=AV.tree s r) (e:d=c):ArgsR (Frz σ kp) c d:=by
  subst e
  induction d with
  | nil=>trivial
  | cons v l ih =>
    refine⟨?_,ih fun x hx=>h x (by simp[hx])⟩
    rcases h v (by simp) with ⟨x,rfl⟩ | ⟨s,r,rfl⟩
    · exact .lit _
    · exact .tree _ _
theorem frz_set {σ:St} {kp:Nat→Prop} {oi k c:Nat} {left:List (List Bool)} {r:List Bool} (hc:c<left.length) (ho:σ.objs[oi]?=some (.arr 1 ((rowsOf eBs left).set c [.ref k 1 0 r.length]))) (hk:¬ kp oi) (hr:σ.objs[k]?=some (.arr 1 (bools r))) (hkr:¬ kp k) :
    Frz σ kp (.tree 1 (rowsOf eBs (left.set c r))) (.ref oi 1 0 left.length) :=
  Frz.mk ho (by simp[rowsOf]) hk (rows_wid _) (RowsR.of_get (f:=fun _=>[]) (g:=fun _=>[]) (by simp[rowsOf]) fun j x d hx hd=>by
    unfold rowsOf at hx hd
    rw[List.getElem?_map,List.getElem?_set] at hx
    rw[List.getElem?_set] at hd
    by_cases e:c=j
    · subst e
      rw[if_pos rfl,if_pos hc] at hx
      rw[if_pos rfl,if_pos (by simpa using hc)] at hd
      cases hx;cases hd
      exact⟨frz_bools hr hkr,trivial⟩
    · rw[if_neg e] at hx hd
      rw[List.getElem?_map] at hd
      rw[hx] at hd
      simp only[Option.some.injEq] at hd
      cases hl:left[j]? with
      | none=>rw[hl] at hx;cases hx
      | some y =>
        rw[hl] at hx
        simp only[Option.map_some,Option.some.injEq] at hx
        subst hx
        exact frz_row (fun v hv=>by simp only[eBs,List.mem_singleton] at hv;exact .inr ⟨_,_,hv⟩) hd.symm)
end T

