import Derived.Test.YtkmfgcbdnijgeaaGreatX15
import Derived.Test.YtkmfgcbdnijgeaaGreatX08
import Derived.Test.YtkmfgcbdnijgeaaGreatX18
set_option linter.unusedVariables false
set_option linter.unusedSimpArgs false
set_option linter.unnecessarySimpa false
set_option linter.unusedSectionVars false
set_option maxHeartbeats 64000000
set_option maxRecDepth 20000
open Go Go.Am
open Go Go.Am Go.Proofs
open Nat (reduceEqDiff reduceAdd reduceLeDiff reduceMul)
open Int (reduceNeg reduceLE reduceToNat)
namespace T
theorem oL0 (os:List Ob) (x:Ob) (l:List Ob):(os++x::l)[os.length]?=some x:=by simp
theorem oLk (os l:List Ob) (k:Nat):(os++l)[os.length+k]?=l[k]?:=by rw[List.getElem?_append_right (by omega),Nat.add_sub_cancel_left]
theorem oS0 (os:List Ob) (x y:Ob) (l:List Ob):(os++x::l).set os.length y=os++y::l:=by rw[List.set_append];simp
theorem oSk (os l:List Ob) (k:Nat) (y:Ob):(os++l).set (os.length+k) y=os++l.set k y:=by rw[List.set_append_right _ _ (by omega)];simp
theorem oLo {os:List Ob} {i:Nat} {o:Ob} (h:os[i]?=some o) (l:List Ob):(os++l)[i]?=some o:=by
  rw[List.getElem?_append_left (List.getElem?_eq_some_iff.1 h).1];exact h
theorem oSo {os:List Ob} {i:Nat} {o:Ob} (h:os[i]?=some o) (l:List Ob) (y:Ob):(os++l).set i y=os.set i y++l:=by
  rw[List.set_append,if_pos (List.getElem?_eq_some_iff.1 h).1]
theorem oSn {os:List Ob} {i j:Nat} {o o' y:Ob} (h:os[i]?=some o) (h':os[j]?=some o') (hne:o≠o'):(os.set j y)[i]?=some o:=by
  have:j≠i:=fun e=>hne (by rw[e,h] at h';simpa using h')
  rw[List.getElem?_set_ne this];exact h
theorem oSe {os:List Ob} {i:Nat} {o y:Ob} (h:os[i]?=some o):(os.set i y)[i]?=some y:=by
  rw[List.getElem?_set];simp[(List.getElem?_eq_some_iff.1 h).1]
theorem Oc2:type_of% @oL0∧type_of% @oLk∧type_of% @oS0∧type_of% @oSk:=⟨@oL0,@oLk,@oS0,@oSk⟩
def eRf (q:Nat × Nat):List AV:=[.ref q.1 2 0 q.2]
structure RI {α:Type} (enc:α→List AV) (os:List Ob) (D:List (Nat × Nat)) (S:List (List α)):Prop where
  len:D.length=S.length
  row:∀ j,j<D.length→os[(D.getD j default).1]?=some (.arr 2 (rowsOf enc (S.getD j default)))∧(S.getD j default).length=(D.getD j default).2
theorem RI.nil {α:Type} {enc:α→List AV} {os:List Ob}:RI enc os [] ([]:List (List α)):=⟨rfl,by simp⟩
theorem RI.app {α:Type} {enc:α→List AV} {os:List Ob} {D:List (Nat × Nat)} {S:List (List α)} (h:RI enc os D S) (l:List Ob):RI enc (os++l) D S :=
  ⟨h.len,fun j hj=>⟨oLo (h.row j hj).1 l,(h.row j hj).2⟩⟩
theorem RI.kill {α:Type} {enc:α→List AV} {os:List Ob} {D:List (Nat × Nat)} {S:List (List α)} (h:RI enc os D S) {i:Nat} {o y:Ob} (ho:os[i]?=some o) (hne:∀ l,o≠.arr 2 l):RI enc (os.set i y) D S :=
  ⟨h.len,fun j hj=>⟨oSn (h.row j hj).1 ho (fun e=>hne _ e.symm),(h.row j hj).2⟩⟩
theorem getD_snoc {α:Type} [Inhabited α] (l:List α) (x:α) (j:Nat):(l++[x]).getD j default=if j<l.length then l.getD j default else if j=l.length then x else default:=by
  simp only[List.getD_eq_getElem?_getD]
  split
  · rename_i h;rw[List.getElem?_append_left h]
  · rename_i h
    rw[List.getElem?_append_right (by omega)]
    split
    · rename_i h2;subst h2;simp
    · rw[List.getElem?_eq_none (by simp;omega)];rfl
theorem RI.snoc {α:Type} {enc:α→List AV} {os:List Ob} {D:List (Nat × Nat)} {S:List (List α)} (h:RI enc os D S) {p:Nat} {r:List α} (hp:os[p]?=some (.arr 2 (rowsOf enc r))):RI enc os (D++[(p,r.length)]) (S++[r]) :=
  ⟨by simp[h.len],fun j hj=>by
    rw[getD_snoc,getD_snoc,← h.len]
    by_cases h1:j<D.length
    · rw[if_pos h1,if_pos h1];exact h.row j h1
    · have:j=D.length:=by simp at hj;omega
      rw[if_neg h1,if_neg h1,if_pos this,if_pos this];exact⟨hp,rfl⟩⟩
theorem RI.set {α:Type} {enc:α→List AV} {os:List Ob} {D:List (Nat × Nat)} {S:List (List α)} (h:RI enc os D S) (hn:(D.map (·.1)).Nodup) {j:Nat} (hj:j<D.length) {r:List α} (hr:r.length=(S.getD j default).length):RI enc (os.set (D.getD j default).1 (.arr 2 (rowsOf enc r))) D (S.set j r) :=
  ⟨by rw[List.length_set];exact h.len,fun k hk=>by
    by_cases e:k=j
    · subst e
      have:(S.set k r).getD k default=r:=by rw[List.getD_eq_getElem?_getD,List.getElem?_set];simp[← h.len,hk]
      rw[this]
      exact⟨oSe (h.row k hk).1,hr.trans (h.row k hk).2⟩
    · have:(S.set j r).getD k default=S.getD k default:=by rw[List.getD_eq_getElem?_getD,List.getElem?_set_ne (fun e'=>e e'.symm),List.getD_eq_getElem?_getD]
      rw[this]
      have hne:(D.getD j default).1≠(D.getD k default).1:=fun hh=>e ((List.getElem_inj (h₀:=by simpa using hk) (h₁:=by simpa using hj) hn).1 (by
        rw[List.getElem_map,List.getElem_map]
        have a1:D[k]=D.getD k default:=by simp[hk]
        have a2:D[j]=D.getD j default:=by simp[hj]
        rw[a1,a2];exact hh.symm))
      rw[List.getElem?_set_ne hne]
      exact h.row k hk⟩
theorem RI.other {α:Type} {enc:α→List AV} {os:List Ob} {D:List (Nat × Nat)} {S:List (List α)} (h:RI enc os D S) {i:Nat} (hi:i ∉ D.map (·.1)) {y:Ob}:RI enc (os.set i y) D S :=
  ⟨h.len,fun k hk=>⟨by
    rw[List.getElem?_set_ne (fun e=>hi (List.mem_map.2 ⟨D.getD k default,getD_mem hk,e.symm⟩))]
    exact (h.row k hk).1,(h.row k hk).2⟩⟩
theorem RI.fresh {α:Type} {enc:α→List AV} {os:List Ob} {D:List (Nat × Nat)} {S:List (List α)} (h:RI enc os D S) {p:Nat} (hp:os.length≤p):p ∉ D.map (·.1):=fun hh=>by
  obtain ⟨q,hq,rfl⟩:=List.mem_map.1 hh
  obtain ⟨k,hk,rfl⟩:=List.mem_iff_getElem.1 hq
  have h1:=(h.row k hk).1
  have a1:D.getD k default=D[k]:=by simp[hk]
  rw[a1] at h1
  have:=(List.getElem?_eq_some_iff.1 h1).1
  omega
theorem eRf_app (D:List (Nat × Nat)) (p n:Nat):rowsOf eRf D++[[AV.ref p 2 0 n]]=rowsOf eRf (D++[(p,n)]):=by simp[rowsOf,eRf]
theorem RI.step {α:Type} {enc:α→List AV} {os:List Ob} {D:List (Nat × Nat)} {S:List (List α)} {ai:Nat} {x:Ob} (fa:os[ai]?=some x) (hx:∀ l,x≠.arr 2 l) (hR:RI enc os D S) (hnd:(D.map (·.1)).Nodup) (r:List α) (t y:Ob) :
    (os.set ai .gone++[.arr 2 (rowsOf enc r),t,y])[os.length+2]?=some y ∧
    RI enc (os.set ai .gone++[.arr 2 (rowsOf enc r),t,y]) (D++[(os.length,r.length)]) (S++[r])∧((D++[(os.length,r.length)]).map (·.1)).Nodup ∧
    ∀ k o,os[k]?=some o→k≠ai→(os.set ai .gone++[.arr 2 (rowsOf enc r),t,y])[k]?=some o:=by
  have hl:(os.set ai .gone).length=os.length:=List.length_set ..
  refine⟨?_,?_,?_,fun k o hk hne=>oLo ?_ _⟩
  · rw[← hl,oLk];rfl
  · refine ((hR.kill fa hx).app _).snoc ?_
    rw[← hl,oL0]
  · rw[List.map_append,List.nodup_append]
    refine⟨hnd,by simp,fun a ha b hb=>?_⟩
    simp only[List.map_cons,List.map_nil,List.mem_singleton] at hb
    subst hb
    exact fun e=>hR.fresh (Nat.le_refl _) (e ▸ ha)
  · rw[List.getElem?_set_ne (Ne.symm hne)];exact hk
structure LO {α:Type} (enc:α→List AV) (B:List (Nat × Ob)) (D E:List (Nat × Nat)) (S T:List (List α)) (os:List Ob):Prop where
  base:∀ b∈B,os[b.1]?=some b.2∧∀ l,b.2≠.arr 2 l
  rD:RI enc os D S
  rE:RI enc os E T
  nd:((D++E).map (·.1)).Nodup
section
variable {α:Type} {enc:α→List AV} {B:List (Nat × Ob)} {D E:List (Nat × Nat)} {S T:List (List α)} {os:List Ob}
theorem LO.app (h:LO enc B D E S T os) (l:List Ob):LO enc B D E S T (os++l):=⟨fun b hb=>⟨oLo (h.base b hb).1 l,(h.base b hb).2⟩,h.rD.app l,h.rE.app l,h.nd⟩
theorem LO.add (h:LO enc B D E S T os) {k:Nat} {x:Ob} (hk:os[k]?=some x) (hx:∀ l,x≠.arr 2 l):LO enc ((k,x)::B) D E S T os :=
  ⟨fun b hb=>by rcases List.mem_cons.1 hb with rfl | hb;exact⟨hk,hx⟩;exact h.base b hb,h.rD,h.rE,h.nd⟩
theorem LO.sub (h:LO enc B D E S T os) {C:List (Nat × Ob)} (hc:∀ b∈C,b∈B):LO enc C D E S T os:=⟨fun b hb=>h.base b (hc b hb),h.rD,h.rE,h.nd⟩
theorem nodup_parts {D E:List (Nat × Nat)} (h:((D++E).map (·.1)).Nodup):(D.map (·.1)).Nodup∧(E.map (·.1)).Nodup∧(∀ j,j<D.length→(D.getD j default).1 ∉ E.map (·.1))∧∀ j,j<E.length→(E.getD j default).1 ∉ D.map (·.1):=by
  rw[List.map_append,List.nodup_append] at h
  refine⟨h.1,h.2.1,fun j hj hh=>h.2.2 _ (List.mem_map.2 ⟨_,getD_mem hj,rfl⟩) _ hh rfl,fun j hj hh=>h.2.2 _ hh _ (List.mem_map.2 ⟨_,getD_mem hj,rfl⟩) rfl⟩
theorem LO.setD (h:LO enc B D E S T os) {j:Nat} (hj:j<D.length) {r:List α} (hr:r.length=(S.getD j default).length):LO enc B D E (S.set j r) T (os.set (D.getD j default).1 (.arr 2 (rowsOf enc r))):=by
  obtain ⟨h1,h2,h3,h4⟩:=nodup_parts h.nd
  exact⟨fun b hb=>⟨oSn (h.base b hb).1 (h.rD.row j hj).1 ((h.base b hb).2 _),(h.base b hb).2⟩,h.rD.set h1 hj hr,h.rE.other (h3 j hj),h.nd⟩
theorem LO.setE (h:LO enc B D E S T os) {j:Nat} (hj:j<E.length) {r:List α} (hr:r.length=(T.getD j default).length):LO enc B D E S (T.set j r) (os.set (E.getD j default).1 (.arr 2 (rowsOf enc r))):=by
  obtain ⟨h1,h2,h3,h4⟩:=nodup_parts h.nd
  exact⟨fun b hb=>⟨oSn (h.base b hb).1 (h.rE.row j hj).1 ((h.base b hb).2 _),(h.base b hb).2⟩,h.rD.other (h4 j hj),h.rE.set h2 hj hr,h.nd⟩
end
theorem eNr_set (xs:List Nm) (i:Nat) (b:Bool) (n:Int):(rowsOf eNr xs).set i [.lit (.bool b),.lit (.int .i64 n)]=rowsOf eNr (xs.set i (n,b)):=by simp[rowsOf,eNr,List.map_set]
theorem eNm_set (xs:List Nm) (i:Nat) (b:Bool) (n:Int):(rowsOf eNm xs).set i [.lit (.int .i64 n),.lit (.bool b)]=rowsOf eNm (xs.set i (n,b)):=by simp[rowsOf,eNm,List.map_set]
theorem LO.vars {α:Type} {enc:α→List AV} {B:List (Nat × Ob)} {D E:List (Nat × Nat)} {S T:List (List α)} {os:List Ob} (h:LO enc B D E S T os) {n:Nat} (hn:os.length=n) (x y:Ob) (hx:∀ l,x≠.arr 2 l) (hy:∀ l,y≠.arr 2 l) :
    LO enc ((n,x)::(n+1,y)::B) D E S T (os++[x,y]):=by
  subst hn
  exact ((h.app [x,y]).add (by rw[oLk];rfl) hy).add (by rw[oL0]) hx
theorem set_self {α:Type} [Inhabited α] (l:List α) (j:Nat):l.set j (l.getD j default)=l:=by
  apply List.ext_getElem?
  intro i
  rw[List.getElem?_set]
  split
  · rename_i h;subst h
    split
    · rename_i h2;rw[List.getD_eq_getElem?_getD,List.getElem?_eq_getElem h2];rfl
    · rename_i h2;rw[List.getElem?_eq_none (by omega)]
  · rfl
theorem getD_set {α:Type} [Inhabited α] (l:List α) (j:Nat) (x:α) (h:j<l.length):(l.set j x).getD j default=x:=by
  rw[List.getD_eq_getElem?_getD,List.getElem?_set];simp[h]
theorem LO.kill {α:Type} {enc:α→List AV} {B:List (Nat × Ob)} {D E:List (Nat × Nat)} {S T:List (List α)} {os:List Ob} (h:LO enc B D E S T os) {i:Nat} {x y:Ob} (hi:os[i]?=some x) (hx:∀ l,x≠.arr 2 l) (hne:∀ b∈B,b.1≠i):LO enc B D E S T (os.set i y) :=
  ⟨fun b hb=>⟨by rw[List.getElem?_set_ne (hne b hb).symm];exact (h.base b hb).1,(h.base b hb).2⟩,h.rD.kill hi hx,h.rE.kill hi hx,h.nd⟩
theorem oLs (os l:List Ob) (i k:Nat) (y:Ob):(os.set i y++l)[os.length+k]?=l[k]?:=by
  have:=oLk (os.set i y) l k
  rwa [List.length_set] at this
end T
namespace T
def gC (m:Mdl) (ai bi:Nat) (D E:List (Nat × Nat)):List AV:=[.tree 1 (rowsOf eCls m.cls),.tree 4 (rowsOf ePr m.prs),.tree 4 (rowsOf eCt m.cts),.lit (.int .i64 m.rules),.ref ai 1 0 D.length,.ref bi 1 0 E.length]
abbrev GB (m:Mdl) (gi ai bi:Nat) (D E:List (Nat × Nat)):List (Nat × Ob):=[(gi,.var (gC m ai bi D E)),(ai,.arr 1 (rowsOf eRf D)),(bi,.arr 1 (rowsOf eRf E))]
theorem GBf {m:Mdl} {gi ai bi:Nat} {D E:List (Nat × Nat)} {S T:List (List Nm)} {os:List Ob} (h:LO eNm (GB m gi ai bi D E) D E S T os) :
    os[gi]?=some (.var (gC m ai bi D E))∧os[ai]?=some (.arr 1 (rowsOf eRf D))∧os[bi]?=some (.arr 1 (rowsOf eRf E)) :=
  ⟨(h.base (gi,_) (by simp)).1,(h.base (ai,.arr 1 (rowsOf eRf D)) (by simp)).1,(h.base (bi,.arr 1 (rowsOf eRf E)) (by simp)).1⟩
end T
namespace T
def Keep (os ob:List Ob):Prop:=∀ (k:Nat) (o:Ob),os[k]?=some o→ob[k]?=some o
theorem Keep.refl (os:List Ob):Keep os os:=fun _ _ h=>h
theorem Keep.app {os ob:List Ob} (h:Keep os ob) (l:List Ob):Keep os (ob++l):=fun k o hk=>oLo (h k o hk) l
theorem Keep.set {os ob:List Ob} (h:Keep os ob) {i:Nat} (hi:os.length≤i) {y:Ob}:Keep os (ob.set i y):=fun k o hk=>by
  have:=(List.getElem?_eq_some_iff.1 hk).1
  rw[List.getElem?_set_ne (by omega)];exact h k o hk
theorem Keep.len {os ob:List Ob} (h:Keep os ob):os.length≤ob.length:=by
  rcases Nat.eq_zero_or_pos os.length with h0 | h0
  · omega
  · obtain ⟨o,ho⟩ :∃o,os[os.length - 1]?=some o:=⟨_,List.getElem?_eq_getElem (by omega)⟩
    have:=(List.getElem?_eq_some_iff.1 (h _ _ ho)).1
    omega
section
variable {α:Type} {enc:α→List AV} {B:List (Nat × Ob)} {D E:List (Nat × Nat)} {S T:List (List α)} {os:List Ob}
theorem LO.swap (h:LO enc B D E S T os):LO enc B E D T S os:=⟨h.base,h.rE,h.rD,by
  have:=h.nd
  rw[List.map_append,List.nodup_append] at this ⊢
  exact⟨this.2.1,this.1,fun a ha b hb e=>this.2.2 b hb a ha e.symm⟩⟩
theorem LO.killR (h:LO enc B D E S T os) {i:Nat} {l:List (List AV)} (hi:i ∉ (D++E).map (·.1)) (hr:os[i]?=some (.arr 2 l)) {y:Ob}:LO enc B D E S T (os.set i y):=by
  rw[List.map_append,List.mem_append,not_or] at hi
  exact⟨fun b hb=>⟨oSn (h.base b hb).1 hr ((h.base b hb).2 _),(h.base b hb).2⟩,h.rD.other hi.1,h.rE.other hi.2,h.nd⟩
theorem LO.fresh (h:LO enc B D E S T os) {p:Nat} (hp:os.length≤p):p ∉ (D++E).map (·.1):=by
  rw[List.map_append,List.mem_append,not_or]
  exact⟨h.rD.fresh hp,h.rE.fresh hp⟩
theorem LO.step {gi ai:Nat} {gc:List AV} {A:List (List AV)} (h:LO enc ((gi,.var gc)::(ai,.arr 1 A)::B) D E S T os) {r:List α} {oi:Nat} (hr:os[oi]?=some (.arr 2 (rowsOf enc r))) (hfr:oi ∉ (D++E).map (·.1))
    (hB:∀ b∈B,b.1≠ai∧b.1≠gi) (gc':List AV) (A':List (List AV)) (t:Ob) :
    LO enc ((gi,.var gc')::(os.length+1,.arr 1 A')::B) (D++[(oi,r.length)]) E (S++[r]) T ((os.set ai .gone).set gi (.var gc')++[t,.arr 1 A']):=by
  have hg:=(h.base (gi,.var gc) (by simp)).1
  have ha:=(h.base (ai,.arr 1 A) (by simp)).1
  dsimp only at hg ha
  have hga:gi≠ai:=fun e=>by rw[e,ha] at hg;cases hg
  have hg2:(os.set ai .gone)[gi]?=some (.var gc):=by rw[List.getElem?_set_ne hga.symm];exact hg
  have hl:((os.set ai .gone).set gi (.var gc')).length=os.length:=by rw[List.length_set,List.length_set]
  have hD2:=((h.rD.kill (y:=.gone) ha (by simp)).kill (y:=.var gc') hg2 (by simp)).app [t,.arr 1 A']
  have hE2:=((h.rE.kill (y:=.gone) ha (by simp)).kill (y:=.var gc') hg2 (by simp)).app [t,.arr 1 A']
  have hr2:((os.set ai .gone).set gi (.var gc')++[t,.arr 1 A'])[oi]?=some (.arr 2 (rowsOf enc r)):=oLo (oSn (oSn hr ha (by simp)) hg2 (by simp)) _
  refine⟨fun b hb=>?_,hD2.snoc hr2,hE2,?_⟩
  · rcases List.mem_cons.1 hb with rfl | hb
    · exact⟨oLo (oSe hg2) _,by simp⟩
    rcases List.mem_cons.1 hb with rfl | hb
    · refine⟨?_,by simp⟩
      dsimp only
      rw[← hl,oLk];rfl
    · have h0:=h.base b (by simp[hb])
      refine⟨oLo ?_ _,h0.2⟩
      rw[List.getElem?_set_ne (hB b hb).2.symm,List.getElem?_set_ne (hB b hb).1.symm];exact h0.1
  · have hnd:=h.nd
    rw[List.map_append,List.nodup_append] at hnd ⊢
    rw[List.map_append,List.mem_append,not_or] at hfr
    obtain ⟨n1,n2,n3⟩:=hnd
    refine⟨?_,n2,fun a ha' b hb=>?_⟩
    · rw[List.map_append,List.nodup_append]
      refine⟨n1,by simp,fun a ha' b hb=>?_⟩
      simp only[List.map_cons,List.map_nil,List.mem_singleton] at hb
      subst hb
      exact fun e=>hfr.1 (e ▸ ha')
    · rw[List.map_append,List.mem_append] at ha'
      rcases ha' with ha' | ha'
      · exact n3 a ha' b hb
      · simp only[List.map_cons,List.map_nil,List.mem_singleton] at ha'
        subst ha'
        exact fun e=>hfr.2 (e ▸ hb)
end
end T
namespace T
def S0 (m:Mdl):List (List Nm):=m.cls.map fun l=>firstV (ownV l)
def T0 (m:Mdl):List (List Nm):=m.prs.map fun p=>firstV p.tab
def addR (r:List Nm) (i:Nat) (a:Int):List Nm:=r.set i ((r.getD i default).1+a,(r.getD i default).2)
def subK (f:Nat→Nat) (a:Int):Nat→List Nm→List Nm
  | 0,t=>t
  | k+1,t=>addR (subK f a k t) (f k) (-a)
abbrev Lg:=List (List Nm) × List (List Nm)
def mvF (m:Mdl) (x:Mv):(Nat→Nat) × Nat :=
  if x.side=0 then (fun k=>(x.opt * (m.cls.getD (m.prs.getD x.pair.toNat default).snd.toNat default).length+k).toNat,(m.cls.getD (m.prs.getD x.pair.toNat default).snd.toNat default).length)
  else (fun k=>((k:Int) * (m.cls.getD (m.prs.getD x.pair.toNat default).snd.toNat default).length+x.opt).toNat,(m.cls.getD (m.prs.getD x.pair.toNat default).fst.toNat default).length)
def mvS (m:Mdl) (x:Mv) (g:Lg):Lg :=
  (g.1.set (mvC m x).toNat (addR (g.1.getD (mvC m x).toNat default) x.opt.toNat x.amt),g.2.set x.pair.toNat (subK (mvF m x).1 x.amt (mvF m x).2 (g.2.getD x.pair.toNat default)))
def mvsL (m:Mdl) (l:List Mv) (g:Lg):Lg:=l.foldl (fun g x=>mvS m x g) g
theorem mvsL_snoc (m:Mdl) (l:List Mv) (x:Mv) (g:Lg):mvsL m (l++[x]) g=mvS m x (mvsL m l g):=by unfold mvsL;rw[List.foldl_append];rfl
def bothV (a b:List Bool):List Bool:=a.flatMap fun x=>b.map fun y=>x && y
def PC (left:List (List Bool)) (S:List (List Nm)) (n:Nat):List (Int × Bool):=(List.range n).map fun i=>lowN (S.getD i default) (left.getD i default) (0,false)
def prB (m:Mdl) (left:List (List Bool)) (i:Nat):List Bool:=bothV (left.getD (m.prs.getD i default).fst.toNat default) (left.getD (m.prs.getD i default).snd.toNat default)
def PP (m:Mdl) (left:List (List Bool)) (T:List (List Nm)) (n:Nat):List (Int × Bool):=(List.range n).map fun i=>lowN (T.getD i default) (prB m left i) (0,false)
def PK (m:Mdl) (left:List (List Bool)) (n:Nat):List (Int × Bool):=(List.range n).map fun i=>(leastV left (m.cts.getD i default),!(decide ((m.cts.getD i default).pen=1099511627776) && decide (0<leastV left (m.cts.getD i default))))
def accV (l:List (Int × Bool)) (z:Int × Bool):Int × Bool:=l.foldl (fun z p=>(z.1+p.1,z.2 || !p.2)) z
def valV (m:Mdl) (left:List (List Bool)) (g:Lg):Int :=
  if (accV (PK m left m.cts.length) (accV (PP m left g.2 m.prs.length) (accV (PC left g.1 m.cls.length) (0,false)))).2=true then 1099511627776
  else min (accV (PK m left m.cts.length) (accV (PP m left g.2 m.prs.length) (accV (PC left g.1 m.cls.length) (0,false)))).1 1099511627776
def leafT (m:Mdl) (left:List (List Bool)) (l:List Mv):Int × Int :=
  if 2000<l.length then (0,2) else if l.all (mvB m)=false then (0,3) else (valV m left (mvsL m l (S0 m,T0 m)),0)
def valueT (m:Mdl) (left:List (List Bool)) (l:List Mv):Int × Int:=if startV m left≠0 then (0,startV m left) else leafT m left l
theorem accV_snoc (l:List (Int × Bool)) (p z:Int × Bool):accV (l++[p]) z=((accV l z).1+p.1,(accV l z).2 || !p.2):=by unfold accV;rw[List.foldl_append];rfl
theorem range_snoc {β:Type} (f:Nat→β) (n:Nat):(List.range (n+1)).map f=(List.range n).map f++[f n]:=by rw[List.range_succ,List.map_append];rfl
def NB (B:Int) (r:List Nm):Prop:=∀ p∈r,-B≤p.1∧p.1≤B
theorem NB.get {B:Int} {r:List Nm} (h:NB B r) (hB:0≤B) (i:Nat) : -B≤(r.getD i default).1∧(r.getD i default).1≤B:=by
  rcases Nat.lt_or_ge i r.length with hi | hi
  · exact h _ (getD_mem hi)
  · rw[List.getD_eq_getElem?_getD,List.getElem?_eq_none hi]
    show -B≤(0:Int)∧(0:Int)≤B
    omega
theorem NB.mono {B C:Int} {r:List Nm} (h:NB B r) (hc:B≤C):NB C r:=fun p hp=>by have:=h p hp;omega
theorem NB.add {B:Int} {r:List Nm} (h:NB B r) (hB:0≤B) (i:Nat) {a:Int} (ha : -268435456≤a∧a≤268435456):NB (B+268435456) (addR r i a):=fun p hp=>by
  rcases List.mem_or_eq_of_mem_set hp with h' | h'
  · have:=h p h';omega
  · have:=h.get hB i
    rw[h'];dsimp only;omega
theorem addR_len (r:List Nm) (i:Nat) (a:Int):(addR r i a).length=r.length:=by simp[addR]
theorem subK_len (f:Nat→Nat) (a:Int):∀ (k:Nat) (t:List Nm),(subK f a k t).length=t.length
  | 0,t=>rfl
  | k+1,t=>by rw[subK,addR_len,subK_len f a k t]
theorem NB.sub {B:Int} {r:List Nm} (h:NB B r) (hB:0≤B) (f:Nat→Nat) {a:Int} (ha : -268435456≤a∧a≤268435456):∀ k:Nat,NB (B+268435456 * k) (subK f a k r)
  | 0=>by simpa [subK] using h
  | k+1=>by
    rw[subK]
    have:=(NB.sub h hB f ha k).add (by omega) (f k) (a:=-a) (by omega)
    exact this.mono (by omega)
structure LG (m:Mdl) (B:Int) (g:Lg):Prop where
  s:g.1.length=m.cls.length
  t:g.2.length=m.prs.length
  sl:∀ i,i<m.cls.length→(g.1.getD i default).length=(m.cls.getD i default).length
  tl:∀ i,i<m.prs.length→(g.2.getD i default).length=(m.prs.getD i default).tab.length
  sb:∀ r∈g.1,NB B r
  tb:∀ r∈g.2,NB B r
theorem getD_set_len {g:List (List Nm)} {i j:Nat} {r:List Nm} (h:r.length=(g.getD i default).length):((g.set i r).getD j default).length=(g.getD j default).length:=by
  by_cases e:i=j
  · subst e
    rcases Nat.lt_or_ge i g.length with hi | hi
    · simp only[List.getD_eq_getElem?_getD,List.getElem?_set,hi,if_true,Option.getD_some];rw[h,List.getD_eq_getElem?_getD]
    · rw[List.set_eq_of_length_le hi]
  · simp only[List.getD_eq_getElem?_getD,List.getElem?_set_ne e]
theorem NB_getD {B:Int} {g:List (List Nm)} (h:∀ r∈g,NB B r) (i:Nat):NB B (g.getD i default):=by
  rcases Nat.lt_or_ge i g.length with hi | hi
  · exact h _ (getD_mem hi)
  · rw[List.getD_eq_getElem?_getD,List.getElem?_eq_none hi];intro p hp;cases hp
theorem mvF_len {m:Mdl} (hm:VM m) (x:Mv):(mvF m x).2≤24:=by
  have:∀ i,(m.cls.getD i default).length≤24:=fun i=>by
    rcases Nat.lt_or_ge i m.cls.length with hi | hi
    · exact hm.opt _ (getD_mem hi)
    · rw[List.getD_eq_getElem?_getD,List.getElem?_eq_none hi];exact Nat.zero_le _
  unfold mvF
  split<;>exact this _
theorem mvS_lg {m:Mdl} (hm:VM m) {B:Int} (hB:0≤B) {g:Lg} (h:LG m B g) {x:Mv} (hx:mvB m x=true):LG m (B+268435456 * 25) (mvS m x g):=by
  unfold mvB at hx
  rw[Bool.and_eq_true,decide_eq_true_eq] at hx
  have ha:=hx.1.2.2.2.2
  have hk:=mvF_len hm x
  refine⟨by rw[mvS,List.length_set];exact h.s,by rw[mvS,List.length_set];exact h.t,fun i hi=>?_,fun i hi=>?_,fun r hr=>?_,fun r hr=>?_⟩
  · rw[mvS];dsimp only
    rw[getD_set_len (by rw[addR_len])];exact h.sl i hi
  · rw[mvS];dsimp only
    rw[getD_set_len (by rw[subK_len])];exact h.tl i hi
  · rcases List.mem_or_eq_of_mem_set hr with h' | h'
    · exact (h.sb r h').mono (by omega)
    · rw[h'];exact ((NB_getD h.sb _).add hB _ ha).mono (by omega)
  · rcases List.mem_or_eq_of_mem_set hr with h' | h'
    · exact (h.tb r h').mono (by omega)
    · rw[h'];exact ((NB_getD h.tb _).sub hB _ ha _).mono (by omega)
theorem firstV_nb {l:List Int} (h:∀ x∈l,In41 x):NB 1099511627776 (firstV l):=fun p hp=>by
  obtain ⟨x,hx,rfl⟩:=List.mem_map.1 hp
  have:=h x hx
  unfold In41 at this
  show -1099511627776≤x∧x≤1099511627776
  omega
theorem tab_in {m:Mdl} {p:Pr} (hp:pairB m p=true):∀ x∈p.tab,In41 x:=fun x hx=>by
  unfold pairB at hp
  simp only[Bool.and_eq_true,Bool.not_eq_true',List.any_eq_false] at hp
  have:=hp.2 _ hx
  rw[badN] at this
  simp only[Bool.and_eq_true,Bool.not_eq_true',decide_eq_true_eq,not_and,Bool.not_eq_false] at this
  by_cases hz:x=0
  · subst hz;unfold In41;decide
  · exact price_in (this hz)
theorem map_getD {α β:Type} [Inhabited α] [Inhabited β] (f:α→β) (l:List α) (i:Nat) (h:i<l.length):(l.map f).getD i default=f (l.getD i default):=by
  rw[List.getD_eq_getElem?_getD,List.getElem?_map,List.getD_eq_getElem?_getD,List.getElem?_eq_getElem h];rfl
theorem open_lg {m:Mdl} (hm:VM m):LG m 1099511627776 (S0 m,T0 m):=by
  refine⟨by simp[S0],by simp[T0],fun i hi=>?_,fun i hi=>?_,fun r hr=>?_,fun r hr=>?_⟩
  · show ((S0 m).getD i default).length=_
    rw[S0,map_getD _ _ _ hi];simp[firstV,ownV]
  · show ((T0 m).getD i default).length=_
    rw[T0,map_getD _ _ _ hi];simp[firstV]
  · obtain ⟨l,hl,rfl⟩:=List.mem_map.1 hr
    refine firstV_nb fun x hx=>?_
    obtain ⟨o,ho,rfl⟩:=List.mem_map.1 hx
    exact ownS_in (hm.chs l hl o ho)
  · obtain ⟨p,hp,rfl⟩:=List.mem_map.1 hr
    exact firstV_nb (tab_in (prsL_mem hm.pr p hp))
theorem mvsL_lg {m:Mdl} (hm:VM m) (l:List Mv) (hl:∀ x∈l,mvB m x=true):LG m (1099511627776+268435456 * 25 * l.length) (mvsL m l (S0 m,T0 m)):=by
  have key:∀ (l:List Mv) (B:Int) (g:Lg),0≤B→(∀ x∈l,mvB m x=true)→LG m B g→LG m (B+268435456 * 25 * l.length) (mvsL m l g):=by
    intro l
    induction l with
    | nil=>intro B g _ _ h;simpa [mvsL] using h
    | cons x r ih =>
      intro B g hB hx h
      have h1:=mvS_lg hm hB h (hx x (by simp))
      have h2:=ih _ _ (by omega) (fun y hy=>hx y (by simp[hy])) h1
      show LG m _ (mvsL m r (mvS m x g))
      have e:B+268435456 * 25+268435456 * 25 * (r.length:Int)=B+268435456 * 25 * ((x::r).length:Int):=by simp only[List.length_cons];omega
      rw[e] at h2;exact h2
  exact key l _ _ (by decide) hl (open_lg hm)
theorem lowN_rg {B:Int}:∀ (l:List Nm) (s:List Bool) (b:Int × Bool),NB B l→(-B≤b.1∧b.1≤B)→-B≤(lowN l s b).1∧(lowN l s b).1≤B
  | [],s,b,_,hb=>by cases s<;>exact hb
  | p::r,[],b,_,hb=>hb
  | p::r,is::s,b,h,hb=>by
    rw[lowN]
    refine lowN_rg r s _ (fun q hq=>h q (by simp[hq])) ?_
    have:=h p (by simp)
    split
    · exact this
    · exact hb
theorem accV_rg {B:Int}:∀ (l:List (Int × Bool)) (z:Int × Bool),(∀ p∈l,-B≤p.1∧p.1≤B)→z.1 - B * l.length≤(accV l z).1∧(accV l z).1≤z.1+B * l.length
  | [],z,_=>by show z.1 - _≤z.1∧z.1≤z.1+_;simp
  | p::r,z,h=>by
    have h1:=accV_rg r (z.1+p.1,z.2 || !p.2) fun q hq=>h q (by simp[hq])
    have h2:=h p (by simp)
    show _≤(accV r (z.1+p.1,z.2 || !p.2)).1∧_
    rw[List.length_cons,Int.natCast_add,Int.mul_add]
    dsimp only at h1
    simp only[Int.cast_ofNat_Int,Int.mul_one]
    show z.1 - (B * r.length+B)≤(accV r (z.1+p.1,z.2 || !p.2)).1∧(accV r (z.1+p.1,z.2 || !p.2)).1≤z.1+(B * r.length+B)
    omega
def BIG:Int:=1099511627776+268435456 * 25 * 2000
theorem PC_rg {left:List (List Bool)} {S:List (List Nm)} {B:Int} (hB:0≤B) (h:∀ r∈S,NB B r) (n:Nat):∀ p∈PC left S n,-B≤p.1∧p.1≤B:=fun p hp=>by
  obtain ⟨i,_,rfl⟩:=List.mem_map.1 hp
  exact lowN_rg _ _ _ (NB_getD h i) (by dsimp only;omega)
theorem PP_rg {m:Mdl} {left:List (List Bool)} {T:List (List Nm)} {B:Int} (hB:0≤B) (h:∀ r∈T,NB B r) (n:Nat):∀ p∈PP m left T n,-B≤p.1∧p.1≤B:=fun p hp=>by
  obtain ⟨i,_,rfl⟩:=List.mem_map.1 hp
  exact lowN_rg _ _ _ (NB_getD h i) (by dsimp only;omega)
theorem excV_rg (most pen n:Int) (hm:0≤most) (hp:0≤pen):0≤excV most pen n∧excV most pen n≤1099511627776:=by
  unfold excV
  split
  · omega
  · have:=Int.mul_nonneg (show 0≤n - most by omega) hp
    omega
theorem ct_getD {m:Mdl} (hm:VM m) (i:Nat):0≤(m.cts.getD i default).most∧0≤(m.cts.getD i default).pen:=by
  rcases Nat.lt_or_ge i m.cts.length with hi | hi
  · obtain ⟨_,h2,h3,_⟩:=ctB_iff (hm.ct _ (getD_mem (d:=default) hi))
    exact⟨h2.1,(price_in h3).1⟩
  · rw[List.getD_eq_getElem?_getD,List.getElem?_eq_none hi];decide
theorem PK_rg {m:Mdl} (hm:VM m) {left:List (List Bool)} (n:Nat):∀ p∈PK m left n,-1099511627776≤p.1∧p.1≤1099511627776:=fun p hp=>by
  obtain ⟨i,_,rfl⟩:=List.mem_map.1 hp
  have:=ct_getD hm i
  have:=excV_rg (m.cts.getD i default).most (m.cts.getD i default).pen (lowS (m.cts.getD i default).loads 0 left 0) this.1 this.2
  unfold leastV
  dsimp only
  omega
theorem PC_len (left:List (List Bool)) (S:List (List Nm)) (n:Nat):(PC left S n).length=n:=by simp[PC]
theorem PP_len (m:Mdl) (left:List (List Bool)) (S:List (List Nm)) (n:Nat):(PP m left S n).length=n:=by simp[PP]
theorem PK_len (m:Mdl) (left:List (List Bool)) (n:Nat):(PK m left n).length=n:=by simp[PK]
theorem bothV_snoc (a:List Bool) (x:Bool) (b:List Bool):bothV (a++[x]) b=bothV a b++b.map (x && ·):=by unfold bothV;rw[List.flatMap_append];simp
theorem bothV_len (b:List Bool):∀ a:List Bool,(bothV a b).length=a.length * b.length
  | []=>by simp[bothV]
  | x::r=>by
    show ((b.map (x && ·))++bothV r b).length=_
    rw[List.length_append,bothV_len b r,List.length_map,List.length_cons,Nat.add_mul];omega
end T
namespace T
theorem LO.keep {α:Type} {enc:α→List AV} {B:List (Nat × Ob)} {D E:List (Nat × Nat)} {S T:List (List α)} {os ob:List Ob} (h:LO enc B D E S T os) (k:Keep os ob):LO enc B D E S T ob :=
  ⟨fun b hb=>⟨k _ _ (h.base b hb).1,(h.base b hb).2⟩,⟨h.rD.len,fun j hj=>⟨k _ _ (h.rD.row j hj).1,(h.rD.row j hj).2⟩⟩,⟨h.rE.len,fun j hj=>⟨k _ _ (h.rE.row j hj).1,(h.rE.row j hj).2⟩⟩,h.nd⟩
theorem Keep.trans {a b c:List Ob} (h:Keep a b) (k:Keep b c):Keep a c:=fun i o hi=>k i o (h i o hi)
theorem bothV_get (b:List Bool):∀ (a:List Bool) (n:Nat),n<a.length * b.length→(bothV a b).getD n false=(a.getD (n / b.length) false && b.getD (n % b.length) false)
  | [],n,h=>by simp at h
  | x::r,n,h=>by
    have hb:0<b.length:=by
      rcases Nat.eq_zero_or_pos b.length with h0 | h0
      · rw[h0] at h;omega
      · exact h0
    show ((b.map (x && ·))++bothV r b).getD n false=_
    rcases Nat.lt_or_ge n b.length with hn | hn
    · rw[Nat.div_eq_of_lt hn,Nat.mod_eq_of_lt hn,List.getD_cons_zero,List.getD_eq_getElem?_getD,List.getElem?_append_left (by simpa using hn),List.getElem?_map,List.getElem?_eq_getElem hn,List.getD_eq_getElem?_getD,List.getElem?_eq_getElem hn];rfl
    · obtain ⟨k,rfl⟩ :∃k,n=k+b.length:=⟨n - b.length,by omega⟩
      have ih:=bothV_get b r k (by rw[List.length_cons,Nat.add_mul] at h;omega)
      rw[List.getD_eq_getElem?_getD,List.getElem?_append_right (by simpa using hn),List.length_map,Nat.add_sub_cancel,← List.getD_eq_getElem?_getD,ih,Nat.add_div_right _ hb,Nat.add_mod_right,List.getD_cons_succ]
def ptN (q:Int × Bool):Nm:=(q.1,!q.2)
theorem lowA_ptN (l:List Nm) (s:List Bool):lowA (optsV l s)=ptN (lowN l s (0,false)):=lowA_opts l s
def PAR (m:Mdl) (left:List (List Bool)) (g:Lg):List (Int × Bool):=PC left g.1 m.cls.length++PP m left g.2 m.prs.length++PK m left m.cts.length
theorem accV_app (a b:List (Int × Bool)) (z:Int × Bool):accV (a++b) z=accV b (accV a z):=by unfold accV;rw[List.foldl_append]
theorem valV_par (m:Mdl) (left:List (List Bool)) (g:Lg):valV m left g=if (accV (PAR m left g) (0,false)).2=true then 1099511627776 else min (accV (PAR m left g) (0,false)).1 1099511627776:=by
  unfold valV PAR;rw[accV_app,accV_app]
theorem accV_t:∀ (l:List (Int × Bool)) (n:Int),(accV l (n,true)).2=true
  | [],_=>rfl
  | p::r,n=>accV_t r _
theorem accV_any:∀ (l:List (Int × Bool)) (n:Int),(accV l (n,false)).2=true↔∃ p∈l,p.2=false
  | [],_=>by simp[accV]
  | p::r,n=>by
    show (accV r (n+p.1,false || !p.2)).2=true↔_
    cases hp:p.2 with
    | false =>
      simp only[Bool.not_false,Bool.or_true]
      exact⟨fun _=>⟨p,by simp,hp⟩,fun _=>accV_t r _⟩
    | true =>
      simp only[Bool.not_true,Bool.or_false]
      rw[accV_any r]
      constructor
      · rintro ⟨q,hq,h⟩;exact⟨q,by simp[hq],h⟩
      · rintro ⟨q,hq,h⟩
        rcases List.mem_cons.1 hq with rfl | hq
        · rw[hp] at h;cases h
        · exact⟨q,hq,h⟩
theorem least_forb {m:Mdl} (hm:VM m) {left:List (List Bool)} (hl:left.length=m.cls.length) {c:Ct} (hc:c∈m.cts) (hw:∀ x∈c.loads,1≤x.wt∧x.wt≤1000):decide (1099511627776≤leastV left c)=(decide (c.pen=1099511627776) && decide (0<leastV left c)):=by
  obtain ⟨_,h2,h3,_⟩:=ctB_iff (hm.ct c hc)
  have hs:=lowS_rg hw left
  have hcl:=hm.cls
  have hp:1≤c.pen∧c.pen≤1048576∨c.pen=1099511627776:=by unfold priceB at h3;rw[decide_eq_true_eq] at h3;omega
  unfold leastV excV
  generalize lowS c.loads 0 left 0=n at *
  rw[Bool.eq_iff_iff,Bool.and_eq_true,decide_eq_true_eq,decide_eq_true_eq,decide_eq_true_eq]
  split
  · omega
  · rcases hp with hp | hp
    · have:(n - c.most) * c.pen≤24000 * 1048576:=Int.mul_le_mul (by omega) hp.2 (by omega) (by omega)
      omega
    · rw[hp];omega
end T
namespace T
theorem optsV_le:∀ (l:List Nm) (s:List Bool),(optsV l s).length≤l.length
  | [],s=>by cases s<;>simp[optsV]
  | p::r,[]=>by simp[optsV]
  | p::r,is::s=>by
    rw[optsV,List.length_append,List.length_cons]
    have:=optsV_le r s
    split<;>simp<;>omega
end T
namespace T
def LE (a b:List Int):Prop:=a.length=b.length∧∀ i,a.getD i 0≤b.getD i 0
theorem LE.refl (a:List Int):LE a a:=⟨rfl,fun _=>Int.le_refl _⟩
theorem getD_setI (l:List Int) (n i:Nat) (x:Int):(l.set n x).getD i 0=if n=i∧i<l.length then x else l.getD i 0:=by
  rw[List.getD_eq_getElem?_getD,List.getElem?_set,List.getD_eq_getElem?_getD]
  by_cases h:n=i
  · subst h
    by_cases h2:n<l.length
    · rw[if_pos rfl,if_pos h2,if_pos ⟨rfl,h2⟩];rfl
    · rw[if_pos rfl,if_neg h2,if_neg (fun h=>h2 h.2),List.getElem?_eq_none (by omega)]
  · rw[if_neg h,if_neg (fun h'=>h h'.1)]
theorem LE.add {a b:List Int} (h:LE a b) {r c d:Int} (hcd:c≤d):LE (addAt a r c) (addAt b r d):=by
  refine⟨by simp only[addAt,List.length_set];exact h.1,fun i=>?_⟩
  rw[addAt,addAt,getD_setI,getD_setI,h.1]
  have:=h.2 i
  have:=h.2 r.toNat
  split
  · unfold addC;omega
  · exact h.2 i
theorem LE.up {R:Int} {a b:List Int} (h:LE a b) (hb:OutOK R b) {r c:Int} (hc:0≤c):LE a (addAt b r c):=by
  refine⟨by simp only[addAt,List.length_set];exact h.1,fun i=>?_⟩
  rw[addAt,getD_setI]
  have h1:=h.2 i
  have h2:=hb.get i
  unfold In41 at h2
  split
  · rename_i hh
    rw[hh.1];unfold addC;omega
  · exact h1
def Up (p q:List Int):Prop:=p.length=q.length∧∀ j,p.getD j 0=q.getD j 0∨p.getD j 0<0
theorem excV_le {most pen s t:Int} (hp:0≤pen) (h:s≤t):excV most pen s≤excV most pen t:=by
  unfold excV
  have h1:(s - most) * pen≤(t - most) * pen:=Int.mul_le_mul_of_nonneg_right (by omega) hp
  split
  · split
    · exact Int.le_refl _
    · have:0≤(t - most) * pen:=Int.mul_nonneg (by omega) hp
      omega
  · rw[if_neg (by omega)];omega
theorem Up.set {p:List Int} {c:Nat} (o:Int) (h:p.getD c 0 = -1):Up p (p.set c o):=by
  refine⟨by simp,fun j=>?_⟩
  rw[getD_setI]
  split
  · rename_i hh
    rw[← hh.1,h];omega
  · exact .inl rfl
theorem PM.set {m:Mdl} {p:List Int} (h:PM m p) {c:Nat} {o:Int} (ho:o = -1∨optB m (c:Nat) o=true):PM m (p.set c o):=by
  refine⟨by rw[List.length_set];exact h.len,fun j hj=>?_⟩
  rw[List.length_set] at hj
  rw[getD_setI]
  split
  · rename_i hh
    rw[← hh.1];exact ho
  · exact h.get j hj
end T
namespace T
structure Sat (R:Int) (out:List Int) (v:Int):Prop where
  ok:OutOK R out
  v0:0≤v
  eq:min (sumL out) 1099511627776=min v 1099511627776
theorem sumL_upd:∀ (l:List Int) (i:Nat) (x:Int),i<l.length→sumL (l.set i x)=sumL l - l.getD i 0+x
  | [],i,x,h=>by simp at h
  | y::r,0,x,_=>by simp only[List.set_cons_zero,sumL,List.getD_cons_zero];omega
  | y::r,i+1,x,h=>by
    have:=sumL_upd r i x (by simpa using h)
    simp only[List.set_cons_succ,sumL,List.getD_cons_succ];omega
theorem Sat.add {R:Int} {out:List Int} {v r d:Int} (h:Sat R out v) (hr:0≤r∧r<R) (hd:In41 d):Sat R (addAt out r d) (v+d):=by
  have hlen:=h.ok.1
  have hi:r.toNat<out.length:=by omega
  have hs:=sumL_mem h.ok.2 _ (getD_mem (d:=(0:Int)) hi)
  have hset:=sumL_upd out r.toNat (addC (out.getD r.toNat 0) d) hi
  have hg:=h.ok.get r.toNat
  have he:=h.eq
  have hv:=h.v0
  unfold In41 at hg
  have hd2:=hd
  unfold In41 at hd2
  refine⟨h.ok.add hd,by omega,?_⟩
  unfold addAt
  rw[hset]
  unfold addC
  omega
theorem Sat.le {R:Int} {out:List Int} {v w:Int} (h:Sat R out v) (hw:0≤w) (e:min v 1099511627776=min w 1099511627776):Sat R out w:=⟨h.ok,hw,h.eq.trans e⟩
theorem sat_ch {R:Int}:∀ (l:List (Int × Int)) (out:List Int) (v n:Int),(∀ c∈l,ruleB R c.1=true∧priceB c.2=true)→0≤v→In41 n→Sat R out (v+n)→Sat R (chargesL l out) (v+(l.map (·.2)).foldl addC n)
  | [],out,v,n,_,_,_,h=>h
  | c::r,out,v,n,hc,hv,hn0,h=>by
    rw[chargesL]
    have h1:=hc c (by simp)
    have hr:=h1.1
    rw[ruleB,decide_eq_true_eq] at hr
    have hp:=price_in h1.2
    have h2:=h.add hr hp
    refine sat_ch r _ v (addC n c.2) (fun x hx=>hc x (by simp[hx])) hv (addC_in hn0 hp) (h2.le ?_ ?_)
    · have:=addC_in hn0 hp;unfold In41 at this;omega
    · unfold In41 at hp hn0;unfold addC;omega
theorem sat_plan {m:Mdl} (hm:VM m):∀ (plan:List Int) (i:Nat) (out:List Int) (v:Int),(∀ j,j<plan.length→optB m ((i+j:Nat):Int) (plan.getD j 0)=true) →
    Sat m.rules out v→Sat m.rules (planC m i plan out) (v+sumN (fun j=>ownS ((m.cls.getD (i+j) default).getD (plan.getD j 0).toNat default)) plan.length)
  | [],i,out,v,_,h=>by show Sat m.rules out (v+0);rw[Int.add_zero];exact h
  | o::r,i,out,v,hg,h=>by
    rw[planC]
    have h0:=hg 0 (by simp)
    rw[List.getD_cons_zero,Nat.add_zero] at h0
    obtain ⟨b1,b2,b3,b4⟩:=optB_iff.1 h0
    rw[Int.toNat_natCast] at b4
    rw[if_neg (by omega)]
    have hl:=getD_mem (l:=m.cls) (i:=i) (d:=default) (by omega)
    have ho:=getD_mem (l:=m.cls.getD i default) (i:=o.toNat) (d:=default) (by omega)
    have hch:=hm.chs _ hl _ ho
    have h1:=sat_ch _ out v 0 (chL_mem hch) h.v0 (by unfold In41;decide) (by rw[Int.add_zero];exact h)
    have h2:=sat_plan hm r (i+1) _ _ (fun j hj=>by
      have:=hg (j+1) (by simpa using hj)
      rwa [List.getD_cons_succ,show i+(j+1)=i+1+j by omega] at this) h1
    rw[List.length_cons,sumN_head]
    simp only[List.getD_cons_zero,List.getD_cons_succ,Nat.add_zero]
    rw[← Int.add_assoc]
    rw[sumN_congr (g:=fun j=>ownS ((m.cls.getD (i+(j+1)) default).getD (r.getD j 0).toNat default)) r.length fun j _=>by rw[show i+1+j=i+(j+1) by omega]] at h2
    exact h2
def entP (m:Mdl) (plan:List Int) (p:Pr):Int:=entryV m p (plan.getD p.fst.toNat 0) (plan.getD p.snd.toNat 0)
theorem sat_prs {m:Mdl} {plan:List Int} (hp:FP m plan):∀ (l:List Pr) (out:List Int) (v:Int),(∀ p∈l,pairB m p=true)→Sat m.rules out v →
    Sat m.rules (pairC m plan l out) (v+sumN (fun i=>entP m plan (l.getD i default)) l.length)
  | [],out,v,_,h=>by show Sat m.rules out (v+0);rw[Int.add_zero];exact h
  | p::r,out,v,hg,h=>by
    rw[pairC]
    have hpb:=hg p (by simp)
    obtain ⟨q1,q2,q3,q4,q5⟩:=pairB_iff hpb
    have hpl:=hp.len
    have g1:=hp.get p.fst.toNat (by omega)
    have g2:=hp.get p.snd.toNat (by omega)
    have a1:=optB_iff.1 g1
    have a2:=optB_iff.1 g2
    rw[if_pos ⟨a1.2.2.1,a2.2.2.1⟩]
    have h2:=sat_prs hp r _ _ (fun x hx=>hg x (by simp[hx])) (h.add q1 (entry_in hpb (plan.getD p.fst.toNat 0) (plan.getD p.snd.toNat 0)))
    rw[List.length_cons,sumN_head]
    simp only[List.getD_cons_zero,List.getD_cons_succ]
    rw[← Int.add_assoc]
    exact h2
def excP (plan:List Int) (c:Ct):Int:=excV c.most c.pen (loadS plan c.loads 0)
theorem sat_cts {m:Mdl} {plan:List Int}:∀ (l:List Ct) (out:List Int) (v:Int),(∀ c∈l,ctB m c=true)→Sat m.rules out v →
    Sat m.rules (countC plan l out) (v+sumN (fun i=>excP plan (l.getD i default)) l.length)
  | [],out,v,_,h=>by show Sat m.rules out (v+0);rw[Int.add_zero];exact h
  | c::r,out,v,hg,h=>by
    rw[countC]
    obtain ⟨q1,q2,q3,q4⟩:=ctB_iff (hg c (by simp))
    have h2:=sat_cts (plan:=plan) r _ _ (fun x hx=>hg x (by simp[hx])) (h.add q1 (excV_in (most:=c.most) (sum:=loadS plan c.loads 0) (price_in q3)))
    rw[List.length_cons,sumN_head]
    simp only[List.getD_cons_zero,List.getD_cons_succ]
    rw[← Int.add_assoc]
    exact h2
def ownP (m:Mdl) (plan:List Int) (j:Nat):Int:=ownS ((m.cls.getD j default).getD (plan.getD j 0).toNat default)
theorem total_sum {m:Mdl} {plan:List Int} (hv:VM m) (hp:FP m plan):totalL (rulesV m plan) 0 =
    min (sumN (ownP m plan) m.cls.length+sumN (fun i=>entP m plan (m.prs.getD i default)) m.prs.length+sumN (fun i=>excP plan (m.cts.getD i default)) m.cts.length) 1099511627776:=by
  have h0:Sat m.rules (List.replicate m.rules.toNat 0) 0:=by
    refine⟨OutOK.rep hv.rul.1,by decide,?_⟩
    have:∀ k,sumL (List.replicate k 0)=0:=by
      intro k
      induction k with
      | zero=>rfl
      | succ k ih=>rw[List.replicate_succ,sumL,ih];rfl
    rw[this]
  have h1:=sat_plan hv plan 0 _ _ (fun j hj=>by rw[Nat.zero_add];exact hp.get j hj) h0
  have h2:=sat_prs hp m.prs _ _ (prsL_mem hv.pr) h1
  have h3:=sat_cts (plan:=plan) m.cts _ _ hv.ct h2
  have htot:=totalL_sum (rulesV_ok hv plan).2 (n:=0) (by unfold In41;decide)
  have he:=h3.eq
  change min (sumL (rulesV m plan)) _=_ at he
  rw[htot,Int.zero_add,he,Int.zero_add,hp.len]
  simp only[Nat.zero_add]
  rfl
end T
namespace T
theorem addR_get (r:List Nm) (i q:Nat) (a:Int) (hi:i<r.length):(addR r i a).getD q default=if i=q then ((r.getD q default).1+a,(r.getD q default).2) else r.getD q default:=by
  unfold addR
  by_cases h:i=q
  · subst h
    rw[if_pos rfl]
    simp only[List.getD_eq_getElem?_getD,List.getElem?_set,hi,if_true,Option.getD_some]
  · rw[if_neg h]
    simp only[List.getD_eq_getElem?_getD,List.getElem?_set_ne h]
theorem addR_ne (r:List Nm) {i q:Nat} (a:Int) (h:i≠q):(addR r i a).getD q default=r.getD q default:=by
  unfold addR
  simp only[List.getD_eq_getElem?_getD,List.getElem?_set_ne h]
theorem subK_miss {f:Nat→Nat} {a:Int} {t:List Nm} {q:Nat}:∀ k:Nat,(∀ j,j<k→f j≠q)→(subK f a k t).getD q default=t.getD q default
  | 0,_=>rfl
  | k+1,h=>by rw[subK,addR_ne _ _ (h k (by omega)),subK_miss k fun j hj=>h j (by omega)]
theorem subK_hit {f:Nat→Nat} {a:Int} {t:List Nm} {q j0:Nat} (h0:f j0=q) (hq:q<t.length):∀ k:Nat,j0<k→(∀ j,j<k→j≠j0→f j≠q)→(subK f a k t).getD q default=((t.getD q default).1 - a,(t.getD q default).2)
  | 0,hk,_=>by omega
  | k+1,hk,h=>by
    rw[subK]
    by_cases e:j0=k
    · subst e
      rw[h0,addR_get _ _ _ _ (by rw[subK_len];exact hq),if_pos rfl,subK_miss j0 fun j hj=>h j (by omega) (by omega)]
      congr 1
    · rw[addR_ne _ _ (h k (by omega) (by omega)),subK_hit h0 hq k (by omega) fun j hj=>h j (by omega)]
theorem lin_ne {a b n j k:Int} (hj:0≤j∧j<n) (hk:0≤k∧k<n) (h:a * n+j=b * n+k):a=b∧j=k:=by
  rcases Int.lt_trichotomy a b with hl | hl | hl
  · have:(a+1) * n≤b * n:=Int.mul_le_mul_of_nonneg_right (by omega) (by omega)
    rw[Int.add_mul,Int.one_mul] at this
    omega
  · subst hl;omega
  · have:(b+1) * n≤a * n:=Int.mul_le_mul_of_nonneg_right (by omega) (by omega)
    rw[Int.add_mul,Int.one_mul] at this
    omega
def sgP (plan:List Int) (g:Lg) (i:Nat):Nm:=(g.1.getD i default).getD (plan.getD i 0).toNat default
def ixP (m:Mdl) (plan:List Int) (p:Pr):Nat:=(plan.getD p.fst.toNat 0 * (m.cls.getD p.snd.toNat default).length+plan.getD p.snd.toNat 0).toNat
def tgP (m:Mdl) (plan:List Int) (g:Lg) (i:Nat):Nm:=(g.2.getD i default).getD (ixP m plan (m.prs.getD i default)) default
theorem getD_setL {α:Type} [Inhabited α] (l:List α) (i j:Nat) (x:α) (hi:i<l.length):(l.set i x).getD j default=if i=j then x else l.getD j default:=by
  by_cases h:i=j
  · subst h;rw[if_pos rfl];simp only[List.getD_eq_getElem?_getD,List.getElem?_set,hi,if_true,Option.getD_some]
  · rw[if_neg h];simp only[List.getD_eq_getElem?_getD,List.getElem?_set_ne h]
structure MvI (m:Mdl) (x:Mv):Prop where
  p:0≤x.pair∧x.pair<m.prs.length
  s:x.side=0∨x.side=1
  c:0≤mvC m x∧mvC m x<m.cls.length
  o:0≤x.opt∧x.opt<(m.cls.getD (mvC m x).toNat default).length
theorem mvB_i {m:Mdl} {x:Mv} (h:mvB m x=true):MvI m x:=by
  unfold mvB at h
  rw[Bool.and_eq_true,decide_eq_true_eq,optB_iff] at h
  exact⟨by omega,by omega,by omega,by omega⟩
theorem fp_get {m:Mdl} {plan:List Int} (hp:FP m plan) {j:Nat} (hj:j<m.cls.length):0≤plan.getD j 0∧plan.getD j 0<(m.cls.getD j default).length:=by
  have h:=optB_iff.1 (hp.get j (by rw[hp.len];exact hj))
  rw[Int.toNat_natCast] at h
  exact h.2.2
abbrev hitP (m:Mdl) (plan:List Int) (x:Mv):Prop:=plan.getD (mvC m x).toNat 0=x.opt
theorem mvS_sg {m:Mdl} {plan:List Int} (hp:FP m plan) {B:Int} {g:Lg} (h:LG m B g) {x:Mv} (hx:MvI m x) (i:Nat) :
    sgP plan (mvS m x g) i=if i=(mvC m x).toNat then (if hitP m plan x then ((sgP plan g i).1+x.amt,(sgP plan g i).2) else sgP plan g i) else sgP plan g i:=by
  obtain ⟨hxp,hxs,hxc,hxo⟩:=hx
  have h1:=h.s
  have h2:=h.sl (mvC m x).toNat (by omega)
  have h3:=fp_get hp (j:=(mvC m x).toNat) (by omega)
  unfold sgP mvS hitP
  dsimp only
  rw[getD_setL _ _ _ _ (by omega)]
  by_cases e:i=(mvC m x).toNat
  · subst e
    rw[if_pos rfl,if_pos rfl,addR_get _ _ _ _ (by omega)]
    by_cases e2:plan.getD (mvC m x).toNat 0=x.opt
    · rw[if_pos e2,if_pos (by rw[e2])]
    · rw[if_neg e2,if_neg (by omega)]
  · rw[if_neg (Ne.symm e),if_neg e]
theorem mvS_tg {m:Mdl} (hm:VM m) {plan:List Int} (hp:FP m plan) {B:Int} {g:Lg} (h:LG m B g) {x:Mv} (hx:MvI m x) (i:Nat) :
    tgP m plan (mvS m x g) i=if i=x.pair.toNat then (if hitP m plan x then ((tgP m plan g i).1 - x.amt,(tgP m plan g i).2) else tgP m plan g i) else tgP m plan g i:=by
  obtain ⟨hxp,hxs,hxc,hxo⟩:=hx
  have h1:=h.t
  have h2:=h.tl x.pair.toNat (by omega)
  unfold tgP mvS
  dsimp only
  rw[getD_setL _ _ _ _ (by omega)]
  by_cases e:i=x.pair.toNat
  rotate_left
  · rw[if_neg (Ne.symm e),if_neg e]
  subst e
  rw[if_pos rfl,if_pos rfl]
  have hpb:=prsL_mem hm.pr _ (getD_mem (l:=m.prs) (i:=x.pair.toNat) (d:=default) (by omega))
  unfold hitP
  unfold mvC at *
  unfold mvF ixP
  generalize m.prs.getD x.pair.toNat default=p at *
  obtain ⟨q1,q2,q3,q4,q5⟩:=pairB_iff hpb
  have ha:=fp_get hp (j:=p.fst.toNat) (by omega)
  have hb:=fp_get hp (j:=p.snd.toNat) (by omega)
  have hl1:=hm.opt _ (getD_mem (l:=m.cls) (i:=p.fst.toNat) (d:=default) (by omega))
  have hl2:=hm.opt _ (getD_mem (l:=m.cls) (i:=p.snd.toNat) (d:=default) (by omega))
  generalize g.2.getD x.pair.toNat default=t at *
  generalize haa:plan.getD p.fst.toNat 0=a at *
  generalize hbb:plan.getD p.snd.toNat 0=b at *
  generalize hna:(m.cls.getD p.fst.toNat default).length=na at *
  generalize hnb2:(m.cls.getD p.snd.toNat default).length=nb at *
  have hix:=entry_idx (x:=a) (y:=b) (a:=na) (b:=nb) ha hb (by omega) (by omega)
  rcases hxs with hs | hs
  · rw[if_pos hs] at hxc hxo
    rw[if_pos hs,if_pos hs,haa]
    rw[hna] at hxo
    dsimp only
    have hox:=entry_idx (x:=x.opt) (y:=b) (a:=na) (b:=nb) hxo hb (by omega) (by omega)
    by_cases e2:a=x.opt
    · rw[if_pos e2]
      refine subK_hit (j0:=b.toNat) ?_ (by omega) nb (by omega) fun j hj hne he=>?_
      · rw[e2,Int.toNat_of_nonneg hb.1]
      · have:=lin_ne (a:=x.opt) (b:=a) (n:=nb) (j:=j) (k:=b) (by omega) (by omega) (by omega)
        omega
    · rw[if_neg e2]
      refine subK_miss nb fun j hj he=>?_
      have:=lin_ne (a:=x.opt) (b:=a) (n:=nb) (j:=j) (k:=b) (by omega) (by omega) (by omega)
      omega
  · rw[if_neg (by omega)] at hxc hxo
    have hs0:¬ x.side=0:=by omega
    rw[if_neg hs0,if_neg hs0,hbb]
    rw[hnb2] at hxo
    dsimp only
    by_cases e2:b=x.opt
    · rw[if_pos e2]
      refine subK_hit (j0:=a.toNat) ?_ (by omega) na (by omega) fun j hj hne he=>?_
      · rw[e2,Int.toNat_of_nonneg ha.1]
      · have hj2:=entry_idx (x:=(j:Int)) (y:=x.opt) (a:=na) (b:=nb) (by omega) hxo (by omega) (by omega)
        have:=lin_ne (a:=(j:Int)) (b:=a) (n:=nb) (j:=x.opt) (k:=b) (by omega) (by omega) (by omega)
        omega
    · rw[if_neg e2]
      refine subK_miss na fun j hj he=>?_
      have hj2:=entry_idx (x:=(j:Int)) (y:=x.opt) (a:=na) (b:=nb) (by omega) hxo (by omega) (by omega)
      have:=lin_ne (a:=(j:Int)) (b:=a) (n:=nb) (j:=x.opt) (k:=b) (by omega) (by omega) (by omega)
      omega
def psP (m:Mdl) (plan:List Int) (g:Lg):Int:=sumN (fun i=>(sgP plan g i).1) m.cls.length+sumN (fun i=>(tgP m plan g i).1) m.prs.length
theorem mvS_ps {m:Mdl} (hm:VM m) {plan:List Int} (hp:FP m plan) {B:Int} {g:Lg} (h:LG m B g) {x:Mv} (hx:MvI m x) :
    psP m plan (mvS m x g)=psP m plan g∧(∀ i,(sgP plan (mvS m x g) i).2=(sgP plan g i).2)∧∀ i,(tgP m plan (mvS m x g) i).2=(tgP m plan g i).2:=by
  have hS:=mvS_sg hp h hx
  have hT:=mvS_tg hm hp h hx
  refine⟨?_,fun i=>?_,fun i=>?_⟩
  · unfold psP
    by_cases hh:hitP m plan x
    · rw[sumN_congr (g:=fun i=>if i=(mvC m x).toNat then (sgP plan g i).1+x.amt else (sgP plan g i).1) m.cls.length fun i _=>by
        rw[hS,if_pos hh];split<;>rfl,sumN_congr (g:=fun i=>if i=x.pair.toNat then (tgP m plan g i).1+-x.amt else (tgP m plan g i).1) m.prs.length fun i _=>by
        rw[hT,if_pos hh];split<;>rfl,sumN_one,sumN_one,if_pos (by have:=hx.c;omega),if_pos (by have:=hx.p;omega)]
      omega
    · rw[sumN_congr (g:=fun i=>(sgP plan g i).1) m.cls.length fun i _=>by rw[hS,if_neg hh];simp,sumN_congr (g:=fun i=>(tgP m plan g i).1) m.prs.length fun i _=>by rw[hT,if_neg hh];simp]
  · rw[hS];split<;>(try split)<;>rfl
  · rw[hT];split<;>(try split)<;>rfl
theorem mvsL_ps {m:Mdl} (hm:VM m) {plan:List Int} (hp:FP m plan):∀ (l:List Mv) (B:Int) (g:Lg),0≤B→LG m B g→(∀ x∈l,mvB m x=true) →
    psP m plan (mvsL m l g)=psP m plan g∧(∀ i,(sgP plan (mvsL m l g) i).2=(sgP plan g i).2)∧∀ i,(tgP m plan (mvsL m l g) i).2=(tgP m plan g i).2
  | [],B,g,_,_,_=>⟨rfl,fun _=>rfl,fun _=>rfl⟩
  | x::r,B,g,hB,h,hx=>by
    have h1:=mvS_ps hm hp h (mvB_i (hx x (by simp)))
    have h2:=mvsL_ps hm hp r _ (mvS m x g) (by omega) (mvS_lg hm hB h (hx x (by simp))) (fun y hy=>hx y (by simp[hy]))
    exact⟨h2.1.trans h1.1,fun i=>(h2.2.1 i).trans (h1.2.1 i),fun i=>(h2.2.2 i).trans (h1.2.2 i)⟩
end T
namespace T
theorem lowN_some:∀ (l:List Nm) (s:List Bool) (b:Int × Bool),b.2=true→(lowN l s b).2=true∧(lowN l s b).1≤b.1
  | [],s,b,h=>by cases s<;>exact⟨h,Int.le_refl _⟩
  | p::r,[],b,h=>⟨h,Int.le_refl _⟩
  | p::r,is::s,b,h=>by
    rw[lowN]
    split
    · rename_i hc
      have h2:=lowN_some r s (p.1,true) rfl
      have h3:p.1<b.1:=by
        rcases hc.2.2 with h4 | h4
        · rw[h] at h4;cases h4
        · exact h4
      exact⟨h2.1,by have:=h2.2;dsimp only at this;omega⟩
    · exact lowN_some r s b h
theorem lowN_le:∀ (l:List Nm) (s:List Bool) (b:Int × Bool) (i:Nat),i<l.length→s.getD i false=true→(l.getD i default).2=false→(lowN l s b).2=true∧(lowN l s b).1≤(l.getD i default).1
  | [],s,b,i,h,_,_=>by simp at h
  | p::r,[],b,i,_,h,_=>by simp at h
  | p::r,is::s,b,0,_,h1,h2=>by
    rw[List.getD_cons_zero] at h1 h2 ⊢
    rw[lowN]
    split
    · exact lowN_some r s (p.1,true) rfl
    · rename_i hc
      have hb:b.2=true∧b.1≤p.1:=by
        cases hb2:b.2 with
        | false=>exact absurd ⟨h1,h2,.inl hb2⟩ hc
        | true=>exact⟨rfl,by rcases Int.lt_or_le p.1 b.1 with h | h;exact absurd ⟨h1,h2,.inr h⟩ hc;exact h⟩
      have:=lowN_some r s b hb.1
      exact⟨this.1,by omega⟩
  | p::r,is::s,b,i+1,h,h1,h2=>by
    rw[List.getD_cons_succ] at h1 h2 ⊢
    rw[lowN]
    exact lowN_le r s _ i (by simpa using h) h1 h2
theorem lowN_none:∀ (l:List Nm) (s:List Bool) (b:Int × Bool),(∀ i,s.getD i false=false)→lowN l s b=b
  | [],s,b,_=>by cases s<;>rfl
  | p::r,[],b,_=>rfl
  | p::r,is::s,b,h=>by
    have h0:=h 0
    rw[List.getD_cons_zero] at h0
    rw[lowN,if_neg (by rw[h0];simp)]
    exact lowN_none r s b fun i=>by have:=h (i+1);rwa [List.getD_cons_succ] at this
theorem lowN_one:∀ (l:List Nm) (s:List Bool) (b:Int × Bool) (i:Nat),i<l.length→(∀ j,s.getD j false=decide (j=i))→b.2=false →
    lowN l s b=if (l.getD i default).2=false then ((l.getD i default).1,true) else b
  | [],s,b,i,h,_,_=>by simp at h
  | p::r,[],b,i,_,h,_=>by have:=h i;simp at this
  | p::r,is::s,b,0,_,h,hb=>by
    have h0:=h 0
    rw[List.getD_cons_zero,decide_eq_true rfl] at h0
    rw[List.getD_cons_zero,lowN,lowN_none r s _ fun i=>by have:=h (i+1);rw[List.getD_cons_succ] at this;rw[this];simp]
    by_cases hp:p.2=false
    · rw[if_pos ⟨h0,hp,.inl hb⟩,if_pos hp]
    · rw[if_neg (fun hc=>hp hc.2.1),if_neg hp]
  | p::r,is::s,b,i+1,hi,h,hb=>by
    have h0:=h 0
    rw[List.getD_cons_zero,decide_eq_false (by omega)] at h0
    rw[List.getD_cons_succ,lowN,if_neg (by rw[h0];simp)]
    exact lowN_one r s b i (by simpa using hi) (fun j=>by have:=h (j+1);rw[List.getD_cons_succ] at this;rw[this];simp) hb
theorem accV_fst (f:Nat→Int × Bool) (z:Int × Bool):∀ n,(accV ((List.range n).map f) z).1=z.1+sumN (fun i=>(f i).1) n
  | 0=>by simp[accV,sumN]
  | n+1=>by rw[range_snoc,accV_snoc,sumN];dsimp only;rw[accV_fst f z n];omega
theorem accV_snd (f:Nat→Int × Bool) (z:Int × Bool):∀ n,(accV ((List.range n).map f) z).2=true↔(z.2=true∨∃ i,i<n∧(f i).2=false)
  | 0=>by simp[accV]
  | n+1=>by
    rw[range_snoc,accV_snoc]
    dsimp only
    rw[Bool.or_eq_true,accV_snd f z n,Bool.not_eq_true']
    constructor
    · rintro ((h | ⟨i,hi,h⟩) | h)
      · exact .inl h
      · exact .inr ⟨i,by omega,h⟩
      · exact .inr ⟨n,by omega,h⟩
    · rintro (h | ⟨i,hi,h⟩)
      · exact .inl (.inl h)
      · by_cases e:i=n
        · subst e;exact .inr h
        · exact .inl (.inr ⟨i,by omega,h⟩)
def pcV (left:List (List Bool)) (g:Lg) (i:Nat):Int × Bool:=lowN (g.1.getD i default) (left.getD i default) (0,false)
def ppV (m:Mdl) (left:List (List Bool)) (g:Lg) (i:Nat):Int × Bool:=lowN (g.2.getD i default) (prB m left i) (0,false)
def pkV (m:Mdl) (left:List (List Bool)) (i:Nat):Int × Bool:=(leastV left (m.cts.getD i default),!(decide ((m.cts.getD i default).pen=1099511627776) && decide (0<leastV left (m.cts.getD i default))))
def vsV (m:Mdl) (left:List (List Bool)) (g:Lg):Int:=sumN (fun i=>(pcV left g i).1) m.cls.length+sumN (fun i=>(ppV m left g i).1) m.prs.length+sumN (fun i=>(pkV m left i).1) m.cts.length
def nvV (m:Mdl) (left:List (List Bool)) (g:Lg):Prop:=(∃ i,i<m.cls.length∧(pcV left g i).2=false)∨(∃ i,i<m.prs.length∧(ppV m left g i).2=false)∨∃ i,i<m.cts.length∧(pkV m left i).2=false
theorem val_never {m:Mdl} {left:List (List Bool)} {g:Lg} (h:nvV m left g):valV m left g=1099511627776:=by
  unfold valV
  rw[if_pos]
  show (accV ((List.range m.cts.length).map (pkV m left)) (accV ((List.range m.prs.length).map (ppV m left g)) (accV ((List.range m.cls.length).map (pcV left g)) (0,false)))).2=true
  rw[accV_snd,accV_snd,accV_snd]
  rcases h with h | h | h
  · exact .inl (.inl (.inr h))
  · exact .inl (.inr h)
  · exact .inr h
theorem val_sum {m:Mdl} {left:List (List Bool)} {g:Lg} (h:¬ nvV m left g):valV m left g=min (vsV m left g) 1099511627776:=by
  have h1:¬ (accV ((List.range m.cts.length).map (pkV m left)) (accV ((List.range m.prs.length).map (ppV m left g)) (accV ((List.range m.cls.length).map (pcV left g)) (0,false)))).2=true:=by
    rw[accV_snd,accV_snd,accV_snd]
    rintro (((h2 | h2) | h2) | h2)
    · cases h2
    · exact h (.inl h2)
    · exact h (.inr (.inl h2))
    · exact h (.inr (.inr h2))
  have h2:(accV ((List.range m.cts.length).map (pkV m left)) (accV ((List.range m.prs.length).map (ppV m left g)) (accV ((List.range m.cls.length).map (pcV left g)) (0,false)))).1=vsV m left g:=by
    rw[accV_fst,accV_fst,accV_fst]
    unfold vsV
    dsimp only
    omega
  show (if (accV ((List.range m.cts.length).map (pkV m left)) (accV ((List.range m.prs.length).map (ppV m left g)) (accV ((List.range m.cls.length).map (pcV left g)) (0,false)))).2=true then (1099511627776:Int) else min (accV ((List.range m.cts.length).map (pkV m left)) (accV ((List.range m.prs.length).map (ppV m left g)) (accV ((List.range m.cls.length).map (pcV left g)) (0,false)))).1 1099511627776)=_
  rw[if_neg h1,h2]
theorem val_top (m:Mdl) (left:List (List Bool)) (g:Lg):valV m left g≤1099511627776:=by
  unfold valV;split<;>omega
theorem wlV_skip:∀ (l:List Ld) (c o w:Int),(∀ y∈l,¬ (y.cls=c∧y.opt=o))→wlV l c o w=w
  | [],_,_,_,_=>rfl
  | x::r,c,o,w,h=>by rw[wlV,if_neg (h x (by simp)),wlV_skip r c o w fun y hy=>h y (by simp[hy])]
theorem wlV_wt {m:Mdl}:∀ {l:List Ld} {q:Option Ld} (c o:Int),ldL m q l=true→wlV l c o 0=wtV l c o
  | [],_,_,_,_=>rfl
  | x::r,q,c,o,h=>by
    have hr:ldL m (some x) r=true:=by
      cases q<;>rw[ldL] at h<;>simp only[Bool.and_eq_true] at h<;>exact h.2
    rw[wlV,wtV]
    by_cases e:x.cls=c∧x.opt=o
    · rw[if_pos e,if_pos e]
      exact wlV_skip r c o _ fun y hy he=>by have:=ldL_gt hr y hy;omega
    · rw[if_neg e,if_neg e];exact wlV_wt c o hr
theorem sumW_sumN (l:List Ld):∀ (plan:List Int) (i:Nat),sumW l i plan=sumN (fun j=>wtV l (i+j:Nat) (plan.getD j 0)) plan.length
  | [],i=>rfl
  | o::r,i=>by
    rw[sumW,sumW_sumN l r (i+1),List.length_cons,sumN_head]
    simp only[List.getD_cons_zero,List.getD_cons_succ,Nat.add_zero]
    rw[sumN_congr (g:=fun j=>wtV l (i+(j+1):Nat) (r.getD j 0)) r.length fun j _=>by rw[show i+1+j=i+(j+1) by omega]]
theorem lowW_pos {l:List Ld} (h:∀ x∈l,1≤x.wt∧x.wt≤1000) (c:Int):∀ (row:List Bool) (o:Nat) (b:Int),0≤b→0≤lowW l c o row b∧lowW l c o row b≤b
  | [],_,b,hb=>⟨hb,Int.le_refl _⟩
  | is::r,o,b,hb=>by
    rw[lowW]
    have hw:=wlV_rg h c o 0 (by omega)
    split
    · rename_i hc
      have:=lowW_pos h c r (o+1) (wlV l c o 0) hw.1
      omega
    · exact lowW_pos h c r (o+1) b hb
theorem lowW_le {l:List Ld} (h:∀ x∈l,1≤x.wt∧x.wt≤1000) (c:Int):∀ (row:List Bool) (o:Nat) (b:Int) (i:Nat),row.getD i false=true→lowW l c o row b≤wlV l c (o+i:Nat) 0
  | [],_,b,i,hi=>by simp at hi
  | is::r,o,b,0,hi=>by
    rw[List.getD_cons_zero] at hi
    have hw:=wlV_rg h c o 0 (by omega)
    rw[lowW]
    simp only[Nat.add_zero]
    split
    · exact (lowW_pos h c r (o+1) _ hw.1).2
    · rename_i hc
      have hb:0≤b∧b≤wlV l c o 0:=by
        constructor
        · rcases Int.lt_or_le b 0 with h2 | h2
          · exact absurd ⟨hi,.inl h2⟩ hc
          · exact h2
        · rcases Int.lt_or_le (wlV l c o 0) b with h2 | h2
          · exact absurd ⟨hi,.inr h2⟩ hc
          · exact h2
      have:=lowW_pos h c r (o+1) b hb.1
      omega
  | is::r,o,b,i+1,hi=>by
    rw[List.getD_cons_succ] at hi
    rw[lowW,show o+(i+1)=o+1+i by omega]
    exact lowW_le h c r (o+1) _ i hi
theorem lowW_off (l:List Ld) (c:Int):∀ (row:List Bool) (o:Nat) (b:Int),(∀ i,row.getD i false=false)→lowW l c o row b=b
  | [],_,_,_=>rfl
  | is::r,o,b,h=>by
    have h0:=h 0
    rw[List.getD_cons_zero] at h0
    rw[lowW,if_neg (by rw[h0];simp)]
    exact lowW_off l c r (o+1) b fun i=>by have:=h (i+1);rwa [List.getD_cons_succ] at this
theorem lowW_one (l:List Ld) (c:Int):∀ (row:List Bool) (o:Nat) (i:Nat),(∀ j,row.getD j false=decide (j=i))→lowW l c o row (-1)=wlV l c (o+i:Nat) 0
  | [],_,i,h=>by have:=h i;simp at this
  | is::r,o,0,h=>by
    have h0:=h 0
    rw[List.getD_cons_zero,decide_eq_true rfl] at h0
    rw[lowW,if_pos ⟨h0,.inl (by decide)⟩,Nat.add_zero]
    exact lowW_off l c r (o+1) _ fun j=>by have:=h (j+1);rw[List.getD_cons_succ] at this;rw[this];simp
  | is::r,o,i+1,h=>by
    have h0:=h 0
    rw[List.getD_cons_zero,decide_eq_false (by omega)] at h0
    rw[lowW,if_neg (by rw[h0];simp),show o+(i+1)=o+1+i by omega]
    exact lowW_one l c r (o+1) i fun j=>by have:=h (j+1);rw[List.getD_cons_succ] at this;rw[this];simp
end T
namespace T
def kpt (keep:List Bool) (r:Int):Bool:=keep.getD r.toNat false
def Cut (keep:List Bool) (a b:List Int):Prop:=b.length=a.length∧∀ i:Nat,b.getD i 0=if kpt keep i=true then a.getD i 0 else 0
theorem Cut.add {keep:List Bool} {a b:List Int} (h:Cut keep a b) {r c:Int} (hr:0≤r):Cut keep (addAt a r c) (if kpt keep r=true then addAt b r c else b):=by
  have hrr:((r.toNat:Nat):Int)=r:=Int.toNat_of_nonneg hr
  refine⟨by split<;>simp only[addAt,List.length_set]<;>exact h.1,fun i=>?_⟩
  have hi:=h.2 i
  have hr':=h.2 r.toNat
  rw[hrr] at hr'
  by_cases hk:kpt keep r=true
  · rw[if_pos hk]
    rw[if_pos hk] at hr'
    rw[addAt,addAt,getD_setI,getD_setI,hr',h.1]
    by_cases hi2:r.toNat=i∧i<a.length
    · rw[if_pos hi2,if_pos hi2,if_pos]
      rw[← hi2.1,hrr];exact hk
    · rw[if_neg hi2,if_neg hi2];exact hi
  · rw[if_neg hk,addAt,getD_setI]
    by_cases hi2:r.toNat=i∧i<a.length
    · rw[if_pos hi2]
      rw[← hi2.1,hrr,if_neg hk] at hi
      rw[← hi2.1,hrr,if_neg hk];exact hi
    · rw[if_neg hi2];exact hi
end T
namespace T
end T
namespace T
def eRb (q:Nat × Nat):List AV:=[.ref q.1 1 0 q.2]
theorem eRb_app (D:List (Nat × Nat)) (p n:Nat):rowsOf eRb D++[[AV.ref p 1 0 n]]=rowsOf eRb (D++[(p,n)]):=by simp[rowsOf,eRb]
structure NB1 (B:List (Nat × Ob)) (D:List (Nat × Nat)) (S:List (List Bool)) (os:List Ob):Prop where
  base:∀ b∈B,os[b.1]?=some b.2
  len:D.length=S.length
  row:∀ j,j<D.length→os[(D.getD j default).1]?=some (.arr 1 (bools (S.getD j default)))∧(S.getD j default).length=(D.getD j default).2
  nd:(B.map (·.1)++D.map (·.1)).Nodup
section
variable {B:List (Nat × Ob)} {D:List (Nat × Nat)} {S:List (List Bool)} {os:List Ob}
theorem NB1.app (h:NB1 B D S os) (l:List Ob):NB1 B D S (os++l):=⟨fun b hb=>oLo (h.base b hb) l,h.len,fun j hj=>⟨oLo (h.row j hj).1 l,(h.row j hj).2⟩,h.nd⟩
theorem NB1.fresh (h:NB1 B D S os) {p:Nat} (hp:os.length≤p):p ∉ B.map (·.1)++D.map (·.1):=fun hh=>by
  rw[List.mem_append] at hh
  rcases hh with hh | hh
  · obtain ⟨q,hq,rfl⟩:=List.mem_map.1 hh
    have:=(List.getElem?_eq_some_iff.1 (h.base q hq)).1
    omega
  · obtain ⟨q,hq,rfl⟩:=List.mem_map.1 hh
    obtain ⟨k,hk,rfl⟩:=List.mem_iff_getElem.1 hq
    have h1:=(h.row k hk).1
    have a1:D.getD k default=D[k]:=by simp[hk]
    rw[a1] at h1
    have:=(List.getElem?_eq_some_iff.1 h1).1
    omega
theorem NB1.other (h:NB1 B D S os) {i:Nat} (hi:i ∉ B.map (·.1)++D.map (·.1)) (y:Ob):NB1 B D S (os.set i y):=by
  rw[List.mem_append,not_or] at hi
  refine⟨fun b hb=>?_,h.len,fun k hk=>⟨?_,(h.row k hk).2⟩,h.nd⟩
  · rw[List.getElem?_set_ne (fun e=>hi.1 (List.mem_map.2 ⟨b,hb,e.symm⟩))];exact h.base b hb
  · rw[List.getElem?_set_ne (fun e=>hi.2 (List.mem_map.2 ⟨D.getD k default,getD_mem hk,e.symm⟩))];exact (h.row k hk).1
theorem NB1.add (h:NB1 B D S os) {k:Nat} {x:Ob} (hk:os[k]?=some x) (hf:k ∉ B.map (·.1)++D.map (·.1)):NB1 ((k,x)::B) D S os :=
  ⟨fun b hb=>by rcases List.mem_cons.1 hb with rfl | hb;exact hk;exact h.base b hb,h.len,h.row,by
    rw[List.map_cons,List.cons_append,List.nodup_cons];exact⟨hf,h.nd⟩⟩
theorem NB1.b0 {a:Nat × Ob} (h:NB1 (a::B) D S os):os[a.1]?=some a.2:=h.base a (by simp)
theorem NB1.b1 {a b:Nat × Ob} (h:NB1 (a::b::B) D S os):os[b.1]?=some b.2:=h.base b (by simp)
theorem NB1.b2 {a b c:Nat × Ob} (h:NB1 (a::b::c::B) D S os):os[c.1]?=some c.2:=h.base c (by simp)
theorem NB1.b3 {a b c d:Nat × Ob} (h:NB1 (a::b::c::d::B) D S os):os[d.1]?=some d.2:=h.base d (by simp)
theorem NB1.put {i:Nat} {x:Ob} (h:NB1 ((i,x)::B) D S os) (y:Ob):NB1 ((i,y)::B) D S (os.set i y):=by
  have hn:=h.nd
  rw[List.map_cons,List.cons_append,List.nodup_cons] at hn
  have hx:=h.base (i,x) (by simp)
  have h2:NB1 B D S os:=⟨fun b hb=>h.base b (by simp[hb]),h.len,h.row,hn.2⟩
  exact (h2.other hn.1 y).add (oSe hx) hn.1
theorem NB1.drop {i:Nat} {x:Ob} (h:NB1 ((i,x)::B) D S os):NB1 B D S os∧i ∉ B.map (·.1)++D.map (·.1):=by
  have hn:=h.nd
  rw[List.map_cons,List.cons_append,List.nodup_cons] at hn
  exact⟨⟨fun b hb=>h.base b (by simp[hb]),h.len,h.row,hn.2⟩,hn.1⟩
theorem NB1.swap {a b:Nat × Ob} (h:NB1 (a::b::B) D S os):NB1 (b::a::B) D S os :=
  ⟨fun c hc=>h.base c (by simp only[List.mem_cons] at hc ⊢;rcases hc with hc | hc | hc<;>simp[hc]),h.len,h.row,by
    have:=h.nd
    simp only[List.map_cons,List.cons_append,List.nodup_cons,List.mem_cons,not_or] at this ⊢
    exact⟨⟨Ne.symm this.1.1,this.2.1⟩,this.1.2,this.2.2⟩⟩
theorem NB1.snoc {p:Nat} {r:List Bool} (h:NB1 ((p,.arr 1 (bools r))::B) D S os):NB1 B (D++[(p,r.length)]) (S++[r]) os:=by
  obtain ⟨h2,hf⟩:=h.drop
  have hp:=h.base (p,.arr 1 (bools r)) (by simp)
  refine⟨h2.base,by simp[h2.len],fun j hj=>?_,?_⟩
  · rw[getD_snoc,getD_snoc,← h2.len]
    by_cases h1:j<D.length
    · rw[if_pos h1,if_pos h1];exact h2.row j h1
    · have:j=D.length:=by simp at hj;omega
      rw[if_neg h1,if_neg h1,if_pos this,if_pos this];exact⟨hp,rfl⟩
  · rw[List.map_append,← List.append_assoc,List.nodup_append]
    refine⟨h2.nd,by simp,fun a ha b hb=>?_⟩
    simp only[List.map_cons,List.map_nil,List.mem_singleton] at hb
    subst hb
    exact fun e=>hf (e ▸ ha)
end
def refsB (p:Nat):List (List Bool)→List (List AV)
  | []=>[]
  | r::t=>[.ref p 1 0 r.length]::refsB (p+1) t
def ownB (S:List (List Bool)):List Ob:=S.map fun r=>.arr 1 (bools r)
theorem ownB_len (S:List (List Bool)):(ownB S).length=S.length:=List.length_map _
theorem refsB_len:∀ (p:Nat) (S:List (List Bool)),(refsB p S).length=S.length
  | _,[]=>rfl
  | p,r::t=>by simp only[refsB,List.length_cons,refsB_len (p+1) t]
theorem refsB_get:∀ (p:Nat) (S:List (List Bool)) (j:Nat),j<S.length→(refsB p S)[j]?=some [.ref (p+j) 1 0 (S.getD j default).length]
  | _,[],j,h=>by simp at h
  | p,r::t,0,h=>rfl
  | p,r::t,j+1,h=>by
    rw[refsB,List.getElem?_cons_succ,refsB_get (p+1) t j (by simpa using h)]
    rw[show p+1+j=p+(j+1) by omega,List.getD_cons_succ]
theorem refsB_same {S T:List (List Bool)} (p:Nat) (h:S.map List.length=T.map List.length):refsB p S=refsB p T:=by
  induction S generalizing T p with
  | nil=>cases T with
    | nil=>rfl
    | cons=>simp at h
  | cons r S ih=>cases T with
    | nil=>simp at h
    | cons t T =>
      simp only[List.map_cons,List.cons.injEq] at h
      rw[refsB,refsB,h.1,ih (p+1) h.2]
theorem refsB_ren (ρ:Nat→Nat) (S:List (List Bool)):∀ (q p:Nat),(∀ j,j<S.length→ρ (p+j)=q+j)→(refsB p S).map (List.map (ren ρ))=refsB q S:=by
  induction S with
  | nil=>intro q p _;rfl
  | cons r t ih =>
    intro q p h
    have h0:=h 0 (by simp)
    rw[Nat.add_zero,Nat.add_zero] at h0
    rw[refsB,refsB,List.map_cons,List.map_cons,List.map_nil,ren,h0]
    refine congrArg _ (ih (q+1) (p+1) fun j hj=>?_)
    have:=h (j+1) (by simpa using hj)
    rw[show p+1+j=p+(j+1) by omega,this];omega
theorem ownB_ren (ρ:Nat→Nat) (S:List (List Bool)):(ownB S).map (renO ρ)=ownB S:=by
  unfold ownB
  rw[List.map_map]
  refine List.map_congr_left fun r _=>?_
  show renO ρ (.arr 1 (bools r))=_
  exact bools_ren _ _ _
theorem eRb_D {B:List (Nat × Ob)} {D:List (Nat × Nat)} {S:List (List Bool)} {os:List Ob} (h:NB1 B D S os) {j:Nat} (hj:j<S.length):(rowsOf eRb D)[j]?=some [.ref (D.getD j default).1 1 0 (S.getD j default).length]:=by
  have hd:=h.len
  have h2:=(h.row j (by omega)).2
  rw[h2]
  unfold rowsOf
  rw[List.getElem?_map,List.getD_eq_getElem?_getD,List.getElem?_eq_getElem (by omega)];rfl
theorem NB1.ret {D:List (Nat × Nat)} {S:List (List Bool)} {os:List Ob} {x:Ob} {oi:Nat} (h:NB1 [(0,x),(oi,.arr 1 (rowsOf eRb D))] D S os) (hx:∀ ρ,renO ρ x=x) (hg:x≠.gone) (e:Nat→AV) :
    RetOK 1 ⟨e,os⟩ (.ref oi 1 0 S.length) (.ref 1 1 0 S.length) (x::.arr 1 (refsB 2 S)::ownB S):=by
  have hd:=h.len
  have h0:=h.base (0,x) (by simp)
  have h1:=h.base (oi,.arr 1 (rowsOf eRb D)) (by simp)
  dsimp only at h0 h1
  have hl:∀ i∈0::oi::D.map (·.1),i<os.length:=fun i hi=>by
    rcases List.mem_cons.1 hi with rfl | hi
    · exact (List.getElem?_eq_some_iff.1 h0).1
    rcases List.mem_cons.1 hi with rfl | hi
    · exact (List.getElem?_eq_some_iff.1 h1).1
    obtain ⟨q,hq,rfl⟩:=List.mem_map.1 hi
    obtain ⟨k,hk,rfl⟩:=List.mem_iff_getElem.1 hq
    have h3:=(h.row k hk).1
    have a1:D.getD k default=D[k]:=by simp[hk]
    rw[a1] at h3
    exact (List.getElem?_eq_some_iff.1 h3).1
  have hrho:∀ j,j<S.length→rho os.length (0::oi::D.map (·.1)) (2+j)=(D.getD j default).1:=fun j hj=>by
    unfold rho
    rw[if_pos (by simp;omega),show 2+j=j+1+1 by omega,List.getD_cons_succ,List.getD_cons_succ,List.getD_eq_getElem?_getD,List.getElem?_map,List.getD_eq_getElem?_getD,List.getElem?_eq_getElem (by omega)];rfl
  refine⟨0::oi::D.map (·.1),false,by simpa using h.nd,by simp[ownB_len,hd],fun j o hj=>.inr ?_,hl,by simp,fun i hi=>?_,.eq ?_⟩
  · match j with
    | 0 =>
      simp only[List.getElem?_cons_zero,Option.some.injEq] at hj
      subst hj
      rw[hx];exact h0
    | 1 =>
      simp only[List.getElem?_cons_succ,List.getElem?_cons_zero,Option.some.injEq] at hj
      subst hj
      refine h1.trans (congrArg some ?_)
      rw[renO]
      refine congrArg _ (List.ext_getElem? fun i=>?_)
      rw[List.getElem?_map]
      by_cases hi:i<S.length
      · rw[eRb_D h hi,refsB_get 2 S i hi,Option.map_some,List.map_cons,List.map_nil,ren,hrho i hi]
      · rw[List.getElem?_eq_none (by simp[rowsOf];omega),List.getElem?_eq_none (by rw[refsB_len];omega)];rfl
    | j+2 =>
      simp only[List.getElem?_cons_succ] at hj
      have hjl:j<S.length:=by have:=(List.getElem?_eq_some_iff.1 hj).1;rwa [ownB_len] at this
      have h3:=(h.row j (by omega)).1
      unfold ownB at hj
      rw[List.getElem?_map,List.getElem?_eq_getElem hjl] at hj
      simp only[Option.map_some,Option.some.injEq] at hj
      subst hj
      rw[bools_ren]
      have e1:(0::oi::D.map (·.1)).getD (j+2) 0=(D.getD j default).1:=by
        rw[List.getD_cons_succ,List.getD_cons_succ,List.getD_eq_getElem?_getD,List.getElem?_map,List.getD_eq_getElem?_getD,List.getElem?_eq_getElem (by omega)];rfl
      have e2:S.getD j default=S[j]:=by rw[List.getD_eq_getElem?_getD,List.getElem?_eq_getElem hjl];rfl
      rw[e1,← e2]
      exact h3
  · have:i=0:=by omega
    subst this;rfl
  · rw[ren]
    have:rho os.length (0::oi::D.map (·.1)) 1=oi:=by unfold rho;rw[if_pos (by simp)];rfl
    rw[this]
end T
namespace T
def nO (x:Ob) (A:List (List AV)) (Y:List (List Bool)):List Ob:=x::.arr 1 A::ownB Y
theorem nOk (x:Ob) (A:List (List AV)) {Y:List (List Bool)} {i:Nat} (h:i<Y.length):(nO x A Y)[2+i]?=some (.arr 1 (bools (Y.getD i default))):=by
  unfold nO
  rw[show 2+i=i+1+1 by omega,List.getElem?_cons_succ,List.getElem?_cons_succ]
  unfold ownB
  rw[List.getElem?_map,List.getD_eq_getElem?_getD,List.getElem?_eq_getElem h];rfl
theorem nOs (x:Ob) (A:List (List AV)) (Y:List (List Bool)) (i:Nat) (r:List Bool):(nO x A Y).set (2+i) (.arr 1 (bools r))=nO x A (Y.set i r):=by
  unfold nO ownB
  rw[show 2+i=i+1+1 by omega,List.set_cons_succ,List.set_cons_succ,List.map_set]
theorem RowsR.of_get {R:AV→AV→Prop} {f:Nat→List AV} {g:Nat→List AV}:∀ {cs ds:List (List AV)},cs.length=ds.length→(∀ (j:Nat) c d,cs[j]?=some c→ds[j]?=some d→ArgsR R c d)→RowsR R cs ds
  | [],[],_,_=>trivial
  | [],_::_,h,_=>by simp at h
  | _::_,[],h,_=>by simp at h
  | c::cs,d::ds,h,k=>⟨k 0 c d rfl rfl,RowsR.of_get (f:=f) (g:=g) (by simpa using h) fun j c d hc hd=>k (j+1) c d (by simpa using hc) (by simpa using hd)⟩
theorem frz_bools {σ:St} {kp:Nat→Prop} {id:Nat} {bs:List Bool} (ho:σ.objs[id]?=some (.arr 1 (bools bs))) (hk:¬ kp id):Frz σ kp (.tree 1 (bools bs)) (.ref id 1 0 bs.length) :=
  Frz.mk ho (by simp[bools]) hk (bools_wid _) (RowsR.of_get (f:=fun _=>[]) (g:=fun _=>[]) rfl fun j c d hc hd=>by
    rw[hc] at hd
    cases hd
    unfold bools at hc
    rw[List.getElem?_map] at hc
    cases hb:bs[j]? with
    | none=>rw[hb] at hc;cases hc
    | some b=>rw[hb] at hc;simp only[Option.map_some,Option.some.injEq] at hc;subst hc;exact⟨.lit _,trivial⟩)
theorem frz_rows {σ:St} {kp:Nat→Prop} {oi:Nat} {A:List (List AV)} {S:List (List Bool)} (ho:σ.objs[oi]?=some (.arr 1 A)) (hk:¬ kp oi) (hA:A.length=S.length)
    (h:∀ j,j<S.length→∃ id,A[j]?=some [.ref id 1 0 (S.getD j default).length]∧σ.objs[id]?=some (.arr 1 (bools (S.getD j default)))∧¬ kp id):Frz σ kp (.tree 1 (rowsOf eBs S)) (.ref oi 1 0 S.length) :=
  Frz.mk ho hA.symm hk (rows_wid _) (RowsR.of_get (f:=fun _=>[]) (g:=fun _=>[]) (by simp[rowsOf,hA]) fun j c d hc hd=>by
    unfold rowsOf at hc
    rw[List.getElem?_map] at hc
    have hj:j<S.length:=by
      cases hb:S[j]? with
      | none=>rw[hb] at hc;cases hc
      | some b=>exact (List.getElem?_eq_some_iff.1 hb).1
    obtain ⟨id,h1,h2,h3⟩:=h j hj
    rw[h1] at hd
    simp only[Option.some.injEq] at hd
    subst hd
    rw[List.getElem?_eq_getElem hj] at hc
    simp only[Option.map_some,Option.some.injEq] at hc
    subst hc
    have e2:S.getD j default=S[j]:=by rw[List.getD_eq_getElem?_getD,List.getElem?_eq_getElem hj];rfl
    rw[e2] at h2 ⊢
    exact⟨frz_bools h2 h3,trivial⟩)
end T

