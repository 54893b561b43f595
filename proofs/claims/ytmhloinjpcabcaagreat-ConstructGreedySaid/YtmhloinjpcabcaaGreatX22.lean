import Derived.Test.YtmhloinjpcabcaaGreatX21
set_option linter.unusedVariables false
set_option linter.unusedSimpArgs false
set_option linter.unnecessarySimpa false
set_option linter.unusedSectionVars false
set_option maxHeartbeats 64000000
set_option maxRecDepth 20000
open Go Go.Am
namespace T
def FitsP (m:Mdl) (left:List (List Bool)):Prop:=left.length=m.cls.length∧∀ i,i<left.length→(left.getD i default).length=(m.cls.getD i default).length
instance (m:Mdl) (left:List (List Bool)):Decidable (FitsP m left):=by unfold FitsP;infer_instance
theorem FitsP.row {m:Mdl} {left:List (List Bool)} (hm:VM m) (h:FitsP m left):∀ r∈left,r.length≤24:=fun r hr=>by
  obtain ⟨i,hi,rfl⟩:=List.mem_iff_getElem.1 hr
  have:=h.2 i hi
  rw[List.getD_eq_getElem?_getD,List.getElem?_eq_getElem hi] at this
  simp only[Option.getD_some] at this
  rw[this]
  exact hm.opt _ (getD_mem (by have:=h.1;omega))
end T
namespace T
abbrev Nm:=Int × Bool
def ofN (x:Int):Nm:=(x,decide (1099511627776≤x))
def eNm (p:Nm):List AV:=[.lit (.int .i64 p.1),.lit (.bool p.2)]
def eNr (p:Nm):List AV:=[.lit (.bool p.2),.lit (.int .i64 p.1)]
instance:Row eNm 2:=⟨fun _=>rfl,fun p v hv=>by
  simp only[eNm,List.mem_cons,List.not_mem_nil,or_false] at hv
  rcases hv with rfl | rfl<;>exact .inl ⟨_,rfl,rfl⟩⟩
instance:Row eNr 2:=⟨fun _=>rfl,fun p v hv=>by
  simp only[eNr,List.mem_cons,List.not_mem_nil,or_false] at hv
  rcases hv with rfl | rfl<;>exact .inl ⟨_,rfl,rfl⟩⟩
def ownS (o:Opt):Int:=(o.ch.map (·.2)).foldl addC 0
def ownV (l:List Opt):List Int:=l.map ownS
def firstV (l:List Int):List Nm:=l.map ofN
theorem chs_in {R:Int} {l:List (Int × Int)} (h:chL R none l=true):∀ c∈l,In41 c.2:=fun c hc=>price_in (chL_mem h c hc).2
theorem foldC_in:∀ (l:List Int) (n:Int),(∀ x∈l,In41 x)→In41 n→In41 (l.foldl addC n)
  | [],_,_,h=>h
  | x::r,n,hl,h=>foldC_in r _ (fun y hy=>hl y (by simp[hy])) (addC_in h (hl x (by simp)))
theorem ownS_in {R:Int} {o:Opt} (h:chL R none o.ch=true):In41 (ownS o):=foldC_in _ _ (fun x hx=>by
  obtain ⟨c,hc,rfl⟩:=List.mem_map.1 hx;exact chs_in h c hc) (by unfold In41;decide)
end T
namespace T
structure Mv where
  pair:Int
  side:Int
  opt:Int
  amt:Int
  deriving Inhabited
def eMv (x:Mv):List AV:=[.lit (.int .i64 x.pair),.lit (.int .i64 x.side),.lit (.int .i64 x.opt),.lit (.int .i64 x.amt)]
instance:Row eMv 4:=⟨fun _=>rfl,fun x v hv=>by
  simp only[eMv,List.mem_cons,List.not_mem_nil,or_false] at hv
  rcases hv with rfl | rfl | rfl | rfl<;>exact .inl ⟨_,rfl,rfl⟩⟩
def mvC (m:Mdl) (x:Mv):Int:=if x.side=0 then (m.prs.getD x.pair.toNat default).fst else (m.prs.getD x.pair.toNat default).snd
def mvB (m:Mdl) (x:Mv):Bool:=decide (0≤x.pair∧x.pair<m.prs.length∧0≤x.side∧x.side≤1∧-268435456≤x.amt∧x.amt≤268435456) && optB m (mvC m x) x.opt
end T
namespace T
end T
namespace T
theorem oL0 (os:List Ob) (x:Ob) (l:List Ob):(os++x::l)[os.length]?=some x:=by simp
theorem oLk (os l:List Ob) (k:Nat):(os++l)[os.length+k]?=l[k]?:=by rw[List.getElem?_append_right (by omega),Nat.add_sub_cancel_left]
theorem oS0 (os:List Ob) (x y:Ob) (l:List Ob):(os++x::l).set os.length y=os++y::l:=by rw[List.set_append];simp
theorem oLo {os:List Ob} {i:Nat} {o:Ob} (h:os[i]?=some o) (l:List Ob):(os++l)[i]?=some o:=by
  rw[List.getElem?_append_left (List.getElem?_eq_some_iff.1 h).1];exact h
theorem oSo {os:List Ob} {i:Nat} {o:Ob} (h:os[i]?=some o) (l:List Ob) (y:Ob):(os++l).set i y=os.set i y++l:=by
  rw[List.set_append,if_pos (List.getElem?_eq_some_iff.1 h).1]
theorem oSn {os:List Ob} {i j:Nat} {o o' y:Ob} (h:os[i]?=some o) (h':os[j]?=some o') (hne:o≠o'):(os.set j y)[i]?=some o:=by
  have:j≠i:=fun e=>hne (by rw[e,h] at h';simpa using h')
  rw[List.getElem?_set_ne this];exact h
theorem oSe {os:List Ob} {i:Nat} {o y:Ob} (h:os[i]?=some o):(os.set i y)[i]?=some y:=by
  rw[List.getElem?_set];simp[(List.getElem?_eq_some_iff.1 h).1]
structure RI {α:Type} (enc:α→List AV) (os:List Ob) (D:List (Nat × Nat)) (S:List (List α)):Prop where
  len:D.length=S.length
  row:∀ j,j<D.length→os[(D.getD j default).1]?=some (.arr 2 (rowsOf enc (S.getD j default)))∧(S.getD j default).length=(D.getD j default).2
theorem RI.nil {α:Type} {enc:α→List AV} {os:List Ob}:RI enc os [] ([]:List (List α)):=⟨rfl,by simp⟩
theorem RI.app {α:Type} {enc:α→List AV} {os:List Ob} {D:List (Nat × Nat)} {S:List (List α)} (h:RI enc os D S) (l:List Ob):RI enc (os++l) D S :=
  ⟨h.len,fun j hj=>⟨oLo (h.row j hj).1 l,(h.row j hj).2⟩⟩
theorem RI.kill {α:Type} {enc:α→List AV} {os:List Ob} {D:List (Nat × Nat)} {S:List (List α)} (h:RI enc os D S) {i:Nat} {o y:Ob} (ho:os[i]?=some o) (hne:∀ l,o≠.arr 2 l):RI enc (os.set i y) D S :=
  ⟨h.len,fun j hj=>⟨oSn (h.row j hj).1 ho (fun e=>hne _ e.symm),(h.row j hj).2⟩⟩
theorem getD_snoc {α:Type} [Inhabited α] (l:List α) (x:α) (j:Nat):(l++[x]).getD j default=if j<l.length then l.getD j default else if j=l.length then x else default:=by
  simp only[List.getD_eq_getElem?_getD]
  split
  · rename_i h;rw[List.getElem?_append_left h]
  · rename_i h
    rw[List.getElem?_append_right (by omega)]
    split
    · rename_i h2;subst h2;simp
    · rw[List.getElem?_eq_none (by simp;omega)];rfl
theorem RI.snoc {α:Type} {enc:α→List AV} {os:List Ob} {D:List (Nat × Nat)} {S:List (List α)} (h:RI enc os D S) {p:Nat} {r:List α} (hp:os[p]?=some (.arr 2 (rowsOf enc r))):RI enc os (D++[(p,r.length)]) (S++[r]) :=
  ⟨by simp[h.len],fun j hj=>by
    rw[getD_snoc,getD_snoc,← h.len]
    by_cases h1:j<D.length
    · rw[if_pos h1,if_pos h1];exact h.row j h1
    · have:j=D.length:=by simp at hj;omega
      rw[if_neg h1,if_neg h1,if_pos this,if_pos this];exact⟨hp,rfl⟩⟩
theorem RI.set {α:Type} {enc:α→List AV} {os:List Ob} {D:List (Nat × Nat)} {S:List (List α)} (h:RI enc os D S) (hn:(D.map (·.1)).Nodup) {j:Nat} (hj:j<D.length) {r:List α} (hr:r.length=(S.getD j default).length):RI enc (os.set (D.getD j default).1 (.arr 2 (rowsOf enc r))) D (S.set j r) :=
  ⟨by rw[List.length_set];exact h.len,fun k hk=>by
    by_cases e:k=j
    · subst e
      have:(S.set k r).getD k default=r:=by rw[List.getD_eq_getElem?_getD,List.getElem?_set];simp[← h.len,hk]
      rw[this]
      exact⟨oSe (h.row k hk).1,hr.trans (h.row k hk).2⟩
    · have:(S.set j r).getD k default=S.getD k default:=by rw[List.getD_eq_getElem?_getD,List.getElem?_set_ne (fun e'=>e e'.symm),List.getD_eq_getElem?_getD]
      rw[this]
      have hne:(D.getD j default).1≠(D.getD k default).1:=fun hh=>e ((List.getElem_inj (h₀:=by simpa using hk) (h₁:=by simpa using hj) hn).1 (by
        rw[List.getElem_map,List.getElem_map]
        have a1:D[k]=D.getD k default:=by simp[hk]
        have a2:D[j]=D.getD j default:=by simp[hj]
        rw[a1,a2];exact hh.symm))
      rw[List.getElem?_set_ne hne]
      exact h.row k hk⟩
theorem RI.fresh {α:Type} {enc:α→List AV} {os:List Ob} {D:List (Nat × Nat)} {S:List (List α)} (h:RI enc os D S) {p:Nat} (hp:os.length≤p):p ∉ D.map (·.1):=fun hh=>by
  obtain ⟨q,hq,rfl⟩:=List.mem_map.1 hh
  obtain ⟨k,hk,rfl⟩:=List.mem_iff_getElem.1 hq
  have h1:=(h.row k hk).1
  have a1:D.getD k default=D[k]:=by simp[hk]
  rw[a1] at h1
  have:=(List.getElem?_eq_some_iff.1 h1).1
  omega
theorem RI.step {α:Type} {enc:α→List AV} {os:List Ob} {D:List (Nat × Nat)} {S:List (List α)} {ai:Nat} {x:Ob} (fa:os[ai]?=some x) (hx:∀ l,x≠.arr 2 l) (hR:RI enc os D S) (hnd:(D.map (·.1)).Nodup) (r:List α) (t y:Ob) :
    (os.set ai .gone++[.arr 2 (rowsOf enc r),t,y])[os.length+2]?=some y ∧
    RI enc (os.set ai .gone++[.arr 2 (rowsOf enc r),t,y]) (D++[(os.length,r.length)]) (S++[r])∧((D++[(os.length,r.length)]).map (·.1)).Nodup ∧
    ∀ k o,os[k]?=some o→k≠ai→(os.set ai .gone++[.arr 2 (rowsOf enc r),t,y])[k]?=some o:=by
  have hl:(os.set ai .gone).length=os.length:=List.length_set ..
  refine⟨?_,?_,?_,fun k o hk hne=>oLo ?_ _⟩
  · rw[← hl,oLk];rfl
  · refine ((hR.kill fa hx).app _).snoc ?_
    rw[← hl,oL0]
  · rw[List.map_append,List.nodup_append]
    refine⟨hnd,by simp,fun a ha b hb=>?_⟩
    simp only[List.map_cons,List.map_nil,List.mem_singleton] at hb
    subst hb
    exact fun e=>hR.fresh (Nat.le_refl _) (e ▸ ha)
  · rw[List.getElem?_set_ne (Ne.symm hne)];exact hk
structure LO {α:Type} (enc:α→List AV) (B:List (Nat × Ob)) (D E:List (Nat × Nat)) (S T:List (List α)) (os:List Ob):Prop where
  base:∀ b∈B,os[b.1]?=some b.2∧∀ l,b.2≠.arr 2 l
  rD:RI enc os D S
  rE:RI enc os E T
  nd:((D++E).map (·.1)).Nodup
section
variable {α:Type} {enc:α→List AV} {B:List (Nat × Ob)} {D E:List (Nat × Nat)} {S T:List (List α)} {os:List Ob}
theorem LO.app (h:LO enc B D E S T os) (l:List Ob):LO enc B D E S T (os++l):=⟨fun b hb=>⟨oLo (h.base b hb).1 l,(h.base b hb).2⟩,h.rD.app l,h.rE.app l,h.nd⟩
theorem LO.add (h:LO enc B D E S T os) {k:Nat} {x:Ob} (hk:os[k]?=some x) (hx:∀ l,x≠.arr 2 l):LO enc ((k,x)::B) D E S T os :=
  ⟨fun b hb=>by rcases List.mem_cons.1 hb with rfl | hb;exact⟨hk,hx⟩;exact h.base b hb,h.rD,h.rE,h.nd⟩
theorem LO.sub (h:LO enc B D E S T os) {C:List (Nat × Ob)} (hc:∀ b∈C,b∈B):LO enc C D E S T os:=⟨fun b hb=>h.base b (hc b hb),h.rD,h.rE,h.nd⟩
end
theorem LO.vars {α:Type} {enc:α→List AV} {B:List (Nat × Ob)} {D E:List (Nat × Nat)} {S T:List (List α)} {os:List Ob} (h:LO enc B D E S T os) {n:Nat} (hn:os.length=n) (x y:Ob) (hx:∀ l,x≠.arr 2 l) (hy:∀ l,y≠.arr 2 l) :
    LO enc ((n,x)::(n+1,y)::B) D E S T (os++[x,y]):=by
  subst hn
  exact ((h.app [x,y]).add (by rw[oLk];rfl) hy).add (by rw[oL0]) hx
theorem LO.kill {α:Type} {enc:α→List AV} {B:List (Nat × Ob)} {D E:List (Nat × Nat)} {S T:List (List α)} {os:List Ob} (h:LO enc B D E S T os) {i:Nat} {x y:Ob} (hi:os[i]?=some x) (hx:∀ l,x≠.arr 2 l) (hne:∀ b∈B,b.1≠i):LO enc B D E S T (os.set i y) :=
  ⟨fun b hb=>⟨by rw[List.getElem?_set_ne (hne b hb).symm];exact (h.base b hb).1,(h.base b hb).2⟩,h.rD.kill hi hx,h.rE.kill hi hx,h.nd⟩
end T
namespace T
end T
namespace T
def Keep (os ob:List Ob):Prop:=∀ (k:Nat) (o:Ob),os[k]?=some o→ob[k]?=some o
theorem Keep.refl (os:List Ob):Keep os os:=fun _ _ h=>h
theorem Keep.app {os ob:List Ob} (h:Keep os ob) (l:List Ob):Keep os (ob++l):=fun k o hk=>oLo (h k o hk) l
theorem Keep.set {os ob:List Ob} (h:Keep os ob) {i:Nat} (hi:os.length≤i) {y:Ob}:Keep os (ob.set i y):=fun k o hk=>by
  have:=(List.getElem?_eq_some_iff.1 hk).1
  rw[List.getElem?_set_ne (by omega)];exact h k o hk
theorem Keep.len {os ob:List Ob} (h:Keep os ob):os.length≤ob.length:=by
  rcases Nat.eq_zero_or_pos os.length with h0 | h0
  · omega
  · obtain ⟨o,ho⟩ :∃o,os[os.length - 1]?=some o:=⟨_,List.getElem?_eq_getElem (by omega)⟩
    have:=(List.getElem?_eq_some_iff.1 (h _ _ ho)).1
    omega
section
variable {α:Type} {enc:α→List AV} {B:List (Nat × Ob)} {D E:List (Nat × Nat)} {S T:List (List α)} {os:List Ob}
theorem LO.fresh (h:LO enc B D E S T os) {p:Nat} (hp:os.length≤p):p ∉ (D++E).map (·.1):=by
  rw[List.map_append,List.mem_append,not_or]
  exact⟨h.rD.fresh hp,h.rE.fresh hp⟩
theorem LO.step {gi ai:Nat} {gc:List AV} {A:List (List AV)} (h:LO enc ((gi,.var gc)::(ai,.arr 1 A)::B) D E S T os) {r:List α} {oi:Nat} (hr:os[oi]?=some (.arr 2 (rowsOf enc r))) (hfr:oi ∉ (D++E).map (·.1))
    (hB:∀ b∈B,b.1≠ai∧b.1≠gi) (gc':List AV) (A':List (List AV)) (t:Ob) :
    LO enc ((gi,.var gc')::(os.length+1,.arr 1 A')::B) (D++[(oi,r.length)]) E (S++[r]) T ((os.set ai .gone).set gi (.var gc')++[t,.arr 1 A']):=by
  have hg:=(h.base (gi,.var gc) (by simp)).1
  have ha:=(h.base (ai,.arr 1 A) (by simp)).1
  dsimp only at hg ha
  have hga:gi≠ai:=fun e=>by rw[e,ha] at hg;cases hg
  have hg2:(os.set ai .gone)[gi]?=some (.var gc):=by rw[List.getElem?_set_ne hga.symm];exact hg
  have hl:((os.set ai .gone).set gi (.var gc')).length=os.length:=by rw[List.length_set,List.length_set]
  have hD2:=((h.rD.kill (y:=.gone) ha (by simp)).kill (y:=.var gc') hg2 (by simp)).app [t,.arr 1 A']
  have hE2:=((h.rE.kill (y:=.gone) ha (by simp)).kill (y:=.var gc') hg2 (by simp)).app [t,.arr 1 A']
  have hr2:((os.set ai .gone).set gi (.var gc')++[t,.arr 1 A'])[oi]?=some (.arr 2 (rowsOf enc r)):=oLo (oSn (oSn hr ha (by simp)) hg2 (by simp)) _
  refine⟨fun b hb=>?_,hD2.snoc hr2,hE2,?_⟩
  · rcases List.mem_cons.1 hb with rfl | hb
    · exact⟨oLo (oSe hg2) _,by simp⟩
    rcases List.mem_cons.1 hb with rfl | hb
    · refine⟨?_,by simp⟩
      dsimp only
      rw[← hl,oLk];rfl
    · have h0:=h.base b (by simp[hb])
      refine⟨oLo ?_ _,h0.2⟩
      rw[List.getElem?_set_ne (hB b hb).2.symm,List.getElem?_set_ne (hB b hb).1.symm];exact h0.1
  · have hnd:=h.nd
    rw[List.map_append,List.nodup_append] at hnd ⊢
    rw[List.map_append,List.mem_append,not_or] at hfr
    obtain ⟨n1,n2,n3⟩:=hnd
    refine⟨?_,n2,fun a ha' b hb=>?_⟩
    · rw[List.map_append,List.nodup_append]
      refine⟨n1,by simp,fun a ha' b hb=>?_⟩
      simp only[List.map_cons,List.map_nil,List.mem_singleton] at hb
      subst hb
      exact fun e=>hfr.1 (e ▸ ha')
    · rw[List.map_append,List.mem_append] at ha'
      rcases ha' with ha' | ha'
      · exact n3 a ha' b hb
      · simp only[List.map_cons,List.map_nil,List.mem_singleton] at ha'
        subst ha'
        exact fun e=>hfr.2 (e ▸ hb)
end
end T

