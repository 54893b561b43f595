import Derived.Test.YtafhoboejkcmiaaGreatX22
import Derived.Test.YtafhoboejkcmiaaGreatX15
import Derived.Test.YtafhoboejkcmiaaGreatX09
import Derived.Test.YtafhoboejkcmiaaGreatX23
set_option linter.unusedVariables false
set_option linter.unusedSimpArgs false
set_option linter.unnecessarySimpa false
set_option linter.unusedSectionVars false
set_option maxHeartbeats 64000000
set_option maxRecDepth 20000
open Go Go.Am
open Go Go.Am Go.Proofs
open Nat (reduceEqDiff reduceAdd reduceLeDiff reduceMul)
open Int (reduceNeg reduceLE reduceToNat)
namespace T
def FitsP (m:Mdl) (left:List (List Bool)):Prop:=left.length=m.cls.length∧∀ i,i<left.length→(left.getD i default).length=(m.cls.getD i default).length
instance (m:Mdl) (left:List (List Bool)):Decidable (FitsP m left):=by unfold FitsP;infer_instance
theorem FitsP.row {m:Mdl} {left:List (List Bool)} (hm:VM m) (h:FitsP m left):∀ r∈left,r.length≤24:=fun r hr=>by
  obtain ⟨i,hi,rfl⟩:=List.mem_iff_getElem.1 hr
  have:=h.2 i hi
  rw[List.getD_eq_getElem?_getD,List.getElem?_eq_getElem hi] at this
  simp only[Option.getD_some] at this
  rw[this]
  exact hm.opt _ (getD_mem (by have:=h.1;omega))
end T
namespace T
abbrev Nm:=Int × Bool
def ofN (x:Int):Nm:=(x,decide (1099511627776≤x))
def eNm (p:Nm):List AV:=[.lit (.int .i64 p.1),.lit (.bool p.2)]
def eNr (p:Nm):List AV:=[.lit (.bool p.2),.lit (.int .i64 p.1)]
instance:Row eNm 2:=⟨fun _=>rfl,fun p v hv=>by
  simp only[eNm,List.mem_cons,List.not_mem_nil,or_false] at hv
  rcases hv with rfl | rfl<;>exact .inl ⟨_,rfl,rfl⟩⟩
instance:Row eNr 2:=⟨fun _=>rfl,fun p v hv=>by
  simp only[eNr,List.mem_cons,List.not_mem_nil,or_false] at hv
  rcases hv with rfl | rfl<;>exact .inl ⟨_,rfl,rfl⟩⟩
def ownS (o:Opt):Int:=(o.ch.map (·.2)).foldl addC 0
def ownV (l:List Opt):List Int:=l.map ownS
def firstV (l:List Int):List Nm:=l.map ofN
theorem chs_in {R:Int} {l:List (Int × Int)} (h:chL R none l=true):∀ c∈l,In41 c.2:=fun c hc=>price_in (chL_mem h c hc).2
theorem foldC_in:∀ (l:List Int) (n:Int),(∀ x∈l,In41 x)→In41 n→In41 (l.foldl addC n)
  | [],_,_,h=>h
  | x::r,n,hl,h=>foldC_in r _ (fun y hy=>hl y (by simp[hy])) (addC_in h (hl x (by simp)))
theorem ownS_in {R:Int} {o:Opt} (h:chL R none o.ch=true):In41 (ownS o):=foldC_in _ _ (fun x hx=>by
  obtain ⟨c,hc,rfl⟩:=List.mem_map.1 hx;exact chs_in h c hc) (by unfold In41;decide)
end T
namespace T
structure Mv where
  pair:Int
  side:Int
  opt:Int
  amt:Int
  deriving Inhabited
def eMv (x:Mv):List AV:=[.lit (.int .i64 x.pair),.lit (.int .i64 x.side),.lit (.int .i64 x.opt),.lit (.int .i64 x.amt)]
instance:Row eMv 4:=⟨fun _=>rfl,fun x v hv=>by
  simp only[eMv,List.mem_cons,List.not_mem_nil,or_false] at hv
  rcases hv with rfl | rfl | rfl | rfl<;>exact .inl ⟨_,rfl,rfl⟩⟩
def mvC (m:Mdl) (x:Mv):Int:=if x.side=0 then (m.prs.getD x.pair.toNat default).fst else (m.prs.getD x.pair.toNat default).snd
def mvB (m:Mdl) (x:Mv):Bool:=decide (0≤x.pair∧x.pair<m.prs.length∧0≤x.side∧x.side≤1∧-268435456≤x.amt∧x.amt≤268435456) && optB m (mvC m x) x.opt
end T
namespace T
end T
namespace T
theorem oL0 (os:List Ob) (x:Ob) (l:List Ob):(os++x::l)[os.length]?=some x:=by simp
theorem oLk (os l:List Ob) (k:Nat):(os++l)[os.length+k]?=l[k]?:=by rw[List.getElem?_append_right (by omega),Nat.add_sub_cancel_left]
theorem oS0 (os:List Ob) (x y:Ob) (l:List Ob):(os++x::l).set os.length y=os++y::l:=by rw[List.set_append];simp
theorem oLo {os:List Ob} {i:Nat} {o:Ob} (h:os[i]?=some o) (l:List Ob):(os++l)[i]?=some o:=by
  rw[List.getElem?_append_left (List.getElem?_eq_some_iff.1 h).1];exact h
theorem oSo {os:List Ob} {i:Nat} {o:Ob} (h:os[i]?=some o) (l:List Ob) (y:Ob):(os++l).set i y=os.set i y++l:=by
  rw[List.set_append,if_pos (List.getElem?_eq_some_iff.1 h).1]
theorem oSn {os:List Ob} {i j:Nat} {o o' y:Ob} (h:os[i]?=some o) (h':os[j]?=some o') (hne:o≠o'):(os.set j y)[i]?=some o:=by
  have:j≠i:=fun e=>hne (by rw[e,h] at h';simpa using h')
  rw[List.getElem?_set_ne this];exact h
theorem oSe {os:List Ob} {i:Nat} {o y:Ob} (h:os[i]?=some o):(os.set i y)[i]?=some y:=by
  rw[List.getElem?_set];simp[(List.getElem?_eq_some_iff.1 h).1]
structure RI {α:Type} (enc:α→List AV) (os:List Ob) (D:List (Nat × Nat)) (S:List (List α)):Prop where
  len:D.length=S.length
  row:∀ j,j<D.length→os[(D.getD j default).1]?=some (.arr 2 (rowsOf enc (S.getD j default)))∧(S.getD j default).length=(D.getD j default).2
theorem RI.nil {α:Type} {enc:α→List AV} {os:List Ob}:RI enc os [] ([]:List (List α)):=⟨rfl,by simp⟩
theorem RI.app {α:Type} {enc:α→List AV} {os:List Ob} {D:List (Nat × Nat)} {S:List (List α)} (h:RI enc os D S) (l:List Ob):RI enc (os++l) D S :=
  ⟨h.len,fun j hj=>⟨oLo (h.row j hj).1 l,(h.row j hj).2⟩⟩
theorem RI.kill {α:Type} {enc:α→List AV} {os:List Ob} {D:List (Nat × Nat)} {S:List (List α)} (h:RI enc os D S) {i:Nat} {o y:Ob} (ho:os[i]?=some o) (hne:∀ l,o≠.arr 2 l):RI enc (os.set i y) D S :=
  ⟨h.len,fun j hj=>⟨oSn (h.row j hj).1 ho (fun e=>hne _ e.symm),(h.row j hj).2⟩⟩
theorem getD_snoc {α:Type} [Inhabited α] (l:List α) (x:α) (j:Nat):(l++[x]).getD j default=if j<l.length then l.getD j default else if j=l.length then x else default:=by
  simp only[List.getD_eq_getElem?_getD]
  split
  · rename_i h;rw[List.getElem?_append_left h]
  · rename_i h
    rw[List.getElem?_append_right (by omega)]
    split
    · rename_i h2;subst h2;simp
    · rw[List.getElem?_eq_none (by simp;omega)];rfl
theorem RI.snoc {α:Type} {enc:α→List AV} {os:List Ob} {D:List (Nat × Nat)} {S:List (List α)} (h:RI enc os D S) {p:Nat} {r:List α} (hp:os[p]?=some (.arr 2 (rowsOf enc r))):RI enc os (D++[(p,r.length)]) (S++[r]) :=
  ⟨by simp[h.len],fun j hj=>by
    rw[getD_snoc,getD_snoc,← h.len]
    by_cases h1:j<D.length
    · rw[if_pos h1,if_pos h1];exact h.row j h1
    · have:j=D.length:=by simp at hj;omega
      rw[if_neg h1,if_neg h1,if_pos this,if_pos this];exact⟨hp,rfl⟩⟩
theorem RI.set {α:Type} {enc:α→List AV} {os:List Ob} {D:List (Nat × Nat)} {S:List (List α)} (h:RI enc os D S) (hn:(D.map (·.1)).Nodup) {j:Nat} (hj:j<D.length) {r:List α} (hr:r.length=(S.getD j default).length):RI enc (os.set (D.getD j default).1 (.arr 2 (rowsOf enc r))) D (S.set j r) :=
  ⟨by rw[List.length_set];exact h.len,fun k hk=>by
    by_cases e:k=j
    · subst e
      have:(S.set k r).getD k default=r:=by rw[List.getD_eq_getElem?_getD,List.getElem?_set];simp[← h.len,hk]
      rw[this]
      exact⟨oSe (h.row k hk).1,hr.trans (h.row k hk).2⟩
    · have:(S.set j r).getD k default=S.getD k default:=by rw[List.getD_eq_getElem?_getD,List.getElem?_set_ne (fun e'=>e e'.symm),List.getD_eq_getElem?_getD]
      rw[this]
      have hne:(D.getD j default).1≠(D.getD k default).1:=fun hh=>e ((List.getElem_inj (h₀:=by simpa using hk) (h₁:=by simpa using hj) hn).1 (by
        rw[List.getElem_map,List.getElem_map]
        have a1:D[k]=D.getD k default:=by simp[hk]
        have a2:D[j]=D.getD j default:=by simp[hj]
        rw[a1,a2];exact hh.symm))
      rw[List.getElem?_set_ne hne]
      exact h.row k hk⟩
theorem RI.other {α:Type} {enc:α→List AV} {os:List Ob} {D:List (Nat × Nat)} {S:List (List α)} (h:RI enc os D S) {i:Nat} (hi:i ∉ D.map (·.1)) {y:Ob}:RI enc (os.set i y) D S :=
  ⟨h.len,fun k hk=>⟨by
    rw[List.getElem?_set_ne (fun e=>hi (List.mem_map.2 ⟨D.getD k default,getD_mem hk,e.symm⟩))]
    exact (h.row k hk).1,(h.row k hk).2⟩⟩
theorem RI.fresh {α:Type} {enc:α→List AV} {os:List Ob} {D:List (Nat × Nat)} {S:List (List α)} (h:RI enc os D S) {p:Nat} (hp:os.length≤p):p ∉ D.map (·.1):=fun hh=>by
  obtain ⟨q,hq,rfl⟩:=List.mem_map.1 hh
  obtain ⟨k,hk,rfl⟩:=List.mem_iff_getElem.1 hq
  have h1:=(h.row k hk).1
  have a1:D.getD k default=D[k]:=by simp[hk]
  rw[a1] at h1
  have:=(List.getElem?_eq_some_iff.1 h1).1
  omega
theorem RI.step {α:Type} {enc:α→List AV} {os:List Ob} {D:List (Nat × Nat)} {S:List (List α)} {ai:Nat} {x:Ob} (fa:os[ai]?=some x) (hx:∀ l,x≠.arr 2 l) (hR:RI enc os D S) (hnd:(D.map (·.1)).Nodup) (r:List α) (t y:Ob) :
    (os.set ai .gone++[.arr 2 (rowsOf enc r),t,y])[os.length+2]?=some y ∧
    RI enc (os.set ai .gone++[.arr 2 (rowsOf enc r),t,y]) (D++[(os.length,r.length)]) (S++[r])∧((D++[(os.length,r.length)]).map (·.1)).Nodup ∧
    ∀ k o,os[k]?=some o→k≠ai→(os.set ai .gone++[.arr 2 (rowsOf enc r),t,y])[k]?=some o:=by
  have hl:(os.set ai .gone).length=os.length:=List.length_set ..
  refine⟨?_,?_,?_,fun k o hk hne=>oLo ?_ _⟩
  · rw[← hl,oLk];rfl
  · refine ((hR.kill fa hx).app _).snoc ?_
    rw[← hl,oL0]
  · rw[List.map_append,List.nodup_append]
    refine⟨hnd,by simp,fun a ha b hb=>?_⟩
    simp only[List.map_cons,List.map_nil,List.mem_singleton] at hb
    subst hb
    exact fun e=>hR.fresh (Nat.le_refl _) (e ▸ ha)
  · rw[List.getElem?_set_ne (Ne.symm hne)];exact hk
structure LO {α:Type} (enc:α→List AV) (B:List (Nat × Ob)) (D E:List (Nat × Nat)) (S T:List (List α)) (os:List Ob):Prop where
  base:∀ b∈B,os[b.1]?=some b.2∧∀ l,b.2≠.arr 2 l
  rD:RI enc os D S
  rE:RI enc os E T
  nd:((D++E).map (·.1)).Nodup
section
variable {α:Type} {enc:α→List AV} {B:List (Nat × Ob)} {D E:List (Nat × Nat)} {S T:List (List α)} {os:List Ob}
theorem LO.app (h:LO enc B D E S T os) (l:List Ob):LO enc B D E S T (os++l):=⟨fun b hb=>⟨oLo (h.base b hb).1 l,(h.base b hb).2⟩,h.rD.app l,h.rE.app l,h.nd⟩
theorem LO.add (h:LO enc B D E S T os) {k:Nat} {x:Ob} (hk:os[k]?=some x) (hx:∀ l,x≠.arr 2 l):LO enc ((k,x)::B) D E S T os :=
  ⟨fun b hb=>by rcases List.mem_cons.1 hb with rfl | hb;exact⟨hk,hx⟩;exact h.base b hb,h.rD,h.rE,h.nd⟩
theorem LO.sub (h:LO enc B D E S T os) {C:List (Nat × Ob)} (hc:∀ b∈C,b∈B):LO enc C D E S T os:=⟨fun b hb=>h.base b (hc b hb),h.rD,h.rE,h.nd⟩
end
theorem LO.vars {α:Type} {enc:α→List AV} {B:List (Nat × Ob)} {D E:List (Nat × Nat)} {S T:List (List α)} {os:List Ob} (h:LO enc B D E S T os) {n:Nat} (hn:os.length=n) (x y:Ob) (hx:∀ l,x≠.arr 2 l) (hy:∀ l,y≠.arr 2 l) :
    LO enc ((n,x)::(n+1,y)::B) D E S T (os++[x,y]):=by
  subst hn
  exact ((h.app [x,y]).add (by rw[oLk];rfl) hy).add (by rw[oL0]) hx
theorem LO.kill {α:Type} {enc:α→List AV} {B:List (Nat × Ob)} {D E:List (Nat × Nat)} {S T:List (List α)} {os:List Ob} (h:LO enc B D E S T os) {i:Nat} {x y:Ob} (hi:os[i]?=some x) (hx:∀ l,x≠.arr 2 l) (hne:∀ b∈B,b.1≠i):LO enc B D E S T (os.set i y) :=
  ⟨fun b hb=>⟨by rw[List.getElem?_set_ne (hne b hb).symm];exact (h.base b hb).1,(h.base b hb).2⟩,h.rD.kill hi hx,h.rE.kill hi hx,h.nd⟩
theorem oLs (os l:List Ob) (i k:Nat) (y:Ob):(os.set i y++l)[os.length+k]?=l[k]?:=by
  have:=oLk (os.set i y) l k
  rwa [List.length_set] at this
end T
namespace T
end T
namespace T
def Keep (os ob:List Ob):Prop:=∀ (k:Nat) (o:Ob),os[k]?=some o→ob[k]?=some o
theorem Keep.refl (os:List Ob):Keep os os:=fun _ _ h=>h
theorem Keep.app {os ob:List Ob} (h:Keep os ob) (l:List Ob):Keep os (ob++l):=fun k o hk=>oLo (h k o hk) l
theorem Keep.set {os ob:List Ob} (h:Keep os ob) {i:Nat} (hi:os.length≤i) {y:Ob}:Keep os (ob.set i y):=fun k o hk=>by
  have:=(List.getElem?_eq_some_iff.1 hk).1
  rw[List.getElem?_set_ne (by omega)];exact h k o hk
theorem Keep.len {os ob:List Ob} (h:Keep os ob):os.length≤ob.length:=by
  rcases Nat.eq_zero_or_pos os.length with h0 | h0
  · omega
  · obtain ⟨o,ho⟩ :∃o,os[os.length - 1]?=some o:=⟨_,List.getElem?_eq_getElem (by omega)⟩
    have:=(List.getElem?_eq_some_iff.1 (h _ _ ho)).1
    omega
section
variable {α:Type} {enc:α→List AV} {B:List (Nat × Ob)} {D E:List (Nat × Nat)} {S T:List (List α)} {os:List Ob}
theorem LO.fresh (h:LO enc B D E S T os) {p:Nat} (hp:os.length≤p):p ∉ (D++E).map (·.1):=by
  rw[List.map_append,List.mem_append,not_or]
  exact⟨h.rD.fresh hp,h.rE.fresh hp⟩
theorem LO.step {gi ai:Nat} {gc:List AV} {A:List (List AV)} (h:LO enc ((gi,.var gc)::(ai,.arr 1 A)::B) D E S T os) {r:List α} {oi:Nat} (hr:os[oi]?=some (.arr 2 (rowsOf enc r))) (hfr:oi ∉ (D++E).map (·.1))
    (hB:∀ b∈B,b.1≠ai∧b.1≠gi) (gc':List AV) (A':List (List AV)) (t:Ob) :
    LO enc ((gi,.var gc')::(os.length+1,.arr 1 A')::B) (D++[(oi,r.length)]) E (S++[r]) T ((os.set ai .gone).set gi (.var gc')++[t,.arr 1 A']):=by
  have hg:=(h.base (gi,.var gc) (by simp)).1
  have ha:=(h.base (ai,.arr 1 A) (by simp)).1
  dsimp only at hg ha
  have hga:gi≠ai:=fun e=>by rw[e,ha] at hg;cases hg
  have hg2:(os.set ai .gone)[gi]?=some (.var gc):=by rw[List.getElem?_set_ne hga.symm];exact hg
  have hl:((os.set ai .gone).set gi (.var gc')).length=os.length:=by rw[List.length_set,List.length_set]
  have hD2:=((h.rD.kill (y:=.gone) ha (by simp)).kill (y:=.var gc') hg2 (by simp)).app [t,.arr 1 A']
  have hE2:=((h.rE.kill (y:=.gone) ha (by simp)).kill (y:=.var gc') hg2 (by simp)).app [t,.arr 1 A']
  have hr2:((os.set ai .gone).set gi (.var gc')++[t,.arr 1 A'])[oi]?=some (.arr 2 (rowsOf enc r)):=oLo (oSn (oSn hr ha (by simp)) hg2 (by simp)) _
  refine⟨fun b hb=>?_,hD2.snoc hr2,hE2,?_⟩
  · rcases List.mem_cons.1 hb with rfl | hb
    · exact⟨oLo (oSe hg2) _,by simp⟩
    rcases List.mem_cons.1 hb with rfl | hb
    · refine⟨?_,by simp⟩
      dsimp only
      rw[← hl,oLk];rfl
    · have h0:=h.base b (by simp[hb])
      refine⟨oLo ?_ _,h0.2⟩
      rw[List.getElem?_set_ne (hB b hb).2.symm,List.getElem?_set_ne (hB b hb).1.symm];exact h0.1
  · have hnd:=h.nd
    rw[List.map_append,List.nodup_append] at hnd ⊢
    rw[List.map_append,List.mem_append,not_or] at hfr
    obtain ⟨n1,n2,n3⟩:=hnd
    refine⟨?_,n2,fun a ha' b hb=>?_⟩
    · rw[List.map_append,List.nodup_append]
      refine⟨n1,by simp,fun a ha' b hb=>?_⟩
      simp only[List.map_cons,List.map_nil,List.mem_singleton] at hb
      subst hb
      exact fun e=>hfr.1 (e ▸ ha')
    · rw[List.map_append,List.mem_append] at ha'
      rcases ha' with ha' | ha'
      · exact n3 a ha' b hb
      · simp only[List.map_cons,List.map_nil,List.mem_singleton] at ha'
        subst ha'
        exact fun e=>hfr.2 (e ▸ hb)
end
end T
namespace T
def S0 (m:Mdl):List (List Nm):=m.cls.map fun l=>firstV (ownV l)
def T0 (m:Mdl):List (List Nm):=m.prs.map fun p=>firstV p.tab
def addR (r:List Nm) (i:Nat) (a:Int):List Nm:=r.set i ((r.getD i default).1+a,(r.getD i default).2)
def subK (f:Nat→Nat) (a:Int):Nat→List Nm→List Nm
  | 0,t=>t
  | k+1,t=>addR (subK f a k t) (f k) (-a)
abbrev Lg:=List (List Nm) × List (List Nm)
def mvF (m:Mdl) (x:Mv):(Nat→Nat) × Nat :=
  if x.side=0 then (fun k=>(x.opt * (m.cls.getD (m.prs.getD x.pair.toNat default).snd.toNat default).length+k).toNat,(m.cls.getD (m.prs.getD x.pair.toNat default).snd.toNat default).length)
  else (fun k=>((k:Int) * (m.cls.getD (m.prs.getD x.pair.toNat default).snd.toNat default).length+x.opt).toNat,(m.cls.getD (m.prs.getD x.pair.toNat default).fst.toNat default).length)
def mvS (m:Mdl) (x:Mv) (g:Lg):Lg :=
  (g.1.set (mvC m x).toNat (addR (g.1.getD (mvC m x).toNat default) x.opt.toNat x.amt),g.2.set x.pair.toNat (subK (mvF m x).1 x.amt (mvF m x).2 (g.2.getD x.pair.toNat default)))
def mvsL (m:Mdl) (l:List Mv) (g:Lg):Lg:=l.foldl (fun g x=>mvS m x g) g
def NB (B:Int) (r:List Nm):Prop:=∀ p∈r,-B≤p.1∧p.1≤B
theorem NB.get {B:Int} {r:List Nm} (h:NB B r) (hB:0≤B) (i:Nat) : -B≤(r.getD i default).1∧(r.getD i default).1≤B:=by
  rcases Nat.lt_or_ge i r.length with hi | hi
  · exact h _ (getD_mem hi)
  · rw[List.getD_eq_getElem?_getD,List.getElem?_eq_none hi]
    show -B≤(0:Int)∧(0:Int)≤B
    omega
theorem NB.mono {B C:Int} {r:List Nm} (h:NB B r) (hc:B≤C):NB C r:=fun p hp=>by have:=h p hp;omega
theorem NB.add {B:Int} {r:List Nm} (h:NB B r) (hB:0≤B) (i:Nat) {a:Int} (ha : -268435456≤a∧a≤268435456):NB (B+268435456) (addR r i a):=fun p hp=>by
  rcases List.mem_or_eq_of_mem_set hp with h' | h'
  · have:=h p h';omega
  · have:=h.get hB i
    rw[h'];dsimp only;omega
theorem addR_len (r:List Nm) (i:Nat) (a:Int):(addR r i a).length=r.length:=by simp[addR]
theorem subK_len (f:Nat→Nat) (a:Int):∀ (k:Nat) (t:List Nm),(subK f a k t).length=t.length
  | 0,t=>rfl
  | k+1,t=>by rw[subK,addR_len,subK_len f a k t]
theorem NB.sub {B:Int} {r:List Nm} (h:NB B r) (hB:0≤B) (f:Nat→Nat) {a:Int} (ha : -268435456≤a∧a≤268435456):∀ k:Nat,NB (B+268435456 * k) (subK f a k r)
  | 0=>by simpa [subK] using h
  | k+1=>by
    rw[subK]
    have:=(NB.sub h hB f ha k).add (by omega) (f k) (a:=-a) (by omega)
    exact this.mono (by omega)
structure LG (m:Mdl) (B:Int) (g:Lg):Prop where
  s:g.1.length=m.cls.length
  t:g.2.length=m.prs.length
  sl:∀ i,i<m.cls.length→(g.1.getD i default).length=(m.cls.getD i default).length
  tl:∀ i,i<m.prs.length→(g.2.getD i default).length=(m.prs.getD i default).tab.length
  sb:∀ r∈g.1,NB B r
  tb:∀ r∈g.2,NB B r
theorem getD_set_len {g:List (List Nm)} {i j:Nat} {r:List Nm} (h:r.length=(g.getD i default).length):((g.set i r).getD j default).length=(g.getD j default).length:=by
  by_cases e:i=j
  · subst e
    rcases Nat.lt_or_ge i g.length with hi | hi
    · simp only[List.getD_eq_getElem?_getD,List.getElem?_set,hi,if_true,Option.getD_some];rw[h,List.getD_eq_getElem?_getD]
    · rw[List.set_eq_of_length_le hi]
  · simp only[List.getD_eq_getElem?_getD,List.getElem?_set_ne e]
theorem NB_getD {B:Int} {g:List (List Nm)} (h:∀ r∈g,NB B r) (i:Nat):NB B (g.getD i default):=by
  rcases Nat.lt_or_ge i g.length with hi | hi
  · exact h _ (getD_mem hi)
  · rw[List.getD_eq_getElem?_getD,List.getElem?_eq_none hi];intro p hp;cases hp
theorem mvF_len {m:Mdl} (hm:VM m) (x:Mv):(mvF m x).2≤24:=by
  have:∀ i,(m.cls.getD i default).length≤24:=fun i=>by
    rcases Nat.lt_or_ge i m.cls.length with hi | hi
    · exact hm.opt _ (getD_mem hi)
    · rw[List.getD_eq_getElem?_getD,List.getElem?_eq_none hi];exact Nat.zero_le _
  unfold mvF
  split<;>exact this _
theorem mvS_lg {m:Mdl} (hm:VM m) {B:Int} (hB:0≤B) {g:Lg} (h:LG m B g) {x:Mv} (hx:mvB m x=true):LG m (B+268435456 * 25) (mvS m x g):=by
  unfold mvB at hx
  rw[Bool.and_eq_true,decide_eq_true_eq] at hx
  have ha:=hx.1.2.2.2.2
  have hk:=mvF_len hm x
  refine⟨by rw[mvS,List.length_set];exact h.s,by rw[mvS,List.length_set];exact h.t,fun i hi=>?_,fun i hi=>?_,fun r hr=>?_,fun r hr=>?_⟩
  · rw[mvS];dsimp only
    rw[getD_set_len (by rw[addR_len])];exact h.sl i hi
  · rw[mvS];dsimp only
    rw[getD_set_len (by rw[subK_len])];exact h.tl i hi
  · rcases List.mem_or_eq_of_mem_set hr with h' | h'
    · exact (h.sb r h').mono (by omega)
    · rw[h'];exact ((NB_getD h.sb _).add hB _ ha).mono (by omega)
  · rcases List.mem_or_eq_of_mem_set hr with h' | h'
    · exact (h.tb r h').mono (by omega)
    · rw[h'];exact ((NB_getD h.tb _).sub hB _ ha _).mono (by omega)
theorem firstV_nb {l:List Int} (h:∀ x∈l,In41 x):NB 1099511627776 (firstV l):=fun p hp=>by
  obtain ⟨x,hx,rfl⟩:=List.mem_map.1 hp
  have:=h x hx
  unfold In41 at this
  show -1099511627776≤x∧x≤1099511627776
  omega
theorem tab_in {m:Mdl} {p:Pr} (hp:pairB m p=true):∀ x∈p.tab,In41 x:=fun x hx=>by
  unfold pairB at hp
  simp only[Bool.and_eq_true,Bool.not_eq_true',List.any_eq_false] at hp
  have:=hp.2 _ hx
  rw[badN] at this
  simp only[Bool.and_eq_true,Bool.not_eq_true',decide_eq_true_eq,not_and,Bool.not_eq_false] at this
  by_cases hz:x=0
  · subst hz;unfold In41;decide
  · exact price_in (this hz)
theorem map_getD {α β:Type} [Inhabited α] [Inhabited β] (f:α→β) (l:List α) (i:Nat) (h:i<l.length):(l.map f).getD i default=f (l.getD i default):=by
  rw[List.getD_eq_getElem?_getD,List.getElem?_map,List.getD_eq_getElem?_getD,List.getElem?_eq_getElem h];rfl
theorem open_lg {m:Mdl} (hm:VM m):LG m 1099511627776 (S0 m,T0 m):=by
  refine⟨by simp[S0],by simp[T0],fun i hi=>?_,fun i hi=>?_,fun r hr=>?_,fun r hr=>?_⟩
  · show ((S0 m).getD i default).length=_
    rw[S0,map_getD _ _ _ hi];simp[firstV,ownV]
  · show ((T0 m).getD i default).length=_
    rw[T0,map_getD _ _ _ hi];simp[firstV]
  · obtain ⟨l,hl,rfl⟩:=List.mem_map.1 hr
    refine firstV_nb fun x hx=>?_
    obtain ⟨o,ho,rfl⟩:=List.mem_map.1 hx
    exact ownS_in (hm.chs l hl o ho)
  · obtain ⟨p,hp,rfl⟩:=List.mem_map.1 hr
    exact firstV_nb (tab_in (prsL_mem hm.pr p hp))
theorem mvsL_lg {m:Mdl} (hm:VM m) (l:List Mv) (hl:∀ x∈l,mvB m x=true):LG m (1099511627776+268435456 * 25 * l.length) (mvsL m l (S0 m,T0 m)):=by
  have key:∀ (l:List Mv) (B:Int) (g:Lg),0≤B→(∀ x∈l,mvB m x=true)→LG m B g→LG m (B+268435456 * 25 * l.length) (mvsL m l g):=by
    intro l
    induction l with
    | nil=>intro B g _ _ h;simpa [mvsL] using h
    | cons x r ih =>
      intro B g hB hx h
      have h1:=mvS_lg hm hB h (hx x (by simp))
      have h2:=ih _ _ (by omega) (fun y hy=>hx y (by simp[hy])) h1
      show LG m _ (mvsL m r (mvS m x g))
      have e:B+268435456 * 25+268435456 * 25 * (r.length:Int)=B+268435456 * 25 * ((x::r).length:Int):=by simp only[List.length_cons];omega
      rw[e] at h2;exact h2
  exact key l _ _ (by decide) hl (open_lg hm)
end T
namespace T
theorem LO.keep {α:Type} {enc:α→List AV} {B:List (Nat × Ob)} {D E:List (Nat × Nat)} {S T:List (List α)} {os ob:List Ob} (h:LO enc B D E S T os) (k:Keep os ob):LO enc B D E S T ob :=
  ⟨fun b hb=>⟨k _ _ (h.base b hb).1,(h.base b hb).2⟩,⟨h.rD.len,fun j hj=>⟨k _ _ (h.rD.row j hj).1,(h.rD.row j hj).2⟩⟩,⟨h.rE.len,fun j hj=>⟨k _ _ (h.rE.row j hj).1,(h.rE.row j hj).2⟩⟩,h.nd⟩
theorem Keep.trans {a b c:List Ob} (h:Keep a b) (k:Keep b c):Keep a c:=fun i o hi=>k i o (h i o hi)
end T
namespace T
end T
namespace T
abbrev SC:=Int × Int
def scAdd (s:SC) (cost times:Int):SC:=if cost=1099511627776 then (s.1+times,s.2) else (s.1,s.2+cost * times)
structure FP (m:Mdl) (plan:List Int):Prop where
  len:plan.length=m.cls.length
  get:∀ j,j<plan.length→optB m (j:Nat) (plan.getD j 0)=true
theorem FP.pm {m:Mdl} {plan:List Int} (h:FP m plan):PM m plan:=⟨h.len,fun j hj=>.inr (h.get j hj)⟩
def SB (s:SC) (n:Nat):Prop:=0≤s.1∧s.1≤1048576 * n∧0≤s.2∧s.2≤1099511627776 * n
theorem SB.zero:SB (0,0) 0:=by unfold SB;decide
theorem SB.mono {s:SC} {n k:Nat} (h:SB s n) (hk:n≤k):SB s k:=by unfold SB at *;omega
def CostB (c:Int):Prop:=0≤c∧c≤1048576∨c=1099511627776
theorem cb_mul {c t:Int} (hc:0≤c∧c≤1048576) (ht:0≤t∧t≤1048576):0≤c * t∧c * t≤1099511627776 :=
  ⟨Int.mul_nonneg hc.1 ht.1,Int.le_trans (Int.mul_le_mul hc.2 ht.2 ht.1 (by omega)) (by decide)⟩
theorem SB.add {s:SC} {n:Nat} (h:SB s n) {c t:Int} (hc:CostB c) (ht:0≤t∧t≤1048576):SB (scAdd s c t) (n+1):=by
  unfold SB scAdd at *
  split
  · dsimp only;omega
  · have:=cb_mul (hc.resolve_right (by assumption)) ht
    dsimp only;omega
end T
namespace T
def wtV:List Ld→Int→Int→Int
  | [],_,_=>0
  | x::r,i,o=>if x.cls=i∧x.opt=o then x.wt else wtV r i o
def sumW (l:List Ld):Nat→List Int→Int
  | _,[]=>0
  | i,o::r=>wtV l i o+sumW l (i+1) r
theorem sumW_nil:∀ (plan:List Int) (i:Nat),sumW [] i plan=0
  | [],_=>rfl
  | o::r,i=>by rw[sumW,wtV,sumW_nil r];rfl
theorem sumW_cons (x:Ld) (l:List Ld):∀ (plan:List Int) (i:Nat),sumW (x::l) i plan=sumW l i plan+if (i:Int)≤x.cls∧x.cls<i+plan.length∧plan.getD (x.cls - i).toNat 0=x.opt then x.wt - wtV l x.cls x.opt else 0
  | [],i=>by rw[sumW,sumW,if_neg (by simp;omega)];rfl
  | o::r,i=>by
    rw[sumW,sumW,sumW_cons x l r (i+1),wtV]
    by_cases h:x.cls=i
    · rw[if_neg (c:=((i+1:Nat):Int)≤x.cls∧_) (by omega)]
      rw[show (x.cls - i).toNat=0 by omega,List.getD_cons_zero,List.length_cons]
      by_cases ho:x.opt=o
      · rw[if_pos ⟨h,ho⟩,if_pos ⟨by omega,by omega,ho.symm⟩,h,ho];omega
      · rw[if_neg (fun h'=>ho h'.2),if_neg (fun h'=>ho h'.2.2.symm)];omega
    · rw[if_neg (c:=x.cls=i∧x.opt=o) (fun h'=>h h'.1)]
      have e:((i+1:Nat):Int)≤x.cls∧x.cls<(i+1:Nat)+r.length∧r.getD (x.cls - (i+1:Nat)).toNat 0=x.opt↔(i:Int)≤x.cls∧x.cls<i+(o::r).length∧(o::r).getD (x.cls - i).toNat 0=x.opt:=by
        rw[List.length_cons]
        by_cases hlt:(i:Int)<x.cls
        · rw[show (x.cls - i).toNat=(x.cls - (i+1:Nat)).toNat+1 by omega,List.getD_cons_succ]
          constructor
          · rintro ⟨a,b,c⟩;exact⟨by omega,by omega,c⟩
          · rintro ⟨a,b,c⟩;exact⟨by omega,by omega,c⟩
        · constructor
          · rintro ⟨a,b,c⟩;omega
          · rintro ⟨a,b,c⟩;omega
      simp only[e]
      omega
theorem wtV_none:∀ (l:List Ld) (i o:Int),(∀ y∈l,¬ (y.cls=i∧y.opt=o))→wtV l i o=0
  | [],_,_,_=>rfl
  | x::r,i,o,h=>by rw[wtV,if_neg (h x (by simp)),wtV_none r i o fun y hy=>h y (by simp[hy])]
theorem ldL_gt {m:Mdl}:∀ {l:List Ld} {q:Ld},ldL m (some q) l=true→∀ y∈l,q.cls<y.cls∨(q.cls=y.cls∧q.opt<y.opt)
  | [],_,_,y,hy=>by simp at hy
  | x::r,q,h,y,hy=>by
    rw[ldL] at h
    simp only[Bool.and_eq_true,decide_eq_true_eq] at h
    have h1:=ldOrd_lt.1 h.1.2
    rcases List.mem_cons.1 hy with rfl | hy
    · exact h1
    · have:=ldL_gt h.2 y hy;omega
theorem loadS_sumW {m:Mdl} {plan:List Int} (hp:plan.length=m.cls.length):∀ {l:List Ld} {q:Option Ld} (n:Int),ldL m q l=true→loadS plan l n=n+sumW l 0 plan
  | [],_,n,_=>by rw[loadS,sumW_nil];omega
  | x::r,q,n,h=>by
    have hr:ldL m (some x) r=true:=by
      rw[ldL.eq_def] at h
      simp only[Bool.and_eq_true] at h
      exact h.2
    have hx:=(ldL_mem h x (by simp)).1
    obtain ⟨a,b,c,d⟩:=optB_iff.1 hx
    rw[loadS,loadS_sumW hp _ hr,sumW_cons,wtV_none r x.cls x.opt (fun y hy he=>by have:=ldL_gt hr y hy;omega)]
    rw[show (x.cls - ((0:Nat):Int)).toNat=x.cls.toNat by simp]
    by_cases e:plan.getD x.cls.toNat 0=x.opt
    · rw[if_pos e,if_pos ⟨by omega,by omega,e⟩];omega
    · rw[if_neg e,if_neg (fun h'=>e h'.2.2)];omega
theorem wtV_range {l:List Ld} (h:∀ x∈l,1≤x.wt∧x.wt≤1000) (i o:Int):0≤wtV l i o∧wtV l i o≤1000:=by
  induction l with
  | nil=>simp[wtV]
  | cons x r ih =>
    rw[wtV]
    have:=h x (by simp)
    have:=ih fun y hy=>h y (by simp[hy])
    split<;>omega
end T
namespace T
structure Sat (R:Int) (out:List Int) (v:Int):Prop where
  ok:OutOK R out
  v0:0≤v
  eq:min (sumL out) 1099511627776=min v 1099511627776
theorem sumL_upd:∀ (l:List Int) (i:Nat) (x:Int),i<l.length→sumL (l.set i x)=sumL l - l.getD i 0+x
  | [],i,x,h=>by simp at h
  | y::r,0,x,_=>by simp only[List.set_cons_zero,sumL,List.getD_cons_zero];omega
  | y::r,i+1,x,h=>by
    have:=sumL_upd r i x (by simpa using h)
    simp only[List.set_cons_succ,sumL,List.getD_cons_succ];omega
theorem Sat.add {R:Int} {out:List Int} {v r d:Int} (h:Sat R out v) (hr:0≤r∧r<R) (hd:In41 d):Sat R (addAt out r d) (v+d):=by
  have hlen:=h.ok.1
  have hi:r.toNat<out.length:=by omega
  have hs:=sumL_mem h.ok.2 _ (getD_mem (d:=(0:Int)) hi)
  have hset:=sumL_upd out r.toNat (addC (out.getD r.toNat 0) d) hi
  have hg:=h.ok.get r.toNat
  have he:=h.eq
  have hv:=h.v0
  unfold In41 at hg
  have hd2:=hd
  unfold In41 at hd2
  refine⟨h.ok.add hd,by omega,?_⟩
  unfold addAt
  rw[hset]
  unfold addC
  omega
theorem Sat.le {R:Int} {out:List Int} {v w:Int} (h:Sat R out v) (hw:0≤w) (e:min v 1099511627776=min w 1099511627776):Sat R out w:=⟨h.ok,hw,h.eq.trans e⟩
theorem sat_ch {R:Int}:∀ (l:List (Int × Int)) (out:List Int) (v n:Int),(∀ c∈l,ruleB R c.1=true∧priceB c.2=true)→0≤v→In41 n→Sat R out (v+n)→Sat R (chargesL l out) (v+(l.map (·.2)).foldl addC n)
  | [],out,v,n,_,_,_,h=>h
  | c::r,out,v,n,hc,hv,hn0,h=>by
    rw[chargesL]
    have h1:=hc c (by simp)
    have hr:=h1.1
    rw[ruleB,decide_eq_true_eq] at hr
    have hp:=price_in h1.2
    have h2:=h.add hr hp
    refine sat_ch r _ v (addC n c.2) (fun x hx=>hc x (by simp[hx])) hv (addC_in hn0 hp) (h2.le ?_ ?_)
    · have:=addC_in hn0 hp;unfold In41 at this;omega
    · unfold In41 at hp hn0;unfold addC;omega
theorem sat_plan {m:Mdl} (hm:VM m):∀ (plan:List Int) (i:Nat) (out:List Int) (v:Int),(∀ j,j<plan.length→optB m ((i+j:Nat):Int) (plan.getD j 0)=true) →
    Sat m.rules out v→Sat m.rules (planC m i plan out) (v+sumN (fun j=>ownS ((m.cls.getD (i+j) default).getD (plan.getD j 0).toNat default)) plan.length)
  | [],i,out,v,_,h=>by show Sat m.rules out (v+0);rw[Int.add_zero];exact h
  | o::r,i,out,v,hg,h=>by
    rw[planC]
    have h0:=hg 0 (by simp)
    rw[List.getD_cons_zero,Nat.add_zero] at h0
    obtain ⟨b1,b2,b3,b4⟩:=optB_iff.1 h0
    rw[Int.toNat_natCast] at b4
    rw[if_neg (by omega)]
    have hl:=getD_mem (l:=m.cls) (i:=i) (d:=default) (by omega)
    have ho:=getD_mem (l:=m.cls.getD i default) (i:=o.toNat) (d:=default) (by omega)
    have hch:=hm.chs _ hl _ ho
    have h1:=sat_ch _ out v 0 (chL_mem hch) h.v0 (by unfold In41;decide) (by rw[Int.add_zero];exact h)
    have h2:=sat_plan hm r (i+1) _ _ (fun j hj=>by
      have:=hg (j+1) (by simpa using hj)
      rwa [List.getD_cons_succ,show i+(j+1)=i+1+j by omega] at this) h1
    rw[List.length_cons,sumN_head]
    simp only[List.getD_cons_zero,List.getD_cons_succ,Nat.add_zero]
    rw[← Int.add_assoc]
    rw[sumN_congr (g:=fun j=>ownS ((m.cls.getD (i+(j+1)) default).getD (r.getD j 0).toNat default)) r.length fun j _=>by rw[show i+1+j=i+(j+1) by omega]] at h2
    exact h2
def entP (m:Mdl) (plan:List Int) (p:Pr):Int:=entryV m p (plan.getD p.fst.toNat 0) (plan.getD p.snd.toNat 0)
theorem sat_prs {m:Mdl} {plan:List Int} (hp:FP m plan):∀ (l:List Pr) (out:List Int) (v:Int),(∀ p∈l,pairB m p=true)→Sat m.rules out v →
    Sat m.rules (pairC m plan l out) (v+sumN (fun i=>entP m plan (l.getD i default)) l.length)
  | [],out,v,_,h=>by show Sat m.rules out (v+0);rw[Int.add_zero];exact h
  | p::r,out,v,hg,h=>by
    rw[pairC]
    have hpb:=hg p (by simp)
    obtain ⟨q1,q2,q3,q4,q5⟩:=pairB_iff hpb
    have hpl:=hp.len
    have g1:=hp.get p.fst.toNat (by omega)
    have g2:=hp.get p.snd.toNat (by omega)
    have a1:=optB_iff.1 g1
    have a2:=optB_iff.1 g2
    rw[if_pos ⟨a1.2.2.1,a2.2.2.1⟩]
    have h2:=sat_prs hp r _ _ (fun x hx=>hg x (by simp[hx])) (h.add q1 (entry_in hpb (plan.getD p.fst.toNat 0) (plan.getD p.snd.toNat 0)))
    rw[List.length_cons,sumN_head]
    simp only[List.getD_cons_zero,List.getD_cons_succ]
    rw[← Int.add_assoc]
    exact h2
def excP (plan:List Int) (c:Ct):Int:=excV c.most c.pen (loadS plan c.loads 0)
theorem sat_cts {m:Mdl} {plan:List Int}:∀ (l:List Ct) (out:List Int) (v:Int),(∀ c∈l,ctB m c=true)→Sat m.rules out v →
    Sat m.rules (countC plan l out) (v+sumN (fun i=>excP plan (l.getD i default)) l.length)
  | [],out,v,_,h=>by show Sat m.rules out (v+0);rw[Int.add_zero];exact h
  | c::r,out,v,hg,h=>by
    rw[countC]
    obtain ⟨q1,q2,q3,q4⟩:=ctB_iff (hg c (by simp))
    have h2:=sat_cts (plan:=plan) r _ _ (fun x hx=>hg x (by simp[hx])) (h.add q1 (excV_in (most:=c.most) (sum:=loadS plan c.loads 0) (price_in q3)))
    rw[List.length_cons,sumN_head]
    simp only[List.getD_cons_zero,List.getD_cons_succ]
    rw[← Int.add_assoc]
    exact h2
def ownP (m:Mdl) (plan:List Int) (j:Nat):Int:=ownS ((m.cls.getD j default).getD (plan.getD j 0).toNat default)
theorem total_sum {m:Mdl} {plan:List Int} (hv:VM m) (hp:FP m plan):totalL (rulesV m plan) 0 =
    min (sumN (ownP m plan) m.cls.length+sumN (fun i=>entP m plan (m.prs.getD i default)) m.prs.length+sumN (fun i=>excP plan (m.cts.getD i default)) m.cts.length) 1099511627776:=by
  have h0:Sat m.rules (List.replicate m.rules.toNat 0) 0:=by
    refine⟨OutOK.rep hv.rul.1,by decide,?_⟩
    have:∀ k,sumL (List.replicate k 0)=0:=by
      intro k
      induction k with
      | zero=>rfl
      | succ k ih=>rw[List.replicate_succ,sumL,ih];rfl
    rw[this]
  have h1:=sat_plan hv plan 0 _ _ (fun j hj=>by rw[Nat.zero_add];exact hp.get j hj) h0
  have h2:=sat_prs hp m.prs _ _ (prsL_mem hv.pr) h1
  have h3:=sat_cts (plan:=plan) m.cts _ _ hv.ct h2
  have htot:=totalL_sum (rulesV_ok hv plan).2 (n:=0) (by unfold In41;decide)
  have he:=h3.eq
  change min (sumL (rulesV m plan)) _=_ at he
  rw[htot,Int.zero_add,he,Int.zero_add,hp.len]
  simp only[Nat.zero_add]
  rfl
end T
namespace T
theorem sumL_set:∀ (l:List Int) (i:Nat) (x:Int),i<l.length→sumL (l.set i x)=sumL l - l.getD i 0+x
  | [],i,x,h=>by simp at h
  | y::r,0,x,_=>by simp only[List.set_cons_zero,sumL,List.getD_cons_zero];omega
  | y::r,i+1,x,h=>by
    have:=sumL_set r i x (by simpa using h)
    simp only[List.set_cons_succ,sumL,List.getD_cons_succ];omega
structure Rel (R:Int) (out:List Int) (s:SC) (n:Nat):Prop where
  ok:OutOK R out
  b0:0≤s.1
  c0:0≤s.2∧s.2≤1048576 * n
  eq:s.1=0→sumL out=s.2
  ff:0<s.1→1099511627776∈out
theorem Rel.mono {R:Int} {out:List Int} {s:SC} {n k:Nat} (h:Rel R out s n) (hk:n≤k):Rel R out s k :=
  ⟨h.ok,h.b0,by have:=h.c0;omega,h.eq,h.ff⟩
theorem Rel.add {R:Int} {out:List Int} {s:SC} {n k:Nat} (h:Rel R out s n) {r d c t:Int} (hr:0≤r∧r<R) (ht:0≤t)
    (hc:(c=1099511627776∧d=if 0<t then 1099511627776 else 0)∨(c≠1099511627776∧d=c * t∧0≤d∧d≤1048576 * k)) (hb:n+k<1048576) :
    Rel R (addAt out r d) (scAdd s c t) (n+k):=by
  have hin:In41 d:=by
    unfold In41
    rcases hc with ⟨_,h⟩ | ⟨_,_,h1,h2⟩
    · rw[h];split<;>omega
    · omega
  have hlen:=h.ok.1
  have hi:r.toNat<out.length:=by omega
  have hg:=h.ok.get r.toNat
  have hmem:=getD_mem (d:=(0:Int)) hi
  have hs:=sumL_mem h.ok.2 _ hmem
  have hset:=sumL_set out r.toNat (addC (out.getD r.toNat 0) d) hi
  have hc0:=h.c0
  have hb0:=h.b0
  have hself:addC (out.getD r.toNat 0) d∈addAt out r d:=by
    unfold addAt
    have:(out.set r.toNat (addC (out.getD r.toNat 0) d)).getD r.toNat 0=addC (out.getD r.toNat 0) d:=by
      rw[List.getD_eq_getElem?_getD,List.getElem?_set_self hi];rfl
    have hm':=getD_mem (l:=out.set r.toNat (addC (out.getD r.toNat 0) d)) (i:=r.toNat) (d:=0) (by simpa using hi)
    rwa [this] at hm'
  have hstay:1099511627776∈out→1099511627776∈addAt out r d:=by
    intro hm
    obtain ⟨j,hj,hje⟩:=List.mem_iff_getElem.1 hm
    by_cases hjr:r.toNat=j
    · subst hjr
      have:out.getD r.toNat 0=1099511627776:=by rw[List.getD_eq_getElem?_getD,List.getElem?_eq_getElem hj];exact hje
      rw[this] at hself
      have e:addC 1099511627776 d=1099511627776:=by unfold In41 at hin;unfold addC;omega
      rwa [e] at hself
    · have:(addAt out r d).getD j 0=1099511627776:=by
        unfold addAt
        rw[List.getD_eq_getElem?_getD,List.getElem?_set_ne hjr,List.getElem?_eq_getElem hj];exact hje
      have hm':=getD_mem (l:=addAt out r d) (i:=j) (d:=0) (by unfold addAt;simpa using hj)
      rwa [this] at hm'
  unfold In41 at hg hin
  rcases hc with ⟨hcF,hd⟩ | ⟨hcF,hd,hd0,hdk⟩
  · unfold scAdd
    rw[if_pos hcF]
    refine⟨h.ok.add (by unfold In41;exact hin),by dsimp only;omega,by dsimp only;omega,fun hz=>?_,fun hz=>?_⟩
    · dsimp only at hz ⊢
      have:d=0:=by rw[hd,if_neg (by omega)]
      rw[← h.eq (by omega)]
      unfold addAt
      rw[hset]
      unfold addC
      omega
    · dsimp only at hz
      by_cases htz:0<t
      · have:addC (out.getD r.toNat 0) d=1099511627776:=by rw[hd,if_pos htz];unfold addC;omega
        rwa [this] at hself
      · exact hstay (h.ff (by omega))
  · unfold scAdd
    rw[if_neg hcF,← hd]
    refine⟨h.ok.add (by unfold In41;exact hin),by dsimp only;omega,by dsimp only;omega,fun hz=>?_,fun hz=>?_⟩
    · dsimp only at hz ⊢
      have he:=h.eq hz
      unfold addAt
      rw[hset]
      unfold addC
      omega
    · exact hstay (h.ff hz)
theorem planL_of {m:Mdl}:∀ (plan:List Int) (i:Nat),(∀ j,j<plan.length→plan.getD j 0 = -1∨optB m ((i+j:Nat):Int) (plan.getD j 0)=true)→planL m i plan=true
  | [],_,_=>rfl
  | o::r,i,h=>by
    rw[planL,Bool.and_eq_true,Bool.or_eq_true,decide_eq_true_eq]
    refine⟨by simpa using h 0 (by simp),planL_of r (i+1) fun j hj=>?_⟩
    have:=h (j+1) (by simpa using hj)
    rwa [List.getD_cons_succ,show i+(j+1)=i+1+j by omega] at this
theorem pm_planned {m:Mdl} {plan:List Int} (h:PM m plan):plannedV m plan=true:=by
  rw[plannedV,if_neg (by rw[h.len];simp)]
  exact planL_of plan 0 fun j hj=>by rw[Nat.zero_add];exact h.get j hj
end T
namespace T
def tCh (l:List (Int × Int)) (s:Int):Int:=(l.map (·.2)).foldl addC s
def tPlan (m:Mdl):Nat→List Int→Int→Int
  | _,[],s=>s
  | i,o::r,s=>tPlan m (i+1) r (if o<0 then s else tCh ((m.cls.getD i default).getD o.toNat default).ch s)
def tPrs (m:Mdl) (plan:List Int):List Pr→Int→Int
  | [],s=>s
  | p::r,s=>tPrs m plan r (if 0≤plan.getD p.fst.toNat 0∧0≤plan.getD p.snd.toNat 0 then addC s (entryV m p (plan.getD p.fst.toNat 0) (plan.getD p.snd.toNat 0)) else s)
def excN (plan:List Int) (c:Ct):Int:=max (loadS plan c.loads 0 - c.most) 0
def tCts (plan:List Int):List Ct→Int→Int
  | [],s=>s
  | c::r,s=>tCts plan r (addC s (timesV (excN plan c) c.pen))
def totW (m:Mdl) (plan:List Int):Int:=tCts plan m.cts (tPrs m plan m.prs (tPlan m 0 plan 0))
theorem exc_times {c:Ct} {plan:List Int} (h:priceB c.pen=true):timesV (excN plan c) c.pen=excV c.most c.pen (loadS plan c.loads 0):=by
  unfold priceB at h
  rw[decide_eq_true_eq] at h
  unfold timesV excN excV
  generalize loadS plan c.loads 0=s
  by_cases h1:s≤c.most
  · rw[if_pos (by omega),if_pos h1]
  · rw[if_neg (by omega),if_neg h1,show max (s - c.most) 0=s - c.most by omega]
    by_cases h2:1099511627776≤c.pen
    · rw[if_pos h2]
      have:1 * 1099511627776≤(s - c.most) * c.pen:=Int.mul_le_mul (by omega) h2 (by omega) (by omega)
      omega
    · rw[if_neg h2]
theorem Sat.cut {R:Int} {out:List Int} {s d:Int} (h:Sat R out (s+d)) (hs:In41 s) (hd:In41 d):Sat R out (addC s d):=by
  have:=addC_in hs hd
  unfold In41 at this hs hd
  exact h.le this.1 (by unfold addC;omega)
theorem tCh_in:∀ (l:List (Int × Int)) (s:Int),(∀ c∈l,In41 c.2)→In41 s→In41 (tCh l s)
  | [],s,_,h=>h
  | c::r,s,hc,h=>by
    show In41 (tCh r (addC s c.2))
    exact tCh_in r _ (fun x hx=>hc x (by simp[hx])) (addC_in h (hc c (by simp)))
theorem chsW_in {m:Mdl} (hm:VM m) (i k:Nat):∀ c∈((m.cls.getD i default).getD k default).ch,ruleB m.rules c.1=true∧priceB c.2=true:=by
  rcases Nat.lt_or_ge i m.cls.length with hi | hi
  · have hl:=getD_mem (l:=m.cls) (i:=i) (d:=default) hi
    rcases Nat.lt_or_ge k (m.cls.getD i default).length with hk | hk
    · exact chL_mem (hm.chs _ hl _ (getD_mem (d:=default) hk))
    · rw[List.getD_eq_getElem?_getD (l:=m.cls.getD i default),List.getElem?_eq_none hk];intro c hc;cases hc
  · rw[List.getD_eq_getElem?_getD (l:=m.cls),List.getElem?_eq_none hi];intro c hc;cases hc
theorem tw_plan {m:Mdl} (hm:VM m):∀ (plan:List Int) (i:Nat) (out:List Int) (s:Int),Sat m.rules out s→In41 s→Sat m.rules (planC m i plan out) (tPlan m i plan s)∧In41 (tPlan m i plan s)
  | [],i,out,s,h,hs=>⟨h,hs⟩
  | o::r,i,out,s,h,hs=>by
    rw[planC,tPlan]
    by_cases ho:o<0
    · rw[if_pos ho,if_pos ho];exact tw_plan hm r _ _ _ h hs
    · rw[if_neg ho,if_neg ho]
      have hc:=chsW_in hm i o.toNat
      have h1:=sat_ch _ out 0 s hc (Int.le_refl _) hs (by rw[Int.zero_add];exact h)
      rw[Int.zero_add] at h1
      exact tw_plan hm r _ _ _ h1 (tCh_in _ _ (fun c hx=>price_in (hc c hx).2) hs)
theorem tw_prs {m:Mdl} {plan:List Int}:∀ (l:List Pr) (out:List Int) (s:Int),(∀ p∈l,pairB m p=true)→Sat m.rules out s→In41 s→Sat m.rules (pairC m plan l out) (tPrs m plan l s)∧In41 (tPrs m plan l s)
  | [],out,s,_,h,hs=>⟨h,hs⟩
  | p::r,out,s,hg,h,hs=>by
    rw[pairC,tPrs]
    have hpb:=hg p (by simp)
    obtain ⟨q1,q2,q3,q4,q5⟩:=pairB_iff hpb
    by_cases hc:0≤plan.getD p.fst.toNat 0∧0≤plan.getD p.snd.toNat 0
    · rw[if_pos hc,if_pos hc]
      have he:=entry_in hpb (plan.getD p.fst.toNat 0) (plan.getD p.snd.toNat 0)
      exact tw_prs r _ _ (fun x hx=>hg x (by simp[hx])) ((h.add q1 he).cut hs he) (addC_in hs he)
    · rw[if_neg hc,if_neg hc]
      exact tw_prs r _ _ (fun x hx=>hg x (by simp[hx])) h hs
theorem tw_cts {m:Mdl} {plan:List Int}:∀ (l:List Ct) (out:List Int) (s:Int),(∀ c∈l,ctB m c=true)→Sat m.rules out s→In41 s→Sat m.rules (countC plan l out) (tCts plan l s)∧In41 (tCts plan l s)
  | [],out,s,_,h,hs=>⟨h,hs⟩
  | c::r,out,s,hg,h,hs=>by
    rw[countC,tCts]
    obtain ⟨q1,q2,q3,q4⟩:=ctB_iff (hg c (by simp))
    have he:=excV_in (most:=c.most) (sum:=loadS plan c.loads 0) (price_in q3)
    rw[exc_times q3]
    exact tw_cts r _ _ (fun x hx=>hg x (by simp[hx])) ((h.add q1 he).cut hs he) (addC_in hs he)
theorem totW_eq {m:Mdl} (hm:VM m) (plan:List Int):totW m plan=totalL (rulesV m plan) 0:=by
  have h0:Sat m.rules (List.replicate m.rules.toNat 0) 0:=by
    refine⟨OutOK.rep hm.rul.1,by decide,?_⟩
    have:∀ k,sumL (List.replicate k 0)=0:=by
      intro k
      induction k with
      | zero=>rfl
      | succ k ih=>rw[List.replicate_succ,sumL,ih];rfl
    rw[this]
  have h1:=tw_plan hm plan 0 _ _ h0 (by unfold In41;decide)
  have h2:=tw_prs (plan:=plan) m.prs _ _ (prsL_mem hm.pr) h1.1 h1.2
  have h3:=tw_cts (plan:=plan) m.cts _ _ hm.ct h2.1 h2.2
  have htot:=totalL_sum (rulesV_ok hm plan).2 (n:=0) (by unfold In41;decide)
  have he:=h3.1.eq
  have hs:=h3.2
  change min (sumL (rulesV m plan)) _=min (totW m plan) _ at he
  change In41 (totW m plan) at hs
  unfold In41 at hs
  rw[htot,Int.zero_add,he]
  omega
end T
namespace T
def costP (m:Mdl) (plan:List Int):Int:=totalL (rulesV m plan) 0
def chgF (m:Mdl) (plan:List Int) (c k:Nat):Int:=costP m (plan.set c (k:Int))
def posV (f:Nat→Int):Nat→Nat→Int→Int→Int→Int × Int × Int
  | 0,_,a,b,l=>(a,b,l)
  | n+1,k,a,b,l=>if 1099511627776≤f k then posV f n (k+1) a b l else posV f n (k+1) (a+1) (if f k<l then (k:Int) else b) (if f k<l then f k else l)
def possV (m:Mdl) (plan:List Int) (c:Nat):Int × Int :=
  ((posV (chgF m plan c) (m.cls.getD c default).length 0 0 (-1) 1099511627776).1,(posV (chgF m plan c) (m.cls.getD c default).length 0 0 (-1) 1099511627776).2.1)
def plcV (f:Nat→Int):Nat→Nat→Int→Int→Int
  | 0,_,_,b=>b
  | n+1,k,l,b=>if f k<l then plcV f n (k+1) (f k) k else plcV f n (k+1) l b
def cntV (f:Nat→Int):Nat→Nat→Int→Int
  | 0,_,a=>a
  | n+1,k,a=>if f k<1099511627776 then cntV f n (k+1) (a+1) else cntV f n (k+1) a
theorem posV_plc (f:Nat→Int):∀ (n k:Nat) (a b l:Int),l≤1099511627776→(posV f n k a b l).2.1=plcV f n k l b
  | 0,_,_,_,_,_=>rfl
  | n+1,k,a,b,l,h=>by
    rw[posV,plcV]
    by_cases h1:1099511627776≤f k
    · rw[if_pos h1,if_neg (by omega)];exact posV_plc f n _ _ _ _ h
    · rw[if_neg h1]
      by_cases h2:f k<l
      · rw[if_pos h2,if_pos h2,if_pos h2];exact posV_plc f n _ _ _ _ (by omega)
      · rw[if_neg h2,if_neg h2,if_neg h2];exact posV_plc f n _ _ _ _ h
theorem posV_cnt (f:Nat→Int):∀ (n k:Nat) (a b l:Int),(posV f n k a b l).1=cntV f n k a
  | 0,_,_,_,_=>rfl
  | n+1,k,a,b,l=>by
    unfold posV cntV
    by_cases h1:1099511627776≤f k
    · rw[if_pos h1,if_neg (by omega)];exact posV_cnt f n _ _ _ _
    · have h2:f k<1099511627776:=by omega
      rw[if_neg h1,if_pos h2];exact posV_cnt f n _ _ _ _
def plcM (m:Mdl) (plan:List Int) (c:Nat):Int:=plcV (chgF m plan c) (m.cls.getD c default).length 0 1099511627776 (-1)
def cntM (m:Mdl) (plan:List Int) (c:Nat):Int:=cntV (chgF m plan c) (m.cls.getD c default).length 0 0
theorem possV_eq (m:Mdl) (plan:List Int) (c:Nat):possV m plan c=(cntM m plan c,plcM m plan c):=by
  unfold possV cntM plcM
  rw[posV_cnt,posV_plc _ _ _ _ _ _ (Int.le_refl _)]
theorem plcV_range (f:Nat→Int):∀ (n k:Nat) (l b:Int),(-1≤b∧b<k)→-1≤plcV f n k l b∧plcV f n k l b<(k+n:Nat)
  | 0,k,_,b,h=>⟨h.1,by rw[plcV,Nat.add_zero];exact h.2⟩
  | n+1,k,l,b,h=>by
    rw[plcV,show k+(n+1)=k+1+n by omega]
    split
    · exact plcV_range f n (k+1) _ _ ⟨by omega,by omega⟩
    · exact plcV_range f n (k+1) _ _ ⟨h.1,by omega⟩
theorem plcM_range (m:Mdl) (plan:List Int) (c:Nat) : -1≤plcM m plan c∧plcM m plan c<(m.cls.getD c default).length:=by
  have:=plcV_range (chgF m plan c) (m.cls.getD c default).length 0 1099511627776 (-1) ⟨by omega,by omega⟩
  rw[Nat.zero_add] at this
  exact this
theorem pm_set {m:Mdl} {plan:List Int} (h:PM m plan) {c:Nat} {o:Int} (ho:o = -1∨optB m (c:Nat) o=true):PM m (plan.set c o):=⟨by rw[List.length_set];exact h.len,fun j hj=>by
  rw[List.length_set] at hj
  by_cases hjc:c=j
  · subst hjc
    rw[List.getD_eq_getElem?_getD,List.getElem?_set_self hj,Option.getD_some];exact ho
  · rw[List.getD_eq_getElem?_getD,List.getElem?_set_ne hjc,← List.getD_eq_getElem?_getD];exact h.get j hj⟩
theorem plcM_pm {m:Mdl} {plan:List Int} (h:PM m plan) {c:Nat} (hc:c<m.cls.length):PM m (plan.set c (plcM m plan c)):=by
  refine pm_set h ?_
  have:=plcM_range m plan c
  by_cases h1:plcM m plan c = -1
  · exact .inl h1
  · exact .inr (optB_iff.2 ⟨by omega,by omega,by omega,by rw[Int.toNat_natCast];exact this.2⟩)
def noneV (m:Mdl):List Int:=List.replicate m.cls.length (-1)
theorem noneV_pm (m:Mdl):PM m (noneV m):=⟨by unfold noneV;simp,fun j hj=>.inl (by
  unfold noneV at hj ⊢
  rw[List.length_replicate] at hj
  rw[List.getD_eq_getElem?_getD,List.getElem?_replicate,if_pos hj];rfl)⟩
def hardB (c:Ct):Bool:=decide (c.pen=1099511627776)
def hasF (p:Pr):Bool:=p.tab.any fun n=>decide (n=1099511627776)
def inCt (c:Ct) (a:Int):Bool:=c.loads.any fun l=>decide (l.cls=a)
def nearB (m:Mdl) (a b:Int):Bool:=(m.prs.any fun p=>decide (p.fst=min a b∧p.snd=max a b) && hasF p) || (m.cts.any fun c=>hardB c && inCt c a && inCt c b)
def nbC (m:Mdl) (a:Nat):Nat→Nat→Int→Int
  | 0,_,n=>n
  | f+1,b,n=>nbC m a f (b+1) (if a≠b∧nearB m a b=true then n+1 else n)
def nbV (m:Mdl):List Int:=(List.range m.cls.length).map fun a=>nbC m a m.cls.length 0 0
def insN (l:List Int) (k:Int):List Int:=if k∈l then l else l++[k]
def joinN (near:List (List Int)) (a b:Int):List (List Int) :=
  if a=b then near else
    let n1:=near.set a.toNat (insN (near.getD a.toNat []) b)
    n1.set b.toNat (insN (n1.getD b.toNat []) a)
def nbPrs:List Pr→List (List Int)→List (List Int)
  | [],s=>s
  | p::r,s=>nbPrs r (if hasF p=true then joinN s p.fst p.snd else s)
def nbLd2 (a:Int):List Ld→List (List Int)→List (List Int)
  | [],s=>s
  | l::r,s=>nbLd2 a r (joinN s a l.cls)
def nbLd (ls:List Ld):List Ld→List (List Int)→List (List Int)
  | [],s=>s
  | l::r,s=>nbLd ls r (nbLd2 l.cls ls s)
def nbCts:List Ct→List (List Int)→List (List Int)
  | [],s=>s
  | c::r,s=>nbCts r (if hardB c=true then nbLd c.loads c.loads s else s)
def nbSets (m:Mdl):List (List Int):=nbCts m.cts (nbPrs m.prs (List.replicate m.cls.length []))
structure NS (n:Nat) (R:Int→Int→Prop) (s:List (List Int)):Prop where
  len:s.length=n
  nd:∀ l∈s,l.Nodup
  mem:∀ a,a<n→∀ b,b∈s.getD a []↔(R a b∧(a:Int)≠b)
theorem insN_mem {l:List Int} {k x:Int}:x∈insN l k↔x∈l∨x=k:=by
  unfold insN
  split
  · rename_i h
    constructor
    · exact .inl
    · rintro (h1 | rfl)
      · exact h1
      · exact h
  · simp
theorem insN_nd {l:List Int} {k:Int} (h:l.Nodup):(insN l k).Nodup:=by
  unfold insN
  split
  · exact h
  · rename_i hk
    rw[List.nodup_append]
    exact⟨h,by simp,fun a ha b hb=>by rw[List.mem_singleton.1 hb];exact fun e=>hk (e ▸ ha)⟩
theorem getD_set' {α:Type} (l:List α) (i k:Nat) (x d:α) (hi:i<l.length):(l.set i x).getD k d=if i=k then x else l.getD k d:=by
  simp only[List.getD_eq_getElem?_getD,List.getElem?_set]
  by_cases h:i=k
  · subst h;simp[hi]
  · simp[h]
theorem NS.join {n:Nat} {R:Int→Int→Prop} {s:List (List Int)} (h:NS n R s) {a b:Int} (ha:0≤a∧a<n) (hb:0≤b∧b<n):NS n (fun x y=>R x y∨(x=a∧y=b)∨(x=b∧y=a)) (joinN s a b):=by
  unfold joinN
  by_cases hab:a=b
  · rw[if_pos hab]
    refine⟨h.len,h.nd,fun x hx y=>?_⟩
    rw[h.mem x hx y]
    constructor
    · rintro ⟨h1,h2⟩;exact⟨.inl h1,h2⟩
    · rintro ⟨h1 | ⟨h1,h2⟩ | ⟨h1,h2⟩,h3⟩
      · exact⟨h1,h3⟩
      · exact absurd (h1.trans (hab.trans h2.symm)) h3
      · exact absurd (h1.trans (hab.symm.trans h2.symm)) h3
  · rw[if_neg hab]
    dsimp only
    have hl:=h.len
    have hne:a.toNat≠b.toNat:=by omega
    refine⟨by simp[hl],fun l hlm=>?_,fun x hx y=>?_⟩
    · have hnd:∀ k,(s.getD k []).Nodup:=fun k=>by
        rcases Nat.lt_or_ge k s.length with hk | hk
        · exact h.nd _ (getD_mem hk)
        · rw[List.getD_eq_getElem?_getD,List.getElem?_eq_none hk];exact List.nodup_nil
      rcases List.mem_or_eq_of_mem_set hlm with h1 | h1
      · rcases List.mem_or_eq_of_mem_set h1 with h2 | h2
        · exact h.nd _ h2
        · rw[h2];exact insN_nd (hnd _)
      · rw[h1,getD_set' _ _ _ _ _ (by omega),if_neg hne];exact insN_nd (hnd _)
    · rw[getD_set' _ _ _ _ _ (by rw[List.length_set];omega)]
      by_cases h1:b.toNat=x
      · rw[if_pos h1,getD_set' _ _ _ _ _ (by omega),if_neg hne,insN_mem,h1,h.mem x hx y]
        constructor
        · rintro (⟨h2,h3⟩ | h2)
          · exact⟨.inl h2,h3⟩
          · exact⟨.inr (.inr ⟨by omega,h2⟩),by omega⟩
        · rintro ⟨h2 | ⟨h2,h3⟩ | ⟨h2,h3⟩,h4⟩
          · exact .inl ⟨h2,h4⟩
          · omega
          · exact .inr h3
      · rw[if_neg h1,getD_set' _ _ _ _ _ (by omega)]
        by_cases h2:a.toNat=x
        · rw[if_pos h2,insN_mem,h2,h.mem x hx y]
          constructor
          · rintro (⟨h3,h4⟩ | h3)
            · exact⟨.inl h3,h4⟩
            · exact⟨.inr (.inl ⟨by omega,h3⟩),by omega⟩
          · rintro ⟨h3 | ⟨h3,h4⟩ | ⟨h3,h4⟩,h5⟩
            · exact .inl ⟨h3,h5⟩
            · exact .inr h4
            · omega
        · rw[if_neg h2,h.mem x hx y]
          constructor
          · rintro ⟨h3,h4⟩;exact⟨.inl h3,h4⟩
          · rintro ⟨h3 | ⟨h3,h4⟩ | ⟨h3,h4⟩,h5⟩
            · exact⟨h3,h5⟩
            · omega
            · omega
theorem NS.congr {n:Nat} {R R':Int→Int→Prop} {s:List (List Int)} (h:NS n R s) (hr:∀ x y:Int,x≠y→(R x y↔R' x y)):NS n R' s:=⟨h.len,h.nd,fun a ha b=>by
  rw[h.mem a ha b]
  constructor
  · rintro ⟨h1,h2⟩;exact⟨(hr _ _ h2).1 h1,h2⟩
  · rintro ⟨h1,h2⟩;exact⟨(hr _ _ h2).2 h1,h2⟩⟩
theorem ns_prs {m:Mdl}:∀ (l:List Pr) (R:Int→Int→Prop) (s:List (List Int)),(∀ p∈l,pairB m p=true)→NS m.cls.length R s →
    NS m.cls.length (fun x y=>R x y∨∃ p∈l,hasF p=true∧((x=p.fst∧y=p.snd)∨(x=p.snd∧y=p.fst))) (nbPrs l s)
  | [],R,s,_,h=>h.congr fun x y _=>by simp
  | p::r,R,s,hp,h=>by
    rw[nbPrs]
    obtain ⟨q1,q2,q3,q4,q5⟩:=pairB_iff (hp p (by simp))
    by_cases hf:hasF p=true
    · rw[if_pos hf]
      refine (ns_prs r _ _ (fun x hx=>hp x (by simp[hx])) (h.join (a:=p.fst) (b:=p.snd) (by omega) (by omega))).congr fun x y _=>?_
      simp only[List.mem_cons,exists_eq_or_imp,hf,true_and]
      rw[or_assoc]
    · rw[if_neg hf]
      refine (ns_prs r _ _ (fun x hx=>hp x (by simp[hx])) h).congr fun x y _=>?_
      simp only[List.mem_cons,exists_eq_or_imp,hf,Bool.false_eq_true,false_and,false_or]
theorem ns_ld2 {n:Nat} {a:Int} (ha:0≤a∧a<n):∀ (l:List Ld) (R:Int→Int→Prop) (s:List (List Int)),(∀ x∈l,0≤x.cls∧x.cls<n)→NS n R s →
    NS n (fun x y=>R x y∨∃ q∈l,(x=a∧y=q.cls)∨(x=q.cls∧y=a)) (nbLd2 a l s)
  | [],R,s,_,h=>h.congr fun x y _=>by simp
  | q::r,R,s,hp,h=>by
    rw[nbLd2]
    refine (ns_ld2 ha r _ _ (fun x hx=>hp x (by simp[hx])) (h.join ha (hp q (by simp)))).congr fun x y _=>?_
    simp only[List.mem_cons,exists_eq_or_imp]
    rw[or_assoc]
theorem ns_ld {n:Nat} {ls:List Ld} (hls:∀ x∈ls,0≤x.cls∧x.cls<n):∀ (l:List Ld) (R:Int→Int→Prop) (s:List (List Int)),(∀ x∈l,0≤x.cls∧x.cls<n)→NS n R s →
    NS n (fun x y=>R x y∨∃ p∈l,∃ q∈ls,(x=p.cls∧y=q.cls)∨(x=q.cls∧y=p.cls)) (nbLd ls l s)
  | [],R,s,_,h=>h.congr fun x y _=>by simp
  | p::r,R,s,hp,h=>by
    rw[nbLd]
    refine (ns_ld hls r _ _ (fun x hx=>hp x (by simp[hx])) (ns_ld2 (hp p (by simp)) ls _ _ hls h)).congr fun x y _=>?_
    simp only[List.mem_cons,exists_eq_or_imp]
    rw[or_assoc]
theorem ld_cls {m:Mdl} {c:Ct} (hc:ctB m c=true):∀ x∈c.loads,0≤x.cls∧x.cls<m.cls.length:=fun x hx=>by
  have:=(ldL_mem (ctB_iff hc).2.2.2 x hx).1
  have:=optB_iff.1 this
  omega
theorem ns_cts {m:Mdl}:∀ (l:List Ct) (R:Int→Int→Prop) (s:List (List Int)),(∀ c∈l,ctB m c=true)→NS m.cls.length R s →
    NS m.cls.length (fun x y=>R x y∨∃ c∈l,hardB c=true∧inCt c x=true∧inCt c y=true) (nbCts l s)
  | [],R,s,_,h=>h.congr fun x y _=>by simp
  | c::r,R,s,hp,h=>by
    rw[nbCts]
    have hl:=ld_cls (hp c (by simp))
    by_cases hf:hardB c=true
    · rw[if_pos hf]
      refine (ns_cts r _ _ (fun x hx=>hp x (by simp[hx])) (ns_ld hl c.loads _ _ hl h)).congr fun x y _=>?_
      simp only[List.mem_cons,exists_eq_or_imp,hf,true_and]
      rw[or_assoc]
      refine or_congr Iff.rfl (or_congr ?_ Iff.rfl)
      unfold inCt
      simp only[List.any_eq_true,decide_eq_true_eq]
      constructor
      · rintro ⟨p,hp1,q,hq,(⟨h1,h2⟩ | ⟨h1,h2⟩)⟩
        · exact⟨⟨p,hp1,h1.symm⟩,⟨q,hq,h2.symm⟩⟩
        · exact⟨⟨q,hq,h1.symm⟩,⟨p,hp1,h2.symm⟩⟩
      · rintro ⟨⟨p,hp1,h1⟩,⟨q,hq,h2⟩⟩
        exact⟨p,hp1,q,hq,.inl ⟨h1.symm,h2.symm⟩⟩
    · rw[if_neg hf]
      refine (ns_cts r _ _ (fun x hx=>hp x (by simp[hx])) h).congr fun x y _=>?_
      simp only[List.mem_cons,exists_eq_or_imp,hf,Bool.false_eq_true,false_and,false_or]
theorem ns_all {m:Mdl} (hm:VM m):NS m.cls.length (fun x y=>nearB m x y=true) (nbSets m):=by
  have h0:NS m.cls.length (fun _ _=>False) (List.replicate m.cls.length []):=by
    refine⟨by simp,fun l hl=>by rw[(List.mem_replicate.1 hl).2];exact List.nodup_nil,fun a ha b=>?_⟩
    rw[List.getD_eq_getElem?_getD,List.getElem?_replicate,if_pos ha];simp
  refine (ns_cts m.cts _ _ hm.ct (ns_prs m.prs _ _ (prsL_mem hm.pr) h0)).congr fun x y hxy=>?_
  unfold nearB
  rw[Bool.or_eq_true,List.any_eq_true,List.any_eq_true,false_or]
  refine or_congr ?_ ?_
  · constructor
    · rintro ⟨p,hp,hf,h⟩
      obtain ⟨q1,q2,q3,q4,q5⟩:=pairB_iff (prsL_mem hm.pr p hp)
      refine⟨p,hp,?_⟩
      rw[hf,Bool.and_true,decide_eq_true_eq]
      omega
    · rintro ⟨p,hp,h⟩
      rw[Bool.and_eq_true,decide_eq_true_eq] at h
      exact⟨p,hp,h.2,by omega⟩
  · constructor
    · rintro ⟨c,hc,h1,h2,h3⟩;exact⟨c,hc,by rw[h1,h2,h3];rfl⟩
    · rintro ⟨c,hc,h⟩
      simp only[Bool.and_eq_true] at h
      exact⟨c,hc,h.1.1,h.1.2,h.2⟩
theorem nbC_count (m:Mdl) (a:Nat):∀ (f b:Nat) (n:Int),nbC m a f b n=n+((List.range' b f).countP fun b=>decide (a≠b) && nearB m a b:Nat)
  | 0,b,n=>by simp[nbC]
  | f+1,b,n=>by
    rw[nbC,nbC_count m a f,List.range'_succ,List.countP_cons]
    by_cases h1:a≠b∧nearB m a b=true
    · rw[if_pos h1]
      simp only[h1.2,Bool.and_true,decide_eq_true_eq]
      rw[if_pos h1.1];omega
    · rw[if_neg h1,if_neg (by rw[Bool.and_eq_true,decide_eq_true_eq];exact h1)];omega
theorem nb_eq {m:Mdl} (hm:VM m):(nbSets m).map (fun l=>(l.length:Int))=nbV m:=by
  have h:=ns_all hm
  apply List.ext_getElem
  · simp[nbV,h.len]
  · intro a h1 h2
    have ha:a<m.cls.length:=by simpa [h.len] using h1
    have hs:a<(nbSets m).length:=by rw[h.len];exact ha
    simp only[nbV,List.getElem_map,List.getElem_range]
    rw[nbC_count]
    have hmem:=h.mem a ha
    have hnd:=h.nd _ (List.getElem_mem hs)
    rw[List.getD_eq_getElem?_getD,List.getElem?_eq_getElem hs,Option.getD_some] at hmem
    generalize (nbSets m)[a]=l at *
    have hp:l.Perm (((List.range' 0 m.cls.length).filter fun b=>decide (a≠b) && nearB m a b).map (fun b:Nat=>(b:Int))):=by
      rw[List.perm_ext_iff_of_nodup hnd]
      · intro x
        rw[hmem x,List.mem_map]
        constructor
        · rintro ⟨h3,h4⟩
          have hx:0≤x∧x<m.cls.length:=by
            unfold nearB at h3
            rw[Bool.or_eq_true,List.any_eq_true,List.any_eq_true] at h3
            rcases h3 with ⟨p,hp,h5⟩ | ⟨c,hc,h5⟩
            · rw[Bool.and_eq_true,decide_eq_true_eq] at h5
              obtain ⟨q1,q2,q3,q4,q5⟩:=pairB_iff (prsL_mem hm.pr p hp)
              omega
            · simp only[Bool.and_eq_true] at h5
              have h6:=h5.2
              unfold inCt at h6
              rw[List.any_eq_true] at h6
              obtain ⟨q,hq,h7⟩:=h6
              rw[decide_eq_true_eq] at h7
              have:=ld_cls (hm.ct c hc) q hq
              omega
          refine⟨x.toNat,?_,by omega⟩
          rw[List.mem_filter,List.mem_range'_1]
          refine⟨by omega,?_⟩
          rw[Bool.and_eq_true,decide_eq_true_eq,show ((x.toNat:Nat):Int)=x by omega]
          exact⟨by omega,h3⟩
        · rintro ⟨b,hb,rfl⟩
          rw[List.mem_filter,Bool.and_eq_true,decide_eq_true_eq] at hb
          exact⟨hb.2.2,by have:=hb.2.1;omega⟩
      · rw[List.nodup_iff_pairwise_ne,List.pairwise_map]
        refine (List.Pairwise.filter _ (List.nodup_iff_pairwise_ne.1 List.nodup_range')).imp fun hxy e=>hxy (by omega)
    rw[hp.length_eq,List.length_map,← List.countP_eq_length_filter]
    omega
end T
namespace T
end T

