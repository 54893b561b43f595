import Derived.Test.YtdipcmigdbnheaaGreatX09
import Derived.Test.YtdipcmigdbnheaaGreatX11
set_option linter.unusedVariables false
set_option linter.unusedSimpArgs false
set_option linter.unnecessarySimpa false
set_option linter.unusedSectionVars false
set_option maxHeartbeats 64000000
set_option maxRecDepth 20000
open List renaming mem_iff_getElem→sh,getD_eq_getElem?_getD→aA,getElem?_eq_getElem→bX,mem_cons→cu,not_mem_nil→ly,mem_map→ca,map_append→gW,foldl_append→Cd,append_assoc→dI,foldl_nil→Fm,getElem?_append_right→eK,getElem?_append_left→cn,getElem?_eq_some_iff→aQ,getElem?_set_ne→bm,getElem?_set→b6,getElem?_eq_none→eS,length_set→bI,getElem_map→JS,nodup_append→we,map_cons→dO,map_nil→lQ,mem_singleton→eM,mem_append→cr,mem_of_getElem?→gB,range→aN,getElem?_map→cm,ext_getElem?→nt,map_congr_left→kU,mem_range→lP,getElem?_cons_zero→sk,cons_append→da,nodup_cons→tD,getElem?_cons_succ→v7,getD_cons_succ→eJ
open Option renaming getD_some→mP,bind_some→sm,some→cY,map_some→gf
open Nat renaming le_refl→aG,le_trans→iJ,zero_le→aM,not_lt_zero→v9
open Go Go.Am
open Go Go.Am Go.Proofs
open Nat (reduceEqDiff reduceAdd reduceLeDiff reduceMul)
open Int (reduceNeg reduceLE reduceToNat)
namespace T
def eG (m:aj) (left:List (List Bool)):Prop:=left.length=m.cls.length∧∀ i,i<left.length→(left.getD i default).length=(m.cls.getD i default).length
instance (m:aj) (left:List (List Bool)):Decidable (eG m left):=by unfold eG;infer_instance
theorem eG.row {m:aj} {left:List (List Bool)} (hm:VM m) (h:eG m left):∀ r∈left,r.length≤24:=fun r hr=>by
  obtain ⟨i,hi,rfl⟩:=sh.1 hr
  have:=h.2 i hi
  rw[aA,bX hi] at this
  simp only[mP] at this
  rw[this]
  exact hm.opt _ (aC (by have:=h.1;omega))
end T
namespace T
theorem iD {α:Type} [Inhabited α] {l:List α} {k:Nat} (h:k<l.length):l.take (k+1)=l.take k++[l.getD k default]:=by
  rw[List.take_succ_eq_append_getElem h,aA,bX h];rfl
abbrev Nm:=Int × Bool
def gz (x:Int):Nm:=(x,decide (1099511627776≤x))
def bC (p:Nm):List AV:=[.lit (.int .i64 p.1),.lit (.bool p.2)]
def Ts (p:Nm):List AV:=[.lit (.bool p.2),.lit (.int .i64 p.1)]
instance:Row bC 2:=⟨fun _=>rfl,fun p v hv=>by
  simp only[bC,cu,ly,or_false] at hv
  rcases hv with rfl | rfl<;>exact .inl ⟨_,rfl,rfl⟩⟩
instance:Row Ts 2:=⟨fun _=>rfl,fun p v hv=>by
  simp only[Ts,cu,ly,or_false] at hv
  rcases hv with rfl | rfl<;>exact .inl ⟨_,rfl,rfl⟩⟩
def jg (o:bx):Int:=(o.ch.map (·.2)).foldl dw 0
def jL (l:List bx):List Int:=l.map jg
def hJ (l:List Int):List Nm:=l.map gz
def fx:List Nm→List Bool→Int × Bool→Int × Bool
  | p::r,is::s,b=>fx r s (if is=true∧p.2=false∧(b.2=false∨p.1<b.1) then (p.1,true) else b)
  | _,_,b=>b
theorem Hb {R:Int} {l:List (Int × Int)} (h:dj R none l=true):∀ c∈l,bF c.2:=fun c hc=>jY (uj h c hc).2
theorem DJ:∀ (l:List Int) (n:Int),(∀ x∈l,bF x)→bF n→bF (l.foldl dw n)
  | [],_,_,h=>h
  | x::r,n,hl,h=>DJ r _ (fun y hy=>hl y (by simp[hy])) (xd h (hl x (by simp)))
theorem AR {R:Int} {o:bx} (h:dj R none o.ch=true):bF (jg o):=DJ _ _ (fun x hx=>by
  obtain ⟨c,hc,rfl⟩:=ca.1 hx;exact Hb h c hc) (by unfold bF;decide)
end T
namespace T
structure Mv where
  pair:Int
  side:Int
  opt:Int
  ux:Int
  deriving Inhabited
def vC (x:Mv):List AV:=[.lit (.int .i64 x.pair),.lit (.int .i64 x.side),.lit (.int .i64 x.opt),.lit (.int .i64 x.ux)]
instance:Row vC 4:=⟨fun _=>rfl,fun x v hv=>by
  simp only[vC,cu,ly,or_false] at hv
  rcases hv with rfl | rfl | rfl | rfl<;>exact .inl ⟨_,rfl,rfl⟩⟩
def oZ (m:aj) (x:Mv):Int:=if x.side=0 then (m.ae.getD x.pair.toNat default).fst else (m.ae.getD x.pair.toNat default).snd
def o6 (m:aj) (x:Mv):Bool:=decide (0≤x.pair∧x.pair<m.ae.length∧0≤x.side∧x.side≤1∧-268435456≤x.ux∧x.ux≤268435456) && g7 m (oZ m x) x.opt
theorem OD (l:List (Int × Int)) (k:Nat) (h:k<l.length):(((l.take (k+1)).map (·.2)).foldl dw 0)=dw (((l.take k).map (·.2)).foldl dw 0) (l.getD k default).2:=by
  rw[iD h,gW,Cd];rfl
end T
namespace T
def jl:List Nm→List Bool→List Nm
  | p::r,is::s=>(if is=true then [p] else [])++jl r s
  | _,_=>[]
def zd (b a:Nm):Nm:=if a.2=false∧(b.2=true∨a.1<b.1) then a else b
def qK (l:List Nm):Nm:=l.foldl zd (0,true)
theorem ab5 (l:List Nm) (a:Nm):qK (l++[a])=zd (qK l) a:=by unfold qK;rw[Cd];rfl
theorem H3 (p:Nm) (is:Bool):∀ (l:List Nm) (s:List Bool),l.length=s.length→jl (l++[p]) (s++[is])=jl l s++(if is=true then [p] else [])
  | [],[],_=>by simp[jl]
  | x::r,y::s,h=>by
    show (if y=true then [x] else [])++jl (r++[p]) (s++[is])=_
    rw[H3 p is r s (by simpa using h),jl,dI]
theorem H4:∀ (l:List Nm) (s:List Bool) (b:Int × Bool),(jl l s).foldl zd (b.1,!b.2)=((fx l s b).1,!(fx l s b).2)
  | [],s,b=>by cases s<;>rfl
  | p::r,[],b=>rfl
  | p::r,is::s,b=>by
    rw[jl,fx,Cd]
    cases is with
    | false=>simp only[Bool.false_eq_true,if_false,Fm,false_and];exact H4 r s b
    | true =>
      simp only[if_true,List.foldl_cons,Fm,eq_self,true_and]
      have:zd (b.1,!b.2) p=((if p.2=false∧(b.2=false∨p.1<b.1) then (p.1,true) else b).1,!(if p.2=false∧(b.2=false∨p.1<b.1) then (p.1,true) else b).2):=by
        unfold zd
        obtain ⟨b1,b2⟩:=b
        obtain ⟨p1,p2⟩:=p
        dsimp only
        cases b2<;>cases p2<;>simp
        split<;>rfl
      rw[this]
      exact H4 r s _
theorem abq (l:List Nm) (s:List Bool):qK (jl l s)=((fx l s (0,false)).1,!(fx l s (0,false)).2):=H4 l s (0,false)
end T
namespace T
theorem mi (os:List Ob) (x:Ob) (l:List Ob):(os++x::l)[os.length]?=some x:=by simp
theorem nj (os l:List Ob) (k:Nat):(os++l)[os.length+k]?=l[k]?:=by rw[eK (by omega),Nat.add_sub_cancel_left]
theorem ze (os:List Ob) (x y:Ob) (l:List Ob):(os++x::l).set os.length y=os++y::l:=by rw[List.set_append];simp
theorem El (os l:List Ob) (k:Nat) (y:Ob):(os++l).set (os.length+k) y=os++l.set k y:=by rw[List.set_append_right _ _ (by omega)];simp
theorem bK {os:List Ob} {i:Nat} {o:Ob} (h:os[i]?=some o) (l:List Ob):(os++l)[i]?=some o:=by
  rw[cn (aQ.1 h).1];exact h
theorem hU {os:List Ob} {i:Nat} {o:Ob} (h:os[i]?=some o) (l:List Ob) (y:Ob):(os++l).set i y=os.set i y++l:=by
  rw[List.set_append,if_pos (aQ.1 h).1]
theorem Bf {os:List Ob} {i j:Nat} {o o' y:Ob} (h:os[i]?=some o) (h':os[j]?=some o') (dm:o≠o'):(os.set j y)[i]?=some o:=by
  have:j≠i:=fun e=>dm (by rw[e,h] at h';simpa using h')
  rw[bm this];exact h
theorem iT {os:List Ob} {i:Nat} {o y:Ob} (h:os[i]?=some o):(os.set i y)[i]?=some y:=by
  rw[b6];simp[(aQ.1 h).1]
theorem dC:type_of% @mi∧type_of% @nj∧type_of% @ze∧type_of% @El:=⟨@mi,@nj,@ze,@El⟩
def gT (q:Nat × Nat):List AV:=[.ref q.1 2 0 q.2]
structure RI {α:Type} (enc:α→List AV) (os:List Ob) (D:List (Nat × Nat)) (S:List (List α)):Prop where
  len:D.length=S.length
  row:∀ j,j<D.length→os[(D.getD j default).1]?=some (.arr 2 (rowsOf enc (S.getD j default)))∧(S.getD j default).length=(D.getD j default).2
theorem RI.nil {α:Type} {enc:α→List AV} {os:List Ob}:RI enc os [] ([]:List (List α)):=⟨rfl,by simp⟩
theorem RI.app {α:Type} {enc:α→List AV} {os:List Ob} {D:List (Nat × Nat)} {S:List (List α)} (h:RI enc os D S) (l:List Ob):RI enc (os++l) D S :=
  ⟨h.len,fun j hj=>⟨bK (h.row j hj).1 l,(h.row j hj).2⟩⟩
theorem RI.kill {α:Type} {enc:α→List AV} {os:List Ob} {D:List (Nat × Nat)} {S:List (List α)} (h:RI enc os D S) {i:Nat} {o y:Ob} (ho:os[i]?=some o) (dm:∀ l,o≠.arr 2 l):RI enc (os.set i y) D S :=
  ⟨h.len,fun j hj=>⟨Bf (h.row j hj).1 ho (fun e=>dm _ e.symm),(h.row j hj).2⟩⟩
theorem Em {α:Type} [Inhabited α] (l:List α) (x:α) (j:Nat):(l++[x]).getD j default=if j<l.length then l.getD j default else if j=l.length then x else default:=by
  simp only[aA]
  split
  · rename_i h;rw[cn h]
  · rename_i h
    rw[eK (by omega)]
    split
    · rename_i h2;subst h2;simp
    · rw[eS (by simp;omega)];rfl
theorem RI.snoc {α:Type} {enc:α→List AV} {os:List Ob} {D:List (Nat × Nat)} {S:List (List α)} (h:RI enc os D S) {p:Nat} {r:List α} (hp:os[p]?=some (.arr 2 (rowsOf enc r))):RI enc os (D++[(p,r.length)]) (S++[r]) :=
  ⟨by simp[h.len],fun j hj=>by
    rw[Em,Em,← h.len]
    by_cases h1:j<D.length
    · rw[if_pos h1,if_pos h1];exact h.row j h1
    · have:j=D.length:=by simp at hj;omega
      rw[if_neg h1,if_neg h1,if_pos this,if_pos this];exact⟨hp,rfl⟩⟩
theorem RI.set {α:Type} {enc:α→List AV} {os:List Ob} {D:List (Nat × Nat)} {S:List (List α)} (h:RI enc os D S) (hn:(D.map (·.1)).Nodup) {j:Nat} (hj:j<D.length) {r:List α} (hr:r.length=(S.getD j default).length):RI enc (os.set (D.getD j default).1 (.arr 2 (rowsOf enc r))) D (S.set j r) :=
  ⟨by rw[bI];exact h.len,fun k hk=>by
    by_cases e:k=j
    · subst e
      have:(S.set k r).getD k default=r:=by rw[aA,b6];simp[← h.len,hk]
      rw[this]
      exact⟨iT (h.row k hk).1,hr.trans (h.row k hk).2⟩
    · have:(S.set j r).getD k default=S.getD k default:=by rw[aA,bm (fun e'=>e e'.symm),aA]
      rw[this]
      have dm:(D.getD j default).1≠(D.getD k default).1:=fun hh=>e ((List.getElem_inj (h₀:=by simpa using hk) (h₁:=by simpa using hj) hn).1 (by
        rw[JS,JS]
        have a1:D[k]=D.getD k default:=by simp[hk]
        have a2:D[j]=D.getD j default:=by simp[hj]
        rw[a1,a2];exact hh.symm))
      rw[bm dm]
      exact h.row k hk⟩
theorem RI.other {α:Type} {enc:α→List AV} {os:List Ob} {D:List (Nat × Nat)} {S:List (List α)} (h:RI enc os D S) {i:Nat} (hi:i ∉ D.map (·.1)) {y:Ob}:RI enc (os.set i y) D S :=
  ⟨h.len,fun k hk=>⟨by
    rw[bm (fun e=>hi (ca.2 ⟨D.getD k default,aC hk,e.symm⟩))]
    exact (h.row k hk).1,(h.row k hk).2⟩⟩
theorem RI.fresh {α:Type} {enc:α→List AV} {os:List Ob} {D:List (Nat × Nat)} {S:List (List α)} (h:RI enc os D S) {p:Nat} (hp:os.length≤p):p ∉ D.map (·.1):=fun hh=>by
  obtain ⟨q,hq,rfl⟩:=ca.1 hh
  obtain ⟨k,hk,rfl⟩:=sh.1 hq
  have h1:=(h.row k hk).1
  have a1:D.getD k default=D[k]:=by simp[hk]
  rw[a1] at h1
  have:=(aQ.1 h1).1
  omega
theorem Tt (D:List (Nat × Nat)) (p n:Nat):rowsOf gT D++[[AV.ref p 2 0 n]]=rowsOf gT (D++[(p,n)]):=by simp[rowsOf,gT]
theorem RI.step {α:Type} {enc:α→List AV} {os:List Ob} {D:List (Nat × Nat)} {S:List (List α)} {ai:Nat} {x:Ob} (fa:os[ai]?=some x) (hx:∀ l,x≠.arr 2 l) (hR:RI enc os D S) (cC:(D.map (·.1)).Nodup) (r:List α) (t y:Ob) :
    (os.set ai .gone++[.arr 2 (rowsOf enc r),t,y])[os.length+2]?=some y ∧
    RI enc (os.set ai .gone++[.arr 2 (rowsOf enc r),t,y]) (D++[(os.length,r.length)]) (S++[r])∧((D++[(os.length,r.length)]).map (·.1)).Nodup ∧
    ∀ k o,os[k]?=some o→k≠ai→(os.set ai .gone++[.arr 2 (rowsOf enc r),t,y])[k]?=some o:=by
  have hl:(os.set ai .gone).length=os.length:=bI ..
  refine⟨?_,?_,?_,fun k o hk dm=>bK ?_ _⟩
  · rw[← hl,nj];rfl
  · refine ((hR.kill fa hx).app _).snoc ?_
    rw[← hl,mi]
  · rw[gW,we]
    refine⟨cC,by simp,fun a ha b hb=>?_⟩
    simp only[dO,lQ,eM] at hb
    subst hb
    exact fun e=>hR.fresh (aG _) (e ▸ ha)
  · rw[bm (Ne.symm dm)];exact hk
structure LO {α:Type} (enc:α→List AV) (B:List (Nat × Ob)) (D E:List (Nat × Nat)) (S T:List (List α)) (os:List Ob):Prop where
  base:∀ b∈B,os[b.1]?=some b.2∧∀ l,b.2≠.arr 2 l
  rD:RI enc os D S
  rE:RI enc os E T
  nd:((D++E).map (·.1)).Nodup
section
variable {α:Type} {enc:α→List AV} {B:List (Nat × Ob)} {D E:List (Nat × Nat)} {S T:List (List α)} {os:List Ob}
theorem LO.app (h:LO enc B D E S T os) (l:List Ob):LO enc B D E S T (os++l):=⟨fun b hb=>⟨bK (h.base b hb).1 l,(h.base b hb).2⟩,h.rD.app l,h.rE.app l,h.nd⟩
theorem LO.add (h:LO enc B D E S T os) {k:Nat} {x:Ob} (hk:os[k]?=some x) (hx:∀ l,x≠.arr 2 l):LO enc ((k,x)::B) D E S T os :=
  ⟨fun b hb=>by rcases cu.1 hb with rfl | hb;exact⟨hk,hx⟩;exact h.base b hb,h.rD,h.rE,h.nd⟩
theorem LO.sub (h:LO enc B D E S T os) {C:List (Nat × Ob)} (hc:∀ b∈C,b∈B):LO enc C D E S T os:=⟨fun b hb=>h.base b (hc b hb),h.rD,h.rE,h.nd⟩
end
theorem LO.vars {α:Type} {enc:α→List AV} {B:List (Nat × Ob)} {D E:List (Nat × Nat)} {S T:List (List α)} {os:List Ob} (h:LO enc B D E S T os) {n:Nat} (hn:os.length=n) (x y:Ob) (hx:∀ l,x≠.arr 2 l) (hy:∀ l,y≠.arr 2 l) :
    LO enc ((n,x)::(n+1,y)::B) D E S T (os++[x,y]):=by
  subst hn
  exact ((h.app [x,y]).add (by rw[nj];rfl) hy).add (by rw[mi]) hx
theorem Tu {α:Type} [Inhabited α] (l:List α) (j:Nat) (x:α) (h:j<l.length):(l.set j x).getD j default=x:=by
  rw[aA,b6];simp[h]
theorem LO.kill {α:Type} {enc:α→List AV} {B:List (Nat × Ob)} {D E:List (Nat × Nat)} {S T:List (List α)} {os:List Ob} (h:LO enc B D E S T os) {i:Nat} {x y:Ob} (hi:os[i]?=some x) (hx:∀ l,x≠.arr 2 l) (dm:∀ b∈B,b.1≠i):LO enc B D E S T (os.set i y) :=
  ⟨fun b hb=>⟨by rw[bm (dm b hb).symm];exact (h.base b hb).1,(h.base b hb).2⟩,h.rD.kill hi hx,h.rE.kill hi hx,h.nd⟩
theorem zf (os l:List Ob) (i k:Nat) (y:Ob):(os.set i y++l)[os.length+k]?=l[k]?:=by
  have:=nj (os.set i y) l k
  rwa [bI] at this
end T
namespace T
def gC (m:aj) (ai bi:Nat) (D E:List (Nat × Nat)):List AV:=[.tree 1 (rowsOf bD m.cls),.tree 4 (rowsOf bu m.ae),.tree 4 (rowsOf aO m.au),.lit (.int .i64 m.rules),.ref ai 1 0 D.length,.ref bi 1 0 E.length]
abbrev GB (m:aj) (gi ai bi:Nat) (D E:List (Nat × Nat)):List (Nat × Ob):=[(gi,.var (gC m ai bi D E)),(ai,.arr 1 (rowsOf gT D)),(bi,.arr 1 (rowsOf gT E))]
theorem H5 {m:aj} {gi ai bi:Nat} {D E:List (Nat × Nat)} {S T:List (List Nm)} {os:List Ob} (h:LO bC (GB m gi ai bi D E) D E S T os) :
    os[gi]?=some (.var (gC m ai bi D E))∧os[ai]?=some (.arr 1 (rowsOf gT D))∧os[bi]?=some (.arr 1 (rowsOf gT E)) :=
  ⟨(h.base (gi,_) (by simp)).1,(h.base (ai,.arr 1 (rowsOf gT D)) (by simp)).1,(h.base (bi,.arr 1 (rowsOf gT E)) (by simp)).1⟩
end T
namespace T
def ga (os ob:List Ob):Prop:=∀ (k:Nat) (o:Ob),os[k]?=some o→ob[k]?=some o
theorem ga.refl (os:List Ob):ga os os:=fun _ _ h=>h
theorem ga.app {os ob:List Ob} (h:ga os ob) (l:List Ob):ga os (ob++l):=fun k o hk=>bK (h k o hk) l
theorem ga.set {os ob:List Ob} (h:ga os ob) {i:Nat} (hi:os.length≤i) {y:Ob}:ga os (ob.set i y):=fun k o hk=>by
  have:=(aQ.1 hk).1
  rw[bm (by omega)];exact h k o hk
theorem ga.len {os ob:List Ob} (h:ga os ob):os.length≤ob.length:=by
  rcases Nat.eq_zero_or_pos os.length with h0 | h0
  · omega
  · obtain ⟨o,ho⟩ :∃o,os[os.length - 1]?=some o:=⟨_,bX (by omega)⟩
    have:=(aQ.1 (h _ _ ho)).1
    omega
section
variable {α:Type} {enc:α→List AV} {B:List (Nat × Ob)} {D E:List (Nat × Nat)} {S T:List (List α)} {os:List Ob}
theorem LO.swap (h:LO enc B D E S T os):LO enc B E D T S os:=⟨h.base,h.rE,h.rD,by
  have:=h.nd
  rw[gW,we] at this ⊢
  exact⟨this.2.1,this.1,fun a ha b hb e=>this.2.2 b hb a ha e.symm⟩⟩
theorem LO.En (h:LO enc B D E S T os) {i:Nat} {l:List (List AV)} (hi:i ∉ (D++E).map (·.1)) (hr:os[i]?=some (.arr 2 l)) {y:Ob}:LO enc B D E S T (os.set i y):=by
  rw[gW,cr,not_or] at hi
  exact⟨fun b hb=>⟨Bf (h.base b hb).1 hr ((h.base b hb).2 _),(h.base b hb).2⟩,h.rD.other hi.1,h.rE.other hi.2,h.nd⟩
theorem LO.fresh (h:LO enc B D E S T os) {p:Nat} (hp:os.length≤p):p ∉ (D++E).map (·.1):=by
  rw[gW,cr,not_or]
  exact⟨h.rD.fresh hp,h.rE.fresh hp⟩
theorem LO.step {gi ai:Nat} {gc:List AV} {A:List (List AV)} (h:LO enc ((gi,.var gc)::(ai,.arr 1 A)::B) D E S T os) {r:List α} {oi:Nat} (hr:os[oi]?=some (.arr 2 (rowsOf enc r))) (dK:oi ∉ (D++E).map (·.1))
    (hB:∀ b∈B,b.1≠ai∧b.1≠gi) (zg:List AV) (A':List (List AV)) (t:Ob) :
    LO enc ((gi,.var zg)::(os.length+1,.arr 1 A')::B) (D++[(oi,r.length)]) E (S++[r]) T ((os.set ai .gone).set gi (.var zg)++[t,.arr 1 A']):=by
  have hg:=(h.base (gi,.var gc) (by simp)).1
  have ha:=(h.base (ai,.arr 1 A) (by simp)).1
  dsimp only at hg ha
  have hga:gi≠ai:=fun e=>by rw[e,ha] at hg;cases hg
  have p9:(os.set ai .gone)[gi]?=some (.var gc):=by rw[bm hga.symm];exact hg
  have hl:((os.set ai .gone).set gi (.var zg)).length=os.length:=by rw[bI,bI]
  have hD2:=((h.rD.kill (y:=.gone) ha (by simp)).kill (y:=.var zg) p9 (by simp)).app [t,.arr 1 A']
  have hE2:=((h.rE.kill (y:=.gone) ha (by simp)).kill (y:=.var zg) p9 (by simp)).app [t,.arr 1 A']
  have iA:((os.set ai .gone).set gi (.var zg)++[t,.arr 1 A'])[oi]?=some (.arr 2 (rowsOf enc r)):=bK (Bf (Bf hr ha (by simp)) p9 (by simp)) _
  refine⟨fun b hb=>?_,hD2.snoc iA,hE2,?_⟩
  · rcases cu.1 hb with rfl | hb
    · exact⟨bK (iT p9) _,by simp⟩
    rcases cu.1 hb with rfl | hb
    · refine⟨?_,by simp⟩
      dsimp only
      rw[← hl,nj];rfl
    · have h0:=h.base b (by simp[hb])
      refine⟨bK ?_ _,h0.2⟩
      rw[bm (hB b hb).2.symm,bm (hB b hb).1.symm];exact h0.1
  · have cC:=h.nd
    rw[gW,we] at cC ⊢
    rw[gW,cr,not_or] at dK
    obtain ⟨n1,n2,n3⟩:=cC
    refine⟨?_,n2,fun a rT b hb=>?_⟩
    · rw[gW,we]
      refine⟨n1,by simp,fun a rT b hb=>?_⟩
      simp only[dO,lQ,eM] at hb
      subst hb
      exact fun e=>dK.1 (e ▸ rT)
    · rw[gW,cr] at rT
      rcases rT with rT | rT
      · exact n3 a rT b hb
      · simp only[dO,lQ,eM] at rT
        subst rT
        exact fun e=>dK.2 (e ▸ hb)
end
end T
namespace T
def eR (lo hi:Nat) (os os':List Ob):Prop:=∀ i,lo≤i→i<hi→os'[i]?=os[i]?
section
variable {lo hi w:Nat} {os os':List Ob} {v:AV} {X:List (List AV)}
theorem eR.mono (h:eR lo hi os os') {a b:Nat} (ha:lo≤a) (hb:b≤hi):eR a b os os':=fun i h1 h2=>h i (by omega) (by omega)
theorem eR.app {os:List Ob} {hi:Nat} (h:hi≤os.length) (l:List Ob) (lo:Nat):eR lo hi os (os++l):=fun i _ h2=>by rw[cn (by omega)]
theorem eR.set {os:List Ob} {k:Nat} (h:k<lo∨hi≤k) (y:Ob):eR lo hi os (os.set k y):=fun i h1 h2=>by rw[bm (by omega)]
theorem eR.trans {a b c:List Ob} (h:eR lo hi a b) (k:eR lo hi b c):eR lo hi a c:=fun i h1 h2=>(k i h1 h2).trans (h i h1 h2)
def fX (w:Nat) (os:List Ob) (lo hi:Nat) (v:AV) (X:List (List AV)):Prop :=
  (v=.tree w X∧X=[])∨∃ b rows,v=.ref b w 0 X.length∧lo≤b∧b<hi∧os[b]?=some (.arr w (X++rows))∧∀ row∈X++rows,row.length=w
theorem fX.same (h:fX w os lo hi v X) (k:eR lo hi os os'):fX w os' lo hi v X:=by
  rcases h with h | ⟨b,rows,h1,h2,h3,h4,h5⟩
  · exact .inl h
  · exact .inr ⟨b,rows,h1,h2,h3,by rw[k b h2 h3];exact h4,h5⟩
theorem fX.mono (h:fX w os lo hi v X) {a b:Nat} (ha:a≤lo) (hb:hi≤b):fX w os a b v X:=by
  rcases h with h | ⟨b,rows,h1,h2,h3,h4,h5⟩
  · exact .inl h
  · exact .inr ⟨b,rows,h1,by omega,by omega,h4,h5⟩
theorem fX.cf (h:fX w os lo hi v X):cf v=true:=by
  rcases h with ⟨rfl,_⟩ | ⟨b,rows,rfl,_⟩<;>rfl
theorem fX.bW {os:List Ob} {e:Nat→AV} {kp:Nat→Prop} (h:fX w os lo hi v X) (hk:∀ i,lo≤i→i<hi→¬ kp i) (hf:∀ row∈X,∀ v∈row,(∃ x,v=AV.lit x)∨∃ s r,v=AV.tree s r):cg ⟨e,os⟩ kp (.tree w X) v:=by
  rcases h with ⟨rfl,rfl⟩ | ⟨b,rows,rfl,h2,h3,h4,h5⟩
  · exact .tree _ _
  · refine .ref b w 0 X.length (X++rows) X (fun r c=>(cellAt X r c).getD .undef) h4 (hk b h2 h3) (by simp) (fun row hr=>h5 row (by simp[hr])) (fun r c v hv=>?_) (fun r c v hv=>?_)
    · simp[hv]
    · rw[hv,mP]
      simp only[cellAt,Option.bind_eq_some_iff] at hv
      obtain ⟨row,h6,h7⟩:=hv
      rcases hf row (gB h6) v (gB h7) with ⟨x,rfl⟩ | ⟨s,r,rfl⟩
      · exact .lit x
      · exact .tree s r
end
structure uA (Pd:List Ob→Nat→Nat→AV→Prop):Prop where
  same:∀ {os os' l r v},Pd os l r v→eR l r os os'→Pd os' l r v
  mono:∀ {os l r v l' r'},Pd os l r v→l'≤l→r≤r'→Pd os l' r' v
theorem fX.Tv (w:Nat) (X:List (List AV)):uA (fun os l r v=>fX w os l r v X):=⟨fun h k=>h.same k,fun h a b=>h.mono a b⟩
structure cy (w:Nat) (Pd:Nat→List Ob→Nat→Nat→AV→Prop) (os:List Ob) (a lo hi n:Nat) (A:Nat→List AV) (C:Nat→AV):Prop where
  arr:os[a]?=some (.arr w ((aN n).map fun k=>A k++[C k]))
  at_:hi≤a
  wid:∀ k,k<n→(A k).length+1=w
  row :∃S:Nat→Nat,lo≤S 0∧S n≤hi∧(∀ k,k<n→S k≤S (k+1))∧∀ k,k<n→Pd k os (S k) (S (k+1)) (C k)
section
variable {lo hi w a n:Nat} {os os':List Ob} {A:Nat→List AV} {C:Nat→AV} {Pd:Nat→List Ob→Nat→Nat→AV→Prop}
theorem Tw {S:Nat→Nat} {n:Nat} (h:∀ k,k<n→S k≤S (k+1)):∀ (d i:Nat),i+d≤n→S i≤S (i+d)
  | 0,i,_=>aG _
  | d+1,i,hd=>iJ (Tw h d i (by omega)) (h (i+d) (by omega))
theorem pN {S:Nat→Nat} {n:Nat} (h:∀ k,k<n→S k≤S (k+1)) {i j:Nat} (pO:i≤j) (hj:j≤n):S i≤S j:=by
  have:=Tw h (j - i) i (by omega)
  rwa [show i+(j - i)=j by omega] at this
theorem cy.same (hP:∀ k,uA (Pd k)) (h:cy w Pd os a lo hi n A C) (k:eR lo hi os os') (ha:os'[a]?=os[a]?):cy w Pd os' a lo hi n A C:=by
  obtain ⟨h1,h2,h3,S,s1,s2,s3,s4⟩:=h
  refine⟨by rw[ha];exact h1,h2,h3,S,s1,s2,s3,fun i hi'=>(hP i).same (s4 i hi') (k.mono ?_ ?_)⟩
  · exact iJ s1 (pN s3 (aM _) (by omega))
  · exact iJ (pN s3 (show i+1≤n by omega) (aG _)) s2
theorem cy.qM (h:cy w Pd os a lo hi n A C):lo≤hi:=by
  obtain ⟨h1,h2,h3,S,s1,s2,s3,s4⟩:=h
  have:=pN s3 (aM _) (aG n)
  omega
theorem cy.get (h:cy w Pd os a lo hi n A C) {k:Nat} (hk:k<n) :∃l r,lo≤l∧r≤hi∧Pd k os l r (C k):=by
  obtain ⟨h1,h2,h3,S,s1,s2,s3,s4⟩:=h
  exact⟨S k,S (k+1),iJ s1 (pN s3 (aM _) (by omega)),iJ (pN s3 (show k+1≤n by omega) (aG _)) s2,s4 k hk⟩
theorem cy.len (h:cy w Pd os a lo hi n A C):a<os.length:=(aQ.1 h.arr).1
theorem pI {α:Type} (f:Nat→α) {n k:Nat} (h:k<n):((aN n).map f)[k]?=some (f k):=by rw[cm,List.getElem?_range h];rfl
theorem ab9 {α:Type} (f:Nat→α) {n k:Nat} (y:α):((aN n).map f).set k y=(aN n).map fun i=>if i=k then y else f i:=by
  apply nt
  intro j
  rw[b6]
  by_cases hj:j<n
  · try simp only[]
    by_cases e:k=j
    · subst e;rw[if_pos rfl,if_pos (by simpa using hj),pI _ hj,if_pos rfl]
    · rw[if_neg e,pI _ hj,pI (fun i=>if i=k then y else f i) hj,if_neg (fun h=>e h.symm)]
  · rw[eS (l:=(aN n).map fun i=>if i=k then y else f i) (by simpa using hj)]
    split
    · rename_i e;subst e;rw[if_neg (by simpa using hj)]
    · exact eS (by simpa using hj)
theorem cy.at (hP:∀ k,uA (Pd k)) (h:cy w Pd os a lo hi n A C) {k:Nat} (hk:k<n) :∃l r,lo≤l∧r≤hi∧Pd k os l r (C k) ∧
    ∀ (Pd':Nat→List Ob→Nat→Nat→AV→Prop) (v:AV) (os':List Ob),os'[a]?=some (.arr w ((aN n).map fun i=>A i++[if i=k then v else C i]))→Pd' k os' l r v →
      (∀ i,lo≤i→i<hi→(i<l∨r≤i)→os'[i]?=os[i]?)→(∀ i,i≠k→i<n→∀ os l r v,Pd i os l r v→Pd' i os l r v)→cy w Pd' os' a lo hi n A (fun i=>if i=k then v else C i):=by
  obtain ⟨h1,h2,h3,S,s1,s2,s3,s4⟩:=h
  have b1:lo≤S k:=iJ s1 (pN s3 (aM _) (by omega))
  have b2:S (k+1)≤hi:=iJ (pN s3 (show k+1≤n by omega) (aG _)) s2
  refine⟨S k,S (k+1),b1,b2,s4 k hk,fun Pd' v os' ha c1 c2 gm=>⟨ha,h2,h3,S,s1,s2,s3,fun i hi'=>?_⟩⟩
  have e1:lo≤S i:=iJ s1 (pN s3 (aM _) (by omega))
  have e2:S (i+1)≤hi:=iJ (pN s3 (show i+1≤n by omega) (aG _)) s2
  by_cases e:i=k
  · subst e
    rw[if_pos rfl]
    exact c1
  · rw[if_neg e]
    refine gm i e hi' _ _ _ _ ((hP i).same (s4 i hi') (fun j j1 j2=>c2 j (by omega) (by omega) ?_))
    rcases Nat.lt_or_gt_of_ne e with e' | e'
    · have:=pN s3 (show i+1≤k by omega) (by omega)
      omega
    · have:=pN s3 (show k+1≤i by omega) (by omega)
      omega
theorem cy.push (hP:∀ k,uA (Pd k)) (h:cy w Pd os a lo hi n A C) {os':List Ob} {a' hi':Nat} {R:List AV} {v:AV}
    (hs:eR lo hi os os') (hh:hi≤hi') (rT:hi'≤a') (hv:Pd n os' hi hi' v) (hR:R.length+1=w)
    (kc:os'[a']?=some (.arr w ((aN n).map (fun k=>A k++[C k])++[R++[v]]))) :
    cy w Pd os' a' lo hi' (n+1) (fun i=>if i=n then R else A i) (fun i=>if i=n then v else C i):=by
  obtain ⟨h1,h2,h3,S,s1,s2,s3,s4⟩:=h
  refine⟨?_,rT,fun k hk=>?_,fun i=>if i=n+1 then hi' else S i,?_,?_,fun k hk=>?_,fun k hk=>?_⟩
  · rw[kc,List.range_succ,gW]
    congr 3
    · refine kU fun k hk=>?_
      rw[if_neg (by have:=lP.1 hk;omega),if_neg (by have:=lP.1 hk;omega)]
    · simp
  · by_cases e:k=n
    · rw[if_pos e];exact hR
    · rw[if_neg e];exact h3 k (by omega)
  · dsimp only;rw[if_neg (by omega)];exact s1
  · dsimp only;rw[if_pos rfl];exact aG _
  · dsimp only
    rw[if_neg (by omega)]
    by_cases e:k=n
    · subst e;rw[if_pos rfl];omega
    · rw[if_neg (by omega)];exact s3 k (by omega)
  · dsimp only
    rw[if_neg (show k≠n+1 by omega)]
    by_cases e:k=n
    · subst e
      rw[if_pos rfl,if_pos rfl]
      exact (hP k).mono hv s2 (aG _)
    · rw[if_neg e,if_neg (by omega)]
      exact (hP k).same (s4 k (by omega)) (hs.mono (iJ s1 (pN s3 (aM _) (by omega))) (iJ (pN s3 (show k+1≤n by omega) (aG _)) s2))
theorem cy.nil {os:List Ob} {a:Nat} (h:os[a]?=some (.arr w [])) (lo:Nat) (hl:lo≤a) (A:Nat→List AV) (C:Nat→AV):cy w Pd os a lo lo 0 A C :=
  ⟨by rw[h];rfl,hl,fun k hk=>absurd hk (v9 _),fun _=>lo,aG _,aG _,fun k hk=>absurd hk (v9 _),fun k hk=>absurd hk (v9 _)⟩
theorem cy.zh {A':Nat→List AV} {C':Nat→AV} {Pd':Nat→List Ob→Nat→Nat→AV→Prop} (h:cy w Pd os a lo hi n A C) (hA:∀ k,k<n→A' k=A k) (hC:∀ k,k<n→C' k=C k)
    (hp:∀ k,k<n→∀ os l r v,Pd k os l r v→Pd' k os l r v):cy w Pd' os a lo hi n A' C':=by
  obtain ⟨h1,h2,h3,S,s1,s2,s3,s4⟩:=h
  refine⟨?_,h2,fun k hk=>by rw[hA k hk];exact h3 k hk,S,s1,s2,s3,fun k hk=>by rw[hC k hk];exact hp k hk _ _ _ _ (s4 k hk)⟩
  rw[h1]
  congr 2
  exact kU fun k hk=>by rw[hA k (lP.1 hk),hC k (lP.1 hk)]
theorem cy.app (hP:∀ k,uA (Pd k)) (h:cy w Pd os a lo hi n A C) (X:List Ob) {v:AV} {l0:Nat} (ha:a<l0) (h0:l0≤os.length) (hR:(A n).length+1=w)
    (hv:∀ os',eR l0 (os.length+X.length) (os++X) os'→Pd n os' l0 (os.length+X.length) v) :
    cy w Pd (os.set a .gone++(X++[.arr w ((aN n).map (fun k=>A k++[C k])++[A n++[v]])])) (os.length+X.length) lo (os.length+X.length) (n+1) A (fun i=>if i=n then v else C i):=by
  have hb:=h.len
  have Tx:=h.at_
  refine (cy.push hP h (os':=os.set a .gone++(X++[.arr w ((aN n).map (fun k=>A k++[C k])++[A n++[v]])])) (hi':=os.length+X.length) (R:=A n) (v:=v) (fun i h1 h2=>?_) (by omega) (aG _) ((hP n).mono (hv _ (fun i h1 h2=>?_)) (by omega) (aG _)) hR ?_).zh (fun k hk=>?_) (fun _ _=>rfl) (fun _ _ _ _ _ _ h=>h)
  · rw[cn (by rw[bI];omega),bm (by omega)]
  · by_cases e:i<os.length
    · rw[cn (by rw[bI];omega),cn e,bm (by omega)]
    · rw[eK (by rw[bI];omega),eK (l₁:=os) (by omega),bI,cn (by omega)]
  · rw[eK (by rw[bI];omega),bI,Nat.add_sub_cancel_left,eK (aG _),Nat.sub_self];rfl
  · by_cases e:k=n
    · rw[if_pos e,e]
    · rw[if_neg e]
theorem cy.Bg (hP:∀ k,uA (Pd k)) (h:cy w Pd os a lo hi n A C) {q:Nat} (hq:q<lo) (y:Ob):cy w Pd (os.set q y) a lo hi n A C :=
  h.same hP (eR.set (.inl hq) y) (bm (by have:=h.at_;have:=h.qM;omega))
theorem eR.kill {m b:Nat} {ot:List Ob} (hb:m≤b) (hl:b<ot.length) (L:List Ob):eR 0 m ot (ot.set b .gone++L):=fun i _ h2=>by
  rw[cn (by rw[bI];omega),bm (by omega)]
theorem cy.bW {os:List Ob} {e:Nat→AV} {kp:Nat→Prop} {T:Nat→AV} (h:cy w Pd os a lo hi n A C) (hk:∀ i,lo≤i→i≤a→¬ kp i) (hA:∀ k,k<n→∀ v∈A k,∃ x,v=AV.lit x)
    (hT:∀ k,k<n→∀ l r v,lo≤l→r≤hi→Pd k os l r v→cg ⟨e,os⟩ kp (T k) v):cg ⟨e,os⟩ kp (.tree w ((aN n).map fun k=>A k++[T k])) (.ref a w 0 n):=by
  have hlh:=h.qM
  have hr:=fun k hk=>h.get (k:=k) hk
  obtain ⟨h1,h2,h3,S,s1,s2,s3,s4⟩:=h
  refine .ref a w 0 n _ _ (fun r c=>(cellAt ((aN n).map fun k=>A k++[C k]) r c).getD .undef) h1 (hk a (by omega) (aG _)) (by simp) (fun row hr=>?_) (fun r c v hv=>?_) (fun r c v hv=>?_)
  · obtain ⟨k,hk,rfl⟩:=ca.1 hr
    rw[List.length_append];exact h3 k (lP.1 hk)
  all_goals
    unfold cellAt at hv
    by_cases oh:r<n
    rotate_left
    · rw[eS (by simpa using oh)] at hv;simp at hv
    rw[pI _ oh,sm] at hv
  · rw[List.drop_zero,List.take_of_length_le (by simp)]
    unfold cellAt
    rw[pI _ oh,sm]
    have cE:c<(A r++[C r]).length:=by
      have:=(aQ.1 hv).1
      simpa using this
    rw[bX cE];rfl
  · unfold cellAt
    rw[pI _ oh,sm]
    by_cases hc:c<(A r).length
    · rw[cn hc] at hv ⊢
      rw[hv,mP]
      obtain ⟨x,rfl⟩:=hA r oh v (gB hv)
      exact .lit x
    · rw[eK (by omega)] at hv ⊢
      have nQ:c - (A r).length=0:=by
        have:=(aQ.1 hv).1
        simp at this;omega
      rw[nQ] at hv ⊢
      simp only[sk,cY.injEq] at hv
      subst hv
      obtain ⟨l,u,u1,u2,hO⟩:=hr r oh
      exact hT r oh l u _ u1 u2 hO
end
end T
namespace T
def iH (o:bx):List AV:=[.lit (.int .i64 o.wk),.lit (.int .i64 o.day),.lit (.int .i64 o.st),.lit (.int .i64 o.len),.lit (.int .i64 o.room)]
def jn (p:Pr):List AV:=[.lit (.int .i64 p.fst),.lit (.int .i64 p.snd),.lit (.int .i64 p.aV)]
def uB (xs:List (Int × Int)) (os:List Ob) (l r:Nat) (v:AV):Prop:=fX 2 os l r v (rowsOf bA xs)
def th (xs:List Int) (os:List Ob) (l r:Nat) (v:AV):Prop:=fX 1 os l r v (ints xs)
theorem Eo (xs:List (Int × Int)):uA (uB xs):=fX.Tv 2 _
theorem uC (xs:List Int):uA (th xs):=fX.Tv 1 _
theorem cy.low {Pd:Nat→List Ob→Nat→Nat→AV→Prop} {w a lo hi n:Nat} {os:List Ob} {A:Nat→List AV} {C:Nat→AV} (h:cy w Pd os a lo hi n A C) {kD:Nat} (hl:kD≤lo):cy w Pd os a kD hi n A C:=by
  obtain ⟨h1,h2,h3,S,s1,s2,s3,s4⟩:=h
  exact⟨h1,h2,h3,S,by omega,s2,s3,s4⟩
def uD (L:List bx) (os:List Ob) (l r:Nat) (v:AV):Prop :=
  ∃ a hi C,v=.ref a 6 0 L.length∧a<r∧cy 6 (fun k=>uB (L.getD k default).ch) os a l hi L.length (fun k=>iH (L.getD k default)) C
theorem tj (L:List bx):uA (uD L):=by
  refine⟨?_,?_⟩
  · rintro os os' l r v ⟨a,hi,C,h1,h2,h3⟩ hs
    have:=h3.at_
    have:=h3.qM
    exact⟨a,hi,C,h1,h2,h3.same (fun k=>Eo _) (hs.mono (aG _) (by omega)) (hs a (by omega) h2)⟩
  · rintro os l r v l' r' ⟨a,hi,C,h1,h2,h3⟩ hl hr
    exact⟨a,hi,C,h1,by omega,h3.low hl⟩
def zi (cls:List (List bx)) (os:List Ob) (a lo hi n:Nat) (C:Nat→AV):Prop:=cy 1 (fun c=>uD (cls.getD c default)) os a lo hi n (fun _=>[]) C
def Bh (ae:List Pr) (os:List Ob) (a lo hi n:Nat) (C:Nat→AV):Prop:=cy 4 (fun i=>th (ae.getD i default).az) os a lo hi n (fun i=>jn (ae.getD i default)) C
theorem H6 {α β:Type} [Inhabited α] (xs:List α) (f:α→β):((aN xs.length).map fun k=>f (xs.getD k default))=xs.map f:=by
  apply nt
  intro i
  by_cases h:i<xs.length
  · rw[pI _ h,cm,aA,bX h];rfl
  · rw[eS (by simpa using h),eS (by simpa using h)]
theorem ab' {L:List bx} {os:List Ob} {l r:Nat} {v:AV} {e:Nat→AV} {kp:Nat→Prop} (h:uD L os l r v) (hk:∀ i,l≤i→i<r→¬ kp i):cg ⟨e,os⟩ kp (.tree 6 (rowsOf cD L)) v:=by
  obtain ⟨a,hi,C,rfl,h2,h3⟩:=h
  have h4:=h3.at_
  have e1:rowsOf cD L=(aN L.length).map fun k=>iH (L.getD k default)++[.tree 2 (rowsOf bA (L.getD k default).ch)]:=by
    exact (H6 L fun o=>iH o++[AV.tree 2 (rowsOf bA o.ch)]).symm
  rw[e1]
  refine h3.bW (fun i h5 h6=>hk i h5 (by omega)) (fun k hk v hv=>?_) (fun k aH l' r' v h5 h6 h7=>?_)
  · unfold iH at hv
    simp only[cu,ly,or_false] at hv
    rcases hv with rfl | rfl | rfl | rfl | rfl<;>exact⟨_,rfl⟩
  · exact fX.bW h7 (fun i h8 h9=>hk i (by omega) (by omega)) (jy _)
theorem aca {cls:List (List bx)} {os:List Ob} {a lo hi:Nat} {C:Nat→AV} {e:Nat→AV} {kp:Nat→Prop} (h:zi cls os a lo hi cls.length C) (hk:∀ i,lo≤i→i≤a→¬ kp i):cg ⟨e,os⟩ kp (.tree 1 (rowsOf bD cls)) (.ref a 1 0 cls.length):=by
  have h4:=h.at_
  have e1:rowsOf bD cls=(aN cls.length).map fun k=>[]++[.tree 6 (rowsOf cD (cls.getD k default))]:=by
    exact (H6 cls fun o=>([]:List AV)++[AV.tree 6 (rowsOf cD o)]).symm
  rw[e1]
  refine cy.bW h hk (fun k hk v hv=>(by cases hv)) (fun k aH l' r' v h5 h6 h7=>?_)
  exact ab' h7 fun i h8 h9=>hk i (by omega) (by omega)
theorem acb {ae:List Pr} {os:List Ob} {a lo hi:Nat} {C:Nat→AV} {e:Nat→AV} {kp:Nat→Prop} (h:Bh ae os a lo hi ae.length C) (hk:∀ i,lo≤i→i≤a→¬ kp i):cg ⟨e,os⟩ kp (.tree 4 (rowsOf bu ae)) (.ref a 4 0 ae.length):=by
  have h4:=h.at_
  have e1:rowsOf bu ae=(aN ae.length).map fun k=>jn (ae.getD k default)++[.tree 1 (ints (ae.getD k default).az)]:=by
    exact (H6 ae fun o=>jn o++[AV.tree 1 (ints o.az)]).symm
  rw[e1]
  refine cy.bW h hk (fun k hk v hv=>?_) (fun k aH l' r' v h5 h6 h7=>?_)
  · unfold jn at hv
    simp only[cu,ly,or_false] at hv
    rcases hv with rfl | rfl | rfl<;>exact⟨_,rfl⟩
  · exact fX.bW h7 (fun i h8 h9=>hk i (by omega) (by omega)) (pw _)
end T
namespace T
def bg (l:List Bool):List AV:=[.tree 1 (aY l)]
instance:Row bg 1:=⟨fun _=>rfl,fun l v hv=>by
  simp only[bg,eM] at hv;subst hv;exact .inr ⟨_,_,rfl⟩⟩
end T
namespace T
def Bi (q:Nat × Nat):List AV:=[.ref q.1 1 0 q.2]
structure eI (B:List (Nat × Ob)) (D:List (Nat × Nat)) (S:List (List Bool)) (os:List Ob):Prop where
  base:∀ b∈B,os[b.1]?=some b.2
  len:D.length=S.length
  row:∀ j,j<D.length→os[(D.getD j default).1]?=some (.arr 1 (aY (S.getD j default)))∧(S.getD j default).length=(D.getD j default).2
  nd:(B.map (·.1)++D.map (·.1)).Nodup
section
variable {B:List (Nat × Ob)} {D:List (Nat × Nat)} {S:List (List Bool)} {os:List Ob}
theorem eI.app (h:eI B D S os) (l:List Ob):eI B D S (os++l):=⟨fun b hb=>bK (h.base b hb) l,h.len,fun j hj=>⟨bK (h.row j hj).1 l,(h.row j hj).2⟩,h.nd⟩
theorem eI.fresh (h:eI B D S os) {p:Nat} (hp:os.length≤p):p ∉ B.map (·.1)++D.map (·.1):=fun hh=>by
  rw[cr] at hh
  rcases hh with hh | hh
  · obtain ⟨q,hq,rfl⟩:=ca.1 hh
    have:=(aQ.1 (h.base q hq)).1
    omega
  · obtain ⟨q,hq,rfl⟩:=ca.1 hh
    obtain ⟨k,hk,rfl⟩:=sh.1 hq
    have h1:=(h.row k hk).1
    have a1:D.getD k default=D[k]:=by simp[hk]
    rw[a1] at h1
    have:=(aQ.1 h1).1
    omega
theorem eI.other (h:eI B D S os) {i:Nat} (hi:i ∉ B.map (·.1)++D.map (·.1)) (y:Ob):eI B D S (os.set i y):=by
  rw[cr,not_or] at hi
  refine⟨fun b hb=>?_,h.len,fun k hk=>⟨?_,(h.row k hk).2⟩,h.nd⟩
  · rw[bm (fun e=>hi.1 (ca.2 ⟨b,hb,e.symm⟩))];exact h.base b hb
  · rw[bm (fun e=>hi.2 (ca.2 ⟨D.getD k default,aC hk,e.symm⟩))];exact (h.row k hk).1
theorem eI.add (h:eI B D S os) {k:Nat} {x:Ob} (hk:os[k]?=some x) (hf:k ∉ B.map (·.1)++D.map (·.1)):eI ((k,x)::B) D S os :=
  ⟨fun b hb=>by rcases cu.1 hb with rfl | hb;exact hk;exact h.base b hb,h.len,h.row,by
    rw[dO,da,tD];exact⟨hf,h.nd⟩⟩
theorem eI.b0 {a:Nat × Ob} (h:eI (a::B) D S os):os[a.1]?=some a.2:=h.base a (by simp)
theorem eI.b1 {a b:Nat × Ob} (h:eI (a::b::B) D S os):os[b.1]?=some b.2:=h.base b (by simp)
theorem eI.b2 {a b c:Nat × Ob} (h:eI (a::b::c::B) D S os):os[c.1]?=some c.2:=h.base c (by simp)
theorem eI.b3 {a b c d:Nat × Ob} (h:eI (a::b::c::d::B) D S os):os[d.1]?=some d.2:=h.base d (by simp)
theorem eI.put {i:Nat} {x:Ob} (h:eI ((i,x)::B) D S os) (y:Ob):eI ((i,y)::B) D S (os.set i y):=by
  have hn:=h.nd
  rw[dO,da,tD] at hn
  have hx:=h.base (i,x) (by simp)
  have h2:eI B D S os:=⟨fun b hb=>h.base b (by simp[hb]),h.len,h.row,hn.2⟩
  exact (h2.other hn.1 y).add (iT hx) hn.1
theorem eI.drop {i:Nat} {x:Ob} (h:eI ((i,x)::B) D S os):eI B D S os∧i ∉ B.map (·.1)++D.map (·.1):=by
  have hn:=h.nd
  rw[dO,da,tD] at hn
  exact⟨⟨fun b hb=>h.base b (by simp[hb]),h.len,h.row,hn.2⟩,hn.1⟩
theorem eI.swap {a b:Nat × Ob} (h:eI (a::b::B) D S os):eI (b::a::B) D S os :=
  ⟨fun c hc=>h.base c (by simp only[cu] at hc ⊢;rcases hc with hc | hc | hc<;>simp[hc]),h.len,h.row,by
    have:=h.nd
    simp only[dO,da,tD,cu,not_or] at this ⊢
    exact⟨⟨Ne.symm this.1.1,this.2.1⟩,this.1.2,this.2.2⟩⟩
theorem eI.snoc {p:Nat} {r:List Bool} (h:eI ((p,.arr 1 (aY r))::B) D S os):eI B (D++[(p,r.length)]) (S++[r]) os:=by
  obtain ⟨h2,hf⟩:=h.drop
  have hp:=h.base (p,.arr 1 (aY r)) (by simp)
  refine⟨h2.base,by simp[h2.len],fun j hj=>?_,?_⟩
  · rw[Em,Em,← h2.len]
    by_cases h1:j<D.length
    · rw[if_pos h1,if_pos h1];exact h2.row j h1
    · have:j=D.length:=by simp at hj;omega
      rw[if_neg h1,if_neg h1,if_pos this,if_pos this];exact⟨hp,rfl⟩
  · rw[gW,← dI,we]
    refine⟨h2.nd,by simp,fun a ha b hb=>?_⟩
    simp only[dO,lQ,eM] at hb
    subst hb
    exact fun e=>hf (e ▸ ha)
end
def xj (p:Nat):List (List Bool)→List (List AV)
  | []=>[]
  | r::t=>[.ref p 1 0 r.length]::xj (p+1) t
def Bj (S:List (List Bool)):List Ob:=S.map fun r=>.arr 1 (aY r)
theorem Ep (S:List (List Bool)):(Bj S).length=S.length:=List.length_map _
theorem H7:∀ (p:Nat) (S:List (List Bool)),(xj p S).length=S.length
  | _,[]=>rfl
  | p,r::t=>by simp only[xj,List.length_cons,H7 (p+1) t]
theorem H8:∀ (p:Nat) (S:List (List Bool)) (j:Nat),j<S.length→(xj p S)[j]?=some [.ref (p+j) 1 0 (S.getD j default).length]
  | _,[],j,h=>by simp at h
  | p,r::t,0,h=>rfl
  | p,r::t,j+1,h=>by
    rw[xj,v7,H8 (p+1) t j (by simpa using h)]
    rw[show p+1+j=p+(j+1) by omega,eJ]
theorem Tz {B:List (Nat × Ob)} {D:List (Nat × Nat)} {S:List (List Bool)} {os:List Ob} (h:eI B D S os) {j:Nat} (hj:j<S.length):(rowsOf Bi D)[j]?=some [.ref (D.getD j default).1 1 0 (S.getD j default).length]:=by
  have hd:=h.len
  have h2:=(h.row j (by omega)).2
  rw[h2]
  unfold rowsOf
  rw[cm,aA,bX (by omega)];rfl
theorem eI.ret {D:List (Nat × Nat)} {S:List (List Bool)} {os:List Ob} {x:Ob} {oi:Nat} (h:eI [(0,x),(oi,.arr 1 (rowsOf Bi D))] D S os) (hx:∀ ρ,bO ρ x=x) (hg:x≠.gone) (e:Nat→AV) :
    mT 1 ⟨e,os⟩ (.ref oi 1 0 S.length) (.ref 1 1 0 S.length) (x::.arr 1 (xj 2 S)::Bj S):=by
  have hd:=h.len
  have h0:=h.base (0,x) (by simp)
  have h1:=h.base (oi,.arr 1 (rowsOf Bi D)) (by simp)
  dsimp only at h0 h1
  have hl:∀ i∈0::oi::D.map (·.1),i<os.length:=fun i hi=>by
    rcases cu.1 hi with rfl | hi
    · exact (aQ.1 h0).1
    rcases cu.1 hi with rfl | hi
    · exact (aQ.1 h1).1
    obtain ⟨q,hq,rfl⟩:=ca.1 hi
    obtain ⟨k,hk,rfl⟩:=sh.1 hq
    have h3:=(h.row k hk).1
    have a1:D.getD k default=D[k]:=by simp[hk]
    rw[a1] at h3
    exact (aQ.1 h3).1
  have H9:∀ j,j<S.length→br os.length (0::oi::D.map (·.1)) (2+j)=(D.getD j default).1:=fun j hj=>by
    unfold br
    rw[if_pos (by simp;omega),show 2+j=j+1+1 by omega,eJ,eJ,aA,cm,aA,bX (by omega)];rfl
  refine⟨0::oi::D.map (·.1),false,by simpa using h.nd,by simp[Ep,hd],fun j o hj=>.inr ?_,hl,by simp,fun i hi=>?_,.eq ?_⟩
  · match j with
    | 0 =>
      simp only[sk,cY.injEq] at hj
      subst hj
      rw[hx];exact h0
    | 1 =>
      simp only[v7,sk,cY.injEq] at hj
      subst hj
      refine h1.trans (congrArg some ?_)
      rw[bO]
      refine congrArg _ (nt fun i=>?_)
      rw[cm]
      by_cases hi:i<S.length
      · rw[Tz h hi,H8 2 S i hi,gf,dO,lQ,a6,H9 i hi]
      · rw[eS (by simp[rowsOf];omega),eS (by rw[H7];omega)];rfl
    | j+2 =>
      simp only[v7] at hj
      have k8:j<S.length:=by have:=(aQ.1 hj).1;rwa [Ep] at this
      have h3:=(h.row j (by omega)).1
      unfold Bj at hj
      rw[cm,bX k8] at hj
      simp only[gf,cY.injEq] at hj
      subst hj
      rw[x5]
      have e1:(0::oi::D.map (·.1)).getD (j+2) 0=(D.getD j default).1:=by
        rw[eJ,eJ,aA,cm,aA,bX (by omega)];rfl
      have e2:S.getD j default=S[j]:=by rw[aA,bX k8];rfl
      rw[e1,← e2]
      exact h3
  · have:i=0:=by omega
    subst this;rfl
  · rw[a6]
    have:br os.length (0::oi::D.map (·.1)) 1=oi:=by unfold br;rw[if_pos (by simp)];rfl
    rw[this]
end T
namespace T
theorem jI.yO {R:AV→AV→Prop} {f:Nat→List AV} {g:Nat→List AV}:∀ {cs ds:List (List AV)},cs.length=ds.length→(∀ (j:Nat) c d,cs[j]?=some c→ds[j]?=some d→dY R c d)→jI R cs ds
  | [],[],_,_=>trivial
  | [],_::_,h,_=>by simp at h
  | _::_,[],h,_=>by simp at h
  | c::cs,d::ds,h,k=>⟨k 0 c d rfl rfl,jI.yO (f:=f) (g:=g) (by simpa using h) fun j c d hc hd=>k (j+1) c d (by simpa using hc) (by simpa using hd)⟩
theorem aay {σ:St} {kp:Nat→Prop} {id:Nat} {bs:List Bool} (ho:σ.aa[id]?=some (.arr 1 (aY bs))) (hk:¬ kp id):cg σ kp (.tree 1 (aY bs)) (.ref id 1 0 bs.length) :=
  cg.mk ho (by simp[aY]) hk (zS _) (jI.yO (f:=fun _=>[]) (g:=fun _=>[]) rfl fun j c d hc hd=>by
    rw[hc] at hd
    cases hd
    unfold aY at hc
    rw[cm] at hc
    cases hb:bs[j]? with
    | none=>rw[hb] at hc;cases hc
    | some b=>rw[hb] at hc;simp only[gf,cY.injEq] at hc;subst hc;exact⟨.lit _,trivial⟩)
end T
namespace T
theorem eI.Bk {D:List (Nat × Nat)} {S:List (List Bool)} {os:List Ob} {oi:Nat} (h:eI [(oi,.arr 1 (rowsOf Bi D))] D S os) (e:Nat→AV) :
    mT 0 ⟨e,os⟩ (.ref oi 1 0 S.length) (.ref 0 1 0 S.length) (.arr 1 (xj 1 S)::Bj S):=by
  have hd:=h.len
  have h1:=h.base (oi,.arr 1 (rowsOf Bi D)) (by simp)
  dsimp only at h1
  have hl:∀ i∈oi::D.map (·.1),i<os.length:=fun i hi=>by
    rcases cu.1 hi with rfl | hi
    · exact (aQ.1 h1).1
    obtain ⟨q,hq,rfl⟩:=ca.1 hi
    obtain ⟨k,hk,rfl⟩:=sh.1 hq
    have h3:=(h.row k hk).1
    have a1:D.getD k default=D[k]:=by simp[hk]
    rw[a1] at h3
    exact (aQ.1 h3).1
  have H9:∀ j,j<S.length→br os.length (oi::D.map (·.1)) (1+j)=(D.getD j default).1:=fun j hj=>by
    unfold br
    rw[if_pos (by simp;omega),show 1+j=j+1 by omega,eJ,aA,cm,aA,bX (by omega)];rfl
  refine⟨oi::D.map (·.1),false,by simpa using h.nd,by simp[Ep,hd],fun j o hj=>.inr ?_,hl,by simp,fun i hi=>?_,.eq ?_⟩
  · match j with
    | 0 =>
      simp only[sk,cY.injEq] at hj
      subst hj
      refine h1.trans (congrArg some ?_)
      rw[bO]
      refine congrArg _ (nt fun i=>?_)
      rw[cm]
      by_cases hi:i<S.length
      · rw[Tz h hi,H8 1 S i hi,gf,dO,lQ,a6,H9 i hi]
      · rw[eS (by simp[rowsOf];omega),eS (by rw[H7];omega)];rfl
    | j+1 =>
      simp only[v7] at hj
      have k8:j<S.length:=by have:=(aQ.1 hj).1;rwa [Ep] at this
      have h3:=(h.row j (by omega)).1
      unfold Bj at hj
      rw[cm,bX k8] at hj
      simp only[gf,cY.injEq] at hj
      subst hj
      rw[x5]
      have e1:(oi::D.map (·.1)).getD (j+1) 0=(D.getD j default).1:=by
        rw[eJ,aA,cm,aA,bX (by omega)];rfl
      have e2:S.getD j default=S[j]:=by rw[aA,bX k8];rfl
      rw[e1,← e2]
      exact h3
  · omega
  · rw[a6]
    have:br os.length (oi::D.map (·.1)) 0=oi:=by unfold br;rw[if_pos (by simp)];rfl
    rw[this]
end T
namespace T
theorem eI.setRow {B:List (Nat × Ob)} {D:List (Nat × Nat)} {S:List (List Bool)} {os:List Ob} (h:eI B D S os) {j:Nat} (hj:j<S.length) {r:List Bool} (hr:r.length=(S.getD j default).length) :
    eI B D (S.set j r) (os.set (D.getD j default).1 (.arr 1 (aY r))):=by
  have qf:j<D.length:=by rw[h.len];exact hj
  have cC:=we.1 h.nd
  have TA:D.getD j default=D[j]:=by simp[qf]
  have cX:(D.getD j default).1∈D.map (·.1):=by rw[TA];exact ca.2 ⟨_,List.getElem_mem qf,rfl⟩
  refine⟨fun b hb=>?_,by rw[bI];exact h.len,fun k hk=>?_,h.nd⟩
  · rw[bm ?_]
    · exact h.base b hb
    · intro e
      exact cC.2.2 _ (ca.2 ⟨b,hb,rfl⟩) _ cX e.symm
  · obtain ⟨h1,h2⟩:=h.row k hk
    by_cases e:k=j
    · subst e
      have bw:=(aQ.1 h1).1
      have hg:(S.set k r).getD k default=r:=by rw[aA,b6,if_pos rfl,if_pos hj];rfl
      rw[b6,if_pos rfl,if_pos bw,hg]
      exact⟨rfl,hr.trans h2⟩
    · have hg:(S.set j r).getD k default=S.getD k default:=by rw[aA,bm (Ne.symm e),← aA]
      rw[hg,bm ?_]
      · exact⟨h1,h2⟩
      · intro e2
        have hDk:D.getD k default=D[k]:=by simp[hk]
        rw[TA,hDk] at e2
        have hp:=List.pairwise_iff_getElem.1 cC.2.1
        rcases Nat.lt_or_gt_of_ne e with hl | hl
        · exact hp k j (by simpa using hk) (by simpa using qf) hl (by simpa using e2.symm)
        · exact hp j k (by simpa using qf) (by simpa using hk) hl (by simpa using e2)
end T

