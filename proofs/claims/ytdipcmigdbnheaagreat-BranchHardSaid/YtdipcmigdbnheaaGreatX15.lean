import Derived.Test.YtdipcmigdbnheaaGreatX14
set_option linter.unusedVariables false
set_option linter.unusedSimpArgs false
set_option linter.unnecessarySimpa false
set_option linter.unusedSectionVars false
set_option maxHeartbeats 64000000
set_option maxRecDepth 20000
open List renaming mem_iff_getElem→sm,getD_eq_getElem?_getD→ay,getElem?_eq_getElem→bI,length_cons→dH,mem_cons→bZ,not_mem_nil→kC,mem_map→b7,map_append→fB,foldl_append→yB,foldl_nil→wI,getElem?_append_right→eE,getElem?_append_left→cj,getElem?_eq_some_iff→aS,getElem?_set_ne→bu,getElem?_set→bS,getElem?_eq_none→du,length_set→bm,getElem_map→KZ,nodup_append→sA,map_cons→cR,map_nil→jJ,mem_singleton→ek,mem_append→cy,range→aT,mem_or_eq_of_mem_set→rf,getElem?_map→bN,length_append→bJ,length_map→dU
open Option renaming getD_some→kW
open Nat renaming eq_zero_or_pos→mY,lt_or_ge→eK,add_mul→e9
open Bool renaming and_eq_true→bh,not_eq_true'→j4
open Go Go.Am
namespace T
def dN (m:ah) (left:List (List Bool)):Prop:=left.length=m.cls.length∧∀ i,i<left.length→(left.getD i default).length=(m.cls.getD i default).length
instance (m:ah) (left:List (List Bool)):Decidable (dN m left):=by unfold dN;infer_instance
def Ez (m:ah) (left:List (List Bool)):Int:=if dI m≠0 then dI m else if dN m left then 0 else 17
theorem dN.row {m:ah} {left:List (List Bool)} (hm:VM m) (h:dN m left):∀ r∈left,r.length≤24:=fun r hr=>by
  obtain ⟨i,hi,rfl⟩:=sm.1 hr
  have:=h.2 i hi
  rw[ay,bI hi] at this
  simp only[kW] at this
  rw[this]
  exact hm.opt _ (az (by have:=h.1;omega))
def BB (left:List (List Bool)):Prop:=left.length<9223372036854775808∧∀ r∈left,r.length<9223372036854775808
end T
namespace T
theorem OD (l:List Ld) (row:List Bool):∀ (L:List (List Bool)) (i:Nat) (n:Int),jR l i (L++[row]) n=jR l i L n+mP l (i+L.length:Nat) row
  | [],i,n=>rfl
  | x::r,i,n=>by
    show jR l (i+1) (r++[row]) _=_
    rw[OD l row r (i+1),jR,dH,show i+1+r.length=i+(r.length+1) by omega]
theorem eu {α:Type} [Inhabited α] {l:List α} {k:Nat} (h:k<l.length):l.take (k+1)=l.take k++[l.getD k default]:=by
  rw[List.take_succ_eq_append_getElem h,ay,bI h];rfl
abbrev Nm:=Int × Bool
def fI (x:Int):Nm:=(x,decide (1099511627776≤x))
def bw (p:Nm):List AV:=[.lit (.int .i64 p.1),.lit (.bool p.2)]
def iv (p:Nm):List AV:=[.lit (.bool p.2),.lit (.int .i64 p.1)]
instance:Row bw 2:=⟨fun _=>rfl,fun p v hv=>by
  simp only[bw,bZ,kC,or_false] at hv
  rcases hv with rfl | rfl<;>exact .inl ⟨_,rfl,rfl⟩⟩
instance:Row iv 2:=⟨fun _=>rfl,fun p v hv=>by
  simp only[iv,bZ,kC,or_false] at hv
  rcases hv with rfl | rfl<;>exact .inl ⟨_,rfl,rfl⟩⟩
def od (o:bK):Int:=(o.ch.map (·.2)).foldl dQ 0
def fP (l:List bK):List Int:=l.map od
def dm (l:List Int):List Nm:=l.map fI
def c9:List Nm→List Bool→Int × Bool→Int × Bool
  | p::r,is::s,b=>c9 r s (if is=true∧p.2=false∧(b.2=false∨p.1<b.1) then (p.1,true) else b)
  | _,_,b=>b
theorem EA {R:Int} {l:List (Int × Int)} (h:dF R none l=true):∀ c∈l,bP c.2:=fun c hc=>mg (zC h c hc).2
theorem BI:∀ (l:List Int) (n:Int),(∀ x∈l,bP x)→bP n→bP (l.foldl dQ n)
  | [],_,_,h=>h
  | x::r,n,hl,h=>BI r _ (fun y hy=>hl y (by simp[hy])) (zD h (hl x (by simp)))
theorem EB {R:Int} {o:bK} (h:dF R none o.ch=true):bP (od o):=BI _ _ (fun x hx=>by
  obtain ⟨c,hc,rfl⟩:=b7.1 hx;exact EA h c hc) (by unfold bP;decide)
end T
namespace T
structure Mv where
  pair:Int
  side:Int
  opt:Int
  gK:Int
  deriving Inhabited
def fO (x:Mv):List AV:=[.lit (.int .i64 x.pair),.lit (.int .i64 x.side),.lit (.int .i64 x.opt),.lit (.int .i64 x.gK)]
instance:Row fO 4:=⟨fun _=>rfl,fun x v hv=>by
  simp only[fO,bZ,kC,or_false] at hv
  rcases hv with rfl | rfl | rfl | rfl<;>exact .inl ⟨_,rfl,rfl⟩⟩
def kq (m:ah) (x:Mv):Int:=if x.side=0 then (m.ae.getD x.pair.toNat default).fst else (m.ae.getD x.pair.toNat default).snd
def kK (m:ah) (x:Mv):Bool:=decide (0≤x.pair∧x.pair<m.ae.length∧0≤x.side∧x.side≤1∧-268435456≤x.gK∧x.gK≤268435456) && eP m (kq m x) x.opt
theorem Ie (l:List (Int × Int)) (k:Nat) (h:k<l.length):(((l.take (k+1)).map (·.2)).foldl dQ 0)=dQ (((l.take k).map (·.2)).foldl dQ 0) (l.getD k default).2:=by
  rw[eu h,fB,yB];rfl
end T
namespace T
def OE (p:Nm) (is:Bool) (b:Int × Bool):Int × Bool:=if is=true∧p.2=false∧(b.2=false∨p.1<b.1) then (p.1,true) else b
theorem OF (p:Nm) (is:Bool):∀ (l:List Nm) (s:List Bool) (b:Int × Bool),l.length=s.length→c9 (l++[p]) (s++[is]) b=OE p is (c9 l s b)
  | [],[],b,_=>rfl
  | x::r,y::s,b,h=>by
    show c9 (r++[p]) (s++[is]) _=_
    rw[OF p is r s _ (by simpa using h)];rfl
def iV:List Nm→List Bool→List Nm
  | p::r,is::s=>(if is=true then [p] else [])++iV r s
  | _,_=>[]
def zE (b a:Nm):Nm:=if a.2=false∧(b.2=true∨a.1<b.1) then a else b
def qJ (l:List Nm):Nm:=l.foldl zE (0,true)
theorem aaT (l:List Nm) (a:Nm):qJ (l++[a])=zE (qJ l) a:=by unfold qJ;rw[yB];rfl
theorem Ig (p:Nm) (is:Bool):∀ (l:List Nm) (s:List Bool),l.length=s.length→iV (l++[p]) (s++[is])=iV l s++(if is=true then [p] else [])
  | [],[],_=>by simp[iV]
  | x::r,y::s,h=>by
    show (if y=true then [x] else [])++iV (r++[p]) (s++[is])=_
    rw[Ig p is r s (by simpa using h),iV,List.append_assoc]
theorem Ih:∀ (l:List Nm) (s:List Bool) (b:Int × Bool),(iV l s).foldl zE (b.1,!b.2)=((c9 l s b).1,!(c9 l s b).2)
  | [],s,b=>by cases s<;>rfl
  | p::r,[],b=>rfl
  | p::r,is::s,b=>by
    rw[iV,c9,yB]
    cases is with
    | false=>simp only[Bool.false_eq_true,if_false,wI,false_and];exact Ih r s b
    | true =>
      simp only[if_true,List.foldl_cons,wI,eq_self,true_and]
      have:zE (b.1,!b.2) p=((if p.2=false∧(b.2=false∨p.1<b.1) then (p.1,true) else b).1,!(if p.2=false∧(b.2=false∨p.1<b.1) then (p.1,true) else b).2):=by
        unfold zE
        obtain ⟨b1,b2⟩:=b
        obtain ⟨p1,p2⟩:=p
        dsimp only
        cases b2<;>cases p2<;>simp
        split<;>rfl
      rw[this]
      exact Ih r s _
theorem aaU (l:List Nm) (s:List Bool):qJ (iV l s)=((c9 l s (0,false)).1,!(c9 l s (0,false)).2):=Ih l s (0,false)
end T
namespace T
theorem jO (os:List Ob) (x:Ob) (l:List Ob):(os++x::l)[os.length]?=some x:=by simp
theorem me (os l:List Ob) (k:Nat):(os++l)[os.length+k]?=l[k]?:=by rw[eE (by omega),Nat.add_sub_cancel_left]
theorem zx (os:List Ob) (x y:Ob) (l:List Ob):(os++x::l).set os.length y=os++y::l:=by rw[List.set_append];simp
theorem EC (os l:List Ob) (k:Nat) (y:Ob):(os++l).set (os.length+k) y=os++l.set k y:=by rw[List.set_append_right _ _ (by omega)];simp
theorem a7 {os:List Ob} {i:Nat} {o:Ob} (h:os[i]?=some o) (l:List Ob):(os++l)[i]?=some o:=by
  rw[cj (aS.1 h).1];exact h
theorem fj {os:List Ob} {i:Nat} {o:Ob} (h:os[i]?=some o) (l:List Ob) (y:Ob):(os++l).set i y=os.set i y++l:=by
  rw[List.set_append,if_pos (aS.1 h).1]
theorem xA {os:List Ob} {i j:Nat} {o o' y:Ob} (h:os[i]?=some o) (h':os[j]?=some o') (dL:o≠o'):(os.set j y)[i]?=some o:=by
  have:j≠i:=fun e=>dL (by rw[e,h] at h';simpa using h')
  rw[bu this];exact h
theorem jk {os:List Ob} {i:Nat} {o y:Ob} (h:os[i]?=some o):(os.set i y)[i]?=some y:=by
  rw[bS];simp[(aS.1 h).1]
theorem cZ:type_of% @jO∧type_of% @me∧type_of% @zx∧type_of% @EC:=⟨@jO,@me,@zx,@EC⟩
def cG (q:Nat × Nat):List AV:=[.ref q.1 2 0 q.2]
structure RI {α:Type} (enc:α→List AV) (os:List Ob) (D:List (Nat × Nat)) (S:List (List α)):Prop where
  len:D.length=S.length
  row:∀ j,j<D.length→os[(D.getD j default).1]?=some (.arr 2 (rowsOf enc (S.getD j default)))∧(S.getD j default).length=(D.getD j default).2
theorem RI.nil {α:Type} {enc:α→List AV} {os:List Ob}:RI enc os [] ([]:List (List α)):=⟨rfl,by simp⟩
theorem RI.app {α:Type} {enc:α→List AV} {os:List Ob} {D:List (Nat × Nat)} {S:List (List α)} (h:RI enc os D S) (l:List Ob):RI enc (os++l) D S :=
  ⟨h.len,fun j hj=>⟨a7 (h.row j hj).1 l,(h.row j hj).2⟩⟩
theorem RI.kill {α:Type} {enc:α→List AV} {os:List Ob} {D:List (Nat × Nat)} {S:List (List α)} (h:RI enc os D S) {i:Nat} {o y:Ob} (ho:os[i]?=some o) (dL:∀ l,o≠.arr 2 l):RI enc (os.set i y) D S :=
  ⟨h.len,fun j hj=>⟨xA (h.row j hj).1 ho (fun e=>dL _ e.symm),(h.row j hj).2⟩⟩
theorem ED {α:Type} [Inhabited α] (l:List α) (x:α) (j:Nat):(l++[x]).getD j default=if j<l.length then l.getD j default else if j=l.length then x else default:=by
  simp only[ay]
  split
  · rename_i h;rw[cj h]
  · rename_i h
    rw[eE (by omega)]
    split
    · rename_i h2;subst h2;simp
    · rw[du (by simp;omega)];rfl
theorem RI.snoc {α:Type} {enc:α→List AV} {os:List Ob} {D:List (Nat × Nat)} {S:List (List α)} (h:RI enc os D S) {p:Nat} {r:List α} (hp:os[p]?=some (.arr 2 (rowsOf enc r))):RI enc os (D++[(p,r.length)]) (S++[r]) :=
  ⟨by simp[h.len],fun j hj=>by
    rw[ED,ED,← h.len]
    by_cases h1:j<D.length
    · rw[if_pos h1,if_pos h1];exact h.row j h1
    · have:j=D.length:=by simp at hj;omega
      rw[if_neg h1,if_neg h1,if_pos this,if_pos this];exact⟨hp,rfl⟩⟩
theorem RI.set {α:Type} {enc:α→List AV} {os:List Ob} {D:List (Nat × Nat)} {S:List (List α)} (h:RI enc os D S) (hn:(D.map (·.1)).Nodup) {j:Nat} (hj:j<D.length) {r:List α} (hr:r.length=(S.getD j default).length):RI enc (os.set (D.getD j default).1 (.arr 2 (rowsOf enc r))) D (S.set j r) :=
  ⟨by rw[bm];exact h.len,fun k hk=>by
    by_cases e:k=j
    · subst e
      have:(S.set k r).getD k default=r:=by rw[ay,bS];simp[← h.len,hk]
      rw[this]
      exact⟨jk (h.row k hk).1,hr.trans (h.row k hk).2⟩
    · have:(S.set j r).getD k default=S.getD k default:=by rw[ay,bu (fun e'=>e e'.symm),ay]
      rw[this]
      have dL:(D.getD j default).1≠(D.getD k default).1:=fun hh=>e ((List.getElem_inj (h₀:=by simpa using hk) (h₁:=by simpa using hj) hn).1 (by
        rw[KZ,KZ]
        have a1:D[k]=D.getD k default:=by simp[hk]
        have a2:D[j]=D.getD j default:=by simp[hj]
        rw[a1,a2];exact hh.symm))
      rw[bu dL]
      exact h.row k hk⟩
theorem RI.other {α:Type} {enc:α→List AV} {os:List Ob} {D:List (Nat × Nat)} {S:List (List α)} (h:RI enc os D S) {i:Nat} (hi:i ∉ D.map (·.1)) {y:Ob}:RI enc (os.set i y) D S :=
  ⟨h.len,fun k hk=>⟨by
    rw[bu (fun e=>hi (b7.2 ⟨D.getD k default,az hk,e.symm⟩))]
    exact (h.row k hk).1,(h.row k hk).2⟩⟩
theorem RI.fresh {α:Type} {enc:α→List AV} {os:List Ob} {D:List (Nat × Nat)} {S:List (List α)} (h:RI enc os D S) {p:Nat} (hp:os.length≤p):p ∉ D.map (·.1):=fun hh=>by
  obtain ⟨q,hq,rfl⟩:=b7.1 hh
  obtain ⟨k,hk,rfl⟩:=sm.1 hq
  have h1:=(h.row k hk).1
  have a1:D.getD k default=D[k]:=by simp[hk]
  rw[a1] at h1
  have:=(aS.1 h1).1
  omega
theorem EE (D:List (Nat × Nat)) (p n:Nat):rowsOf cG D++[[AV.ref p 2 0 n]]=rowsOf cG (D++[(p,n)]):=by simp[rowsOf,cG]
theorem RI.step {α:Type} {enc:α→List AV} {os:List Ob} {D:List (Nat × Nat)} {S:List (List α)} {ai:Nat} {x:Ob} (fa:os[ai]?=some x) (hx:∀ l,x≠.arr 2 l) (hR:RI enc os D S) (bR:(D.map (·.1)).Nodup) (r:List α) (t y:Ob) :
    (os.set ai .gone++[.arr 2 (rowsOf enc r),t,y])[os.length+2]?=some y ∧
    RI enc (os.set ai .gone++[.arr 2 (rowsOf enc r),t,y]) (D++[(os.length,r.length)]) (S++[r])∧((D++[(os.length,r.length)]).map (·.1)).Nodup ∧
    ∀ k o,os[k]?=some o→k≠ai→(os.set ai .gone++[.arr 2 (rowsOf enc r),t,y])[k]?=some o:=by
  have hl:(os.set ai .gone).length=os.length:=bm ..
  refine⟨?_,?_,?_,fun k o hk dL=>a7 ?_ _⟩
  · rw[← hl,me];rfl
  · refine ((hR.kill fa hx).app _).snoc ?_
    rw[← hl,jO]
  · rw[fB,sA]
    refine⟨bR,by simp,fun a ha b hb=>?_⟩
    simp only[cR,jJ,ek] at hb
    subst hb
    exact fun e=>hR.fresh (Nat.le_refl _) (e ▸ ha)
  · rw[bu (Ne.symm dL)];exact hk
structure LO {α:Type} (enc:α→List AV) (B:List (Nat × Ob)) (D E:List (Nat × Nat)) (S T:List (List α)) (os:List Ob):Prop where
  base:∀ b∈B,os[b.1]?=some b.2∧∀ l,b.2≠.arr 2 l
  rD:RI enc os D S
  rE:RI enc os E T
  nd:((D++E).map (·.1)).Nodup
section
variable {α:Type} {enc:α→List AV} {B:List (Nat × Ob)} {D E:List (Nat × Nat)} {S T:List (List α)} {os:List Ob}
theorem LO.app (h:LO enc B D E S T os) (l:List Ob):LO enc B D E S T (os++l):=⟨fun b hb=>⟨a7 (h.base b hb).1 l,(h.base b hb).2⟩,h.rD.app l,h.rE.app l,h.nd⟩
theorem LO.add (h:LO enc B D E S T os) {k:Nat} {x:Ob} (hk:os[k]?=some x) (hx:∀ l,x≠.arr 2 l):LO enc ((k,x)::B) D E S T os :=
  ⟨fun b hb=>by rcases bZ.1 hb with rfl | hb;exact⟨hk,hx⟩;exact h.base b hb,h.rD,h.rE,h.nd⟩
theorem LO.sub (h:LO enc B D E S T os) {C:List (Nat × Ob)} (hc:∀ b∈C,b∈B):LO enc C D E S T os:=⟨fun b hb=>h.base b (hc b hb),h.rD,h.rE,h.nd⟩
theorem OG {D E:List (Nat × Nat)} (h:((D++E).map (·.1)).Nodup):(D.map (·.1)).Nodup∧(E.map (·.1)).Nodup∧(∀ j,j<D.length→(D.getD j default).1 ∉ E.map (·.1))∧∀ j,j<E.length→(E.getD j default).1 ∉ D.map (·.1):=by
  rw[fB,sA] at h
  refine⟨h.1,h.2.1,fun j hj hh=>h.2.2 _ (b7.2 ⟨_,az hj,rfl⟩) _ hh rfl,fun j hj hh=>h.2.2 _ hh _ (b7.2 ⟨_,az hj,rfl⟩) rfl⟩
theorem LO.OH (h:LO enc B D E S T os) {j:Nat} (hj:j<D.length) {r:List α} (hr:r.length=(S.getD j default).length):LO enc B D E (S.set j r) T (os.set (D.getD j default).1 (.arr 2 (rowsOf enc r))):=by
  obtain ⟨h1,h2,h3,h4⟩:=OG h.nd
  exact⟨fun b hb=>⟨xA (h.base b hb).1 (h.rD.row j hj).1 ((h.base b hb).2 _),(h.base b hb).2⟩,h.rD.set h1 hj hr,h.rE.other (h3 j hj),h.nd⟩
theorem LO.OI (h:LO enc B D E S T os) {j:Nat} (hj:j<E.length) {r:List α} (hr:r.length=(T.getD j default).length):LO enc B D E S (T.set j r) (os.set (E.getD j default).1 (.arr 2 (rowsOf enc r))):=by
  obtain ⟨h1,h2,h3,h4⟩:=OG h.nd
  exact⟨fun b hb=>⟨xA (h.base b hb).1 (h.rE.row j hj).1 ((h.base b hb).2 _),(h.base b hb).2⟩,h.rD.other (h4 j hj),h.rE.set h2 hj hr,h.nd⟩
end
theorem EF (xs:List Nm) (i:Nat) (b:Bool) (n:Int):(rowsOf iv xs).set i [.lit (.bool b),.lit (.int .i64 n)]=rowsOf iv (xs.set i (n,b)):=by simp[rowsOf,iv,List.map_set]
theorem LO.vars {α:Type} {enc:α→List AV} {B:List (Nat × Ob)} {D E:List (Nat × Nat)} {S T:List (List α)} {os:List Ob} (h:LO enc B D E S T os) {n:Nat} (hn:os.length=n) (x y:Ob) (hx:∀ l,x≠.arr 2 l) (hy:∀ l,y≠.arr 2 l) :
    LO enc ((n,x)::(n+1,y)::B) D E S T (os++[x,y]):=by
  subst hn
  exact ((h.app [x,y]).add (by rw[me];rfl) hy).add (by rw[jO]) hx
theorem Ii {α:Type} [Inhabited α] (l:List α) (j:Nat):l.set j (l.getD j default)=l:=by
  apply List.ext_getElem?
  intro i
  rw[bS]
  split
  · rename_i h;subst h
    split
    · rename_i h2;rw[ay,bI h2];rfl
    · rename_i h2;rw[du (by omega)]
  · rfl
theorem zF {α:Type} [Inhabited α] (l:List α) (j:Nat) (x:α) (h:j<l.length):(l.set j x).getD j default=x:=by
  rw[ay,bS];simp[h]
theorem LO.kill {α:Type} {enc:α→List AV} {B:List (Nat × Ob)} {D E:List (Nat × Nat)} {S T:List (List α)} {os:List Ob} (h:LO enc B D E S T os) {i:Nat} {x y:Ob} (hi:os[i]?=some x) (hx:∀ l,x≠.arr 2 l) (dL:∀ b∈B,b.1≠i):LO enc B D E S T (os.set i y) :=
  ⟨fun b hb=>⟨by rw[bu (dL b hb).symm];exact (h.base b hb).1,(h.base b hb).2⟩,h.rD.kill hi hx,h.rE.kill hi hx,h.nd⟩
theorem xG (os l:List Ob) (i k:Nat) (y:Ob):(os.set i y++l)[os.length+k]?=l[k]?:=by
  have:=me (os.set i y) l k
  rwa [bm] at this
end T
namespace T
def gC (m:ah) (ai bi:Nat) (D E:List (Nat × Nat)):List AV:=[.tree 1 (rowsOf bn m.cls),.tree 4 (rowsOf aV m.ae),.tree 4 (rowsOf aU m.au),.lit (.int .i64 m.rules),.ref ai 1 0 D.length,.ref bi 1 0 E.length]
abbrev GB (m:ah) (gi ai bi:Nat) (D E:List (Nat × Nat)):List (Nat × Ob):=[(gi,.var (gC m ai bi D E)),(ai,.arr 1 (rowsOf cG D)),(bi,.arr 1 (rowsOf cG E))]
theorem Ij {m:ah} {gi ai bi:Nat} {D E:List (Nat × Nat)} {S T:List (List Nm)} {os:List Ob} (h:LO bw (GB m gi ai bi D E) D E S T os) :
    os[gi]?=some (.var (gC m ai bi D E))∧os[ai]?=some (.arr 1 (rowsOf cG D))∧os[bi]?=some (.arr 1 (rowsOf cG E)) :=
  ⟨(h.base (gi,_) (by simp)).1,(h.base (ai,.arr 1 (rowsOf cG D)) (by simp)).1,(h.base (bi,.arr 1 (rowsOf cG E)) (by simp)).1⟩
end T
namespace T
def gb (os ob:List Ob):Prop:=∀ (k:Nat) (o:Ob),os[k]?=some o→ob[k]?=some o
theorem gb.refl (os:List Ob):gb os os:=fun _ _ h=>h
theorem gb.app {os ob:List Ob} (h:gb os ob) (l:List Ob):gb os (ob++l):=fun k o hk=>a7 (h k o hk) l
theorem gb.set {os ob:List Ob} (h:gb os ob) {i:Nat} (hi:os.length≤i) {y:Ob}:gb os (ob.set i y):=fun k o hk=>by
  have:=(aS.1 hk).1
  rw[bu (by omega)];exact h k o hk
theorem gb.len {os ob:List Ob} (h:gb os ob):os.length≤ob.length:=by
  rcases mY os.length with h0 | h0
  · omega
  · obtain ⟨o,ho⟩ :∃o,os[os.length - 1]?=some o:=⟨_,bI (by omega)⟩
    have:=(aS.1 (h _ _ ho)).1
    omega
section
variable {α:Type} {enc:α→List AV} {B:List (Nat × Ob)} {D E:List (Nat × Nat)} {S T:List (List α)} {os:List Ob}
theorem LO.swap (h:LO enc B D E S T os):LO enc B E D T S os:=⟨h.base,h.rE,h.rD,by
  have:=h.nd
  rw[fB,sA] at this ⊢
  exact⟨this.2.1,this.1,fun a ha b hb e=>this.2.2 b hb a ha e.symm⟩⟩
theorem LO.EG (h:LO enc B D E S T os) {i:Nat} {l:List (List AV)} (hi:i ∉ (D++E).map (·.1)) (hr:os[i]?=some (.arr 2 l)) {y:Ob}:LO enc B D E S T (os.set i y):=by
  rw[fB,cy,not_or] at hi
  exact⟨fun b hb=>⟨xA (h.base b hb).1 hr ((h.base b hb).2 _),(h.base b hb).2⟩,h.rD.other hi.1,h.rE.other hi.2,h.nd⟩
theorem LO.fresh (h:LO enc B D E S T os) {p:Nat} (hp:os.length≤p):p ∉ (D++E).map (·.1):=by
  rw[fB,cy,not_or]
  exact⟨h.rD.fresh hp,h.rE.fresh hp⟩
theorem LO.step {gi ai:Nat} {gc:List AV} {A:List (List AV)} (h:LO enc ((gi,.var gc)::(ai,.arr 1 A)::B) D E S T os) {r:List α} {oi:Nat} (hr:os[oi]?=some (.arr 2 (rowsOf enc r))) (dE:oi ∉ (D++E).map (·.1))
    (hB:∀ b∈B,b.1≠ai∧b.1≠gi) (zG:List AV) (A':List (List AV)) (t:Ob) :
    LO enc ((gi,.var zG)::(os.length+1,.arr 1 A')::B) (D++[(oi,r.length)]) E (S++[r]) T ((os.set ai .gone).set gi (.var zG)++[t,.arr 1 A']):=by
  have hg:=(h.base (gi,.var gc) (by simp)).1
  have ha:=(h.base (ai,.arr 1 A) (by simp)).1
  dsimp only at hg ha
  have hga:gi≠ai:=fun e=>by rw[e,ha] at hg;cases hg
  have ql:(os.set ai .gone)[gi]?=some (.var gc):=by rw[bu hga.symm];exact hg
  have hl:((os.set ai .gone).set gi (.var zG)).length=os.length:=by rw[bm,bm]
  have hD2:=((h.rD.kill (y:=.gone) ha (by simp)).kill (y:=.var zG) ql (by simp)).app [t,.arr 1 A']
  have hE2:=((h.rE.kill (y:=.gone) ha (by simp)).kill (y:=.var zG) ql (by simp)).app [t,.arr 1 A']
  have gD:((os.set ai .gone).set gi (.var zG)++[t,.arr 1 A'])[oi]?=some (.arr 2 (rowsOf enc r)):=a7 (xA (xA hr ha (by simp)) ql (by simp)) _
  refine⟨fun b hb=>?_,hD2.snoc gD,hE2,?_⟩
  · rcases bZ.1 hb with rfl | hb
    · exact⟨a7 (jk ql) _,by simp⟩
    rcases bZ.1 hb with rfl | hb
    · refine⟨?_,by simp⟩
      dsimp only
      rw[← hl,me];rfl
    · have h0:=h.base b (by simp[hb])
      refine⟨a7 ?_ _,h0.2⟩
      rw[bu (hB b hb).2.symm,bu (hB b hb).1.symm];exact h0.1
  · have bR:=h.nd
    rw[fB,sA] at bR ⊢
    rw[fB,cy,not_or] at dE
    obtain ⟨n1,n2,n3⟩:=bR
    refine⟨?_,n2,fun a mh b hb=>?_⟩
    · rw[fB,sA]
      refine⟨n1,by simp,fun a mh b hb=>?_⟩
      simp only[cR,jJ,ek] at hb
      subst hb
      exact fun e=>dE.1 (e ▸ mh)
    · rw[fB,cy] at mh
      rcases mh with mh | mh
      · exact n3 a mh b hb
      · simp only[cR,jJ,ek] at mh
        subst mh
        exact fun e=>dE.2 (e ▸ hb)
end
end T
namespace T
def S0 (m:ah):List (List Nm):=m.cls.map fun l=>dm (fP l)
def T0 (m:ah):List (List Nm):=m.ae.map fun p=>dm p.ax
def mQ (r:List Nm) (i:Nat) (a:Int):List Nm:=r.set i ((r.getD i default).1+a,(r.getD i default).2)
def jS (f:Nat→Nat) (a:Int):Nat→List Nm→List Nm
  | 0,t=>t
  | k+1,t=>mQ (jS f a k t) (f k) (-a)
abbrev Lg:=List (List Nm) × List (List Nm)
def pQ (m:ah) (x:Mv):(Nat→Nat) × Nat :=
  if x.side=0 then (fun k=>(x.opt * (m.cls.getD (m.ae.getD x.pair.toNat default).snd.toNat default).length+k).toNat,(m.cls.getD (m.ae.getD x.pair.toNat default).snd.toNat default).length)
  else (fun k=>((k:Int) * (m.cls.getD (m.ae.getD x.pair.toNat default).snd.toNat default).length+x.opt).toNat,(m.cls.getD (m.ae.getD x.pair.toNat default).fst.toNat default).length)
def kL (m:ah) (x:Mv) (g:Lg):Lg :=
  (g.1.set (kq m x).toNat (mQ (g.1.getD (kq m x).toNat default) x.opt.toNat x.gK),g.2.set x.pair.toNat (jS (pQ m x).1 x.gK (pQ m x).2 (g.2.getD x.pair.toNat default)))
def iW (m:ah) (l:List Mv) (g:Lg):Lg:=l.foldl (fun g x=>kL m x g) g
theorem aaY (m:ah) (l:List Mv) (x:Mv) (g:Lg):iW m (l++[x]) g=kL m x (iW m l g):=by unfold iW;rw[yB];rfl
def oZ (a b:List Bool):List Bool:=a.flatMap fun x=>b.map fun y=>x && y
def PC (left:List (List Bool)) (S:List (List Nm)) (n:Nat):List (Int × Bool):=(aT n).map fun i=>c9 (S.getD i default) (left.getD i default) (0,false)
def gL (m:ah) (left:List (List Bool)) (i:Nat):List Bool:=oZ (left.getD (m.ae.getD i default).fst.toNat default) (left.getD (m.ae.getD i default).snd.toNat default)
def PP (m:ah) (left:List (List Bool)) (T:List (List Nm)) (n:Nat):List (Int × Bool):=(aT n).map fun i=>c9 (T.getD i default) (gL m left i) (0,false)
def PK (m:ah) (left:List (List Bool)) (n:Nat):List (Int × Bool):=(aT n).map fun i=>(lk left (m.au.getD i default),!(decide ((m.au.getD i default).bE=1099511627776) && decide (0<lk left (m.au.getD i default))))
def bH (l:List (Int × Bool)) (z:Int × Bool):Int × Bool:=l.foldl (fun z p=>(z.1+p.1,z.2 || !p.2)) z
def mR (m:ah) (left:List (List Bool)) (g:Lg):Int :=
  if (bH (PK m left m.au.length) (bH (PP m left g.2 m.ae.length) (bH (PC left g.1 m.cls.length) (0,false)))).2=true then 1099511627776
  else min (bH (PK m left m.au.length) (bH (PP m left g.2 m.ae.length) (bH (PC left g.1 m.cls.length) (0,false)))).1 1099511627776
def iw (m:ah) (left:List (List Bool)) (l:List Mv):Int × Int :=
  if 2000<l.length then (0,2) else if l.all (kK m)=false then (0,3) else (mR m left (iW m l (S0 m,T0 m)),0)
def zH (m:ah) (left:List (List Bool)) (l:List Mv):Int × Int:=if Ez m left≠0 then (0,Ez m left) else iw m left l
theorem zI (l:List (Int × Bool)) (p z:Int × Bool):bH (l++[p]) z=((bH l z).1+p.1,(bH l z).2 || !p.2):=by unfold bH;rw[yB];rfl
theorem xH {β:Type} (f:Nat→β) (n:Nat):(aT (n+1)).map f=(aT n).map f++[f n]:=by rw[List.range_succ,fB];rfl
def NB (B:Int) (r:List Nm):Prop:=∀ p∈r,-B≤p.1∧p.1≤B
theorem NB.get {B:Int} {r:List Nm} (h:NB B r) (hB:0≤B) (i:Nat) : -B≤(r.getD i default).1∧(r.getD i default).1≤B:=by
  rcases eK i r.length with hi | hi
  · exact h _ (az hi)
  · rw[ay,du hi]
    show -B≤(0:Int)∧(0:Int)≤B
    omega
theorem NB.mono {B C:Int} {r:List Nm} (h:NB B r) (hc:B≤C):NB C r:=fun p hp=>by have:=h p hp;omega
theorem NB.add {B:Int} {r:List Nm} (h:NB B r) (hB:0≤B) (i:Nat) {a:Int} (ha : -268435456≤a∧a≤268435456):NB (B+268435456) (mQ r i a):=fun p hp=>by
  rcases rf hp with h' | h'
  · have:=h p h';omega
  · have:=h.get hB i
    rw[h'];dsimp only;omega
theorem zJ (r:List Nm) (i:Nat) (a:Int):(mQ r i a).length=r.length:=by simp[mQ]
theorem BJ (f:Nat→Nat) (a:Int):∀ (k:Nat) (t:List Nm),(jS f a k t).length=t.length
  | 0,t=>rfl
  | k+1,t=>by rw[jS,zJ,BJ f a k t]
theorem NB.sub {B:Int} {r:List Nm} (h:NB B r) (hB:0≤B) (f:Nat→Nat) {a:Int} (ha : -268435456≤a∧a≤268435456):∀ k:Nat,NB (B+268435456 * k) (jS f a k r)
  | 0=>by simpa [jS] using h
  | k+1=>by
    rw[jS]
    have:=(NB.sub h hB f ha k).add (by omega) (f k) (a:=-a) (by omega)
    exact this.mono (by omega)
structure LG (m:ah) (B:Int) (g:Lg):Prop where
  s:g.1.length=m.cls.length
  t:g.2.length=m.ae.length
  sl:∀ i,i<m.cls.length→(g.1.getD i default).length=(m.cls.getD i default).length
  tl:∀ i,i<m.ae.length→(g.2.getD i default).length=(m.ae.getD i default).ax.length
  sb:∀ r∈g.1,NB B r
  tb:∀ r∈g.2,NB B r
theorem OJ {g:List (List Nm)} {i j:Nat} {r:List Nm} (h:r.length=(g.getD i default).length):((g.set i r).getD j default).length=(g.getD j default).length:=by
  by_cases e:i=j
  · subst e
    rcases eK i g.length with hi | hi
    · simp only[ay,bS,hi,if_true,kW];rw[h,ay]
    · rw[List.set_eq_of_length_le hi]
  · simp only[ay,bu e]
theorem s0 {B:Int} {g:List (List Nm)} (h:∀ r∈g,NB B r) (i:Nat):NB B (g.getD i default):=by
  rcases eK i g.length with hi | hi
  · exact h _ (az hi)
  · rw[ay,du hi];intro p hp;cases hp
theorem aaZ {m:ah} (hm:VM m) (x:Mv):(pQ m x).2≤24:=by
  have:∀ i,(m.cls.getD i default).length≤24:=fun i=>by
    rcases eK i m.cls.length with hi | hi
    · exact hm.opt _ (az hi)
    · rw[ay,du hi];exact Nat.zero_le _
  unfold pQ
  split<;>exact this _
theorem OK {m:ah} (hm:VM m) {B:Int} (hB:0≤B) {g:Lg} (h:LG m B g) {x:Mv} (hx:kK m x=true):LG m (B+268435456 * 25) (kL m x g):=by
  unfold kK at hx
  rw[bh,decide_eq_true_eq] at hx
  have ha:=hx.1.2.2.2.2
  have hk:=aaZ hm x
  refine⟨by rw[kL,bm];exact h.s,by rw[kL,bm];exact h.t,fun i hi=>?_,fun i hi=>?_,fun r hr=>?_,fun r hr=>?_⟩
  · rw[kL];dsimp only
    rw[OJ (by rw[zJ])];exact h.sl i hi
  · rw[kL];dsimp only
    rw[OJ (by rw[BJ])];exact h.tl i hi
  · rcases rf hr with h' | h'
    · exact (h.sb r h').mono (by omega)
    · rw[h'];exact ((s0 h.sb _).add hB _ ha).mono (by omega)
  · rcases rf hr with h' | h'
    · exact (h.tb r h').mono (by omega)
    · rw[h'];exact ((s0 h.tb _).sub hB _ ha _).mono (by omega)
theorem OL {l:List Int} (h:∀ x∈l,bP x):NB 1099511627776 (dm l):=fun p hp=>by
  obtain ⟨x,hx,rfl⟩:=b7.1 hp
  have:=h x hx
  unfold bP at this
  show -1099511627776≤x∧x≤1099511627776
  omega
theorem EH {m:ah} {p:Pr} (hp:fJ m p=true):∀ x∈p.ax,bP x:=fun x hx=>by
  unfold fJ at hp
  simp only[bh,j4,List.any_eq_false] at hp
  have:=hp.2 _ hx
  rw[nt] at this
  simp only[bh,j4,decide_eq_true_eq,not_and,Bool.not_eq_false] at this
  by_cases hz:x=0
  · subst hz;unfold bP;decide
  · exact mg (this hz)
theorem iu {α β:Type} [Inhabited α] [Inhabited β] (f:α→β) (l:List α) (i:Nat) (h:i<l.length):(l.map f).getD i default=f (l.getD i default):=by
  rw[ay,bN,ay,bI h];rfl
theorem ON {m:ah} (hm:VM m):LG m 1099511627776 (S0 m,T0 m):=by
  refine⟨by simp[S0],by simp[T0],fun i hi=>?_,fun i hi=>?_,fun r hr=>?_,fun r hr=>?_⟩
  · show ((S0 m).getD i default).length=_
    rw[S0,iu _ _ _ hi];simp[dm,fP]
  · show ((T0 m).getD i default).length=_
    rw[T0,iu _ _ _ hi];simp[dm]
  · obtain ⟨l,hl,rfl⟩:=b7.1 hr
    refine OL fun x hx=>?_
    obtain ⟨o,ho,rfl⟩:=b7.1 hx
    exact EB (hm.nu l hl o ho)
  · obtain ⟨p,hp,rfl⟩:=b7.1 hr
    exact OL (EH (jn hm.pr p hp))
theorem EI {m:ah} (hm:VM m) (l:List Mv) (hl:∀ x∈l,kK m x=true):LG m (1099511627776+268435456 * 25 * l.length) (iW m l (S0 m,T0 m)):=by
  have key:∀ (l:List Mv) (B:Int) (g:Lg),0≤B→(∀ x∈l,kK m x=true)→LG m B g→LG m (B+268435456 * 25 * l.length) (iW m l g):=by
    intro l
    induction l with
    | nil=>intro B g _ _ h;simpa [iW] using h
    | cons x r ih =>
      intro B g hB hx h
      have h1:=OK hm hB h (hx x (by simp))
      have h2:=ih _ _ (by omega) (fun y hy=>hx y (by simp[hy])) h1
      show LG m _ (iW m r (kL m x g))
      have e:B+268435456 * 25+268435456 * 25 * (r.length:Int)=B+268435456 * 25 * ((x::r).length:Int):=by simp only[dH];omega
      rw[e] at h2;exact h2
  exact key l _ _ (by decide) hl (ON hm)
theorem BK {B:Int}:∀ (l:List Nm) (s:List Bool) (b:Int × Bool),NB B l→(-B≤b.1∧b.1≤B)→-B≤(c9 l s b).1∧(c9 l s b).1≤B
  | [],s,b,_,hb=>by cases s<;>exact hb
  | p::r,[],b,_,hb=>hb
  | p::r,is::s,b,h,hb=>by
    rw[c9]
    refine BK r s _ (fun q hq=>h q (by simp[hq])) ?_
    have:=h p (by simp)
    split
    · exact this
    · exact hb
theorem vR {B:Int}:∀ (l:List (Int × Bool)) (z:Int × Bool),(∀ p∈l,-B≤p.1∧p.1≤B)→z.1 - B * l.length≤(bH l z).1∧(bH l z).1≤z.1+B * l.length
  | [],z,_=>by show z.1 - _≤z.1∧z.1≤z.1+_;simp
  | p::r,z,h=>by
    have h1:=vR r (z.1+p.1,z.2 || !p.2) fun q hq=>h q (by simp[hq])
    have h2:=h p (by simp)
    show _≤(bH r (z.1+p.1,z.2 || !p.2)).1∧_
    rw[dH,Int.natCast_add,Int.mul_add]
    dsimp only at h1
    simp only[Int.cast_ofNat_Int,Int.mul_one]
    show z.1 - (B * r.length+B)≤(bH r (z.1+p.1,z.2 || !p.2)).1∧(bH r (z.1+p.1,z.2 || !p.2)).1≤z.1+(B * r.length+B)
    omega
def kM:Int:=1099511627776+268435456 * 25 * 2000
theorem Ik {left:List (List Bool)} {S:List (List Nm)} {B:Int} (hB:0≤B) (h:∀ r∈S,NB B r) (n:Nat):∀ p∈PC left S n,-B≤p.1∧p.1≤B:=fun p hp=>by
  obtain ⟨i,_,rfl⟩:=b7.1 hp
  exact BK _ _ _ (s0 h i) (by dsimp only;omega)
theorem Il {m:ah} {left:List (List Bool)} {T:List (List Nm)} {B:Int} (hB:0≤B) (h:∀ r∈T,NB B r) (n:Nat):∀ p∈PP m left T n,-B≤p.1∧p.1≤B:=fun p hp=>by
  obtain ⟨i,_,rfl⟩:=b7.1 hp
  exact BK _ _ _ (s0 h i) (by dsimp only;omega)
theorem OO (most bE n:Int) (hm:0≤most) (hp:0≤bE):0≤kP most bE n∧kP most bE n≤1099511627776:=by
  unfold kP
  split
  · omega
  · have:=Int.mul_nonneg (show 0≤n - most by omega) hp
    omega
theorem aa0 {m:ah} (hm:VM m) (i:Nat):0≤(m.au.getD i default).most∧0≤(m.au.getD i default).bE:=by
  rcases eK i m.au.length with hi | hi
  · obtain ⟨_,h2,h3,_⟩:=nw (hm.ct _ (az (d:=default) hi))
    exact⟨h2.1,(mg h3).1⟩
  · rw[ay,du hi];decide
theorem Im {m:ah} (hm:VM m) {left:List (List Bool)} (n:Nat):∀ p∈PK m left n,-1099511627776≤p.1∧p.1≤1099511627776:=fun p hp=>by
  obtain ⟨i,_,rfl⟩:=b7.1 hp
  have:=aa0 hm i
  have:=OO (m.au.getD i default).most (m.au.getD i default).bE (jR (m.au.getD i default).aK 0 left 0) this.1 this.2
  unfold lk
  dsimp only
  omega
theorem zK (left:List (List Bool)) (S:List (List Nm)) (n:Nat):(PC left S n).length=n:=by simp[PC]
theorem BL (m:ah) (left:List (List Bool)) (S:List (List Nm)) (n:Nat):(PP m left S n).length=n:=by simp[PP]
theorem EJ (m:ah) (left:List (List Bool)) (n:Nat):(PK m left n).length=n:=by simp[PK]
theorem aa1 (a:List Bool) (x:Bool) (b:List Bool):oZ (a++[x]) b=oZ a b++b.map (x && ·):=by unfold oZ;rw[List.flatMap_append];simp
theorem BM (b:List Bool):∀ a:List Bool,(oZ a b).length=a.length * b.length
  | []=>by simp[oZ]
  | x::r=>by
    show ((b.map (x && ·))++oZ r b).length=_
    rw[bJ,BM b r,dU,dH,e9];omega
end T
namespace T
theorem LO.fC {α:Type} {enc:α→List AV} {B:List (Nat × Ob)} {D E:List (Nat × Nat)} {S T:List (List α)} {os ob:List Ob} (h:LO enc B D E S T os) (k:gb os ob):LO enc B D E S T ob :=
  ⟨fun b hb=>⟨k _ _ (h.base b hb).1,(h.base b hb).2⟩,⟨h.rD.len,fun j hj=>⟨k _ _ (h.rD.row j hj).1,(h.rD.row j hj).2⟩⟩,⟨h.rE.len,fun j hj=>⟨k _ _ (h.rE.row j hj).1,(h.rE.row j hj).2⟩⟩,h.nd⟩
theorem gb.trans {a b c:List Ob} (h:gb a b) (k:gb b c):gb a c:=fun i o hi=>k i o (h i o hi)
theorem EK (b:List Bool):∀ (a:List Bool) (n:Nat),n<a.length * b.length→(oZ a b).getD n false=(a.getD (n / b.length) false && b.getD (n % b.length) false)
  | [],n,h=>by simp at h
  | x::r,n,h=>by
    have hb:0<b.length:=by
      rcases mY b.length with h0 | h0
      · rw[h0] at h;omega
      · exact h0
    show ((b.map (x && ·))++oZ r b).getD n false=_
    rcases eK n b.length with hn | hn
    · rw[Nat.div_eq_of_lt hn,Nat.mod_eq_of_lt hn,List.getD_cons_zero,ay,cj (by simpa using hn),bN,bI hn,ay,bI hn];rfl
    · obtain ⟨k,rfl⟩ :∃k,n=k+b.length:=⟨n - b.length,by omega⟩
      have ih:=EK b r k (by rw[dH,e9] at h;omega)
      rw[ay,eE (by simpa using hn),dU,Nat.add_sub_cancel,← ay,ih,Nat.add_div_right _ hb,Nat.add_mod_right,List.getD_cons_succ]
def vS (q:Int × Bool):Nm:=(q.1,!q.2)
theorem OP (l:List Nm) (s:List Bool):qJ (iV l s)=vS (c9 l s (0,false)):=aaU l s
def uz (m:ah) (left:List (List Bool)) (g:Lg):List (Int × Bool):=PC left g.1 m.cls.length++PP m left g.2 m.ae.length++PK m left m.au.length
theorem OQ (a b:List (Int × Bool)) (z:Int × Bool):bH (a++b) z=bH b (bH a z):=by unfold bH;rw[yB]
theorem aa2 (m:ah) (left:List (List Bool)) (g:Lg):mR m left g=if (bH (uz m left g) (0,false)).2=true then 1099511627776 else min (bH (uz m left g) (0,false)).1 1099511627776:=by
  unfold mR uz;rw[OQ,OQ]
theorem BN:∀ (l:List (Int × Bool)) (n:Int),(bH l (n,true)).2=true
  | [],_=>rfl
  | p::r,n=>BN r _
theorem OR:∀ (l:List (Int × Bool)) (n:Int),(bH l (n,false)).2=true↔∃ p∈l,p.2=false
  | [],_=>by simp[bH]
  | p::r,n=>by
    show (bH r (n+p.1,false || !p.2)).2=true↔_
    cases hp:p.2 with
    | false =>
      simp only[Bool.not_false,Bool.or_true]
      exact⟨fun _=>⟨p,by simp,hp⟩,fun _=>BN r _⟩
    | true =>
      simp only[Bool.not_true,Bool.or_false]
      rw[OR r]
      constructor
      · rintro ⟨q,hq,h⟩;exact⟨q,by simp[hq],h⟩
      · rintro ⟨q,hq,h⟩
        rcases bZ.1 hq with rfl | hq
        · rw[hp] at h;cases h
        · exact⟨q,hq,h⟩
end T
namespace T
theorem Io:∀ (l:List Nm) (s:List Bool),(iV l s).length≤l.length
  | [],s=>by cases s<;>simp[iV]
  | p::r,[]=>by simp[iV]
  | p::r,is::s=>by
    rw[iV,bJ,dH]
    have:=Io r s
    split<;>simp<;>omega
end T

