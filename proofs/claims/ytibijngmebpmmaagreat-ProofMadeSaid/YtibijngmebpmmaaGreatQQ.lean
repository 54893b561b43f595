import Derived.Test.YtibijngmebpmmaaGreatPB
import Derived.Test.YtibijngmebpmmaaGreatSM
import Derived.Test.YtibijngmebpmmaaGreatSP
import Derived.Test.YtibijngmebpmmaaGreatPR
set_option linter.unusedVariables false
set_option linter.unusedSimpArgs false
set_option linter.unnecessarySimpa false
open Go Go.Am
namespace T
structure Fc (C:List (Nat × Ob)) (os:List Ob):Prop where
  at_:∀ b∈C,os[b.1]?=some b.2
  nd:(C.map (·.1)).Nodup
section
variable {C D:List (Nat × Ob)} {os:List Ob}
theorem Fc.b0 {a:Nat × Ob} (h:Fc (a::C) os):os[a.1]?=some a.2:=h.at_ a (by simp)
theorem Fc.b1 {a b:Nat × Ob} (h:Fc (a::b::C) os):os[b.1]?=some b.2:=h.at_ b (by simp)
theorem Fc.b2 {a b c:Nat × Ob} (h:Fc (a::b::c::C) os):os[c.1]?=some c.2:=h.at_ c (by simp)
theorem Fc.b3 {a b c d:Nat × Ob} (h:Fc (a::b::c::d::C) os):os[d.1]?=some d.2:=h.at_ d (by simp)
theorem Fc.app (h:Fc C os) (l:List Ob):Fc C (os++l):=⟨fun b hb=>oLo (h.at_ b hb) l,h.nd⟩
theorem Fc.perm (h:Fc C os) (hp:C.Perm D):Fc D os:=⟨fun b hb=>h.at_ b (hp.mem_iff.2 hb),((hp.map (·.1)).nodup_iff).1 h.nd⟩
theorem Fc.front {b:Nat × Ob} (A:List (Nat × Ob)) (h:Fc (A++b::C) os):Fc (b::(A++C)) os:=h.perm List.perm_middle
theorem Fc.fresh (h:Fc C os) {p:Nat} (hp:os.length≤p):p ∉ C.map (·.1):=fun hh=>by
  obtain ⟨q,hq,rfl⟩:=List.mem_map.1 hh
  have:=(List.getElem?_eq_some_iff.1 (h.at_ q hq)).1
  omega
theorem Fc.other (h:Fc C os) {i:Nat} (hi:i ∉ C.map (·.1)) (y:Ob):Fc C (os.set i y) :=
  ⟨fun b hb=>by rw[List.getElem?_set_ne (fun e=>hi (List.mem_map.2 ⟨b,hb,e.symm⟩))];exact h.at_ b hb,h.nd⟩
theorem Fc.add (h:Fc C os) {k:Nat} {x:Ob} (hk:os[k]?=some x) (hf:k ∉ C.map (·.1)):Fc ((k,x)::C) os :=
  ⟨fun b hb=>by rcases List.mem_cons.1 hb with rfl | hb;exact hk;exact h.at_ b hb,by rw[List.map_cons,List.nodup_cons];exact⟨hf,h.nd⟩⟩
theorem Fc.drop {i:Nat} {x:Ob} (h:Fc ((i,x)::C) os):Fc C os∧i ∉ C.map (·.1):=by
  have hn:=h.nd
  rw[List.map_cons,List.nodup_cons] at hn
  exact⟨⟨fun b hb=>h.at_ b (by simp[hb]),hn.2⟩,hn.1⟩
theorem Fc.put {i:Nat} {x:Ob} (h:Fc ((i,x)::C) os) (y:Ob):Fc ((i,y)::C) (os.set i y):=by
  obtain ⟨h1,h2⟩:=h.drop
  exact (h1.other h2 y).add (oSe h.b0) h2
theorem Fc.kill {i:Nat} {x:Ob} (h:Fc ((i,x)::C) os) (y:Ob):Fc C (os.set i y):=by
  obtain ⟨h1,h2⟩:=h.drop
  exact h1.other h2 y
theorem Fc.sub (h:Fc (C++D) os):Fc C os:=⟨fun b hb=>h.at_ b (List.mem_append_left _ hb),by
  have:=h.nd
  rw[List.map_append,List.nodup_append] at this
  exact this.1⟩
end
structure Rw where
  c:Int
  kid:Option (Nat × List Int)
  mv:Option (Nat × List Mv)
instance:Inhabited Rw:=⟨⟨0,none,none⟩⟩
def kE:Option (Nat × List Int)→AV
  | none=>.lit (.slice none 0 0)
  | some x=>.ref x.1 1 0 x.2.length
def mE:Option (Nat × List Mv)→AV
  | none=>.lit (.slice none 0 0)
  | some x=>.ref x.1 4 0 x.2.length
def rwR (r:Rw):List AV:=[.lit (.int .i64 r.c),kE r.kid,mE r.mv,.lit (.slice none 0 0),.lit (.slice none 0 0)]
def kO:Option (Nat × List Int)→List (Nat × Ob)
  | none=>[]
  | some x=>[(x.1,.arr 1 (ints x.2))]
def mO:Option (Nat × List Mv)→List (Nat × Ob)
  | none=>[]
  | some x=>[(x.1,.arr 4 (rowsOf eMv x.2))]
def rwO (r:Rw):List (Nat × Ob):=kO r.kid++mO r.mv
def rwB (R:List Rw):List (Nat × Ob):=R.flatMap rwO
def lfW:Rw:=⟨-1,none,none⟩
theorem rwB_app (A B:List Rw):rwB (A++B)=rwB A++rwB B:=by unfold rwB;rw[List.flatMap_append]
theorem rwB_one (r:Rw):rwB [r]=rwO r:=by simp[rwB]
theorem rw_app (R:List Rw) (r:Rw):rowsOf rwR R++[rwR r]=rowsOf rwR (R++[r]):=by simp[rowsOf]
theorem perm_sw {α:Type} (a b c:List α):(a++(b++c)).Perm (b++(a++c)):=by
  rw[← List.append_assoc,← List.append_assoc]
  exact List.Perm.append_right _ List.perm_append_comm
theorem rwB_set {R:List Rw} {j:Nat} (hj:j<R.length) (r:Rw):(rwO (R.getD j default)++rwB (R.set j r)).Perm (rwO r++rwB R):=by
  have h1:R=R.take j++R.getD j default::R.drop (j+1):=by
    rw[List.getD_eq_getElem?_getD,List.getElem?_eq_getElem hj,Option.getD_some,List.getElem_cons_drop,List.take_append_drop]
  have h2:R.set j r=R.take j++r::R.drop (j+1):=by rw[List.set_eq_take_append_cons_drop,if_pos hj]
  generalize R.getD j default=x at *
  generalize R.take j=A at *
  generalize R.drop (j+1)=B at *
  rw[h2,h1]
  have h3:∀ y,rwB (A++y::B)=rwB A++(rwO y++rwB B):=fun y=>by rw[show A++y::B=A++([y]++B) from rfl,rwB_app,rwB_app,rwB_one]
  rw[h3,h3]
  generalize rwB A=a
  generalize rwB B=b
  generalize rwO x=u
  generalize rwO r=v
  exact ((List.Perm.append_left u (perm_sw a v b)).trans ((perm_sw u v (a++b)).trans (List.Perm.append_left v (perm_sw u a b))))
def canon (F:List (Nat × Ob)) (n:Nat):List Ob:=(List.range n).map fun j=>((F.find? fun b=>b.1 == j).map (·.2)).getD .gone
structure FK (F:List (Nat × Ob)) (n:Nat):Prop where
  lt:∀ b∈F,b.1<n
  nd:(F.map (·.1)).Nodup
theorem Fc.fk {F:List (Nat × Ob)} {os:List Ob} (h:Fc F os):FK F os.length:=⟨fun b hb=>(List.getElem?_eq_some_iff.1 (h.at_ b hb)).1,h.nd⟩
theorem canon_len (F:List (Nat × Ob)) (n:Nat):(canon F n).length=n:=by simp[canon]
theorem find_key:∀ {F:List (Nat × Ob)},(F.map (·.1)).Nodup→∀ b∈F,F.find? (fun x=>x.1 == b.1)=some b
  | a::F,h,b,hb=>by
    rw[List.map_cons,List.nodup_cons] at h
    rcases List.mem_cons.1 hb with rfl | hb
    · simp
    · have:a.1≠b.1:=fun e=>h.1 (List.mem_map.2 ⟨b,hb,e.symm⟩)
      rw[List.find?_cons_of_neg (by simpa using this)]
      exact find_key h.2 b hb
theorem FK.canon {F:List (Nat × Ob)} {n:Nat} (h:FK F n):Fc F (canon F n):=⟨fun b hb=>by
  unfold T.canon
  rw[List.getElem?_map,List.getElem?_range (h.lt b hb),Option.map_some,find_key h.nd b hb];rfl,h.nd⟩
def killL:List Nat→List Ob→List Ob
  | [],os=>os
  | j::l,os=>killL l (os.set j .gone)
theorem killL_len:∀ (l:List Nat) (os:List Ob),(killL l os).length=os.length
  | [],os=>rfl
  | j::l,os=>by rw[killL,killL_len l,List.length_set]
theorem killL_get:∀ (l:List Nat) (os:List Ob) (j:Nat),j<os.length→(killL l os)[j]?=if j∈l then some .gone else os[j]?
  | [],os,j,hj=>by simp[killL]
  | i::l,os,j,hj=>by
    rw[killL,killL_get l _ j (by rw[List.length_set];exact hj)]
    by_cases h1:j∈l
    · rw[if_pos h1,if_pos (by simp[h1])]
    · rw[if_neg h1,List.getElem?_set]
      by_cases h2:i=j
      · subst h2;rw[if_pos rfl,if_pos hj,if_pos (by simp)]
      · rw[if_neg h2,if_neg (by simp only[List.mem_cons,not_or];exact⟨fun e=>h2 e.symm,h1⟩)]
theorem kill_canon {F:List (Nat × Ob)} {os:List Ob} (h:Fc F os):killL ((List.range os.length).filter fun j=>!(F.map (·.1)).contains j) os=canon F os.length:=by
  apply List.ext_getElem?
  intro j
  by_cases hj:j<os.length
  · rw[killL_get _ _ _ hj]
    by_cases hm:j∈F.map (·.1)
    · obtain ⟨b,hb,rfl⟩:=List.mem_map.1 hm
      rw[if_neg (by simp[List.mem_filter,hm]),h.fk.canon.at_ b hb,h.at_ b hb]
    · rw[if_pos (by rw[List.mem_filter];exact⟨List.mem_range.2 hj,by simp at hm ⊢;exact hm⟩)]
      unfold canon
      rw[List.getElem?_map,List.getElem?_range hj,Option.map_some]
      have:F.find? (fun b=>b.1 == j)=none:=by
        rw[List.find?_eq_none]
        intro b hb e
        exact hm (List.mem_map.2 ⟨b,hb,by simpa using e⟩)
      rw[this];rfl
  · rw[List.getElem?_eq_none (by rw[killL_len];omega),List.getElem?_eq_none (by rw[canon_len];omega)]
theorem Turns.killL {n0:Nat}:∀ (l:List Nat) (σ:St),Turns n0 σ ⟨σ.env,T.killL l σ.objs⟩
  | [],σ=>by intro os γ0 γ _ hs hf;exact⟨γ,rfl,rfl,hs,hf⟩
  | j::l,σ=>by
    refine Turns.trans (σ1:=⟨σ.env,σ.objs.set j .gone⟩) ?_ (Turns.killL l ⟨σ.env,σ.objs.set j .gone⟩)
    intro os γ0 γ _ hs hf
    exact⟨γ,rfl,rfl,hs.kill j,hf.trans (Fr.kill _ _ j)⟩
theorem Turns.canon {n0:Nat} {σ:St} {F:List (Nat × Ob)} (h:Fc F σ.objs):Turns n0 σ ⟨σ.env,T.canon F σ.objs.length⟩:=by
  rw[← kill_canon h]
  exact Turns.killL _ σ
section
variable {F G:List (Nat × Ob)} {n:Nat}
theorem FK.mono (h:FK F n) {k:Nat} (hk:n≤k):FK F k:=⟨fun b hb=>Nat.lt_of_lt_of_le (h.lt b hb) hk,h.nd⟩
theorem FK.perm (h:FK F n) (hp:F.Perm G):FK G n:=⟨fun b hb=>h.lt b (hp.mem_iff.2 hb),((hp.map (·.1)).nodup_iff).1 h.nd⟩
theorem FK.add (h:FK F n) {i:Nat} {x:Ob} (h1:n≤i) {k:Nat} (h2:i<k):FK ((i,x)::F) k:=⟨fun b hb=>by
  rcases List.mem_cons.1 hb with rfl | hb
  · exact h2
  · have:=h.lt b hb;omega,by
  rw[List.map_cons,List.nodup_cons]
  exact⟨fun hh=>by obtain ⟨b,hb,e⟩:=List.mem_map.1 hh;have:=h.lt b hb;omega,h.nd⟩⟩
theorem FK.keys (h:FK F n) (hk:G.map (·.1)=F.map (·.1)):FK G n:=⟨fun b hb=>by
  have:b.1∈F.map (·.1):=by rw[← hk];exact List.mem_map.2 ⟨b,hb,rfl⟩
  obtain ⟨c,hc,e⟩:=List.mem_map.1 this
  rw[← e];exact h.lt c hc,by rw[hk];exact h.nd⟩
theorem FK.drop {b:Nat × Ob} (h:FK (b::F) n):FK F n:=⟨fun c hc=>h.lt c (by simp[hc]),by have:=h.nd;rw[List.map_cons,List.nodup_cons] at this;exact this.2⟩
end
structure GS where
  n:Nat
  p:Nat
  R:List Rw
  k:Nat
def diceO (L:List Int) (k:Nat):Ob:=.var [.tree 1 (ints L),.lit (.int .i64 k)]
def gB (L:List Int) (g:GS) (C:List (Nat × Ob)):List (Nat × Ob):=(0,diceO L g.k)::(2,.var [.ref g.p 5 0 g.R.length])::(g.p,.arr 5 (rowsOf rwR g.R))::(rwB g.R++C)
def newO (g:GS) (k:Nat):GS:=⟨g.n+3,g.n+2,g.R++[lfW],k⟩
theorem rwB_lf (R:List Rw):rwB (R++[lfW])=rwB R:=by rw[rwB_app,rwB_one];unfold rwO lfW kO mO;simp
theorem newO_fk {L:List Int} {g:GS} {C:List (Nat × Ob)} (k:Nat) (h:FK (gB L g C) g.n):FK (gB L (newO g k) C) (newO g k).n:=by
  unfold gB newO at *
  dsimp only
  rw[rwB_lf]
  have h1:=(((h.perm (List.perm_middle (l₁:=[_]))).perm (List.perm_middle (l₁:=[_,_]))).drop.add (i:=g.n+2) (x:=.arr 5 (rowsOf rwR (g.R++[lfW]))) (Nat.le_add_right _ _) (k:=g.n+3) (by omega))
  exact ((h1.perm (List.perm_middle (l₁:=[_]))).perm (List.perm_middle (l₁:=[_,_]))).keys (by simp)
theorem gB_in {L:List Int} {g:GS} {b:Nat × Ob} {C:List (Nat × Ob)}:(b::gB L g C).Perm (gB L g (b::C)):=by
  unfold gB
  exact (List.perm_middle (a:=b) (l₁:=(0,diceO L g.k)::(2,.var [.ref g.p 5 0 g.R.length])::(g.p,.arr 5 (rowsOf rwR g.R))::rwB g.R) (l₂:=C)).symm
theorem row_fk {L:List Int} {g:GS} {C:List (Nat × Ob)} {j n:Nat} (hj:j<g.R.length) (hl:g.R.getD j default=lfW) (r:Rw) (k:Nat) (h:FK (rwO r++gB L g C) n):FK (gB L ⟨g.n,g.p,g.R.set j r,k⟩ C) n:=by
  have hp:=rwB_set hj r
  rw[hl] at hp
  have e:rwO lfW++rwB (g.R.set j r)=rwB (g.R.set j r):=rfl
  rw[e] at hp
  unfold gB at *
  dsimp only
  refine FK.keys (F:=(0,diceO L g.k)::(2,.var [.ref g.p 5 0 g.R.length])::(g.p,.arr 5 (rowsOf rwR g.R))::(rwB (g.R.set j r)++C)) (h.perm ?_) (by simp)
  have h1:(rwO r++([(0,diceO L g.k),(2,Ob.var [.ref g.p 5 0 g.R.length]),(g.p,.arr 5 (rowsOf rwR g.R))]++(rwB g.R++C))).Perm ([(0,diceO L g.k),(2,Ob.var [.ref g.p 5 0 g.R.length]),(g.p,.arr 5 (rowsOf rwR g.R))]++(rwO r++(rwB g.R++C))):=perm_sw _ _ _
  refine h1.trans (List.Perm.append_left _ ?_)
  rw[← List.append_assoc]
  exact List.Perm.append_right C hp.symm
end T
open Go Go.Am Go.Proofs
open Nat (reduceEqDiff reduceAdd reduceLeDiff reduceMul)
open Int (reduceNeg reduceLE reduceToNat)
set_option maxRecDepth 20000
namespace T
def AvS (C:List (Nat × Ob)) (ab:List Int) (av:AV):Prop:=(ab=[]∧av=.tree 1 [])∨∃ q,av=.ref q 1 0 ab.length∧(q,Ob.arr 1 (ints ab))∈C
def leafW (m:Mdl) (L:List Int) (j:Nat) (g:GS):GS:=⟨g.n+1,g.p,g.R.set j ⟨-1,none,some (g.n,(movF L m 3 g.k).1)⟩,(movF L m 3 g.k).2⟩
def doneS (m:Mdl) (L:List Int) (s:Nat) (n k:Nat) (ab:List Int):Bool :=
  decide (drawC m L k=m.cls.length) || decide (s=0) || decide (300<n+1) || ab.contains (drawC m L k)
def kidsO (f:GS→GS):Nat→GS→Nat→List Int→GS × Nat × List Int
  | 0,g,q,ks=>(g,q,ks)
  | w+1,g,q,ks =>
    kidsO f w ⟨(f ⟨g.n+3,g.p,g.R,g.k⟩).n+2,(f ⟨g.n+3,g.p,g.R,g.k⟩).p,(f ⟨g.n+3,g.p,g.R,g.k⟩).R,(f ⟨g.n+3,g.p,g.R,g.k⟩).k⟩ ((f ⟨g.n+3,g.p,g.R,g.k⟩).n+1) (ks++[(g.R.length:Int)])
def finO (j:Nat) (c:Int) (r:GS × Nat × List Int):GS:=⟨r.1.n,r.1.p,r.1.R.set j ⟨c,some (r.2.1,r.2.2),none⟩,r.1.k⟩
def growO (m:Mdl) (L:List Int):Nat→GS→List Int→GS
  | 0,g,ab=>leafW m L g.R.length (newO g (nextA L g.k))
  | s+1,g,ab =>
    if doneS m L (s+1) g.R.length g.k ab=true then leafW m L g.R.length (newO g (nextA L g.k))
    else finO g.R.length (drawC m L g.k) (kidsO (fun g'=>growO m L s g' (ab++[drawC m L g.k])) (m.cls.getD (drawC m L g.k).toNat default).length ⟨g.n+4,g.n+2,g.R++[lfW],nextA L g.k⟩ (g.n+3) [])
theorem growO_eq (m:Mdl) (L:List Int) (s:Nat) (g:GS) (ab:List Int):growO m L s g ab =
    if doneS m L s g.R.length g.k ab=true then leafW m L g.R.length (newO g (nextA L g.k))
    else finO g.R.length (drawC m L g.k) (kidsO (fun g'=>growO m L (s - 1) g' (ab++[drawC m L g.k])) (m.cls.getD (drawC m L g.k).toNat default).length ⟨g.n+4,g.n+2,g.R++[lfW],nextA L g.k⟩ (g.n+3) []):=by
  cases s with
  | zero=>rw[growO,if_pos];unfold doneS;simp
  | succ s=>rfl
structure GrO (L:List Int) (w s:Nat) (C:List (Nat × Ob)) (g r:GS):Prop where
  k:r.k≤L.length
  lt:g.R.length<r.R.length
  le:r.R.length≤g.R.length+szB w s
  pre:∀ i,i<g.R.length→r.R.getD i default=g.R.getD i default
  fk:FK (gB L r C) r.n
  ol:g.n≤r.n
theorem getD_app {R Z:List Rw} {i:Nat} (h:i<R.length):(R++Z).getD i default=R.getD i default:=by
  rw[List.getD_eq_getElem?_getD,List.getElem?_append_left h,List.getD_eq_getElem?_getD]
theorem getD_lf (R:List Rw):(R++[lfW]).getD R.length default=lfW:=by rw[List.getD_eq_getElem?_getD,List.getElem?_append_right (Nat.le_refl _),Nat.sub_self];rfl
theorem getD_setN {R:List Rw} {i j:Nat} (h:i≠j) (r:Rw):(R.set j r).getD i default=R.getD i default:=by
  rw[List.getD_eq_getElem?_getD,List.getElem?_set_ne (Ne.symm h),List.getD_eq_getElem?_getD]
theorem leafO_ok {m:Mdl} {L:List Int} (hm:VM m) (hsome:∀ l∈m.cls,1≤l.length) (w s:Nat) (g:GS) (C:List (Nat × Ob)) {k:Nat} (hk:k≤L.length) (h:FK (gB L g C) g.n):GrO L w s C g (leafW m L g.R.length (newO g k)):=by
  obtain ⟨a1,a2,a3⟩:=movF_ok (L:=L) (m:=m) (most:=3) hm hsome hk
  have hp:=szB_pos w s
  have h1:=newO_fk k h
  unfold leafW newO at *
  dsimp only at *
  refine⟨a3,by simp,by simp;omega,fun i hi=>?_,?_,by dsimp only;omega⟩
  · rw[getD_setN (by omega)];exact getD_app hi
  · refine row_fk (L:=L) (C:=C) (g:=⟨g.n+3,g.n+2,g.R++[lfW],k⟩) (by simp) (getD_lf _) _ _ ?_ |>.keys rfl
    exact h1.add (i:=g.n+3) (x:=.arr 4 (rowsOf eMv (movF L m 3 k).1)) (Nat.le_refl _) (k:=g.n+4) (by omega)
theorem kidsO_ok {L:List Int} {w s:Nat} {C:List (Nat × Ob)} (x:Ob) (f:GS→GS) (hf:∀ g C',g.k≤L.length→FK (gB L g C') g.n→GrO L w s C' g (f g)):∀ (c:Nat) (g:GS) (q:Nat) (ks:List Int),g.k≤L.length→FK (gB L g ((q,x)::C)) g.n →
    (kidsO f c g q ks).1.k≤L.length∧g.R.length≤(kidsO f c g q ks).1.R.length∧(kidsO f c g q ks).1.R.length≤g.R.length+c * szB w s∧(∀ i,i<g.R.length→(kidsO f c g q ks).1.R.getD i default=g.R.getD i default)∧FK (gB L (kidsO f c g q ks).1 (((kidsO f c g q ks).2.1,x)::C)) (kidsO f c g q ks).1.n∧g.n≤(kidsO f c g q ks).1.n
  | 0,g,q,ks,hk,h=>by
    rw[kidsO]
    exact⟨hk,Nat.le_refl _,Nat.le_add_right _ _,fun _ _=>rfl,h,Nat.le_refl _⟩
  | c+1,g,q,ks,hk,h=>by
    rw[kidsO]
    have h1:=hf ⟨g.n+3,g.p,g.R,g.k⟩ ((q,x)::C) hk (h.mono (Nat.le_add_right _ _))
    generalize f ⟨g.n+3,g.p,g.R,g.k⟩=r at *
    obtain ⟨b1,b2,b3,b4,b5,b6⟩:=h1
    dsimp only at b2 b3 b4 b6
    have h2:FK (gB L ⟨r.n+2,r.p,r.R,r.k⟩ ((r.n+1,x)::C)) (r.n+2):=by
      have:=(b5.perm gB_in.symm).drop.add (i:=r.n+1) (x:=x) (by omega) (k:=r.n+2) (by omega)
      exact this.perm (gB_in (g:=⟨r.n+2,r.p,r.R,r.k⟩))
    obtain ⟨i1,i2,i3,i4,i5,i6⟩:=kidsO_ok (C:=C) x f hf c ⟨r.n+2,r.p,r.R,r.k⟩ (r.n+1) (ks++[(g.R.length:Int)]) b1 h2
    dsimp only at i2 i3 i4 i6
    refine⟨i1,by omega,?_,fun i hi=>(i4 i (by omega)).trans (b4 i hi),i5,by omega⟩
    have:(c+1) * szB w s=c * szB w s+szB w s:=by rw[Nat.add_mul,Nat.one_mul]
    omega
theorem growO_ok {m:Mdl} {L:List Int} (hm:VM m) {w:Nat} (hsome:∀ l∈m.cls,1≤l.length∧l.length≤w):∀ (s:Nat) (g:GS) (ab:List Int) (C:List (Nat × Ob)),g.k≤L.length→FK (gB L g C) g.n→GrO L w s C g (growO m L s g ab)
  | 0,g,ab,C,hk,hf=>leafO_ok hm (fun l hl=>(hsome l hl).1) w 0 g C (nextA_le hk) hf
  | s+1,g,ab,C,hk,hf=>by
    rw[growO]
    split
    · exact leafO_ok hm (fun l hl=>(hsome l hl).1) w (s+1) g C (nextA_le hk) hf
    · have hn:=newO_fk (nextA L g.k) hf
      unfold newO at hn
      dsimp only at hn
      have hq:FK (gB L ⟨g.n+4,g.n+2,g.R++[lfW],nextA L g.k⟩ ((g.n+3,.gone)::C)) (g.n+4):=(hn.add (i:=g.n+3) (x:=.gone) (Nat.le_refl _) (k:=g.n+4) (by omega)).perm (gB_in (g:=⟨g.n+3,g.n+2,g.R++[lfW],nextA L g.k⟩))
      obtain ⟨i1,i2,i3,i4,i5,i6⟩:=kidsO_ok (w:=w) (s:=s) (C:=C) .gone (fun g'=>growO m L s g' (ab++[drawC m L g.k])) (fun g' C' a b=>growO_ok hm hsome s g' (ab++[drawC m L g.k]) C' a b) (m.cls.getD (drawC m L g.k).toNat default).length ⟨g.n+4,g.n+2,g.R++[lfW],nextA L g.k⟩ (g.n+3) [] (nextA_le hk) hq
      dsimp only at i2 i3 i4 i6
      have hRl:(g.R++[lfW]).length=g.R.length+1:=by simp
      have hcl:(m.cls.getD (drawC m L g.k).toNat default).length≤w:=by
        by_cases h:(drawC m L g.k).toNat<m.cls.length
        · exact (hsome _ (getD_mem (d:=default) h)).2
        · rw[List.getD_eq_getElem?_getD,List.getElem?_eq_none (by omega)];exact Nat.zero_le _
      generalize kidsO (fun g'=>growO m L s g' (ab++[drawC m L g.k])) (m.cls.getD (drawC m L g.k).toNat default).length ⟨g.n+4,g.n+2,g.R++[lfW],nextA L g.k⟩ (g.n+3) []=r at *
      have hmul:(m.cls.getD (drawC m L g.k).toNat default).length * szB w s≤w * szB w s:=Nat.mul_le_mul_right _ hcl
      have hsz:szB w (s+1)=1+w * szB w s:=rfl
      unfold finO
      refine⟨i1,by dsimp only;rw[List.length_set];omega,by dsimp only;rw[List.length_set];omega,fun i hi=>?_,?_,by dsimp only;omega⟩
      · dsimp only
        rw[getD_setN (by omega),i4 i (by omega)];exact getD_app hi
      · have hl:r.1.R.getD g.R.length default=lfW:=by rw[i4 _ (by omega)];exact getD_lf _
        refine row_fk (L:=L) (C:=C) (g:=r.1) (by omega) hl _ _ ?_ |>.keys rfl
        exact (i5.perm gB_in.symm).keys rfl
theorem newO_fc {L:List Int} {os:List Ob} {n n' p k0:Nat} {R:List Rw} {C:List (Nat × Ob)} (k:Nat) (h:Fc (gB L ⟨n,p,R,k0⟩ C) os):Fc (gB L ⟨n',os.length+2,R++[lfW],k⟩ C) (((os.set p Ob.gone).set 2 (Ob.var [.ref (os.length+2) 5 0 (R.length+1)])++[Ob.gone,Ob.arr 5 [rwR lfW],Ob.arr 5 (rowsOf rwR (R++[lfW]))]).set 0 (diceO L k)):=by
  unfold gB at *
  dsimp only at *
  have hl:((os.set p Ob.gone).set 2 (.var [.ref (os.length+2) 5 0 (R.length+1)])).length=os.length:=by simp
  have h1:=(((h.front [_]).front [_,_]).kill .gone)
  have h2:=(h1.put (.var [.ref (os.length+2) 5 0 (R.length+1)])).app [Ob.gone,Ob.arr 5 [rwR lfW],Ob.arr 5 (rowsOf rwR (R++[lfW]))]
  generalize hoo:(os.set p Ob.gone).set 2 (.var [.ref (os.length+2) 5 0 (R.length+1)])=oo at *
  have h4:=h2.add (k:=os.length+2) (x:=.arr 5 (rowsOf rwR (R++[lfW]))) (by rw[← hl,oLk];rfl) ((h1.put _).fresh (by rw[hoo,hl];omega))
  have h6:=((h4.front [_]).front [_,_]).put (diceO L k)
  have hR:(R++[lfW]).length=R.length+1:=by simp
  rw[rwB_lf,hR]
  exact h6
theorem row_fc {L:List Int} {os:List Ob} {n p k:Nat} {R:List Rw} {C:List (Nat × Ob)} {j:Nat} (hj:j<R.length) (hl:R.getD j default=lfW) (r:Rw) (h:Fc (rwO r++((0,diceO L k)::(2,.var [.ref p 5 0 R.length])::(p,.arr 5 (rowsOf rwR (R.set j r)))::(rwB R++C))) os):Fc (gB L ⟨n,p,R.set j r,k⟩ C) os:=by
  have hp:=rwB_set hj r
  rw[hl] at hp
  have e:rwO lfW++rwB (R.set j r)=rwB (R.set j r):=rfl
  rw[e] at hp
  unfold gB
  dsimp only
  rw[List.length_set]
  refine h.perm ?_
  have h1:(rwO r++([(0,diceO L k),(2,Ob.var [.ref p 5 0 R.length]),(p,.arr 5 (rowsOf rwR (R.set j r)))]++(rwB R++C))).Perm ([(0,diceO L k),(2,Ob.var [.ref p 5 0 R.length]),(p,.arr 5 (rowsOf rwR (R.set j r)))]++(rwO r++(rwB R++C))):=perm_sw _ _ _
  refine h1.trans (List.Perm.append_left _ ?_)
  rw[← List.append_assoc]
  exact List.Perm.append_right C hp.symm
theorem leaf_fc {L:List Int} {o:List Ob} {n n' p k k':Nat} {R:List Rw} {C:List (Nat × Ob)} {j:Nat} (hj:j<R.length) (hl:R.getD j default=lfW) (ms:List Mv) (h:Fc (gB L ⟨n,p,R,k⟩ C) o) :
    Fc (gB L ⟨n',p,R.set j ⟨-1,none,some (o.length,ms)⟩,k'⟩ C) ((o.set 0 (diceO L k')).set p (.arr 5 (rowsOf rwR (R.set j ⟨-1,none,some (o.length,ms)⟩)))++[.arr 4 (rowsOf eMv ms)]):=by
  refine row_fc hj hl _ ?_
  unfold gB at h
  dsimp only at h
  have h1:=(((h.put (diceO L k')).front [_,_]).put (.arr 5 (rowsOf rwR (R.set j ⟨-1,none,some (o.length,ms)⟩)))).app [.arr 4 (rowsOf eMv ms)]
  have h2:=(((h.put (diceO L k')).front [_,_]).put (.arr 5 (rowsOf rwR (R.set j ⟨-1,none,some (o.length,ms)⟩)))).fresh (p:=o.length) (by simp)
  have h3:=h1.add (k:=o.length) (x:=.arr 4 (rowsOf eMv ms)) (by
    have:=oL0 ((o.set 0 (diceO L k')).set p (.arr 5 (rowsOf rwR (R.set j ⟨-1,none,some (o.length,ms)⟩)))) (.arr 4 (rowsOf eMv ms)) []
    rwa [List.length_set,List.length_set] at this) h2
  exact h3.perm (((List.Perm.swap _ _ _).trans ((List.Perm.swap _ _ _).cons _)).cons _)
theorem fin_fc {L:List Int} {o:List Ob} {n n' p k q:Nat} {R:List Rw} {C:List (Nat × Ob)} {j:Nat} (hj:j<R.length) (hl:R.getD j default=lfW) (c:Int) (ks:List Int) (h:Fc (gB L ⟨n,p,R,k⟩ ((q,.arr 1 (ints ks))::C)) o) :
    Fc (gB L ⟨n',p,R.set j ⟨c,some (q,ks),none⟩,k⟩ C) (o.set p (.arr 5 (rowsOf rwR (R.set j ⟨c,some (q,ks),none⟩)))):=by
  refine row_fc hj hl _ ?_
  have h0:=h.perm gB_in.symm
  unfold gB at h0
  dsimp only at h0
  have h1:=((h0.front [_,_,_]).put (.arr 5 (rowsOf rwR (R.set j ⟨c,some (q,ks),none⟩))))
  exact h1.perm ((List.perm_middle (l₁:=[_,_,_]) (a:=(p,Ob.arr 5 (rowsOf rwR (R.set j ⟨c,some (q,ks),none⟩)))) (l₂:=rwB R++C)).symm)
theorem kid_fc {L:List Int} {g:GS} {q a:Nat} {xs:List Int} {x y:Ob} {C:List (Nat × Ob)} {o:List Ob} (n':Nat) (z w:Ob) (h:Fc (gB L g ((a,x)::(q,y)::C)) o) :
    Fc (gB L ⟨n',g.p,g.R,g.k⟩ ((o.length+1,w)::C)) (o.set q .gone++[z,w]):=by
  have h0:=(h.perm gB_in.symm).drop.1
  have h1:=((h0.perm gB_in.symm).kill .gone)
  have h2:=(h1.app [z,w]).add (k:=o.length+1) (x:=w) (by
    have:=oLk (o.set q .gone) [z,w] 1
    rw[List.length_set] at this
    exact this) (h1.fresh (by simp))
  exact h2.perm (gB_in (g:=g))
end T

