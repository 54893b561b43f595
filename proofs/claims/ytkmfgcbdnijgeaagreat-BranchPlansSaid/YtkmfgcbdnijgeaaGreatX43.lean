import Derived.Test.YtkmfgcbdnijgeaaGreatX26
import Derived.Test.YtkmfgcbdnijgeaaGreatX17
import Derived.Test.YtkmfgcbdnijgeaaGreatX38
set_option linter.unusedVariables false
set_option linter.unusedSimpArgs false
set_option linter.unnecessarySimpa false
set_option linter.unusedSectionVars false
set_option maxHeartbeats 64000000
set_option maxRecDepth 20000
open Go Go.Am
namespace T
structure Fc (C:List (Nat × Ob)) (os:List Ob):Prop where
  at_:∀ b∈C,os[b.1]?=some b.2
  nd:(C.map (·.1)).Nodup
section
variable {C D:List (Nat × Ob)} {os:List Ob}
theorem Fc.b0 {a:Nat × Ob} (h:Fc (a::C) os):os[a.1]?=some a.2:=h.at_ a (by simp)
theorem Fc.b1 {a b:Nat × Ob} (h:Fc (a::b::C) os):os[b.1]?=some b.2:=h.at_ b (by simp)
theorem Fc.b2 {a b c:Nat × Ob} (h:Fc (a::b::c::C) os):os[c.1]?=some c.2:=h.at_ c (by simp)
theorem Fc.b3 {a b c d:Nat × Ob} (h:Fc (a::b::c::d::C) os):os[d.1]?=some d.2:=h.at_ d (by simp)
theorem Fc.app (h:Fc C os) (l:List Ob):Fc C (os++l):=⟨fun b hb=>oLo (h.at_ b hb) l,h.nd⟩
theorem Fc.perm (h:Fc C os) (hp:C.Perm D):Fc D os:=⟨fun b hb=>h.at_ b (hp.mem_iff.2 hb),((hp.map (·.1)).nodup_iff).1 h.nd⟩
theorem Fc.front {b:Nat × Ob} (A:List (Nat × Ob)) (h:Fc (A++b::C) os):Fc (b::(A++C)) os:=h.perm List.perm_middle
theorem Fc.fresh (h:Fc C os) {p:Nat} (hp:os.length≤p):p ∉ C.map (·.1):=fun hh=>by
  obtain ⟨q,hq,rfl⟩:=List.mem_map.1 hh
  have:=(List.getElem?_eq_some_iff.1 (h.at_ q hq)).1
  omega
theorem Fc.other (h:Fc C os) {i:Nat} (hi:i ∉ C.map (·.1)) (y:Ob):Fc C (os.set i y) :=
  ⟨fun b hb=>by rw[List.getElem?_set_ne (fun e=>hi (List.mem_map.2 ⟨b,hb,e.symm⟩))];exact h.at_ b hb,h.nd⟩
theorem Fc.add (h:Fc C os) {k:Nat} {x:Ob} (hk:os[k]?=some x) (hf:k ∉ C.map (·.1)):Fc ((k,x)::C) os :=
  ⟨fun b hb=>by rcases List.mem_cons.1 hb with rfl | hb;exact hk;exact h.at_ b hb,by rw[List.map_cons,List.nodup_cons];exact⟨hf,h.nd⟩⟩
theorem Fc.drop {i:Nat} {x:Ob} (h:Fc ((i,x)::C) os):Fc C os∧i ∉ C.map (·.1):=by
  have hn:=h.nd
  rw[List.map_cons,List.nodup_cons] at hn
  exact⟨⟨fun b hb=>h.at_ b (by simp[hb]),hn.2⟩,hn.1⟩
theorem Fc.put {i:Nat} {x:Ob} (h:Fc ((i,x)::C) os) (y:Ob):Fc ((i,y)::C) (os.set i y):=by
  obtain ⟨h1,h2⟩:=h.drop
  exact (h1.other h2 y).add (oSe h.b0) h2
theorem Fc.kill {i:Nat} {x:Ob} (h:Fc ((i,x)::C) os) (y:Ob):Fc C (os.set i y):=by
  obtain ⟨h1,h2⟩:=h.drop
  exact h1.other h2 y
theorem Fc.sub (h:Fc (C++D) os):Fc C os:=⟨fun b hb=>h.at_ b (List.mem_append_left _ hb),by
  have:=h.nd
  rw[List.map_append,List.nodup_append] at this
  exact this.1⟩
end
structure Rw where
  c:Int
  kid:Option (Nat × List Int)
  mv:Option (Nat × List Mv)
instance:Inhabited Rw:=⟨⟨0,none,none⟩⟩
def kE:Option (Nat × List Int)→AV
  | none=>.lit (.slice none 0 0)
  | some x=>.ref x.1 1 0 x.2.length
def mE:Option (Nat × List Mv)→AV
  | none=>.lit (.slice none 0 0)
  | some x=>.ref x.1 4 0 x.2.length
def rwR (r:Rw):List AV:=[.lit (.int .i64 r.c),kE r.kid,mE r.mv,.lit (.slice none 0 0),.lit (.slice none 0 0)]
def kO:Option (Nat × List Int)→List (Nat × Ob)
  | none=>[]
  | some x=>[(x.1,.arr 1 (ints x.2))]
def mO:Option (Nat × List Mv)→List (Nat × Ob)
  | none=>[]
  | some x=>[(x.1,.arr 4 (rowsOf eMv x.2))]
def rwO (r:Rw):List (Nat × Ob):=kO r.kid++mO r.mv
def rwB (R:List Rw):List (Nat × Ob):=R.flatMap rwO
def lfW:Rw:=⟨-1,none,none⟩
theorem rwB_app (A B:List Rw):rwB (A++B)=rwB A++rwB B:=by unfold rwB;rw[List.flatMap_append]
theorem rwB_one (r:Rw):rwB [r]=rwO r:=by simp[rwB]
theorem rw_len (R:List Rw):(rowsOf rwR R).length=R.length:=by simp[rowsOf]
theorem rw_app (R:List Rw) (r:Rw):rowsOf rwR R++[rwR r]=rowsOf rwR (R++[r]):=by simp[rowsOf]
theorem perm_sw {α:Type} (a b c:List α):(a++(b++c)).Perm (b++(a++c)):=by
  rw[← List.append_assoc,← List.append_assoc]
  exact List.Perm.append_right _ List.perm_append_comm
theorem rwB_set {R:List Rw} {j:Nat} (hj:j<R.length) (r:Rw):(rwO (R.getD j default)++rwB (R.set j r)).Perm (rwO r++rwB R):=by
  have h1:R=R.take j++R.getD j default::R.drop (j+1):=by
    rw[List.getD_eq_getElem?_getD,List.getElem?_eq_getElem hj,Option.getD_some,List.getElem_cons_drop,List.take_append_drop]
  have h2:R.set j r=R.take j++r::R.drop (j+1):=by rw[List.set_eq_take_append_cons_drop,if_pos hj]
  generalize R.getD j default=x at *
  generalize R.take j=A at *
  generalize R.drop (j+1)=B at *
  rw[h2,h1]
  have h3:∀ y,rwB (A++y::B)=rwB A++(rwO y++rwB B):=fun y=>by rw[show A++y::B=A++([y]++B) from rfl,rwB_app,rwB_app,rwB_one]
  rw[h3,h3]
  generalize rwB A=a
  generalize rwB B=b
  generalize rwO x=u
  generalize rwO r=v
  exact ((List.Perm.append_left u (perm_sw a v b)).trans ((perm_sw u v (a++b)).trans (List.Perm.append_left v (perm_sw u a b))))
def canon (F:List (Nat × Ob)) (n:Nat):List Ob:=(List.range n).map fun j=>((F.find? fun b=>b.1 == j).map (·.2)).getD .gone
structure FK (F:List (Nat × Ob)) (n:Nat):Prop where
  lt:∀ b∈F,b.1<n
  nd:(F.map (·.1)).Nodup
theorem Fc.fk {F:List (Nat × Ob)} {os:List Ob} (h:Fc F os):FK F os.length:=⟨fun b hb=>(List.getElem?_eq_some_iff.1 (h.at_ b hb)).1,h.nd⟩
theorem canon_len (F:List (Nat × Ob)) (n:Nat):(canon F n).length=n:=by simp[canon]
theorem find_key:∀ {F:List (Nat × Ob)},(F.map (·.1)).Nodup→∀ b∈F,F.find? (fun x=>x.1 == b.1)=some b
  | a::F,h,b,hb=>by
    rw[List.map_cons,List.nodup_cons] at h
    rcases List.mem_cons.1 hb with rfl | hb
    · simp
    · have:a.1≠b.1:=fun e=>h.1 (List.mem_map.2 ⟨b,hb,e.symm⟩)
      rw[List.find?_cons_of_neg (by simpa using this)]
      exact find_key h.2 b hb
theorem FK.canon {F:List (Nat × Ob)} {n:Nat} (h:FK F n):Fc F (canon F n):=⟨fun b hb=>by
  unfold T.canon
  rw[List.getElem?_map,List.getElem?_range (h.lt b hb),Option.map_some,find_key h.nd b hb];rfl,h.nd⟩
def killL:List Nat→List Ob→List Ob
  | [],os=>os
  | j::l,os=>killL l (os.set j .gone)
theorem killL_len:∀ (l:List Nat) (os:List Ob),(killL l os).length=os.length
  | [],os=>rfl
  | j::l,os=>by rw[killL,killL_len l,List.length_set]
theorem killL_get:∀ (l:List Nat) (os:List Ob) (j:Nat),j<os.length→(killL l os)[j]?=if j∈l then some .gone else os[j]?
  | [],os,j,hj=>by simp[killL]
  | i::l,os,j,hj=>by
    rw[killL,killL_get l _ j (by rw[List.length_set];exact hj)]
    by_cases h1:j∈l
    · rw[if_pos h1,if_pos (by simp[h1])]
    · rw[if_neg h1,List.getElem?_set]
      by_cases h2:i=j
      · subst h2;rw[if_pos rfl,if_pos hj,if_pos (by simp)]
      · rw[if_neg h2,if_neg (by simp only[List.mem_cons,not_or];exact⟨fun e=>h2 e.symm,h1⟩)]
theorem kill_canon {F:List (Nat × Ob)} {os:List Ob} (h:Fc F os):killL ((List.range os.length).filter fun j=>!(F.map (·.1)).contains j) os=canon F os.length:=by
  apply List.ext_getElem?
  intro j
  by_cases hj:j<os.length
  · rw[killL_get _ _ _ hj]
    by_cases hm:j∈F.map (·.1)
    · obtain ⟨b,hb,rfl⟩:=List.mem_map.1 hm
      rw[if_neg (by simp[List.mem_filter,hm]),h.fk.canon.at_ b hb,h.at_ b hb]
    · rw[if_pos (by rw[List.mem_filter];exact⟨List.mem_range.2 hj,by simp at hm ⊢;exact hm⟩)]
      unfold canon
      rw[List.getElem?_map,List.getElem?_range hj,Option.map_some]
      have:F.find? (fun b=>b.1 == j)=none:=by
        rw[List.find?_eq_none]
        intro b hb e
        exact hm (List.mem_map.2 ⟨b,hb,by simpa using e⟩)
      rw[this];rfl
  · rw[List.getElem?_eq_none (by rw[killL_len];omega),List.getElem?_eq_none (by rw[canon_len];omega)]
theorem Turns.killL {n0:Nat}:∀ (l:List Nat) (σ:St),Turns n0 σ ⟨σ.env,T.killL l σ.objs⟩
  | [],σ=>by intro os γ0 γ _ hs hf;exact⟨γ,rfl,rfl,hs,hf⟩
  | j::l,σ=>by
    refine Turns.trans (σ1:=⟨σ.env,σ.objs.set j .gone⟩) ?_ (Turns.killL l ⟨σ.env,σ.objs.set j .gone⟩)
    intro os γ0 γ _ hs hf
    exact⟨γ,rfl,rfl,hs.kill j,hf.trans (Fr.kill _ _ j)⟩
theorem Turns.canon {n0:Nat} {σ:St} {F:List (Nat × Ob)} (h:Fc F σ.objs):Turns n0 σ ⟨σ.env,T.canon F σ.objs.length⟩:=by
  rw[← kill_canon h]
  exact Turns.killL _ σ
section
variable {F G:List (Nat × Ob)} {n:Nat}
theorem FK.mono (h:FK F n) {k:Nat} (hk:n≤k):FK F k:=⟨fun b hb=>Nat.lt_of_lt_of_le (h.lt b hb) hk,h.nd⟩
theorem FK.perm (h:FK F n) (hp:F.Perm G):FK G n:=⟨fun b hb=>h.lt b (hp.mem_iff.2 hb),((hp.map (·.1)).nodup_iff).1 h.nd⟩
theorem FK.add (h:FK F n) {i:Nat} {x:Ob} (h1:n≤i) {k:Nat} (h2:i<k):FK ((i,x)::F) k:=⟨fun b hb=>by
  rcases List.mem_cons.1 hb with rfl | hb
  · exact h2
  · have:=h.lt b hb;omega,by
  rw[List.map_cons,List.nodup_cons]
  exact⟨fun hh=>by obtain ⟨b,hb,e⟩:=List.mem_map.1 hh;have:=h.lt b hb;omega,h.nd⟩⟩
theorem FK.keys (h:FK F n) (hk:G.map (·.1)=F.map (·.1)):FK G n:=⟨fun b hb=>by
  have:b.1∈F.map (·.1):=by rw[← hk];exact List.mem_map.2 ⟨b,hb,rfl⟩
  obtain ⟨c,hc,e⟩:=List.mem_map.1 this
  rw[← e];exact h.lt c hc,by rw[hk];exact h.nd⟩
theorem FK.drop {b:Nat × Ob} (h:FK (b::F) n):FK F n:=⟨fun c hc=>h.lt c (by simp[hc]),by have:=h.nd;rw[List.map_cons,List.nodup_cons] at this;exact this.2⟩
end
structure GS where
  n:Nat
  p:Nat
  R:List Rw
  k:Nat
end T
namespace T
structure QS where
  n:Nat
  p:Nat
  R:List Rw
  s:DS
def rwN (r:Rw):Nd:=⟨r.c,(r.kid.map (·.2)).getD [],(r.mv.map (·.2)).getD [],[],[]⟩
def kidsO' (f:List (List Bool)→QS→QS) (left:List (List Bool)) (c:Nat):Nat→Nat→QS→Nat→List Int→QS × Nat × List Int
  | 0,_,g,q,ks=>(g,q,ks)
  | w+1,o,g,q,ks =>
    kidsO' f left c w (o+1) ⟨(f (onlyV left c o) ⟨g.n+1,g.p,g.R,g.s⟩).n+2,(f (onlyV left c o) ⟨g.n+1,g.p,g.R,g.s⟩).p,(f (onlyV left c o) ⟨g.n+1,g.p,g.R,g.s⟩).R,(f (onlyV left c o) ⟨g.n+1,g.p,g.R,g.s⟩).s⟩ ((f (onlyV left c o) ⟨g.n+1,g.p,g.R,g.s⟩).n+1) (ks++[(g.R.length:Int)])
def finQ (c j:Nat) (r:QS × Nat × List Int):QS:=⟨r.1.n,r.1.p,r.1.R.set j ⟨(c:Int),some (r.2.1,r.2.2),none⟩,finD c j (r.1.s,r.2.2)⟩
def downO (m:Mdl):Nat→Nat→List (List Bool)→QS→QS
  | 0,_,_,g=>g
  | f+1,c,left,g =>
    if g.s.tot≤priceV m left then ⟨g.n+2,g.n+1,g.R++[lfW],{ g.s with nodes:=g.s.nodes++[leafN []],bnd:=min g.s.bnd (priceV m left) }⟩
    else if skipT left c=left.length then ⟨g.n+3,g.n+1,g.R++[lfW],{ g.s with nodes:=g.s.nodes++[leafN []],plan:=firstsV left,tot:=priceV m left,bnd:=min g.s.bnd (priceV m left) }⟩
    else if g.s.spl=0∨g.s.room<(left.getD (skipT left c) default).length then ⟨g.n+2,g.n+1,g.R++[lfW],{ g.s with nodes:=g.s.nodes++[leafN []],whole:=false,bnd:=min g.s.bnd (priceV m left) }⟩
    else finQ (skipT left c) g.R.length (kidsO' (downO m f (skipT left c+1)) left (skipT left c) (left.getD (skipT left c) default).length 0 ⟨g.n+4,g.n+1,g.R++[lfW],splD left (skipT left c) (priceV m left) g.s⟩ (g.n+3) [])
def Agr (g:QS):Prop:=g.s.nodes=g.R.map rwN
theorem Agr.len {g:QS} (h:Agr g):g.s.nodes.length=g.R.length:=by rw[h,List.length_map]
theorem Agr.lf {g:QS} (h:Agr g):g.s.nodes++[leafN []]=(g.R++[lfW]).map rwN:=by rw[h,List.map_append];rfl
theorem kidsO_sim {f:List (List Bool)→QS→QS} {f':List (List Bool)→DS→DS} (hf:∀ left g,Agr g→Agr (f left g)∧(f left g).s=f' left g.s) (left:List (List Bool)) (c:Nat):∀ (w o:Nat) (g:QS) (q:Nat) (ks:List Int),Agr g →
    Agr (kidsO' f left c w o g q ks).1∧((kidsO' f left c w o g q ks).1.s,(kidsO' f left c w o g q ks).2.2)=kidsD f' left c w o g.s ks
  | 0,o,g,q,ks,h=>⟨h,rfl⟩
  | w+1,o,g,q,ks,h=>by
    obtain ⟨a,b⟩:=hf (onlyV left c o) ⟨g.n+1,g.p,g.R,g.s⟩ h
    rw[kidsO',kidsD]
    have:=kidsO_sim hf left c w (o+1) ⟨(f (onlyV left c o) ⟨g.n+1,g.p,g.R,g.s⟩).n+2,(f (onlyV left c o) ⟨g.n+1,g.p,g.R,g.s⟩).p,(f (onlyV left c o) ⟨g.n+1,g.p,g.R,g.s⟩).R,(f (onlyV left c o) ⟨g.n+1,g.p,g.R,g.s⟩).s⟩ ((f (onlyV left c o) ⟨g.n+1,g.p,g.R,g.s⟩).n+1) (ks++[(g.R.length:Int)]) a
    refine⟨this.1,this.2.trans ?_⟩
    dsimp only
    rw[b,h.len]
theorem downO_sim (m:Mdl):∀ (f c:Nat) (left:List (List Bool)) (g:QS),Agr g→Agr (downO m f c left g)∧(downO m f c left g).s=downD m f c left g.s
  | 0,c,left,g,h=>⟨h,rfl⟩
  | f+1,c,left,g,h=>by
    rw[downO,downD]
    split
    · exact⟨h.lf,rfl⟩
    split
    · exact⟨h.lf,rfl⟩
    split
    · exact⟨h.lf,rfl⟩
    obtain ⟨a,b⟩:=kidsO_sim (fun left2 g2 h2=>downO_sim m f (skipT left c+1) left2 g2 h2) left (skipT left c) (left.getD (skipT left c) default).length 0 ⟨g.n+4,g.n+1,g.R++[lfW],splD left (skipT left c) (priceV m left) g.s⟩ (g.n+3) [] h.lf
    dsimp only at b
    rw[← b,← h.len]
    refine⟨?_,rfl⟩
    unfold Agr finQ finD at *
    dsimp only at *
    rw[a,List.map_set];rfl
end T
namespace T
theorem Fc.upd {F F':List (Nat × Ob)} {os:List Ob} (h:Fc F os) {i:Nat} {y:Ob} (hk:F'.map (·.1)=F.map (·.1)) (hy:(i,y)∈F') (hF:∀ b∈F',b.1≠i→b∈F):Fc F' (os.set i y):=by
  have hnd:(F'.map (·.1)).Nodup:=by rw[hk];exact h.nd
  refine⟨fun b hb=>?_,hnd⟩
  by_cases e:b.1=i
  · have h1:=find_key hnd b hb
    have h2:=find_key hnd _ hy
    rw[e] at h1
    have:b=(i,y):=by dsimp only at h2;rw[h1] at h2;exact Option.some.inj h2
    subst this
    have hi:i∈F.map (·.1):=by rw[← hk];exact List.mem_map.2 ⟨_,hy,rfl⟩
    obtain ⟨c,hc,e2⟩:=List.mem_map.1 hi
    have hlt:=(List.getElem?_eq_some_iff.1 (h.at_ c hc)).1
    rw[List.getElem?_set,if_pos rfl,if_pos (by rw[← e2];exact hlt)]
  · rw[List.getElem?_set_ne (Ne.symm e)]
    exact h.at_ b (hF b hb e)
def capsD:List AV:=[.ptr 8 0 0,.ptr 5 0 0,.ptr 0 0 0,.ptr 1 0 0,.ptr 2 0 0,.ptr 7 0 0,.ptr 6 0 0,.ptr 9 0 0]
def planA (pv:AV) (t0:Int) (s:DS):AV:=if s.tot<t0 then .tree 1 (ints s.plan) else pv
section
variable (dn:FuncId) (m:Mdl) (left:List (List Bool)) (pv:AV) (t0:Int)
def outO (s:DS):Ob:=.var [planA pv t0 s,.lit (.int .i64 s.tot),.lit (.int .i64 s.bnd),.lit (.slice none 0 0)]
def bB (g:QS):List (Nat × Ob):=[(0,.var (eMdl m)),(1,outO pv t0 g.s),(2,.var [.lit (.int .i64 g.s.spl)]),(4,.arr 1 (rowsOf eBs left)),(5,.var [.ref 4 1 0 left.length]),(6,.var [.lit (.bool g.s.whole)]),(7,.var [.lit (.int .i64 g.s.room)]),(9,.var [.fn dn capsD]),(8,.var [.ref g.p 5 0 g.R.length])]
def qB (g:QS) (C:List (Nat × Ob)):List (Nat × Ob):=bB dn m left pv t0 g++(g.p,.arr 5 (rowsOf rwR g.R))::(rwB g.R++C)
end
variable {dn:FuncId} {m:Mdl} {left left':List (List Bool)} {pv:AV} {t0:Int}
theorem bB_keys (g:QS):(bB dn m left pv t0 g).map (·.1)=[0,1,2,4,5,6,7,9,8]:=rfl
theorem qB_keys {g g':QS} {C C':List (Nat × Ob)} (hp:g'.p=g.p) (hR:(rwB g'.R++C').map (·.1)=(rwB g.R++C).map (·.1)):(qB dn m left' pv t0 g' C').map (·.1)=(qB dn m left pv t0 g C).map (·.1):=by
  unfold qB
  rw[List.map_append,List.map_append,bB_keys,bB_keys,List.map_cons,List.map_cons,hR]
  dsimp only
  rw[hp]
theorem qB_in {g:QS} {b:Nat × Ob} {C:List (Nat × Ob)}:(b::qB dn m left pv t0 g C).Perm (qB dn m left pv t0 g (b::C)):=by
  unfold qB
  have h:∀ (A D:List (Nat × Ob)) (x:Nat × Ob),(b::(A++x::(D++C))).Perm (A++x::(D++b::C)):=fun A D x=>by
    have:=(List.perm_middle (a:=b) (l₁:=A++x::D) (l₂:=C)).symm
    simpa [List.append_assoc] using this
  exact h _ _ _
theorem qB_new {g:QS} {C:List (Nat × Ob)} {p' k n:Nat} {s':DS} (h:FK (qB dn m left pv t0 g C) n) (h1:n≤p') (h2:p'<k):FK (qB dn m left' pv t0 ⟨k,p',g.R++[lfW],s'⟩ C) k:=by
  have h3:=((h.perm List.perm_middle).drop.add (i:=p') (x:=.arr 5 (rowsOf rwR (g.R++[lfW]))) h1 h2).perm (List.perm_middle (l₁:=bB dn m left pv t0 g)).symm
  refine h3.keys ?_
  unfold qB
  rw[List.map_append,List.map_append,bB_keys,bB_keys,List.map_cons,List.map_cons]
  dsimp only
  rw[show rwB (g.R++[lfW])=rwB g.R by rw[rwB_app,rwB_one];unfold rwO lfW kO mO;simp]
theorem qB_row {g:QS} {C:List (Nat × Ob)} {j n:Nat} {s':DS} {k:Nat} (hj:j<g.R.length) (hl:g.R.getD j default=lfW) (r:Rw) (h:FK (rwO r++qB dn m left pv t0 g C) n):FK (qB dn m left' pv t0 ⟨k,g.p,g.R.set j r,s'⟩ C) n:=by
  have hp:=rwB_set hj r
  rw[hl] at hp
  have e:rwO lfW++rwB (g.R.set j r)=rwB (g.R.set j r):=rfl
  rw[e] at hp
  have h1:(rwO r++(bB dn m left pv t0 g++(g.p,.arr 5 (rowsOf rwR g.R))::(rwB g.R++C))).Perm (bB dn m left pv t0 g++(g.p,.arr 5 (rowsOf rwR g.R))::(rwB (g.R.set j r)++C)):=by
    have a1:=perm_sw (rwO r) (bB dn m left pv t0 g++[(g.p,.arr 5 (rowsOf rwR g.R))]) (rwB g.R++C)
    simp only[List.append_assoc,List.cons_append,List.nil_append] at a1
    refine a1.trans (List.Perm.append_left _ (List.Perm.cons _ ?_))
    rw[← List.append_assoc]
    exact List.Perm.append_right C hp.symm
  refine (h.perm h1).keys ?_
  unfold qB
  rw[List.map_append,List.map_append,bB_keys,bB_keys,List.map_cons,List.map_cons]
structure DO (dn:FuncId) (m:Mdl) (left left':List (List Bool)) (pv:AV) (t0:Int) (C:List (Nat × Ob)) (g r:QS):Prop where
  lt:g.R.length<r.R.length
  pre:∀ i,i<g.R.length→r.R.getD i default=g.R.getD i default
  ol:g.n≤r.n
  fk:FK (qB dn m left' pv t0 r C) r.n
theorem FK.lf {g:QS} {C:List (Nat × Ob)} {n:Nat} {s':DS} {k:Nat} (h:FK (qB dn m left pv t0 g C) n):FK (qB dn m left' pv t0 ⟨k,g.p,g.R,s'⟩ C) n:=h.keys (qB_keys rfl rfl)
theorem getD_appR {R Z:List Rw} {i:Nat} (h:i<R.length):(R++Z).getD i default=R.getD i default:=by
  rw[List.getD_eq_getElem?_getD,List.getElem?_append_left h,List.getD_eq_getElem?_getD]
theorem getD_lfE (R:List Rw):(R++[lfW]).getD R.length default=lfW:=by rw[List.getD_eq_getElem?_getD,List.getElem?_append_right (Nat.le_refl _),Nat.sub_self];rfl
theorem getD_setR {R:List Rw} {i j:Nat} (h:i≠j) (r:Rw):(R.set j r).getD i default=R.getD i default:=by
  rw[List.getD_eq_getElem?_getD,List.getElem?_set_ne (Ne.symm h),List.getD_eq_getElem?_getD]
theorem kidsO_fk {f:List (List Bool)→QS→QS} {left0:List (List Bool)} {c:Nat} {C:List (Nat × Ob)} (x:Ob) (hf:∀ (o:Nat) (g:QS) (C':List (Nat × Ob)),FK (qB dn m left pv t0 g C') g.n→DO dn m left left pv t0 C' g (f (onlyV left0 c o) g)) :
    ∀ (w o:Nat) (g:QS) (q:Nat) (ks:List Int),FK (qB dn m left pv t0 g ((q,x)::C)) g.n →
    g.R.length≤(kidsO' f left0 c w o g q ks).1.R.length∧(∀ i,i<g.R.length→(kidsO' f left0 c w o g q ks).1.R.getD i default=g.R.getD i default)∧g.n≤(kidsO' f left0 c w o g q ks).1.n∧FK (qB dn m left pv t0 (kidsO' f left0 c w o g q ks).1 (((kidsO' f left0 c w o g q ks).2.1,x)::C)) (kidsO' f left0 c w o g q ks).1.n
  | 0,o,g,q,ks,h=>⟨Nat.le_refl _,fun _ _=>rfl,Nat.le_refl _,h⟩
  | w+1,o,g,q,ks,h=>by
    have h1:=hf o ⟨g.n+1,g.p,g.R,g.s⟩ ((q,x)::C) (h.lf.mono (Nat.le_add_right _ _))
    rw[kidsO']
    generalize f (onlyV left0 c o) ⟨g.n+1,g.p,g.R,g.s⟩=r at *
    obtain ⟨b1,b2,b3,b4⟩:=h1
    dsimp only at b1 b2 b3
    have h2:FK (qB dn m left pv t0 ⟨r.n+2,r.p,r.R,r.s⟩ ((r.n+1,x)::C)) (r.n+2) :=
      (((b4.perm qB_in.symm).drop.add (i:=r.n+1) (x:=x) (by omega) (k:=r.n+2) (by omega)).perm qB_in).lf
    obtain ⟨i1,i2,i3,i4⟩:=kidsO_fk x hf w (o+1) ⟨r.n+2,r.p,r.R,r.s⟩ (r.n+1) (ks++[(g.R.length:Int)]) h2
    dsimp only at i1 i2 i3
    exact⟨by omega,fun i hi=>(i2 i (by omega)).trans (b2 i hi),by omega,i4⟩
theorem downO_fk {N:Nat}:∀ (f c:Nat) (left0:List (List Bool)) (g:QS) (C:List (Nat × Ob)),left0.length=N→N+1≤f+c→c≤N→FK (qB dn m left pv t0 g C) g.n→DO dn m left left pv t0 C g (downO m f c left0 g)
  | 0,c,left0,g,C,hl,hfc,hcl,h=>by omega
  | f+1,c,left0,g,C,hl,hfc,hcl,h=>by
    have base:∀ (k:Nat) (s':DS),g.n+2≤k→DO dn m left left pv t0 C g ⟨k,g.n+1,g.R++[lfW],s'⟩:=fun k s' hk=>⟨by simp,fun i hi=>getD_appR hi,by show g.n≤k;omega,qB_new h (by omega) (by omega)⟩
    rw[downO]
    split
    · exact base _ _ (Nat.le_refl _)
    split
    · exact base _ _ (by omega)
    split
    · exact base _ _ (Nat.le_refl _)
    rename_i he _
    obtain ⟨g1,g2,g3,g4⟩:=skipT_ge (left:=left0) _ c rfl
    have hsk:skipT left0 c<N:=by have:=g2 (by omega);omega
    have hq:FK (qB dn m left pv t0 ⟨g.n+4,g.n+1,g.R++[lfW],splD left0 (skipT left0 c) (priceV m left0) g.s⟩ ((g.n+3,.gone)::C)) (g.n+4):=by
      have:=qB_new (left':=left) (s':=splD left0 (skipT left0 c) (priceV m left0) g.s) (p':=g.n+1) (k:=g.n+3) h (by omega) (by omega)
      exact ((this.add (i:=g.n+3) (x:=.gone) (Nat.le_refl _) (k:=g.n+4) (by omega)).perm qB_in).lf
    obtain ⟨i1,i2,i3,i4⟩:=kidsO_fk (dn:=dn) (m:=m) (left:=left) (pv:=pv) (t0:=t0) (left0:=left0) (c:=skipT left0 c) (C:=C) (f:=downO m f (skipT left0 c+1)) .gone (fun o g' C' hh=>downO_fk f (skipT left0 c+1) (onlyV left0 (skipT left0 c) o) g' C' (by unfold onlyV;simpa using hl) (by omega) (by omega) hh) (left0.getD (skipT left0 c) default).length 0 _ (g.n+3) [] hq
    generalize kidsO' (downO m f (skipT left0 c+1)) left0 (skipT left0 c) (left0.getD (skipT left0 c) default).length 0 ⟨g.n+4,g.n+1,g.R++[lfW],splD left0 (skipT left0 c) (priceV m left0) g.s⟩ (g.n+3) []=r at *
    dsimp only at i1 i2 i3
    have hRl:(g.R++[lfW]).length=g.R.length+1:=by simp
    unfold finQ
    refine⟨by dsimp only;rw[List.length_set];omega,fun i hi=>?_,by dsimp only;omega,?_⟩
    · dsimp only
      rw[getD_setR (by omega),i2 i (by omega)];exact getD_appR hi
    · have hlr:r.1.R.getD g.R.length default=lfW:=by rw[i2 _ (by omega)];exact getD_lfE _
      refine qB_row (left:=left) (g:=r.1) (C:=C) (by omega) hlr _ ?_
      exact (i4.perm qB_in.symm).keys rfl
end T
namespace T
variable {dn:FuncId} {m:Mdl} {left left':List (List Bool)} {pv:AV} {t0:Int} {os:List Ob} {g g':QS} {C:List (Nat × Ob)}
theorem qB_upd (h:Fc (qB dn m left pv t0 g C) os) {i:Nat} {y:Ob} (hp:g'.p=g.p:=by rfl) (hR:g'.R=g.R:=by rfl) (hy:(i,y)∈bB dn m left' pv t0 g':=by simp[bB,outO,planA]) (hb:∀ b∈bB dn m left' pv t0 g',b.1≠i→b∈bB dn m left pv t0 g:=by (intro b hb hne;simp only[bB,List.mem_cons,List.not_mem_nil,or_false] at hb ⊢;rcases hb with rfl|rfl|rfl|rfl|rfl|rfl|rfl|rfl|rfl<;>first|exact absurd rfl hne|simp[outO,planA])):Fc (qB dn m left' pv t0 g' C) (os.set i y):=by
  refine h.upd (qB_keys hp (by rw[hR])) (List.mem_append_left _ hy) fun b hb2 hne=>?_
  unfold qB at hb2 ⊢
  rcases List.mem_append.1 hb2 with h1 | h1
  · exact List.mem_append_left _ (hb b h1 hne)
  · rw[hp,hR] at h1
    exact List.mem_append_right _ h1
theorem qB_at (h:Fc (qB dn m left pv t0 g C) os) {b:Nat × Ob} (hb:b∈bB dn m left pv t0 g):os[b.1]?=some b.2:=h.at_ b (List.mem_append_left _ hb)
theorem qB_p (h:Fc (qB dn m left pv t0 g C) os):os[g.p]?=some (.arr 5 (rowsOf rwR g.R)):=h.at_ (g.p,_) (by unfold qB;simp)
theorem qB_C (h:Fc (qB dn m left pv t0 g C) os) {b:Nat × Ob} (hb:b∈C):os[b.1]?=some b.2:=h.at_ b (by unfold qB;simp[hb])
theorem qB_ne (h:Fc (qB dn m left pv t0 g C) os) {b:Nat × Ob} (hb:b∈bB dn m left pv t0 g):g.p≠b.1:=fun e=>by
  have h1:=qB_p h
  rw[e,qB_at h hb] at h1
  simp only[bB,List.mem_cons,List.not_mem_nil,or_false] at hb
  rcases hb with rfl | rfl | rfl | rfl | rfl | rfl | rfl | rfl | rfl<;>simp[outO] at h1
theorem newQ_fc (h:Fc (qB dn m left pv t0 g C) os) (k:Nat) (X:List Nd):Fc (qB dn m left pv t0 ⟨k,os.length+1,g.R++[lfW],{ g.s with nodes:=X }⟩ C) ((os.set g.p .gone).set 8 (.var [.ref (os.length+1) 5 0 (g.R.length+1)])++[.arr 5 [rwR lfW],.arr 5 (rowsOf rwR (g.R++[lfW]))]):=by
  have h1:=(h.front (bB dn m left pv t0 g)).kill .gone
  have hl:(os.set g.p Ob.gone).length=os.length:=List.length_set
  have h8:8<(os.set g.p Ob.gone).length:=by
    rw[hl];exact (List.getElem?_eq_some_iff.1 (qB_at h (b:=(8,.var [.ref g.p 5 0 g.R.length])) (by simp[bB]))).1
  have e:(os.set g.p .gone).set 8 (.var [.ref (os.length+1) 5 0 (g.R.length+1)])++[.arr 5 [rwR lfW],.arr 5 (rowsOf rwR (g.R++[lfW]))]=(os.set g.p .gone++[Ob.arr 5 [rwR lfW],Ob.arr 5 (rowsOf rwR (g.R++[lfW]))]).set 8 (.var [.ref (os.length+1) 5 0 (g.R.length+1)]):=by
    rw[List.set_append_left _ _ h8]
  rw[e]
  have h3:=(h1.app [.arr 5 [rwR lfW],.arr 5 (rowsOf rwR (g.R++[lfW]))]).add (k:=os.length+1) (x:=.arr 5 (rowsOf rwR (g.R++[lfW]))) (by rw[← hl,oLk];rfl) (h1.fresh (by rw[hl];omega))
  have h4:=h3.perm (List.perm_middle (l₁:=bB dn m left pv t0 g)).symm
  refine h4.upd ?_ ?_ fun b hb hne=>?_
  · unfold qB
    rw[List.map_append,List.map_append,bB_keys,bB_keys,List.map_cons,List.map_cons]
    dsimp only
    rw[show rwB (g.R++[lfW])=rwB g.R by rw[rwB_app,rwB_one];unfold rwO lfW kO mO;simp]
  · unfold qB bB
    simp
  · unfold qB at hb
    rw[show rwB (g.R++[lfW])=rwB g.R by rw[rwB_app,rwB_one];unfold rwO lfW kO mO;simp] at hb
    rcases List.mem_append.1 hb with h5 | h5
    · refine List.mem_append_left _ ?_
      simp only[bB,List.mem_cons,List.not_mem_nil,or_false] at h5 ⊢
      rcases h5 with rfl|rfl|rfl|rfl|rfl|rfl|rfl|rfl|rfl<;>first|exact absurd rfl hne|simp[outO,planA]
    · exact List.mem_append_right _ h5
theorem rowQ_fc {c:Int} {q j:Nat} {ks:List Int} (hj:j<g.R.length) (hl:g.R.getD j default=lfW) (h:Fc (qB dn m left pv t0 g ((q,.arr 1 (ints ks))::C)) os) (k:Nat) (X:List Nd) :
    Fc (qB dn m left pv t0 ⟨k,g.p,g.R.set j ⟨c,some (q,ks),none⟩,{ g.s with nodes:=X }⟩ C) (os.set g.p (.arr 5 (rowsOf rwR (g.R.set j ⟨c,some (q,ks),none⟩)))):=by
  have hp:=rwB_set hj (⟨c,some (q,ks),none⟩:Rw)
  rw[hl] at hp
  have e:rwO lfW++rwB (g.R.set j ⟨c,some (q,ks),none⟩)=rwB (g.R.set j ⟨c,some (q,ks),none⟩):=rfl
  rw[e] at hp
  have e2:rwO (⟨c,some (q,ks),none⟩:Rw)=[(q,.arr 1 (ints ks))]:=rfl
  rw[e2] at hp
  have h1:=((h.front (bB dn m left pv t0 g)).put (.arr 5 (rowsOf rwR (g.R.set j ⟨c,some (q,ks),none⟩)))).perm (List.perm_middle (l₁:=bB dn m left pv t0 g)).symm
  refine h1.perm ?_
  unfold qB
  have h2:bB dn m left pv t0 ⟨k,g.p,g.R.set j ⟨c,some (q,ks),none⟩,{ g.s with nodes:=X }⟩=bB dn m left pv t0 g:=by
    unfold bB outO planA
    dsimp only
    rw[List.length_set]
  rw[h2]
  refine List.Perm.append_left _ (List.Perm.cons _ ?_)
  have h3:(rwB g.R++(q,Ob.arr 1 (ints ks))::C).Perm ([(q,Ob.arr 1 (ints ks))]++(rwB g.R++C)):=List.perm_middle
  refine h3.trans ?_
  rw[← List.append_assoc]
  exact List.Perm.append_right C hp.symm
structure Cn (s r:DS):Prop where
  a:0≤s.spl→0≤r.spl
  b:r.spl≤s.spl
  c:0≤s.room→0≤r.room
  d:r.room≤s.room
  e:r.tot≤s.tot
theorem Cn.refl (s:DS):Cn s s:=⟨fun h=>h,Int.le_refl _,fun h=>h,Int.le_refl _,Int.le_refl _⟩
theorem Cn.trans {s r t:DS} (h:Cn s r) (k:Cn r t):Cn s t:=⟨fun x=>k.a (h.a x),Int.le_trans k.b h.b,fun x=>k.c (h.c x),Int.le_trans k.d h.d,Int.le_trans k.e h.e⟩
theorem kidsO_room {f:List (List Bool)→QS→QS} {left0:List (List Bool)} {c:Nat} (hf:∀ (o:Nat) (g:QS),((f (onlyV left0 c o) g).R.length:Int)+(f (onlyV left0 c o) g).s.room=g.R.length+g.s.room+1) :
    ∀ (w o:Nat) (g:QS) (q:Nat) (ks:List Int),((kidsO' f left0 c w o g q ks).1.R.length:Int)+(kidsO' f left0 c w o g q ks).1.s.room=g.R.length+g.s.room+w
  | 0,o,g,q,ks=>by show (g.R.length:Int)+g.s.room=_;simp
  | w+1,o,g,q,ks=>by
    have h1:=hf o ⟨g.n+1,g.p,g.R,g.s⟩
    rw[kidsO']
    generalize f (onlyV left0 c o) ⟨g.n+1,g.p,g.R,g.s⟩=r at *
    have:=kidsO_room hf w (o+1) ⟨r.n+2,r.p,r.R,r.s⟩ (r.n+1) (ks++[(g.R.length:Int)])
    dsimp only at h1 this ⊢
    rw[this];omega
theorem downO_room (m:Mdl) {N:Nat}:∀ (f c:Nat) (left0:List (List Bool)) (g:QS),left0.length=N→N+1≤f+c→c≤N→((downO m f c left0 g).R.length:Int)+(downO m f c left0 g).s.room=g.R.length+g.s.room+1
  | 0,c,left0,g,hl,hfc,hcl=>by omega
  | f+1,c,left0,g,hl,hfc,hcl=>by
    have hRl:(g.R++[lfW]).length=g.R.length+1:=by simp
    rw[downO]
    split
    · show ((g.R++[lfW]).length:Int)+g.s.room=_;omega
    split
    · show ((g.R++[lfW]).length:Int)+g.s.room=_;omega
    split
    · show ((g.R++[lfW]).length:Int)+g.s.room=_;omega
    rename_i he _
    obtain ⟨g1,g2,g3,g4⟩:=skipT_ge (left:=left0) _ c rfl
    have hsk:skipT left0 c<N:=by have:=g2 (by omega);omega
    have hK:=kidsO_room (left0:=left0) (c:=skipT left0 c) (f:=downO m f (skipT left0 c+1)) (fun o g'=>downO_room m f (skipT left0 c+1) (onlyV left0 (skipT left0 c) o) g' (by unfold onlyV;simpa using hl) (by omega) (by omega)) (left0.getD (skipT left0 c) default).length 0 ⟨g.n+4,g.n+1,g.R++[lfW],splD left0 (skipT left0 c) (priceV m left0) g.s⟩ (g.n+3) []
    generalize kidsO' (downO m f (skipT left0 c+1)) left0 (skipT left0 c) (left0.getD (skipT left0 c) default).length 0 ⟨g.n+4,g.n+1,g.R++[lfW],splD left0 (skipT left0 c) (priceV m left0) g.s⟩ (g.n+3) []=r at *
    unfold splD at hK
    dsimp only at hK
    show ((r.1.R.set g.R.length _).length:Int)+r.1.s.room=_
    rw[List.length_set];omega
theorem kidsO_cn {f:List (List Bool)→QS→QS} (hf:∀ l g,Cn g.s (f l g).s) (left:List (List Bool)) (c:Nat):∀ (w o:Nat) (g:QS) (q:Nat) (ks:List Int),Cn g.s (kidsO' f left c w o g q ks).1.s
  | 0,o,g,q,ks=>Cn.refl g.s
  | w+1,o,g,q,ks=>by
    have h1:=hf (onlyV left c o) ⟨g.n+1,g.p,g.R,g.s⟩
    rw[kidsO']
    generalize f (onlyV left c o) ⟨g.n+1,g.p,g.R,g.s⟩=r at *
    exact h1.trans (kidsO_cn hf left c w (o+1) ⟨r.n+2,r.p,r.R,r.s⟩ (r.n+1) _)
theorem downO_cn (m:Mdl):∀ (f c:Nat) (left:List (List Bool)) (g:QS),Cn g.s (downO m f c left g).s
  | 0,c,left,g=>Cn.refl g.s
  | f+1,c,left,g=>by
    rw[downO]
    split
    · exact⟨fun h=>h,Int.le_refl _,fun h=>h,Int.le_refl _,Int.le_refl _⟩
    split
    · exact⟨fun h=>h,Int.le_refl _,fun h=>h,Int.le_refl _,by dsimp only;omega⟩
    split
    · exact⟨fun h=>h,Int.le_refl _,fun h=>h,Int.le_refl _,Int.le_refl _⟩
    rename_i hb
    rw[not_or] at hb
    refine Cn.trans (r:=splD left (skipT left c) (priceV m left) g.s) ?_ ?_
    · unfold splD
      exact⟨fun h=>by dsimp only;omega,by dsimp only;omega,fun h=>by dsimp only;omega,by dsimp only;omega,Int.le_refl _⟩
    · have:=kidsO_cn (fun l g=>downO_cn m f (skipT left c+1) l g) left (skipT left c) (left.getD (skipT left c) default).length 0 ⟨g.n+4,g.n+1,g.R++[lfW],splD left (skipT left c) (priceV m left) g.s⟩ (g.n+3) []
      exact⟨this.a,this.b,this.c,this.d,this.e⟩
end T
namespace T
variable {dn:FuncId} {m:Mdl} {left left':List (List Bool)} {pv:AV} {t0:Int} {os:List Ob} {g g':QS} {C:List (Nat × Ob)}
theorem qB_out {b:Nat × Ob}:(qB dn m left pv t0 g (b::C)).Perm (b::qB dn m left pv t0 g C):=qB_in.symm
theorem kidQ_fc {q nv:Nat} {x y X':Ob} (a:Ob) (h:Fc (qB dn m left pv t0 g ((q,x)::(nv,y)::C)) os) (k:Nat) (b:Ob):Fc (qB dn m left pv t0 ⟨k,g.p,g.R,g.s⟩ ((os.length+1,b)::(nv,X')::C)) ((os.set q .gone).set nv X'++[a,b]):=by
  have h1:=((h.perm qB_out).kill .gone).perm qB_out
  have h2:=((h1.put X').app [a,b]).add (k:=os.length+1) (x:=b) (by
    have:((os.set q Ob.gone).set nv X').length=os.length:=by simp
    rw[← this,oLk];rfl) ((h1.put X').fresh (by simp))
  have h3:((os.length+1,b)::(nv,X')::qB dn m left pv t0 g C).Perm (qB dn m left pv t0 ⟨k,g.p,g.R,g.s⟩ ((os.length+1,b)::(nv,X')::C)):=(List.Perm.cons _ qB_in).trans qB_in
  exact h2.perm h3
theorem eBs_set {c:Nat} (x y:List Bool):(rowsOf eBs (left.set c x)).set c [.tree 1 (bools y)]=rowsOf eBs (left.set c y):=by
  unfold rowsOf
  rw[List.map_set,List.map_set,List.set_set];rfl
theorem setRow_self {c:Nat} (hc:c<left.length):left.set c (left.getD c default)=left:=by
  rw[List.getD_eq_getElem?_getD,List.getElem?_eq_getElem hc]
  exact List.set_getElem_self hc
theorem rw_get {R:List Rw} {j:Nat} {r:Rw} (hj:j<R.length) (h:R.getD j default=r):(rowsOf rwR R)[j]?=some (rwR r):=by
  unfold rowsOf
  rw[List.getElem?_map,List.getElem?_eq_getElem hj,Option.map_some]
  rw[List.getD_eq_getElem?_getD,List.getElem?_eq_getElem hj,Option.getD_some] at h
  rw[h]
theorem rw_set (R:List Rw) (j:Nat) (r:Rw):(rowsOf rwR R).set j (rwR r)=rowsOf rwR (R.set j r):=by unfold rowsOf;rw[List.map_set]
end T
namespace T
variable {σ:St} {kp:Nat→Prop}
theorem frzI {id n:Nat} {xs:List Int} (ho:σ.objs[id]?=some (.arr 1 (ints xs))) (hn:n=xs.length) (hk:¬ kp id):Frz σ kp (.tree 1 (ints xs)) (.ref id 1 0 n) :=
  Frz.mk ho (by rw[hn];simp[ints]) hk (ints_wid _) (RowsR.of_get (f:=fun _=>[]) (g:=fun _=>[]) rfl fun j c d hc hd=>by rw[hc] at hd;cases hd;exact frz_row (fun v hv=>ints_frz _ _ (List.mem_of_getElem? hc) v hv) rfl)
theorem frzE {α:Type} {enc:α→List AV} {w:Nat} [Row enc w] {id n:Nat} {xs:List α} (ho:σ.objs[id]?=some (.arr w (rowsOf enc xs))) (hn:n=xs.length) (hk:¬ kp id):Frz σ kp (.tree w (rowsOf enc xs)) (.ref id w 0 n) :=
  Frz.mk ho (by rw[hn,rows_length]) hk (rows_wid _) (RowsR.of_get (f:=fun _=>[]) (g:=fun _=>[]) rfl fun j c d hc hd=>by rw[hc] at hd;cases hd;exact frz_row (fun v hv=>rows_frz _ _ (List.mem_of_getElem? hc) v hv) rfl)
theorem frzK (x:Option (Nat × List Int)) (h:∀ b∈kO x,σ.objs[b.1]?=some b.2) (hk:∀ i,¬ kp i):Frz σ kp (.tree 1 (ints ((x.map (·.2)).getD []))) (kE x):=by
  cases x with
  | none=>exact .nil 1
  | some y=>exact frzI (h (y.1,.arr 1 (ints y.2)) (by simp[kO])) rfl (hk _)
theorem frzM (x:Option (Nat × List Mv)) (h:∀ b∈mO x,σ.objs[b.1]?=some b.2) (hk:∀ i,¬ kp i):Frz σ kp (.tree 4 (rowsOf eMv ((x.map (·.2)).getD []))) (mE x):=by
  cases x with
  | none=>exact .nil 4
  | some y=>exact frzE (h (y.1,.arr 4 (rowsOf eMv y.2)) (by simp[mO])) rfl (hk _)
theorem frzN (r:Rw) (h:∀ b∈rwO r,σ.objs[b.1]?=some b.2) (hk:∀ i,¬ kp i):ArgsR (Frz σ kp) (eNd (rwN r)) (rwR r) :=
  ⟨.lit _,frzK r.kid (fun b hb=>h b (by unfold rwO;simp[hb])) hk,frzM r.mv (fun b hb=>h b (by unfold rwO;simp[hb])) hk,.nil 1,.nil 1,trivial⟩
theorem frzNs (hk:∀ i,¬ kp i):∀ (R:List Rw),(∀ b∈rwB R,σ.objs[b.1]?=some b.2)→RowsR (Frz σ kp) (rowsOf eNd (R.map rwN)) (rowsOf rwR R)
  | [],_=>trivial
  | r::R,h=>⟨frzN r (fun b hb=>h b (by unfold rwB;simp[hb])) hk,frzNs hk R (fun b hb=>h b (by unfold rwB at hb ⊢;rw[List.flatMap_cons,List.mem_append];exact .inr hb))⟩
theorem frzP {p:Nat} {R:List Rw} (hp:σ.objs[p]?=some (.arr 5 (rowsOf rwR R))) (h:∀ b∈rwB R,σ.objs[b.1]?=some b.2) (hk:∀ i,¬ kp i):Frz σ kp (.tree 5 (rowsOf eNd (R.map rwN))) (.ref p 5 0 R.length) :=
  Frz.mk hp (by rw[rw_len]) (hk _) (rows_wid _) (frzNs hk R h)
end T

