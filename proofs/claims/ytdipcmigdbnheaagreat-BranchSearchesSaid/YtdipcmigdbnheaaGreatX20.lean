import Derived.Test.YtdipcmigdbnheaaGreatX18
import Derived.Test.YtdipcmigdbnheaaGreatX13
set_option linter.unusedVariables false
set_option linter.unusedSimpArgs false
set_option linter.unnecessarySimpa false
set_option linter.unusedSectionVars false
set_option maxHeartbeats 64000000
set_option maxRecDepth 20000
open List renaming mem_singleton→ee,mem_append→dh,mem_map→bV,getElem?_eq_some_iff→aY,mem_iff_getElem→te,getElem?_set_ne→cz,mem_cons→bW,map_cons→du,cons_append→fB,nodup_cons→qE,nodup_append→rZ,map_nil→lV,getElem?_cons_succ→uL,getD_cons_succ→ep,length→tu,getElem?_map→bR,getD_eq_getElem?_getD→ay,getElem?_eq_getElem→bm,getElem?_cons_zero→uK,ext_getElem?→km,getElem?_eq_none→dM,set_cons_succ→tj,getElem?_set→bO
open Nat renaming add_zero→gU
open Option renaming some→dw,map_some→eC
open Go Go.Am Go.Proofs
open Nat (reduceEqDiff reduceAdd reduceLeDiff reduceMul)
open Int (reduceNeg reduceLE reduceToNat)
open Go Go.Am
namespace T
def aK (l:List Bool):List AV:=[.tree 1 (bf l)]
instance:Row aK 1:=⟨fun _=>rfl,fun l v hv=>by
  simp only[aK,ee] at hv;subst hv;exact .inr ⟨_,_,rfl⟩⟩
end T
namespace T
def lR (q:Nat × Nat):List AV:=[.ref q.1 1 0 q.2]
theorem Wj (D:List (Nat × Nat)) (p n:Nat):rowsOf lR D++[[AV.ref p 1 0 n]]=rowsOf lR (D++[(p,n)]):=by simp[rowsOf,lR]
structure dy (B:List (Nat × Ob)) (D:List (Nat × Nat)) (S:List (List Bool)) (os:List Ob):Prop where
  base:∀ b∈B,os[b.1]?=some b.2
  len:D.length=S.length
  row:∀ j,j<D.length→os[(D.getD j default).1]?=some (.arr 1 (bf (S.getD j default)))∧(S.getD j default).length=(D.getD j default).2
  nd:(B.map (·.1)++D.map (·.1)).Nodup
section
variable {B:List (Nat × Ob)} {D:List (Nat × Nat)} {S:List (List Bool)} {os:List Ob}
theorem dy.app (h:dy B D S os) (l:List Ob):dy B D S (os++l):=⟨fun b hb=>bz (h.base b hb) l,h.len,fun j hj=>⟨bz (h.row j hj).1 l,(h.row j hj).2⟩,h.nd⟩
theorem dy.fresh (h:dy B D S os) {p:Nat} (hp:os.length≤p):p ∉ B.map (·.1)++D.map (·.1):=fun hh=>by
  rw[dh] at hh
  rcases hh with hh | hh
  · obtain ⟨q,hq,rfl⟩:=bV.1 hh
    have:=(aY.1 (h.base q hq)).1
    omega
  · obtain ⟨q,hq,rfl⟩:=bV.1 hh
    obtain ⟨k,hk,rfl⟩:=te.1 hq
    have h1:=(h.row k hk).1
    have a1:D.getD k default=D[k]:=by simp[hk]
    rw[a1] at h1
    have:=(aY.1 h1).1
    omega
theorem dy.other (h:dy B D S os) {i:Nat} (hi:i ∉ B.map (·.1)++D.map (·.1)) (y:Ob):dy B D S (os.set i y):=by
  rw[dh,not_or] at hi
  refine⟨fun b hb=>?_,h.len,fun k hk=>⟨?_,(h.row k hk).2⟩,h.nd⟩
  · rw[cz (fun e=>hi.1 (bV.2 ⟨b,hb,e.symm⟩))];exact h.base b hb
  · rw[cz (fun e=>hi.2 (bV.2 ⟨D.getD k default,az hk,e.symm⟩))];exact (h.row k hk).1
theorem dy.add (h:dy B D S os) {k:Nat} {x:Ob} (hk:os[k]?=some x) (hf:k ∉ B.map (·.1)++D.map (·.1)):dy ((k,x)::B) D S os :=
  ⟨fun b hb=>by rcases bW.1 hb with rfl | hb;exact hk;exact h.base b hb,h.len,h.row,by
    rw[du,fB,qE];exact⟨hf,h.nd⟩⟩
theorem dy.b0 {a:Nat × Ob} (h:dy (a::B) D S os):os[a.1]?=some a.2:=h.base a (by simp)
theorem dy.b1 {a b:Nat × Ob} (h:dy (a::b::B) D S os):os[b.1]?=some b.2:=h.base b (by simp)
theorem dy.b2 {a b c:Nat × Ob} (h:dy (a::b::c::B) D S os):os[c.1]?=some c.2:=h.base c (by simp)
theorem dy.b3 {a b c d:Nat × Ob} (h:dy (a::b::c::d::B) D S os):os[d.1]?=some d.2:=h.base d (by simp)
theorem dy.put {i:Nat} {x:Ob} (h:dy ((i,x)::B) D S os) (y:Ob):dy ((i,y)::B) D S (os.set i y):=by
  have hn:=h.nd
  rw[du,fB,qE] at hn
  have hx:=h.base (i,x) (by simp)
  have h2:dy B D S os:=⟨fun b hb=>h.base b (by simp[hb]),h.len,h.row,hn.2⟩
  exact (h2.other hn.1 y).add (oY hx) hn.1
theorem dy.drop {i:Nat} {x:Ob} (h:dy ((i,x)::B) D S os):dy B D S os∧i ∉ B.map (·.1)++D.map (·.1):=by
  have hn:=h.nd
  rw[du,fB,qE] at hn
  exact⟨⟨fun b hb=>h.base b (by simp[hb]),h.len,h.row,hn.2⟩,hn.1⟩
theorem dy.swap {a b:Nat × Ob} (h:dy (a::b::B) D S os):dy (b::a::B) D S os :=
  ⟨fun c hc=>h.base c (by simp only[bW] at hc ⊢;rcases hc with hc | hc | hc<;>simp[hc]),h.len,h.row,by
    have:=h.nd
    simp only[du,fB,qE,bW,not_or] at this ⊢
    exact⟨⟨Ne.symm this.1.1,this.2.1⟩,this.1.2,this.2.2⟩⟩
theorem dy.snoc {p:Nat} {r:List Bool} (h:dy ((p,.arr 1 (bf r))::B) D S os):dy B (D++[(p,r.length)]) (S++[r]) os:=by
  obtain ⟨h2,hf⟩:=h.drop
  have hp:=h.base (p,.arr 1 (bf r)) (by simp)
  refine⟨h2.base,by simp[h2.len],fun j hj=>?_,?_⟩
  · rw[FD,FD,← h2.len]
    by_cases h1:j<D.length
    · rw[if_pos h1,if_pos h1];exact h2.row j h1
    · have:j=D.length:=by simp at hj;omega
      rw[if_neg h1,if_neg h1,if_pos this,if_pos this];exact⟨hp,rfl⟩
  · rw[List.map_append,← List.append_assoc,rZ]
    refine⟨h2.nd,by simp,fun a ha b hb=>?_⟩
    simp only[du,lV,ee] at hb
    subst hb
    exact fun e=>hf (e ▸ ha)
end
def jQ (p:Nat):List (List Bool)→List (List AV)
  | []=>[]
  | r::t=>[.ref p 1 0 r.length]::jQ (p+1) t
def oZ (S:List (List Bool)):List Ob:=S.map fun r=>.arr 1 (bf r)
theorem F8 (S:List (List Bool)):(oZ S).length=S.length:=List.length_map _
theorem F9:∀ (p:Nat) (S:List (List Bool)),(jQ p S).length=S.length
  | _,[]=>rfl
  | p,r::t=>by simp only[jQ,List.length_cons,F9 (p+1) t]
theorem Dm:∀ (p:Nat) (S:List (List Bool)) (j:Nat),j<S.length→(jQ p S)[j]?=some [.ref (p+j) 1 0 (S.getD j default).length]
  | _,[],j,h=>by simp at h
  | p,r::t,0,h=>rfl
  | p,r::t,j+1,h=>by
    rw[jQ,uL,Dm (p+1) t j (by simpa using h)]
    rw[show p+1+j=p+(j+1) by omega,ep]
theorem aeV {S T:List (List Bool)} (p:Nat) (h:S.map tu=T.map tu):jQ p S=jQ p T:=by
  induction S generalizing T p with
  | nil=>cases T with
    | nil=>rfl
    | cons=>simp at h
  | cons r S ih=>cases T with
    | nil=>simp at h
    | cons t T =>
      simp only[du,List.cons.injEq] at h
      rw[jQ,jQ,h.1,ih (p+1) h.2]
theorem aeW (ρ:Nat→Nat) (S:List (List Bool)):∀ (q p:Nat),(∀ j,j<S.length→ρ (p+j)=q+j)→(jQ p S).map (List.map (aX ρ))=jQ q S:=by
  induction S with
  | nil=>intro q p _;rfl
  | cons r t ih =>
    intro q p h
    have h0:=h 0 (by simp)
    rw[gU,gU] at h0
    rw[jQ,jQ,du,du,lV,aX,h0]
    refine congrArg _ (ih (q+1) (p+1) fun j hj=>?_)
    have:=h (j+1) (by simpa using hj)
    rw[show p+1+j=p+(j+1) by omega,this];omega
theorem aeX (ρ:Nat→Nat) (S:List (List Bool)):(oZ S).map (bD ρ)=oZ S:=by
  unfold oZ
  rw[List.map_map]
  refine List.map_congr_left fun r _=>?_
  show bD ρ (.arr 1 (bf r))=_
  exact xY _ _ _
theorem Ga {B:List (Nat × Ob)} {D:List (Nat × Nat)} {S:List (List Bool)} {os:List Ob} (h:dy B D S os) {j:Nat} (hj:j<S.length):(rowsOf lR D)[j]?=some [.ref (D.getD j default).1 1 0 (S.getD j default).length]:=by
  have hd:=h.len
  have h2:=(h.row j (by omega)).2
  rw[h2]
  unfold rowsOf
  rw[bR,ay,bm (by omega)];rfl
theorem dy.ret {D:List (Nat × Nat)} {S:List (List Bool)} {os:List Ob} {x:Ob} {oi:Nat} (h:dy [(0,x),(oi,.arr 1 (rowsOf lR D))] D S os) (hx:∀ ρ,bD ρ x=x) (hg:x≠.gone) (e:Nat→AV) :
    nK 1 ⟨e,os⟩ (.ref oi 1 0 S.length) (.ref 1 1 0 S.length) (x::.arr 1 (jQ 2 S)::oZ S):=by
  have hd:=h.len
  have h0:=h.base (0,x) (by simp)
  have h1:=h.base (oi,.arr 1 (rowsOf lR D)) (by simp)
  dsimp only at h0 h1
  have hl:∀ i∈0::oi::D.map (·.1),i<os.length:=fun i hi=>by
    rcases bW.1 hi with rfl | hi
    · exact (aY.1 h0).1
    rcases bW.1 hi with rfl | hi
    · exact (aY.1 h1).1
    obtain ⟨q,hq,rfl⟩:=bV.1 hi
    obtain ⟨k,hk,rfl⟩:=te.1 hq
    have h3:=(h.row k hk).1
    have a1:D.getD k default=D[k]:=by simp[hk]
    rw[a1] at h3
    exact (aY.1 h3).1
  have Kq:∀ j,j<S.length→a9 os.length (0::oi::D.map (·.1)) (2+j)=(D.getD j default).1:=fun j hj=>by
    unfold a9
    rw[if_pos (by simp;omega),show 2+j=j+1+1 by omega,ep,ep,ay,bR,ay,bm (by omega)];rfl
  refine⟨0::oi::D.map (·.1),false,by simpa using h.nd,by simp[F8,hd],fun j o hj=>.inr ?_,hl,by simp,fun i hi=>?_,.eq ?_⟩
  · match j with
    | 0 =>
      simp only[uK,dw.injEq] at hj
      subst hj
      rw[hx];exact h0
    | 1 =>
      simp only[uL,uK,dw.injEq] at hj
      subst hj
      refine h1.trans (congrArg some ?_)
      rw[bD]
      refine congrArg _ (km fun i=>?_)
      rw[bR]
      by_cases hi:i<S.length
      · rw[Ga h hi,Dm 2 S i hi,eC,du,lV,aX,Kq i hi]
      · rw[dM (by simp[rowsOf];omega),dM (by rw[F9];omega)];rfl
    | j+2 =>
      simp only[uL] at hj
      have jH:j<S.length:=by have:=(aY.1 hj).1;rwa [F8] at this
      have h3:=(h.row j (by omega)).1
      unfold oZ at hj
      rw[bR,bm jH] at hj
      simp only[eC,dw.injEq] at hj
      subst hj
      rw[xY]
      have e1:(0::oi::D.map (·.1)).getD (j+2) 0=(D.getD j default).1:=by
        rw[ep,ep,ay,bR,ay,bm (by omega)];rfl
      have e2:S.getD j default=S[j]:=by rw[ay,bm jH];rfl
      rw[e1,← e2]
      exact h3
  · have:i=0:=by omega
    subst this;rfl
  · rw[aX]
    have:a9 os.length (0::oi::D.map (·.1)) 1=oi:=by unfold a9;rw[if_pos (by simp)];rfl
    rw[this]
end T
namespace T
def nO (x:Ob) (A:List (List AV)) (Y:List (List Bool)):List Ob:=x::.arr 1 A::oZ Y
theorem nOk (x:Ob) (A:List (List AV)) {Y:List (List Bool)} {i:Nat} (h:i<Y.length):(nO x A Y)[2+i]?=some (.arr 1 (bf (Y.getD i default))):=by
  unfold nO
  rw[show 2+i=i+1+1 by omega,uL,uL]
  unfold oZ
  rw[bR,ay,bm h];rfl
theorem nOs (x:Ob) (A:List (List AV)) (Y:List (List Bool)) (i:Nat) (r:List Bool):(nO x A Y).set (2+i) (.arr 1 (bf r))=nO x A (Y.set i r):=by
  unfold nO oZ
  rw[show 2+i=i+1+1 by omega,tj,tj,List.map_set]
theorem iL.zf {R:AV→AV→Prop} {f:Nat→List AV} {g:Nat→List AV}:∀ {cs ds:List (List AV)},cs.length=ds.length→(∀ (j:Nat) c d,cs[j]?=some c→ds[j]?=some d→iK R c d)→iL R cs ds
  | [],[],_,_=>trivial
  | [],_::_,h,_=>by simp at h
  | _::_,[],h,_=>by simp at h
  | c::cs,d::ds,h,k=>⟨k 0 c d rfl rfl,iL.zf (f:=f) (g:=g) (by simpa using h) fun j c d hc hd=>k (j+1) c d (by simpa using hc) (by simpa using hd)⟩
theorem Wl {σ:St} {kp:Nat→Prop} {id:Nat} {bs:List Bool} (ho:σ.aa[id]?=some (.arr 1 (bf bs))) (hk:¬ kp id):cw σ kp (.tree 1 (bf bs)) (.ref id 1 0 bs.length) :=
  cw.mk ho (by simp[bf]) hk (HD _) (iL.zf (f:=fun _=>[]) (g:=fun _=>[]) rfl fun j c d hc hd=>by
    rw[hc] at hd
    cases hd
    unfold bf at hc
    rw[bR] at hc
    cases hb:bs[j]? with
    | none=>rw[hb] at hc;cases hc
    | some b=>rw[hb] at hc;simp only[eC,dw.injEq] at hc;subst hc;exact⟨.lit _,trivial⟩)
theorem ae0 {σ:St} {kp:Nat→Prop} {oi:Nat} {A:List (List AV)} {S:List (List Bool)} (ho:σ.aa[oi]?=some (.arr 1 A)) (hk:¬ kp oi) (hA:A.length=S.length)
    (h:∀ j,j<S.length→∃ id,A[j]?=some [.ref id 1 0 (S.getD j default).length]∧σ.aa[id]?=some (.arr 1 (bf (S.getD j default)))∧¬ kp id):cw σ kp (.tree 1 (rowsOf aK S)) (.ref oi 1 0 S.length) :=
  cw.mk ho hA.symm hk (kC _) (iL.zf (f:=fun _=>[]) (g:=fun _=>[]) (by simp[rowsOf,hA]) fun j c d hc hd=>by
    unfold rowsOf at hc
    rw[List.getElem?_map] at hc
    have hj:j<S.length:=by
      cases hb:S[j]? with
      | none=>rw[hb] at hc;cases hc
      | some b=>exact (List.getElem?_eq_some_iff.1 hb).1
    obtain ⟨id,h1,h2,h3⟩:=h j hj
    rw[h1] at hd
    simp only[Option.some.injEq] at hd
    subst hd
    rw[List.getElem?_eq_getElem hj] at hc
    simp only[Option.map_some,Option.some.injEq] at hc
    subst hc
    have e2:S.getD j default=S[j]:=by rw[List.getD_eq_getElem?_getD,List.getElem?_eq_getElem hj];rfl
    rw[e2] at h2 ⊢
    exact⟨Wl h2 h3,trivial⟩)
end T
namespace T
theorem dy.ae1 (x:Ob):dy [(1,.arr 1 []),(0,x)] [] [] [x,.arr 1 []]:=⟨by simp,rfl,by simp,(show ([1,0]:List Nat).Nodup by decide)⟩
theorem dy.ae2 {D:List (Nat × Nat)} {S:List (List Bool)} {os:List Ob} {oi:Nat} (h:dy [(oi,.arr 1 (rowsOf lR D))] D S os) (e:Nat→AV) :
    nK 0 ⟨e,os⟩ (.ref oi 1 0 S.length) (.ref 0 1 0 S.length) (.arr 1 (jQ 1 S)::oZ S):=by
  have hd:=h.len
  have h1:=h.base (oi,.arr 1 (rowsOf lR D)) (by simp)
  dsimp only at h1
  have hl:∀ i∈oi::D.map (·.1),i<os.length:=fun i hi=>by
    rcases bW.1 hi with rfl | hi
    · exact (aY.1 h1).1
    obtain ⟨q,hq,rfl⟩:=bV.1 hi
    obtain ⟨k,hk,rfl⟩:=te.1 hq
    have h3:=(h.row k hk).1
    have a1:D.getD k default=D[k]:=by simp[hk]
    rw[a1] at h3
    exact (aY.1 h3).1
  have Kq:∀ j,j<S.length→a9 os.length (oi::D.map (·.1)) (1+j)=(D.getD j default).1:=fun j hj=>by
    unfold a9
    rw[if_pos (by simp;omega),show 1+j=j+1 by omega,ep,ay,bR,ay,bm (by omega)];rfl
  refine⟨oi::D.map (·.1),false,by simpa using h.nd,by simp[F8,hd],fun j o hj=>.inr ?_,hl,by simp,fun i hi=>?_,.eq ?_⟩
  · match j with
    | 0 =>
      simp only[uK,dw.injEq] at hj
      subst hj
      refine h1.trans (congrArg some ?_)
      rw[bD]
      refine congrArg _ (km fun i=>?_)
      rw[bR]
      by_cases hi:i<S.length
      · rw[Ga h hi,Dm 1 S i hi,eC,du,lV,aX,Kq i hi]
      · rw[dM (by simp[rowsOf];omega),dM (by rw[F9];omega)];rfl
    | j+1 =>
      simp only[uL] at hj
      have jH:j<S.length:=by have:=(aY.1 hj).1;rwa [F8] at this
      have h3:=(h.row j (by omega)).1
      unfold oZ at hj
      rw[bR,bm jH] at hj
      simp only[eC,dw.injEq] at hj
      subst hj
      rw[xY]
      have e1:(oi::D.map (·.1)).getD (j+1) 0=(D.getD j default).1:=by
        rw[ep,ay,bR,ay,bm (by omega)];rfl
      have e2:S.getD j default=S[j]:=by rw[ay,bm jH];rfl
      rw[e1,← e2]
      exact h3
  · omega
  · rw[aX]
    have:a9 os.length (oi::D.map (·.1)) 0=oi:=by unfold a9;rw[if_pos (by simp)];rfl
    rw[this]
end T
namespace T
theorem dy.setRow {B:List (Nat × Ob)} {D:List (Nat × Nat)} {S:List (List Bool)} {os:List Ob} (h:dy B D S os) {j:Nat} (hj:j<S.length) {r:List Bool} (hr:r.length=(S.getD j default).length) :
    dy B D (S.set j r) (os.set (D.getD j default).1 (.arr 1 (bf r))):=by
  have qQ:j<D.length:=by rw[h.len];exact hj
  have bC:=rZ.1 h.nd
  have Wm:D.getD j default=D[j]:=by simp[qQ]
  have cd:(D.getD j default).1∈D.map (·.1):=by rw[Wm];exact bV.2 ⟨_,List.getElem_mem qQ,rfl⟩
  refine⟨fun b hb=>?_,by rw[List.length_set];exact h.len,fun k hk=>?_,h.nd⟩
  · rw[cz ?_]
    · exact h.base b hb
    · intro e
      exact bC.2.2 _ (bV.2 ⟨b,hb,rfl⟩) _ cd e.symm
  · obtain ⟨h1,h2⟩:=h.row k hk
    by_cases e:k=j
    · subst e
      have aT:=(aY.1 h1).1
      have hg:(S.set k r).getD k default=r:=by rw[ay,bO,if_pos rfl,if_pos hj];rfl
      rw[bO,if_pos rfl,if_pos aT,hg]
      exact⟨rfl,hr.trans h2⟩
    · have hg:(S.set j r).getD k default=S.getD k default:=by rw[ay,cz (Ne.symm e),← ay]
      rw[hg,cz ?_]
      · exact⟨h1,h2⟩
      · intro e2
        have hDk:D.getD k default=D[k]:=by simp[hk]
        rw[Wm,hDk] at e2
        have hp:=List.pairwise_iff_getElem.1 bC.2.1
        rcases Nat.lt_or_gt_of_ne e with hl | hl
        · exact hp k j (by simpa using hk) (by simpa using qQ) hl (by simpa using e2.symm)
        · exact hp j k (by simpa using qQ) (by simpa using hk) hl (by simpa using e2)
end T

