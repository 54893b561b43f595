import Derived.Test.YtdipcmigdbnheaaGreatX18
import Derived.Test.YtdipcmigdbnheaaGreatX14
import Derived.Test.YtdipcmigdbnheaaGreatX15
set_option linter.unusedVariables false
set_option linter.unusedSimpArgs false
set_option linter.unnecessarySimpa false
set_option linter.unusedSectionVars false
set_option maxHeartbeats 64000000
set_option maxRecDepth 20000
open List renaming mem_singleton→ek,mem_append→cy,mem_map→b7,getElem?_eq_some_iff→aS,mem_iff_getElem→sm,getElem?_set_ne→bu,mem_cons→bZ,map_cons→cR,cons_append→dG,nodup_cons→re,map_nil→jJ,getElem?_cons_succ→tR,getD_cons_succ→eS,length→nL,getElem?_map→bN,getD_eq_getElem?_getD→ay,getElem?_eq_getElem→bI,getElem?_cons_zero→ss,getElem?_eq_none→du,set_cons_succ→sw
open Nat renaming add_zero→g7
open Option renaming some→da,map_some→ed
open Go Go.Am Go.Proofs
open Nat (reduceEqDiff reduceAdd reduceLeDiff reduceMul)
open Int (reduceNeg reduceLE reduceToNat)
open Go Go.Am
namespace T
def aE (l:List Bool):List AV:=[.tree 1 (bg l)]
instance:Row aE 1:=⟨fun _=>rfl,fun l v hv=>by
  simp only[aE,ek] at hv;subst hv;exact .inr ⟨_,_,rfl⟩⟩
end T
namespace T
def ln (q:Nat × Nat):List AV:=[.ref q.1 1 0 q.2]
theorem QZ (D:List (Nat × Nat)) (p n:Nat):rowsOf ln D++[[AV.ref p 1 0 n]]=rowsOf ln (D++[(p,n)]):=by simp[rowsOf,ln]
structure dt (B:List (Nat × Ob)) (D:List (Nat × Nat)) (S:List (List Bool)) (os:List Ob):Prop where
  base:∀ b∈B,os[b.1]?=some b.2
  len:D.length=S.length
  row:∀ j,j<D.length→os[(D.getD j default).1]?=some (.arr 1 (bg (S.getD j default)))∧(S.getD j default).length=(D.getD j default).2
  nd:(B.map (·.1)++D.map (·.1)).Nodup
section
variable {B:List (Nat × Ob)} {D:List (Nat × Nat)} {S:List (List Bool)} {os:List Ob}
theorem dt.app (h:dt B D S os) (l:List Ob):dt B D S (os++l):=⟨fun b hb=>a7 (h.base b hb) l,h.len,fun j hj=>⟨a7 (h.row j hj).1 l,(h.row j hj).2⟩,h.nd⟩
theorem dt.fresh (h:dt B D S os) {p:Nat} (hp:os.length≤p):p ∉ B.map (·.1)++D.map (·.1):=fun hh=>by
  rw[cy] at hh
  rcases hh with hh | hh
  · obtain ⟨q,hq,rfl⟩:=b7.1 hh
    have:=(aS.1 (h.base q hq)).1
    omega
  · obtain ⟨q,hq,rfl⟩:=b7.1 hh
    obtain ⟨k,hk,rfl⟩:=sm.1 hq
    have h1:=(h.row k hk).1
    have a1:D.getD k default=D[k]:=by simp[hk]
    rw[a1] at h1
    have:=(aS.1 h1).1
    omega
theorem dt.other (h:dt B D S os) {i:Nat} (hi:i ∉ B.map (·.1)++D.map (·.1)) (y:Ob):dt B D S (os.set i y):=by
  rw[cy,not_or] at hi
  refine⟨fun b hb=>?_,h.len,fun k hk=>⟨?_,(h.row k hk).2⟩,h.nd⟩
  · rw[bu (fun e=>hi.1 (b7.2 ⟨b,hb,e.symm⟩))];exact h.base b hb
  · rw[bu (fun e=>hi.2 (b7.2 ⟨D.getD k default,az hk,e.symm⟩))];exact (h.row k hk).1
theorem dt.add (h:dt B D S os) {k:Nat} {x:Ob} (hk:os[k]?=some x) (hf:k ∉ B.map (·.1)++D.map (·.1)):dt ((k,x)::B) D S os :=
  ⟨fun b hb=>by rcases bZ.1 hb with rfl | hb;exact hk;exact h.base b hb,h.len,h.row,by
    rw[cR,dG,re];exact⟨hf,h.nd⟩⟩
theorem dt.b0 {a:Nat × Ob} (h:dt (a::B) D S os):os[a.1]?=some a.2:=h.base a (by simp)
theorem dt.b1 {a b:Nat × Ob} (h:dt (a::b::B) D S os):os[b.1]?=some b.2:=h.base b (by simp)
theorem dt.b2 {a b c:Nat × Ob} (h:dt (a::b::c::B) D S os):os[c.1]?=some c.2:=h.base c (by simp)
theorem dt.b3 {a b c d:Nat × Ob} (h:dt (a::b::c::d::B) D S os):os[d.1]?=some d.2:=h.base d (by simp)
theorem dt.put {i:Nat} {x:Ob} (h:dt ((i,x)::B) D S os) (y:Ob):dt ((i,y)::B) D S (os.set i y):=by
  have hn:=h.nd
  rw[cR,dG,re] at hn
  have hx:=h.base (i,x) (by simp)
  have h2:dt B D S os:=⟨fun b hb=>h.base b (by simp[hb]),h.len,h.row,hn.2⟩
  exact (h2.other hn.1 y).add (jk hx) hn.1
theorem dt.drop {i:Nat} {x:Ob} (h:dt ((i,x)::B) D S os):dt B D S os∧i ∉ B.map (·.1)++D.map (·.1):=by
  have hn:=h.nd
  rw[cR,dG,re] at hn
  exact⟨⟨fun b hb=>h.base b (by simp[hb]),h.len,h.row,hn.2⟩,hn.1⟩
theorem dt.swap {a b:Nat × Ob} (h:dt (a::b::B) D S os):dt (b::a::B) D S os :=
  ⟨fun c hc=>h.base c (by simp only[bZ] at hc ⊢;rcases hc with hc | hc | hc<;>simp[hc]),h.len,h.row,by
    have:=h.nd
    simp only[cR,dG,re,bZ,not_or] at this ⊢
    exact⟨⟨Ne.symm this.1.1,this.2.1⟩,this.1.2,this.2.2⟩⟩
theorem dt.snoc {p:Nat} {r:List Bool} (h:dt ((p,.arr 1 (bg r))::B) D S os):dt B (D++[(p,r.length)]) (S++[r]) os:=by
  obtain ⟨h2,hf⟩:=h.drop
  have hp:=h.base (p,.arr 1 (bg r)) (by simp)
  refine⟨h2.base,by simp[h2.len],fun j hj=>?_,?_⟩
  · rw[ED,ED,← h2.len]
    by_cases h1:j<D.length
    · rw[if_pos h1,if_pos h1];exact h2.row j h1
    · have:j=D.length:=by simp at hj;omega
      rw[if_neg h1,if_neg h1,if_pos this,if_pos this];exact⟨hp,rfl⟩
  · rw[List.map_append,← List.append_assoc,List.nodup_append]
    refine⟨h2.nd,by simp,fun a ha b hb=>?_⟩
    simp only[cR,jJ,ek] at hb
    subst hb
    exact fun e=>hf (e ▸ ha)
end
def jH (p:Nat):List (List Bool)→List (List AV)
  | []=>[]
  | r::t=>[.ref p 1 0 r.length]::jH (p+1) t
def ou (S:List (List Bool)):List Ob:=S.map fun r=>.arr 1 (bg r)
theorem E7 (S:List (List Bool)):(ou S).length=S.length:=List.length_map _
theorem E8:∀ (p:Nat) (S:List (List Bool)),(jH p S).length=S.length
  | _,[]=>rfl
  | p,r::t=>by simp only[jH,List.length_cons,E8 (p+1) t]
theorem B2:∀ (p:Nat) (S:List (List Bool)) (j:Nat),j<S.length→(jH p S)[j]?=some [.ref (p+j) 1 0 (S.getD j default).length]
  | _,[],j,h=>by simp at h
  | p,r::t,0,h=>rfl
  | p,r::t,j+1,h=>by
    rw[jH,tR,B2 (p+1) t j (by simpa using h)]
    rw[show p+1+j=p+(j+1) by omega,eS]
theorem abK {S T:List (List Bool)} (p:Nat) (h:S.map nL=T.map nL):jH p S=jH p T:=by
  induction S generalizing T p with
  | nil=>cases T with
    | nil=>rfl
    | cons=>simp at h
  | cons r S ih=>cases T with
    | nil=>simp at h
    | cons t T =>
      simp only[cR,List.cons.injEq] at h
      rw[jH,jH,h.1,ih (p+1) h.2]
theorem abL (ρ:Nat→Nat) (S:List (List Bool)):∀ (q p:Nat),(∀ j,j<S.length→ρ (p+j)=q+j)→(jH p S).map (List.map (aX ρ))=jH q S:=by
  induction S with
  | nil=>intro q p _;rfl
  | cons r t ih =>
    intro q p h
    have h0:=h 0 (by simp)
    rw[g7,g7] at h0
    rw[jH,jH,cR,cR,jJ,aX,h0]
    refine congrArg _ (ih (q+1) (p+1) fun j hj=>?_)
    have:=h (j+1) (by simpa using hj)
    rw[show p+1+j=p+(j+1) by omega,this];omega
theorem abM (ρ:Nat→Nat) (S:List (List Bool)):(ou S).map (bC ρ)=ou S:=by
  unfold ou
  rw[List.map_map]
  refine List.map_congr_left fun r _=>?_
  show bC ρ (.arr 1 (bg r))=_
  exact wW _ _ _
theorem E9 {B:List (Nat × Ob)} {D:List (Nat × Nat)} {S:List (List Bool)} {os:List Ob} (h:dt B D S os) {j:Nat} (hj:j<S.length):(rowsOf ln D)[j]?=some [.ref (D.getD j default).1 1 0 (S.getD j default).length]:=by
  have hd:=h.len
  have h2:=(h.row j (by omega)).2
  rw[h2]
  unfold rowsOf
  rw[bN,ay,bI (by omega)];rfl
theorem dt.ret {D:List (Nat × Nat)} {S:List (List Bool)} {os:List Ob} {x:Ob} {oi:Nat} (h:dt [(0,x),(oi,.arr 1 (rowsOf ln D))] D S os) (hx:∀ ρ,bC ρ x=x) (hg:x≠.gone) (e:Nat→AV) :
    m5 1 ⟨e,os⟩ (.ref oi 1 0 S.length) (.ref 1 1 0 S.length) (x::.arr 1 (jH 2 S)::ou S):=by
  have hd:=h.len
  have h0:=h.base (0,x) (by simp)
  have h1:=h.base (oi,.arr 1 (rowsOf ln D)) (by simp)
  dsimp only at h0 h1
  have hl:∀ i∈0::oi::D.map (·.1),i<os.length:=fun i hi=>by
    rcases bZ.1 hi with rfl | hi
    · exact (aS.1 h0).1
    rcases bZ.1 hi with rfl | hi
    · exact (aS.1 h1).1
    obtain ⟨q,hq,rfl⟩:=b7.1 hi
    obtain ⟨k,hk,rfl⟩:=sm.1 hq
    have h3:=(h.row k hk).1
    have a1:D.getD k default=D[k]:=by simp[hk]
    rw[a1] at h3
    exact (aS.1 h3).1
  have IL:∀ j,j<S.length→bd os.length (0::oi::D.map (·.1)) (2+j)=(D.getD j default).1:=fun j hj=>by
    unfold bd
    rw[if_pos (by simp;omega),show 2+j=j+1+1 by omega,eS,eS,ay,bN,ay,bI (by omega)];rfl
  refine⟨0::oi::D.map (·.1),false,by simpa using h.nd,by simp[E7,hd],fun j o hj=>.inr ?_,hl,by simp,fun i hi=>?_,.eq ?_⟩
  · match j with
    | 0 =>
      simp only[ss,da.injEq] at hj
      subst hj
      rw[hx];exact h0
    | 1 =>
      simp only[tR,ss,da.injEq] at hj
      subst hj
      refine h1.trans (congrArg some ?_)
      rw[bC]
      refine congrArg _ (List.ext_getElem? fun i=>?_)
      rw[bN]
      by_cases hi:i<S.length
      · rw[E9 h hi,B2 2 S i hi,ed,cR,jJ,aX,IL i hi]
      · rw[du (by simp[rowsOf];omega),du (by rw[E8];omega)];rfl
    | j+2 =>
      simp only[tR] at hj
      have kZ:j<S.length:=by have:=(aS.1 hj).1;rwa [E7] at this
      have h3:=(h.row j (by omega)).1
      unfold ou at hj
      rw[bN,bI kZ] at hj
      simp only[ed,da.injEq] at hj
      subst hj
      rw[wW]
      have e1:(0::oi::D.map (·.1)).getD (j+2) 0=(D.getD j default).1:=by
        rw[eS,eS,ay,bN,ay,bI (by omega)];rfl
      have e2:S.getD j default=S[j]:=by rw[ay,bI kZ];rfl
      rw[e1,← e2]
      exact h3
  · have:i=0:=by omega
    subst this;rfl
  · rw[aX]
    have:bd os.length (0::oi::D.map (·.1)) 1=oi:=by unfold bd;rw[if_pos (by simp)];rfl
    rw[this]
end T
namespace T
def nO (x:Ob) (A:List (List AV)) (Y:List (List Bool)):List Ob:=x::.arr 1 A::ou Y
theorem nOk (x:Ob) (A:List (List AV)) {Y:List (List Bool)} {i:Nat} (h:i<Y.length):(nO x A Y)[2+i]?=some (.arr 1 (bg (Y.getD i default))):=by
  unfold nO
  rw[show 2+i=i+1+1 by omega,tR,tR]
  unfold ou
  rw[bN,ay,bI h];rfl
theorem nOs (x:Ob) (A:List (List AV)) (Y:List (List Bool)) (i:Nat) (r:List Bool):(nO x A Y).set (2+i) (.arr 1 (bg r))=nO x A (Y.set i r):=by
  unfold nO ou
  rw[show 2+i=i+1+1 by omega,sw,sw,List.map_set]
theorem iF.xB {R:AV→AV→Prop} {f:Nat→List AV} {g:Nat→List AV}:∀ {cs ds:List (List AV)},cs.length=ds.length→(∀ (j:Nat) c d,cs[j]?=some c→ds[j]?=some d→fD R c d)→iF R cs ds
  | [],[],_,_=>trivial
  | [],_::_,h,_=>by simp at h
  | _::_,[],h,_=>by simp at h
  | c::cs,d::ds,h,k=>⟨k 0 c d rfl rfl,iF.xB (f:=f) (g:=g) (by simpa using h) fun j c d hc hd=>k (j+1) c d (by simpa using hc) (by simpa using hd)⟩
theorem Ox {σ:St} {kp:Nat→Prop} {id:Nat} {bs:List Bool} (ho:σ.aa[id]?=some (.arr 1 (bg bs))) (hk:¬ kp id):bV σ kp (.tree 1 (bg bs)) (.ref id 1 0 bs.length) :=
  bV.mk ho (by simp[bg]) hk (G0 _) (iF.xB (f:=fun _=>[]) (g:=fun _=>[]) rfl fun j c d hc hd=>by
    rw[hc] at hd
    cases hd
    unfold bg at hc
    rw[bN] at hc
    cases hb:bs[j]? with
    | none=>rw[hb] at hc;cases hc
    | some b=>rw[hb] at hc;simp only[ed,da.injEq] at hc;subst hc;exact⟨.lit _,trivial⟩)
theorem abP {σ:St} {kp:Nat→Prop} {oi:Nat} {A:List (List AV)} {S:List (List Bool)} (ho:σ.aa[oi]?=some (.arr 1 A)) (hk:¬ kp oi) (hA:A.length=S.length)
    (h:∀ j,j<S.length→∃ id,A[j]?=some [.ref id 1 0 (S.getD j default).length]∧σ.aa[id]?=some (.arr 1 (bg (S.getD j default)))∧¬ kp id):bV σ kp (.tree 1 (rowsOf aE S)) (.ref oi 1 0 S.length) :=
  bV.mk ho hA.symm hk (fZ _) (iF.xB (f:=fun _=>[]) (g:=fun _=>[]) (by simp[rowsOf,hA]) fun j c d hc hd=>by
    unfold rowsOf at hc
    rw[List.getElem?_map] at hc
    have hj:j<S.length:=by
      cases hb:S[j]? with
      | none=>rw[hb] at hc;cases hc
      | some b=>exact (List.getElem?_eq_some_iff.1 hb).1
    obtain ⟨id,h1,h2,h3⟩:=h j hj
    rw[h1] at hd
    simp only[Option.some.injEq] at hd
    subst hd
    rw[List.getElem?_eq_getElem hj] at hc
    simp only[Option.map_some,Option.some.injEq] at hc
    subst hc
    have e2:S.getD j default=S[j]:=by rw[List.getD_eq_getElem?_getD,List.getElem?_eq_getElem hj];rfl
    rw[e2] at h2 ⊢
    exact⟨Ox h2 h3,trivial⟩)
end T

