import Derived.Test.YtdipcmigdbnheaaGreatX20
import Derived.Test.YtdipcmigdbnheaaGreatX27
import Derived.Test.YtdipcmigdbnheaaGreatX17
import Derived.Test.YtdipcmigdbnheaaGreatX28
import Derived.Test.YtdipcmigdbnheaaGreatX22
import Derived.Test.YtdipcmigdbnheaaGreatX13
set_option linter.unusedVariables false
set_option linter.unusedSimpArgs false
set_option linter.unnecessarySimpa false
set_option linter.unusedSectionVars false
set_option maxHeartbeats 64000000
set_option maxRecDepth 20000
open List renaming replicate→aW,length→tu,ext_getElem?→km,getElem?_map→bR,getElem?_set→bO,getElem?_eq_getElem→bm,getElem?_eq_none→dM,mem_map→bV,getElem?_eq_some_iff→aY,mem_cons→bW,map_cons→du,nodup_cons→qE,append_assoc→dj,Perm→qK,range→bn,getElem?_range→jT,length_set→bF,mem_filter→BD
open Option renaming some→dw,map_some→eC
open Go Go.Am
open Go Go.Am Go.Proofs
open Nat (reduceEqDiff reduceAdd reduceLeDiff reduceMul)
open Int (reduceNeg reduceLE reduceToNat)
namespace T
def lG (w o:Nat):List Bool:=(aW w false).set o true
def bq (left:List (List Bool)) (c o:Nat):List (List Bool):=left.set c (lG (left.getD c default).length o)
theorem Kw (w o:Nat):(lG w o).length=w:=by simp[lG]
theorem Fg (left:List (List Bool)) (c o:Nat):(bq left c o).map tu=left.map tu:=by
  unfold bq
  apply km
  intro j
  rw[bR,bR,bO]
  split
  · rename_i e;subst e
    split
    · rename_i h2;rw[bm h2];simp[Kw,h2]
    · rename_i h2;rw[dM (by omega)]
  · rfl
theorem Gd {σ:St} {kp:Nat→Prop} {c d:List AV} (h:∀ v∈c,(∃ x,v=AV.lit x)∨∃ s r,v=AV.tree s r) (e:d=c):iK (cw σ kp) c d:=by
  subst e
  induction d with
  | nil=>trivial
  | cons v l ih =>
    refine⟨?_,ih fun x hx=>h x (by simp[hx])⟩
    rcases h v (by simp) with ⟨x,rfl⟩ | ⟨s,r,rfl⟩
    · exact .lit _
    · exact .tree _ _
theorem afe {σ:St} {kp:Nat→Prop} {oi k c:Nat} {left:List (List Bool)} {r:List Bool} (hc:c<left.length) (ho:σ.aa[oi]?=some (.arr 1 ((rowsOf aK left).set c [.ref k 1 0 r.length]))) (hk:¬ kp oi) (hr:σ.aa[k]?=some (.arr 1 (bf r))) (BL:¬ kp k) :
    cw σ kp (.tree 1 (rowsOf aK (left.set c r))) (.ref oi 1 0 left.length) :=
  cw.mk ho (by simp[rowsOf]) hk (kC _) (iL.zf (f:=fun _=>[]) (g:=fun _=>[]) (by simp[rowsOf]) fun j x d hx hd=>by
    unfold rowsOf at hx hd
    rw[bR,bO] at hx
    rw[bO] at hd
    by_cases e:c=j
    · subst e
      rw[if_pos rfl,if_pos hc] at hx
      rw[if_pos rfl,if_pos (by simpa using hc)] at hd
      cases hx;cases hd
      exact⟨Wl hr BL,trivial⟩
    · rw[if_neg e] at hx hd
      rw[bR] at hd
      rw[hx] at hd
      simp only[dw.injEq] at hd
      cases hl:left[j]? with
      | none=>rw[hl] at hx;cases hx
      | some y =>
        rw[hl] at hx
        simp only[eC,dw.injEq] at hx
        subst hx
        exact Gd (fun v hv=>by simp only[aK,List.mem_singleton] at hv;exact .inr ⟨_,_,hv⟩) hd.symm)
end T
namespace T
theorem I3 (xs:List Int) (h:0<xs.length) (hl:xs.length<549755813888):ao Tryz.prog 90 [.tree 1 (ints xs)] [] (.ref 0 1 0 xs.length) [.arr 1 (ints xs)]:=by
  refine ao.aD (fn:=Tryz.f90) 8 0 [.tmp 2] Tryz.func90 rfl rfl rfl rfl rfl (by simp) ?_
  ((repeat' (first|refine Vb @Ek ?_|(refine Xi ?_ ?_<;>try intro ht)|exact Xx|fail)))
  exact Xw false [1] X0
end T
namespace T
theorem aff (xs:List (List Bool)) (h:0<xs.length) (hl:xs.length<549755813888):ao Tryz.prog 170 [.tree 1 (rowsOf aK xs)] [] (.ref 0 1 0 xs.length) [.arr 1 (rowsOf aK xs)]:=by
  refine ao.aD (fn:=Tryz.f170) 8 0 [.tmp 2] Tryz.func170 rfl rfl rfl rfl rfl (by simp) ?_
  ((repeat' (first|refine Vb X0 ?_|(refine Xi ?_ ?_<;>try intro ht)|exact Xx|fail)))
  exact Xw false [1] X0
theorem acx:ao Tryz.prog 90 [.lit (.slice none 0 0)] [] (.lit (.slice none 0 0)) []:=by
  refine ao.aD (fn:=Tryz.f90) 8 0 [.tmp 2] Tryz.func90 rfl rfl rfl rfl rfl (by simp) ?_
  ((repeat' (first|refine Vb @Option.isNone_none.{0} ?_|(refine Xi ?_ ?_<;>try intro ht)|exact Xx|fail)))
  all_goals first|exact aE rfl rfl|(exfalso;simp at *;done)
theorem acw (left:List (List Bool)) (c o:Nat) (hc:c<left.length) (ho:o<(left.getD c default).length) (hl:left.length<549755813888) (hw:(left.getD c default).length<549755813888) :
    ao Tryz.prog 126 [.tree 1 (rowsOf aK left),.lit (.int .i64 c),.lit (.int .i64 o)] [] (.tree 1 (rowsOf aK (bq left c o))) []:=by
  unfold bq
  have k9:∀ r:List AV,((rowsOf aK left).set c r)[c]?=some r:=fun r=>by rw[bO,if_pos rfl,if_pos (by simpa [rowsOf] using hc)]
  have l8:∀ r:List AV,((rowsOf aK left).set c r).length=left.length:=fun r=>by simp[rowsOf]
  generalize gH:left.getD c default=row at *
  have Da:(aW row.length false).length=row.length:=List.length_replicate
  refine ao.aD (fn:=Tryz.f126) 26 0 [.tmp 6] Tryz.func126 rfl rfl rfl rfl rfl (by simp) ?_
  ((refine Vb X0 ?_)<;>try with_reducible intro K hK)
  (refine Xn [] (aff left (by omega) hl) ?_;simp (disch:=omega) only[Ac,↓Pc,simprocAttr,Nat.sub_self,Nat.sub_zero])
  ((try revert hK K);(refine Vb (X5 @gH @aK.eq_1 @Hv @k9 (X3 @l8 @Da @tD)) ?_))
  refine dR [] true (by decide) trivial (by decide) (by decide) (.snap _ _ rfl ?_)
  have bX:(lG row.length o).length=row.length:=Kw _ _
  exact afe (k:=1) (r:=lG row.length o) hc (by rw[bX];rfl) (jk (by decide)) rfl (jk (by decide))
end T
namespace T
structure Fc (C:List (Nat × Ob)) (os:List Ob):Prop where
  at_:∀ b∈C,os[b.1]?=some b.2
  nd:(C.map (·.1)).Nodup
section
variable {C D:List (Nat × Ob)} {os:List Ob}
theorem Fc.b0 {a:Nat × Ob} (h:Fc (a::C) os):os[a.1]?=some a.2:=h.at_ a (by simp)
theorem Fc.b1 {a b:Nat × Ob} (h:Fc (a::b::C) os):os[b.1]?=some b.2:=h.at_ b (by simp)
theorem Fc.b2 {a b c:Nat × Ob} (h:Fc (a::b::c::C) os):os[c.1]?=some c.2:=h.at_ c (by simp)
theorem Fc.b3 {a b c d:Nat × Ob} (h:Fc (a::b::c::d::C) os):os[d.1]?=some d.2:=h.at_ d (by simp)
theorem Fc.app (h:Fc C os) (l:List Ob):Fc C (os++l):=⟨fun b hb=>bz (h.at_ b hb) l,h.nd⟩
theorem Fc.perm (h:Fc C os) (hp:C.Perm D):Fc D os:=⟨fun b hb=>h.at_ b (hp.mem_iff.2 hb),((hp.map (·.1)).nodup_iff).1 h.nd⟩
theorem Fc.front {b:Nat × Ob} (A:List (Nat × Ob)) (h:Fc (A++b::C) os):Fc (b::(A++C)) os:=h.perm List.perm_middle
theorem Fc.fresh (h:Fc C os) {p:Nat} (hp:os.length≤p):p ∉ C.map (·.1):=fun hh=>by
  obtain ⟨q,hq,rfl⟩:=bV.1 hh
  have:=(aY.1 (h.at_ q hq)).1
  omega
theorem Fc.other (h:Fc C os) {i:Nat} (hi:i ∉ C.map (·.1)) (y:Ob):Fc C (os.set i y) :=
  ⟨fun b hb=>by rw[List.getElem?_set_ne (fun e=>hi (bV.2 ⟨b,hb,e.symm⟩))];exact h.at_ b hb,h.nd⟩
theorem Fc.add (h:Fc C os) {k:Nat} {x:Ob} (hk:os[k]?=some x) (hf:k ∉ C.map (·.1)):Fc ((k,x)::C) os :=
  ⟨fun b hb=>by rcases bW.1 hb with rfl | hb;exact hk;exact h.at_ b hb,by rw[du,qE];exact⟨hf,h.nd⟩⟩
theorem Fc.drop {i:Nat} {x:Ob} (h:Fc ((i,x)::C) os):Fc C os∧i ∉ C.map (·.1):=by
  have hn:=h.nd
  rw[du,qE] at hn
  exact⟨⟨fun b hb=>h.at_ b (by simp[hb]),hn.2⟩,hn.1⟩
theorem Fc.put {i:Nat} {x:Ob} (h:Fc ((i,x)::C) os) (y:Ob):Fc ((i,y)::C) (os.set i y):=by
  obtain ⟨h1,h2⟩:=h.drop
  exact (h1.other h2 y).add (oY h.b0) h2
theorem Fc.kill {i:Nat} {x:Ob} (h:Fc ((i,x)::C) os) (y:Ob):Fc C (os.set i y):=by
  obtain ⟨h1,h2⟩:=h.drop
  exact h1.other h2 y
theorem Fc.sub (h:Fc (C++D) os):Fc C os:=⟨fun b hb=>h.at_ b (List.mem_append_left _ hb),by
  have:=h.nd
  rw[List.map_append,List.nodup_append] at this
  exact this.1⟩
end
structure Rw where
  c:Int
  Bf:Option (Nat × List Int)
  mv:Option (Nat × List Mv)
instance:Inhabited Rw:=⟨⟨0,none,none⟩⟩
def kE:Option (Nat × List Int)→AV
  | none=>.lit (.slice none 0 0)
  | some x=>.ref x.1 1 0 x.2.length
def mE:Option (Nat × List Mv)→AV
  | none=>.lit (.slice none 0 0)
  | some x=>.ref x.1 4 0 x.2.length
def cf (r:Rw):List AV:=[.lit (.int .i64 r.c),kE r.Bf,mE r.mv,.lit (.slice none 0 0),.lit (.slice none 0 0)]
def kO:Option (Nat × List Int)→List (Nat × Ob)
  | none=>[]
  | some x=>[(x.1,.arr 1 (ints x.2))]
def mO:Option (Nat × List Mv)→List (Nat × Ob)
  | none=>[]
  | some x=>[(x.1,.arr 4 (rowsOf fZ x.2))]
def mi (r:Rw):List (Nat × Ob):=kO r.Bf++mO r.mv
def fy (R:List Rw):List (Nat × Ob):=R.flatMap mi
def cE:Rw:=⟨-1,none,none⟩
theorem Du (A B:List Rw):fy (A++B)=fy A++fy B:=by unfold fy;rw[List.flatMap_append]
theorem Ge (r:Rw):fy [r]=mi r:=by simp[fy]
theorem Wu (R:List Rw):(rowsOf cf R).length=R.length:=by simp[rowsOf]
theorem afg (R:List Rw) (r:Rw):rowsOf cf R++[cf r]=rowsOf cf (R++[r]):=by simp[rowsOf]
theorem Gf {α:Type} (a b c:List α):(a++(b++c)).Perm (b++(a++c)):=by
  rw[← dj,← dj]
  exact qK.append_right _ List.perm_append_comm
theorem Wv {R:List Rw} {j:Nat} (hj:j<R.length) (r:Rw):(mi (R.getD j default)++fy (R.set j r)).Perm (mi r++fy R):=by
  have h1:R=R.take j++R.getD j default::R.drop (j+1):=by
    rw[List.getD_eq_getElem?_getD,bm hj,Option.getD_some,List.getElem_cons_drop,List.take_append_drop]
  have h2:R.set j r=R.take j++r::R.drop (j+1):=by rw[List.set_eq_take_append_cons_drop,if_pos hj]
  generalize R.getD j default=x at *
  generalize R.take j=A at *
  generalize R.drop (j+1)=B at *
  rw[h2,h1]
  have h3:∀ y,fy (A++y::B)=fy A++(mi y++fy B):=fun y=>by rw[show A++y::B=A++([y]++B) from rfl,Du,Du,Ge]
  rw[h3,h3]
  generalize fy A=a
  generalize fy B=b
  generalize mi x=u
  generalize mi r=v
  exact ((qK.append_left u (Gf a v b)).trans ((Gf u v (a++b)).trans (qK.append_left v (Gf u a b))))
def canon (F:List (Nat × Ob)) (n:Nat):List Ob:=(bn n).map fun j=>((F.find? fun b=>b.1 == j).map (·.2)).getD .gone
structure FK (F:List (Nat × Ob)) (n:Nat):Prop where
  lt:∀ b∈F,b.1<n
  nd:(F.map (·.1)).Nodup
theorem Fc.fk {F:List (Nat × Ob)} {os:List Ob} (h:Fc F os):FK F os.length:=⟨fun b hb=>(aY.1 (h.at_ b hb)).1,h.nd⟩
theorem zj (F:List (Nat × Ob)) (n:Nat):(canon F n).length=n:=by simp[canon]
theorem Gg:∀ {F:List (Nat × Ob)},(F.map (·.1)).Nodup→∀ b∈F,F.find? (fun x=>x.1 == b.1)=some b
  | a::F,h,b,hb=>by
    rw[du,qE] at h
    rcases bW.1 hb with rfl | hb
    · simp
    · have:a.1≠b.1:=fun e=>h.1 (bV.2 ⟨b,hb,e.symm⟩)
      rw[List.find?_cons_of_neg (by simpa using this)]
      exact Gg h.2 b hb
theorem FK.canon {F:List (Nat × Ob)} {n:Nat} (h:FK F n):Fc F (canon F n):=⟨fun b hb=>by
  unfold T.canon
  rw[bR,jT (h.lt b hb),eC,Gg h.nd b hb];rfl,h.nd⟩
def sY:List Nat→List Ob→List Ob
  | [],os=>os
  | j::l,os=>sY l (os.set j .gone)
theorem Ww:∀ (l:List Nat) (os:List Ob),(sY l os).length=os.length
  | [],os=>rfl
  | j::l,os=>by rw[sY,Ww l,bF]
theorem Wx:∀ (l:List Nat) (os:List Ob) (j:Nat),j<os.length→(sY l os)[j]?=if j∈l then some .gone else os[j]?
  | [],os,j,hj=>by simp[sY]
  | i::l,os,j,hj=>by
    rw[sY,Wx l _ j (by rw[bF];exact hj)]
    by_cases h1:j∈l
    · rw[if_pos h1,if_pos (by simp[h1])]
    · rw[if_neg h1,bO]
      by_cases h2:i=j
      · subst h2;rw[if_pos rfl,if_pos hj,if_pos (by simp)]
      · rw[if_neg h2,if_neg (by simp only[bW,not_or];exact⟨fun e=>h2 e.symm,h1⟩)]
theorem afh {F:List (Nat × Ob)} {os:List Ob} (h:Fc F os):sY ((bn os.length).filter fun j=>!(F.map (·.1)).contains j) os=canon F os.length:=by
  apply km
  intro j
  by_cases hj:j<os.length
  · rw[Wx _ _ _ hj]
    by_cases hm:j∈F.map (·.1)
    · obtain ⟨b,hb,rfl⟩:=bV.1 hm
      rw[if_neg (by simp[BD,hm]),h.fk.canon.at_ b hb,h.at_ b hb]
    · rw[if_pos (by rw[BD];exact⟨List.mem_range.2 hj,by simp at hm ⊢;exact hm⟩)]
      unfold canon
      rw[bR,jT hj,eC]
      have:F.find? (fun b=>b.1 == j)=none:=by
        rw[List.find?_eq_none]
        intro b hb e
        exact hm (bV.2 ⟨b,hb,by simpa using e⟩)
      rw[this];rfl
  · rw[dM (by rw[Ww];omega),dM (by rw[zj];omega)]
theorem aQ.sY {n0:Nat}:∀ (l:List Nat) (σ:St),aQ n0 σ ⟨σ.env,T.sY l σ.aa⟩
  | [],σ=>by intro os γ0 γ _ hs hf;exact⟨γ,rfl,rfl,hs,hf⟩
  | j::l,σ=>by
    refine aQ.trans (σ1:=⟨σ.env,σ.aa.set j .gone⟩) ?_ (aQ.sY l ⟨σ.env,σ.aa.set j .gone⟩)
    intro os γ0 γ _ hs hf
    exact⟨γ,rfl,rfl,hs.kill j,hf.trans (Fr.kill _ _ j)⟩
theorem aQ.canon {n0:Nat} {σ:St} {F:List (Nat × Ob)} (h:Fc F σ.aa):aQ n0 σ ⟨σ.env,T.canon F σ.aa.length⟩:=by
  rw[← afh h]
  exact aQ.sY _ σ
section
variable {F G:List (Nat × Ob)} {n:Nat}
theorem FK.mono (h:FK F n) {k:Nat} (hk:n≤k):FK F k:=⟨fun b hb=>Nat.lt_of_lt_of_le (h.lt b hb) hk,h.nd⟩
theorem FK.perm (h:FK F n) (hp:F.Perm G):FK G n:=⟨fun b hb=>h.lt b (hp.mem_iff.2 hb),((hp.map (·.1)).nodup_iff).1 h.nd⟩
theorem FK.add (h:FK F n) {i:Nat} {x:Ob} (h1:n≤i) {k:Nat} (h2:i<k):FK ((i,x)::F) k:=⟨fun b hb=>by
  rcases bW.1 hb with rfl | hb
  · exact h2
  · have:=h.lt b hb;omega,by
  rw[du,qE]
  exact⟨fun hh=>by obtain ⟨b,hb,e⟩:=bV.1 hh;have:=h.lt b hb;omega,h.nd⟩⟩
theorem FK.keys (h:FK F n) (hk:G.map (·.1)=F.map (·.1)):FK G n:=⟨fun b hb=>by
  have:b.1∈F.map (·.1):=by rw[← hk];exact bV.2 ⟨b,hb,rfl⟩
  obtain ⟨c,hc,e⟩:=bV.1 this
  rw[← e];exact h.lt c hc,by rw[hk];exact h.nd⟩
theorem FK.drop {b:Nat × Ob} (h:FK (b::F) n):FK F n:=⟨fun c hc=>h.lt c (by simp[hc]),by have:=h.nd;rw[du,qE] at this;exact this.2⟩
end
structure GS where
  n:Nat
  p:Nat
  R:List Rw
  k:Nat
end T

