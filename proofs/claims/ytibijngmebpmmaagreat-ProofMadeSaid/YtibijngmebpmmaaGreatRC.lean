import Derived.Test.YtibijngmebpmmaaGreatRB
import Derived.Test.YtibijngmebpmmaaGreatCB
import Derived.Test.YtibijngmebpmmaaGreatD9
import Derived.Test.YtibijngmebpmmaaGreatQN
import Derived.Test.YtibijngmebpmmaaGreatP8
set_option linter.unusedVariables false
set_option linter.unusedSimpArgs false
set_option linter.unnecessarySimpa false
open Go Go.Am Go.Proofs
open Nat (reduceEqDiff reduceAdd reduceLeDiff reduceMul)
open Int (reduceNeg reduceLE reduceToNat)
set_option maxRecDepth 20000
namespace T
def ndR (r:Rw):Nd:=⟨r.c,(r.kid.map (·.2)).getD [],(r.mv.map (·.2)).getD [],[],[]⟩
theorem frzO_enc {α:Type} {enc:α→List AV} {w:Nat} [Row enc w] {σ:St} {kp:Nat→Prop} {id n:Nat} {xs:List α} (ho:σ.objs[id]?=some (.arr w (rowsOf enc xs))) (hn:n=xs.length) (hk:¬ kp id):Frz σ kp (.tree w (rowsOf enc xs)) (.ref id w 0 n) :=
  Frz.mk ho (by rw[hn,rows_length]) hk (rows_wid _) (RowsR.of_get (f:=fun _=>[]) (g:=fun _=>[]) rfl fun j c d hc hd=>by rw[hc] at hd;cases hd;exact frz_row (fun v hv=>rows_frz _ _ (List.mem_of_getElem? hc) v hv) rfl)
theorem frzO_ints {σ:St} {kp:Nat→Prop} {id n:Nat} {xs:List Int} (ho:σ.objs[id]?=some (.arr 1 (ints xs))) (hn:n=xs.length) (hk:¬ kp id):Frz σ kp (.tree 1 (ints xs)) (.ref id 1 0 n) :=
  Frz.mk ho (by rw[hn];simp[ints]) hk (ints_wid _) (RowsR.of_get (f:=fun _=>[]) (g:=fun _=>[]) rfl fun j c d hc hd=>by rw[hc] at hd;cases hd;exact frz_row (fun v hv=>ints_frz _ _ (List.mem_of_getElem? hc) v hv) rfl)
abbrev kp0:Nat→Prop:=(·∈([]:List Nat))
theorem frz_kid {σ:St} (x:Option (Nat × List Int)) (h:∀ b∈kO x,σ.objs[b.1]?=some b.2):Frz σ kp0 (.tree 1 (ints ((x.map (·.2)).getD []))) (kE x):=by
  cases x with
  | none=>exact .nil 1
  | some y=>exact frzO_ints (h (y.1,.arr 1 (ints y.2)) (by simp[kO])) rfl (by simp)
theorem frz_mv {σ:St} (x:Option (Nat × List Mv)) (h:∀ b∈mO x,σ.objs[b.1]?=some b.2):Frz σ kp0 (.tree 4 (rowsOf eMv ((x.map (·.2)).getD []))) (mE x):=by
  cases x with
  | none=>exact .nil 4
  | some y=>exact frzO_enc (h (y.1,.arr 4 (rowsOf eMv y.2)) (by simp[mO])) rfl (by simp)
theorem frz_rw {σ:St} (r:Rw) (h:∀ b∈rwO r,σ.objs[b.1]?=some b.2):ArgsR (Frz σ kp0) (eNd (ndR r)) (rwR r) :=
  ⟨.lit _,frz_kid r.kid (fun b hb=>h b (by unfold rwO;simp[hb])),frz_mv r.mv (fun b hb=>h b (by unfold rwO;simp[hb])),.nil 1,.nil 1,trivial⟩
theorem frz_rws {σ:St}:∀ (R:List Rw),(∀ b∈rwB R,σ.objs[b.1]?=some b.2)→RowsR (Frz σ kp0) (rowsOf eNd (R.map ndR)) (rowsOf rwR R)
  | [],_=>trivial
  | r::R,h=>⟨frz_rw r (fun b hb=>h b (by unfold rwB;simp[hb])),frz_rws R (fun b hb=>h b (by unfold rwB at hb ⊢;rw[List.flatMap_cons,List.mem_append];exact .inr hb))⟩
theorem rowsR_setj {R:AV→AV→Prop}:∀ {a c:List (List AV)} {x y:List AV} (j:Nat),RowsR R a c→ArgsR R x y→RowsR R (a.set j x) (c.set j y)
  | [],[],_,_,_,_,_=>trivial
  | _::_,_::_,_,_,0,h,k=>⟨k,h.2⟩
  | _::_,_::_,_,_,j+1,h,k=>⟨h.1,rowsR_setj j h.2 k⟩
  | [],_::_,_,_,_,h,_=>h.elim
  | _::_,[],_,_,_,h,_=>h.elim
def smallN (x:Nd):Prop:=x.kids.length≤100∧x.mvs.length≤100∧x.grp.length≤100∧x.cells.length≤100∧∀ l∈x.cells,l.length≤100
theorem small_pb {P:List Nd} (hl:P.length≤2000000) (h:∀ x∈P,smallN x):PB P :=
  ⟨by omega,fun x hx=>by have:=(h x hx).1;omega,fun x hx=>by have:=(h x hx).2.1;omega,fun x hx=>by have:=(h x hx).2.2.1;omega,fun x hx=>by have:=(h x hx).2.2.2.1;omega,fun x hx l hl=>by have:=(h x hx).2.2.2.2 l hl;omega⟩
theorem small_nd {r:Rw} (h1:∀ x,r.kid=some x→x.2.length≤90) (h2:∀ x,r.mv=some x→x.2.length≤90):smallN (ndR r):=by
  obtain ⟨c,k,v⟩:=r
  refine⟨?_,?_,Nat.zero_le _,Nat.zero_le _,fun l hl=>nomatch hl⟩
  · cases k with
    | none=>exact Nat.zero_le _
    | some x=>have:=h1 x rfl;show x.2.length≤100;omega
  · cases v with
    | none=>exact Nat.zero_le _
    | some x=>have:=h2 x rfl;show x.2.length≤100;omega
theorem small_row {r:Rw} (h:rowS r):smallN (ndR r):=small_nd (fun x e=>by have:=h.1 x e;omega) (fun x e=>by have:=h.2 x e;omega)
theorem small_set {P:List Nd} {j:Nat} {x:Nd} (h:∀ y∈P,smallN y) (hx:smallN x):∀ y∈P.set j x,smallN y:=fun y hy=>by
  rcases List.mem_or_eq_of_mem_set hy with h1 | h1
  · exact h y h1
  · rw[h1];exact hx
theorem small_rows {R:List Rw} (h:∀ r∈R,rowS r):∀ x∈R.map ndR,smallN x:=fun x hx=>by
  obtain ⟨r,hr,rfl⟩:=List.mem_map.1 hx
  exact small_row (h r hr)
def Fin5 (os:List Ob) (p n:Nat):Prop:=∃ (P:List Nd) (rows:List (List AV)),n=P.length∧P.length≤2000000∧(∀ x∈P,smallN x)∧os[p]?=some (.arr 5 rows)∧∀ e:Nat→AV,RowsR (Frz ⟨e,os⟩ kp0) (rowsOf eNd P) rows
theorem Fin5.frz {os:List Ob} {p n:Nat} (h:Fin5 os p n) :∃P:List Nd,PB P∧n=P.length∧∀ e:Nat→AV,Frz ⟨e,os⟩ kp0 (.tree 5 (rowsOf eNd P)) (.ref p 5 0 n):=by
  obtain ⟨P,rows,h1,h2,h3,h4,h5⟩:=h
  refine⟨P,small_pb h2 h3,h1,fun e=>Frz.mk (σ:=⟨e,os⟩) h4 ?_ (by simp) (rows_wid _) (h5 e)⟩
  have:=(h5 e).spec.1
  rw[rows_length] at this
  omega
structure MF (L:List Int) (m:Mdl) (pv p:Nat) (R:List Rw) (k:Nat) (os:List Ob):Prop where
  F:Fc ((0,diceO L k)::(pv,.var [.ref p 5 0 R.length])::(1,.var (eMdl m))::(p,.arr 5 (rowsOf rwR R))::rwB R) os
theorem MF.dice {L:List Int} {m:Mdl} {pv p:Nat} {R:List Rw} {k:Nat} {os:List Ob} (h:MF L m pv p R k os) (k2:Nat):MF L m pv p R k2 (os.set 0 (diceO L k2)):=⟨h.F.put _⟩
theorem MF.fin {L:List Int} {m:Mdl} {pv p:Nat} {R:List Rw} {k:Nat} {os:List Ob} (h:MF L m pv p R k os) (hl:R.length≤2000000) (hs:∀ r∈R,smallN (ndR r)):Fin5 os p R.length :=
  ⟨R.map ndR,rowsOf rwR R,by simp,by simpa using hl,fun x hx=>by obtain ⟨r,hr,rfl⟩:=List.mem_map.1 hx;exact hs r hr,h.F.b3,fun e=>frz_rws (σ:=⟨e,os⟩) R fun b hb=>h.F.at_ b (by simp[hb])⟩
theorem MF.row {L:List Int} {m:Mdl} {pv p:Nat} {R:List Rw} {k:Nat} {os:List Ob} (h:MF L m pv p R k os) (hl:R.length≤2000000) (hs:∀ r∈R,rowS r) (j:Nat) (x:Nd) (y:List AV) (os':List Ob) (hx:smallN x) (hp:os'[p]?=some (.arr 5 ((rowsOf rwR R).set j y))) (hk:∀ b∈rwB R,os'[b.1]?=some b.2) (hy:∀ e,ArgsR (Frz ⟨e,os'⟩ kp0) (eNd x) y):Fin5 os' p R.length:=by
  refine⟨(R.map ndR).set j x,(rowsOf rwR R).set j y,by simp,by simpa using hl,small_set (small_rows hs) hx,hp,fun e=>?_⟩
  have:rowsOf eNd ((R.map ndR).set j x)=(rowsOf eNd (R.map ndR)).set j (eNd x):=by unfold rowsOf;rw[List.map_set]
  rw[this]
  exact rowsR_setj j (frz_rws (σ:=⟨e,os'⟩) R hk) (hy e)
theorem MF.putp {L:List Int} {m:Mdl} {pv p:Nat} {R:List Rw} {k:Nat} {os:List Ob} (h:MF L m pv p R k os) (y:Ob):Fc ((p,y)::(0,diceO L k)::(pv,.var [.ref p 5 0 R.length])::(1,.var (eMdl m))::rwB R) (os.set p y):=(h.F.front [_,_,_]).put y
theorem rw_at {R:List Rw} {j:Nat} (hj:j<R.length):(rowsOf rwR R)[j]?=some (rwR (R.getD j default)):=by
  unfold rowsOf
  rw[List.getElem?_map,List.getElem?_eq_getElem hj,List.getD_eq_getElem?_getD,List.getElem?_eq_getElem hj];rfl
theorem rw_mem {R:List Rw} {j:Nat} (hj:j<R.length):R.getD j default∈R:=by
  rw[List.getD_eq_getElem?_getD,List.getElem?_eq_getElem hj];exact List.getElem_mem hj
theorem rwB_mem {R:List Rw} {r:Rw} (hr:r∈R):∀ b∈rwO r,b∈rwB R:=fun b hb=>List.mem_flatMap.2 ⟨r,hr,hb⟩
theorem MF.newN {L:List Int} {m:Mdl} {pv p:Nat} {R:List Rw} {k:Nat} {os:List Ob} (h:MF L m pv p R k os) (z:Ob) :
    MF L m pv (os.length+1) (R++[lfW]) k ((os.set p .gone).set pv (.var [.ref (os.length+1) 5 0 (R.length+1)])++[z,.arr 5 (rowsOf rwR (R++[lfW]))]):=⟨by
  have h1:=((h.F.front [_,_,_]).kill .gone)
  have h2:=((h1.front [_]).put (.var [.ref (os.length+1) 5 0 (R.length+1)]))
  have hl:((os.set p Ob.gone).set pv (.var [.ref (os.length+1) 5 0 (R.length+1)])).length=os.length:=by simp
  have h3:=(h2.app [z,.arr 5 (rowsOf rwR (R++[lfW]))]).add (k:=os.length+1) (x:=.arr 5 (rowsOf rwR (R++[lfW]))) (by
    have:=oLk ((os.set p Ob.gone).set pv (.var [.ref (os.length+1) 5 0 (R.length+1)])) [z,.arr 5 (rowsOf rwR (R++[lfW]))] 1
    rw[hl] at this;exact this) (h2.fresh (by rw[hl];omega))
  have hR:(R++[lfW]).length=R.length+1:=by simp
  rw[rwB_lf,hR]
  exact ((h3.front [_,_]).perm (List.Perm.cons _ ((List.Perm.swap _ _ _).trans (List.Perm.cons _ (List.Perm.swap _ _ _)))))⟩
theorem MF.split {L:List Int} {m:Mdl} {pv p:Nat} {R:List Rw} {k:Nat} {os:List Ob} (h:MF L m pv p R k os) {j:Nat} (hj:j<R.length) :
    Fc (rwO (R.getD j default)++((0,diceO L k)::(pv,.var [.ref p 5 0 R.length])::(1,.var (eMdl m))::(p,.arr 5 (rowsOf rwR R))::rwB (R.set j lfW))) os:=by
  have hp:=rwB_set hj lfW
  have e:rwO lfW++rwB R=rwB R:=rfl
  rw[e] at hp
  have h1:([(0,diceO L k),(pv,Ob.var [.ref p 5 0 R.length]),(1,.var (eMdl m)),(p,.arr 5 (rowsOf rwR R))]++rwB R).Perm ([(0,diceO L k),(pv,Ob.var [.ref p 5 0 R.length]),(1,.var (eMdl m)),(p,.arr 5 (rowsOf rwR R))]++(rwO (R.getD j default)++rwB (R.set j lfW))):=List.Perm.append_left _ hp.symm
  exact h.F.perm (h1.trans (perm_sw _ _ _))
theorem Fin5.row {p:Nat} {R:List Rw} (hl:R.length≤2000000) (hs:∀ r∈R,rowS r) (j:Nat) (x:Nd) (y:List AV) (os':List Ob) (hx:smallN x) (hp:os'[p]?=some (.arr 5 ((rowsOf rwR R).set j y))) (hk:∀ b∈rwB (R.set j lfW),os'[b.1]?=some b.2) (hy:∀ e,ArgsR (Frz ⟨e,os'⟩ kp0) (eNd x) y):Fin5 os' p R.length:=by
  refine⟨((R.set j lfW).map ndR).set j x,(rowsOf rwR R).set j y,by simp,by simpa using hl,small_set (small_rows (rowS_set hs rowS_lf)) hx,hp,fun e=>?_⟩
  have h1:rowsOf eNd (((R.set j lfW).map ndR).set j x)=(rowsOf eNd ((R.set j lfW).map ndR)).set j (eNd x):=by unfold rowsOf;rw[List.map_set]
  have h2:(rowsOf rwR R).set j y=(rowsOf rwR (R.set j lfW)).set j y:=by unfold rowsOf;rw[List.map_set,List.set_set]
  rw[h1,h2]
  exact rowsR_setj j (frz_rws (σ:=⟨e,os'⟩) (R.set j lfW) hk) (hy e)
theorem Fc.at2 {A B:List (Nat × Ob)} {i:Nat} {x:Ob} {os:List Ob} (h:Fc (A++(i,x)::B) os) (y:Ob) (l:List Ob):Fc ((i,y)::(A++B)) (os.set i y++l):=((h.perm List.perm_middle).put y).app l
theorem MF.killq {L:List Int} {m:Mdl} {pv p:Nat} {R:List Rw} {k:Nat} {os:List Ob} (h:MF L m pv p R k os) {j:Nat} (hj:j<R.length) {q:Nat} {z:Ob} {K:List (Nat × Ob)} (hr:(rwO (R.getD j default)).Perm ((q,z)::K)) (k2:Nat) (Y:Ob) (l:List Ob) :
    Fc ((p,Y)::(K++((0,diceO L k2)::(pv,.var [.ref p 5 0 R.length])::(1,.var (eMdl m))::rwB (R.set j lfW)))) ((((os.set 0 (diceO L k2)).set q .gone).set p Y)++l):=by
  have h1:=((h.dice k2).split hj).perm (List.Perm.append_right _ hr)
  have h2:=(Fc.kill (i:=q) (x:=z) h1 .gone)
  have e:K++((0,diceO L k2)::(pv,Ob.var [.ref p 5 0 R.length])::(1,.var (eMdl m))::(p,.arr 5 (rowsOf rwR R))::rwB (R.set j lfW))=(K++[(0,diceO L k2),(pv,Ob.var [.ref p 5 0 R.length]),(1,.var (eMdl m))])++(p,.arr 5 (rowsOf rwR R))::rwB (R.set j lfW):=by simp
  have h3:Fc ((K++[(0,diceO L k2),(pv,Ob.var [.ref p 5 0 R.length]),(1,.var (eMdl m))])++(p,.arr 5 (rowsOf rwR R))::rwB (R.set j lfW)) ((os.set 0 (diceO L k2)).set q .gone):=e ▸ h2
  have h4:=h3.at2 Y l
  have e2:(K++[(0,diceO L k2),(pv,Ob.var [.ref p 5 0 R.length]),(1,.var (eMdl m))])++rwB (R.set j lfW)=K++((0,diceO L k2)::(pv,.var [.ref p 5 0 R.length])::(1,.var (eMdl m))::rwB (R.set j lfW)):=by simp
  rw[e2] at h4
  exact h4
theorem MF.mdl {L:List Int} {m:Mdl} {pv p:Nat} {R:List Rw} {k:Nat} {os:List Ob} (h:MF L m pv p R k os) (m2:Mdl):MF L m2 pv p R k (os.set 1 (.var (eMdl m2))) :=
  ⟨((h.F.front [_,_]).put (.var (eMdl m2))).perm ((List.perm_middle (l₁:=[(0,diceO L k),(pv,Ob.var [.ref p 5 0 R.length])]) (a:=(1,Ob.var (eMdl m2))) (l₂:=(p,.arr 5 (rowsOf rwR R))::rwB R)).symm)⟩
theorem set_selfR {R:List Rw} {j:Nat} {y:List AV} (h:(rowsOf rwR R)[j]?=some y):(rowsOf rwR R).set j y=rowsOf rwR R:=by
  apply List.ext_getElem?
  intro i
  rw[List.getElem?_set]
  by_cases e:j=i
  · subst e
    rw[if_pos rfl,if_pos (List.getElem?_eq_some_iff.1 h).1,h]
  · rw[if_neg e]
end T
open Go Go.Am Go.Proofs
open Nat (reduceEqDiff reduceAdd reduceLeDiff reduceMul)
open Int (reduceNeg reduceLE reduceToNat)
set_option maxRecDepth 20000
namespace T
set_option maxHeartbeats 16000000 in
theorem pmade_ok (hw:Holds Tryz.prog 6 [] [] (.lit (.bool true)) []) (hx:∀ m P k,MB m→PB P→Holds Tryz.prog 13 [.agg (eMdl m),.agg (ePf P),.lit (.int .i64 k)] [] (.lit (.bool true)) []) (tape:List Int) (node:Int):Holds Tryz.prog 3 [.tree 1 (ints tape),.lit (.int .i64 node)] [] (.lit (.bool true)) []:=by
  refine Holds.of_body' (fn:=Tryz.f3) 143 0 [.tmp 4] Tryz.func3 rfl rfl rfl rfl rfl (by simp) ?_
  repeat' (first|((fail_if_success (first|refine W_at 3 ?_|refine W_atE 3 ?_));refine Xq X0 ?_;intro K hK)|refine Xo X0 ?_|refine Xc (light_ok _) ?_|refine Xc (hw) ?_|(refine hK _ ?_;clear hK K)|(refine Xg X0 ?_ ?_<;>try intro hb)|(refine Xi ?_ ?_<;>try intro ht)|refine Xz ?_|refine Xh ?_|refine Xe ?_|refine Xd ?_ ?_|omega|with_reducible rfl|exact trivial)
  · exact RetOK_pure' rfl rfl
  have hL:tape.length<1000000:=by omega
  repeat' (first|(refine Xr X0 ?_;intro K hK)|refine Xo X0 ?_|(refine hK _ ?_;clear hK K)|(refine Xg X0 ?_ ?_<;>try intro hb)|(refine Xi ?_ ?_<;>try intro ht)|refine Xz ?_|refine Xh ?_|refine Xe ?_|refine Xd ?_ ?_|omega|with_reducible rfl|exact trivial)
  (refine Xn [] (roll_ok tape) ?_;simp (disch:=omega) only[Ac,↓Pc,simprocAttr])
  refine hK _ ?_;clear hK K
  repeat (first|refine Xu ?_)
  refine W_turn (σ':=⟨slots [(1,.lit (.int .i64 node)),(5,.ptr 0 0 0)],[dice tape 0]⟩) (by unfold dice;exact Xv X0) ?_
  have hmod:=model_ok tape 0 4 3 (Nat.zero_le _) hL (by decide) (by decide) (by decide)
  refine W_region_c 1 (by decide) _ rfl ?_
  intro K hK
  simp (disch:=omega) only[Ac,↓Pc,simprocAttr,List.take,List.drop]
  refine⟨rfl,(show callKR Tryz.prog 8 [.ptr 0 0 0,.lit (.int .i64 (4:Nat)),.lit (.int .i64 (3:Nat))] (some 17) _ _ from ?_)⟩
  refine callKR_sel [0] hmod (by decide) ⟨rfl,trivial⟩ ⟨.eq rfl,.pure rfl,.pure rfl,trivial⟩ ?_
  rintro r os ⟨m,k,hm,hk,rfl,rfl⟩
  have hvm:=hm.vm
  unfold dice
  simp (disch:=omega) only[Ac,↓Pc,simprocAttr]
  refine hK _ ?_;clear hK K
  repeat (first|refine Xu ?_)
  have hsome:∀ l∈m.cls,1≤l.length∧l.length≤3:=fun l hl=>hm.some l hl
  generalize hg:growO m tape 3 ⟨5,3,[],k⟩ []=g
  have hpr:=dproofS_ok m hvm (w:=3) (by decide) hsome tape hL 3 (by decide) (by decide) k hk m g hg
  have hF0:FK (gB tape ⟨5,3,[],k⟩ [(4,.var [.lit (.slice none 0 0)]),(1,.var (eMdl m))]) 5:=⟨by unfold gB rwB;simp,(show ([0,2,3,4,1]:List Nat).Nodup by decide)⟩
  have hG:=growO_ok hvm hsome (L:=tape) 3 ⟨5,3,[],k⟩ [] [(4,.var [.lit (.slice none 0 0)]),(1,.var (eMdl m))] hk hF0
  have hrows:=(growO_rows hvm (w:=3) (by decide) hsome (L:=tape) 3 ⟨5,3,[],k⟩ [] hk (by simp)).2
  rw[hg] at hG hrows
  have hF6:=hG.fk.canon
  have ho5:=canon_len (gB tape g [(4,.var [.lit (.slice none 0 0)]),(1,.var (eMdl m))]) g.n
  have hk1:=hG.k
  have hRl:=hG.le
  have hR0:=hG.lt
  dsimp only[List.length_nil] at hRl hR0
  rw[show szB 3 3=40 by decide] at hRl
  have hol:=hG.ol
  dsimp only at hol
  generalize canon (gB tape g [(4,.var [.lit (.slice none 0 0)]),(1,.var (eMdl m))]) g.n=o5 at *
  have hF7:=(((hF6.perm gB_in.symm).put (.var [.ref g.p 5 0 g.R.length])).drop.1.app [.var [.ref g.p 5 0 g.R.length]]).add (k:=g.n) (x:=.var [.ref g.p 5 0 g.R.length]) (by
    have:=oL0 (o5.set 4 (.var [.ref g.p 5 0 g.R.length])) (.var [.ref g.p 5 0 g.R.length]) []
    rwa [List.length_set,ho5] at this) (((hF6.perm gB_in.symm).put (.var [.ref g.p 5 0 g.R.length])).drop.1.fresh (by rw[List.length_set,ho5];exact Nat.le_refl _))
  clear hF6 hF0 hG
  obtain ⟨gn,p,R,k1⟩:=g
  dsimp only at *
  unfold gB at hF7
  dsimp only at hF7
  have hM:MF tape m gn p R k1 (o5.set 4 (.var [.ref p 5 0 R.length])++[.var [.ref p 5 0 R.length]]):=⟨by
    have h1:=(hF7.front [_,_]).drop.1
    exact ((h1.perm ((((List.perm_append_singleton _ _).cons _).cons _).cons _)).perm (((List.Perm.swap _ _ _).cons _).cons _)).perm (List.Perm.swap _ _ _)⟩
  unfold diceO at hpr
  repeat' (first|((fail_if_success (first|refine W_at 6 ?_|refine W_atE 6 ?_));refine Xr X0 ?_;intro K hK)|refine Xo X0 ?_|(refine hK _ ?_;clear hK K)|(refine Xg X0 ?_ ?_<;>try intro hb)|(refine Xi ?_ ?_<;>try intro ht)|refine Xz ?_|refine Xh ?_|refine Xe ?_|refine Xd ?_ ?_|omega|with_reducible rfl|exact trivial)
  refine callK_all hpr (by rw[List.length_set,ho5];show 2≤gn;omega) ?_
  have hlo:(o5.set 4 (Ob.var [.ref p 5 0 R.length])).length=gn:=by rw[List.length_set];exact ho5
  generalize o5.set 4 (Ob.var [.ref p 5 0 R.length])=o6 at *
  have hg0:∀ x,(o6++[x])[gn]?=some x:=fun x=>by rw[← hlo];exact oL0 _ _ _
  have hg1:∀ x y,(o6++[x]).set gn y=o6++[y]:=fun x y=>by rw[← hlo];exact oS0 _ _ _ _
  simp (disch:=omega) only[Ac,↓Pc,simprocAttr,hlo,hg0,hg1]
  refine hK _ ?_
  clear hK K
  repeat (first|refine Xu ?_)
  refine W_turn (σ':=⟨slots [(1,.lit (.int .i64 node)),(5,.ptr 0 0 0),(6,.ptr 1 0 0),(7,.ptr gn 0 0)],o6++[.var [.ref p 5 0 R.length]]⟩) (Xv @hlo) ?_
  clear hg0 hg1 hlo ho5 hF7
  generalize o6++[Ob.var [.ref p 5 0 R.length]]=os at *
  repeat' (first|((fail_if_success (first|refine W_at 6 ?_|refine W_atE 6 ?_));refine Xr X0 ?_;intro K hK)|refine Xo X0 ?_|(refine hK _ ?_;clear hK K)|(refine Xg X0 ?_ ?_<;>try intro hb)|(refine Xi ?_ ?_<;>try intro ht)|refine Xz ?_|refine Xe ?_|refine Xd ?_ ?_|omega|with_reducible rfl|exact trivial)
  (first|refine unSq1 ?_|refine unSqB ?_);intro Q0 hn0 he0
  have fin:∀ (m':Mdl) (ob:List Ob) (pv q n:Nat),MB m'→ob[1]?=some (.var (eMdl m'))→ob[pv]?=some (.var [.ref q 5 0 n])→Fin5 ob q n→n≤1000→∀ st,Turns 0 st ⟨slots [(1,.lit (.int .i64 node)),(5,.ptr 0 0 0),(6,.ptr 1 0 0),(7,.ptr pv 0 0)],ob⟩→Q0 .normal st:=fun m' ob pv q n hmb b1 bp hf hn9 st hts=>by
    refine hn0 _ ?_
    (try clear hn0;try clear he0)
    refine W_turn hts ?_
    clear hts st
    obtain ⟨P,hpb,hnP,hfz⟩:=hf.frz
    obtain ⟨_,rows,_,_,_,bq,_⟩:=hf
    have hm0:mergeO ob [] ([]:List Ob)=ob:=by simp[mergeO]
    have ha:=fun e (k:Int)=>(show ArgsR (ArgR (⟨e,ob⟩:St) (·∈([]:List Nat)) (rho ob.length []) true) [.agg (eMdl m'),.agg (ePf P),.lit (.int .i64 k)] [.agg (eMdl m'),.agg [.ref q 5 0 n],.lit (.int .i64 k)] from ⟨.pure rfl,ArgR.agg _ _ rfl (ArgsR.spec (R:=ArgR _ _ _ _) (cs:=ePf P) (ds:=[.ref q 5 0 n]) ⟨.snap _ _ rfl (hfz _),trivial⟩).2,.pure rfl,trivial⟩)
    have hmd:=mod_ok node ((n:Int)+1) (by unfold In64;omega)
    have hex:=fun k=>hx m' P k hmb hpb
    refine Xk ?_
    refine W_draw [] (.take 2 (.take 3 (.take 4 (.take 5 (.take 6 (.three 0 (.both 1 (.take 7 (.take 8 (.take 9 (.take 10 (.take 11 (.take 12 (.take 13 (.take 14 (.take 15 .nil))))))))) 7 (.take 1 (.take 8 (.take 9 (.take 10 (.take 11 (.take 12 (.take 13 (.take 14 (.take 15 .nil)))))))))) 1 (.both 0 (.take 7 (.take 8 (.take 9 (.take 10 (.take 11 (.take 12 (.take 13 (.take 14 (.take 15 .nil))))))))) 7 (.take 0 (.take 8 (.take 9 (.take 10 (.take 11 (.take 12 (.take 13 (.take 14 (.take 15 .nil)))))))))) 7 (.take 0 (.take 1 (.take 8 (.take 9 (.take 10 (.take 11 (.take 12 (.take 13 (.take 14 (.take 15 .nil)))))))))))))))) rfl (by decide) (by decide +kernel) ?_
    simp (disch:=omega) only[Ac,↓Pc,simprocAttr,Pw,b1,bp,bq]
    repeat' (first|with_reducible refine And.intro ?_ ?_|omega|with_reducible rfl)
    all_goals
      refine callK_pure hmd rfl rfl ?_
      generalize modI node ((n:Int)+1)=x at *
      simp (disch:=omega) only[Ac,↓Pc,simprocAttr,Pw,b1,bp,bq]
      repeat' (first|with_reducible refine And.intro ?_ ?_|omega|with_reducible rfl)
    all_goals
      refine callK_snap [] (hex x) (by decide) trivial (ha _ _) rfl (by simp) ?_
      rw[List.map_nil,hm0]
      simp (disch:=omega) only[Ac,↓Pc,simprocAttr,Pw,b1,bp,bq]
      repeat' (first|with_reducible refine And.intro ?_ ?_|omega|with_reducible rfl)
    all_goals
      refine callK_snap [] (hex node) (by decide) trivial (ha _ _) rfl (by simp) ?_
      rw[List.map_nil,hm0]
      simp (disch:=omega) only[Ac,↓Pc,simprocAttr,Pw,b1,bp,bq]
      repeat' (first|with_reducible refine And.intro ?_ ?_|omega|with_reducible rfl)
    all_goals
      repeat (first|refine Xu ?_)
      repeat' (first|(refine Xr X0 ?_;intro K hK)|refine Xo X0 ?_|(refine hK _ ?_;clear hK K)|(refine Xg X0 ?_ ?_<;>try intro hb)|(refine Xi ?_ ?_<;>try intro ht)|refine Xz ?_|refine Xh ?_|refine Xe ?_|refine Xd ?_ ?_|omega|with_reducible rfl|exact trivial)
      exact RetOK_pure' rfl rfl
  have hmb:=hvm.mb
  have hd:∀ (l:List Ob) x,mergeO l [0] [x]=l.set 0 x:=fun l x=>by simp[mergeO]
  generalize hos:os=os1 at *
  clear hos os
  have hM1:=hM
  clear hM
  have f0:os1[0]?=some (.var [.tree 1 (ints tape),.lit (.int .i64 k1)]):=hM1.F.b0
  have f1:os1[1]?=some (.var (eMdl m)):=hM1.F.b2
  have fp:os1[gn]?=some (.var [.ref p 5 0 R.length]):=hM1.F.b1
  have fr:os1[p]?=some (.arr 5 (rowsOf rwR R)):=hM1.F.b3
  repeat' (first|((fail_if_success (first|refine W_at 7 ?_|refine W_atE 7 ?_));refine Xr (X4 @f0 @f1 @fp @fr) ?_;intro K hK)|refine Xo (X4 @f0 @f1 @fp @fr) ?_|(refine hK _ ?_;clear hK K)|(refine Xg (X4 @f0 @f1 @fp @fr) ?_ ?_<;>try intro hb)|(refine Xi ?_ ?_<;>try intro ht)|refine Xz ?_|refine Xe ?_|refine Xd ?_ ?_|omega|with_reducible rfl|exact trivial)
  refine callK_sel [0] (one_ok tape k1 (2) (by unfold In64;omega) (by decide) hk1 hL) (by decide) ⟨f0,trivial⟩ ⟨.eq rfl,.pure rfl,trivial⟩ ?_
  have hk2:=nextA_le hk1
  have hM2:=hM1.dice (nextA tape k1)
  rw[List.map_cons,List.map_nil,hd]
  simp (disch:=omega) only[Ac,↓Pc,simprocAttr]
  unfold diceO at hM2
  generalize oneV tape k1 (2)=b at *
  generalize nextA tape k1=k2 at *
  clear hk1 f0 f1 fp fr hM1
  generalize os1.set 0 (Ob.var [.tree 1 (ints tape),.lit (.int .i64 k2)])=os2 at *
  have f0:os2[0]?=some (.var [.tree 1 (ints tape),.lit (.int .i64 k2)]):=hM2.F.b0
  have f1:os2[1]?=some (.var (eMdl m)):=hM2.F.b2
  have fp:os2[gn]?=some (.var [.ref p 5 0 R.length]):=hM2.F.b1
  have fr:os2[p]?=some (.arr 5 (rowsOf rwR R)):=hM2.F.b3
  refine hK _ ?_
  clear hK K
  repeat (first|refine Xu ?_)
  have hfin2:∀ {os':List Ob} {k':Nat},MF tape m gn p R k' os'→Fin5 os' p R.length:=fun h=>h.fin (by omega) (fun r hr=>small_row (hrows r hr))
  cases b
  · repeat' (first|((fail_if_success (first|refine W_at 7 ?_|refine W_atE 7 ?_));refine Xr X0 ?_;intro K hK)|refine Xo X0 ?_|(refine hK _ ?_;clear hK K)|(refine Xg X0 ?_ ?_<;>try intro hb)|(refine Xi ?_ ?_<;>try intro ht)|refine Xz ?_|refine Xe ?_|refine Xd ?_ ?_|omega|with_reducible rfl|exact trivial)
    exact fin m os2 gn p R.length hmb f1 fp (hfin2 hM2) (by omega) _ (Xv X0)
  repeat' (first|(refine Xr (X2 @fp @fr) ?_;intro K hK)|refine Xo (X2 @fp @fr) ?_|(refine hK _ ?_;clear hK K)|(refine Xg (X2 @fp @fr) ?_ ?_<;>try intro hb)|(refine Xi ?_ ?_<;>try intro ht)|refine Xz ?_|refine Xe ?_|refine Xd ?_ ?_|omega|with_reducible rfl|exact trivial)
  refine callK_sel [0] (next_ok tape k2 (R.length) (by unfold In64;omega) hk2 hL) (by decide) ⟨f0,trivial⟩ ⟨.eq rfl,.pure rfl,trivial⟩ ?_
  have hvkk:=nextV_range (L:=tape) (k:=k2) (n:=R.length) (by omega)
  have hk3:=nextA_le hk2
  have hM3:=hM2.dice (nextA tape k2)
  rw[List.map_cons,List.map_nil,hd]
  simp (disch:=omega) only[Ac,↓Pc,simprocAttr]
  unfold diceO at hM3
  generalize nextV tape k2 (R.length)=kk at *
  generalize nextA tape k2=k3 at *
  clear hk2 f0 f1 fp fr hM2
  generalize os2.set 0 (Ob.var [.tree 1 (ints tape),.lit (.int .i64 k3)])=os3 at *
  have f0:os3[0]?=some (.var [.tree 1 (ints tape),.lit (.int .i64 k3)]):=hM3.F.b0
  have f1:os3[1]?=some (.var (eMdl m)):=hM3.F.b2
  have fp:os3[gn]?=some (.var [.ref p 5 0 R.length]):=hM3.F.b1
  have fr:os3[p]?=some (.arr 5 (rowsOf rwR R)):=hM3.F.b3
  refine hK _ ?_
  clear hK K
  repeat (first|refine Xu ?_)
  obtain ⟨κ,rfl⟩:=Int.eq_ofNat_of_zero_le hvkk.1
  have hκ:κ<R.length:=by omega
  repeat' (first|(refine Xr (X2 @fp @fr) ?_;intro K hK)|refine Xo (X2 @fp @fr) ?_|(refine hK _ ?_;clear hK K)|(refine Xg (X2 @fp @fr) ?_ ?_<;>try intro hb)|(refine Xi ?_ ?_<;>try intro ht)|refine Xz ?_|refine Xe ?_|refine Xd ?_ ?_|omega|with_reducible rfl|exact trivial)
  refine callK_sel [0] (next_ok tape k3 (8) (by unfold In64;omega) hk3 hL) (by decide) ⟨f0,trivial⟩ ⟨.eq rfl,.pure rfl,trivial⟩ ?_
  have hvv:=nextV_range (L:=tape) (k:=k3) (n:=8) (by omega)
  have hk4:=nextA_le hk3
  have hM4:=hM3.dice (nextA tape k3)
  rw[List.map_cons,List.map_nil,hd]
  simp (disch:=omega) only[Ac,↓Pc,simprocAttr]
  unfold diceO at hM4
  generalize nextV tape k3 (8)=v at *
  generalize nextA tape k3=k4 at *
  clear hk3 f0 f1 fp fr hM3
  generalize os3.set 0 (Ob.var [.tree 1 (ints tape),.lit (.int .i64 k4)])=os4 at *
  have f0:os4[0]?=some (.var [.tree 1 (ints tape),.lit (.int .i64 k4)]):=hM4.F.b0
  have f1:os4[1]?=some (.var (eMdl m)):=hM4.F.b2
  have fp:os4[gn]?=some (.var [.ref p 5 0 R.length]):=hM4.F.b1
  have fr:os4[p]?=some (.arr 5 (rowsOf rwR R)):=hM4.F.b3
  refine hK _ ?_
  clear hK K
  repeat (first|refine Xu ?_)
  have hrow:=rw_at hκ
  have hrm:=rw_mem hκ
  have hrs:=hrows _ hrm
  generalize hrD:R.getD κ default=r0 at *
  obtain ⟨c,kid,mv⟩:=r0
  have hrow:(rowsOf rwR R)[κ]?=some [.lit (.int .i64 c),kE kid,mE mv,.lit (.slice none 0 0),.lit (.slice none 0 0)]:=hrow
  have hst:∀ x:List AV,((rowsOf rwR R).set κ x)[κ]?=some x:=fun x=>by rw[List.getElem?_set,if_pos rfl,if_pos (by rw[rows_length];exact hκ)]
  have hkb:∀ b∈kO kid,b∈rwB R:=fun b hb=>rwB_mem hrm b (by unfold rwO;simp[hb])
  have hmb2:∀ b∈mO mv,b∈rwB R:=fun b hb=>rwB_mem hrm b (by unfold rwO;simp[hb])
  have hcase:v=0∨v=1∨v=2∨v=3∨v=4∨v=5∨v=6∨v=7:=by omega
  have hsm:∀ (d:Int) (kk:List Int) (vv:List Mv) (gg:List Int) (cc:List (List (Int × Int))),kk.length≤100→vv.length≤100→gg.length≤100→cc.length≤100→(∀ l∈cc,l.length≤100)→smallN ⟨d,kk,vv,gg,cc⟩:=fun d kk vv gg cc a b e f i=>⟨a,b,e,f,i⟩
  have hks:((kid.map (·.2)).getD []).length≤24:=by
    cases kid with
    | none=>exact Nat.zero_le _
    | some x=>exact hrs.1 x rfl
  have hms:((mv.map (·.2)).getD []).length≤3:=by
    cases mv with
    | none=>exact Nat.zero_le _
    | some x=>exact hrs.2 x rfl
  rcases hcase with rfl | rfl | rfl | rfl | rfl | rfl | rfl | rfl
  · repeat' (first|(refine Xr (X3 @fp @fr @hrow) ?_;intro K hK)|refine Xo (X3 @fp @fr @hrow) ?_|(refine hK _ ?_;clear hK K)|(refine Xg (X3 @fp @fr @hrow) ?_ ?_<;>try intro hb)|(refine Xi ?_ ?_<;>try intro ht)|refine Xz ?_|refine Xe ?_|refine Xd ?_ ?_|omega|with_reducible rfl|exact trivial)
    refine callK_sel [0] (next_ok tape k4 (6) (by unfold In64;omega) hk4 hL) (by decide) ⟨f0,trivial⟩ ⟨.eq rfl,.pure rfl,trivial⟩ ?_
    have hvy:=nextV_range (L:=tape) (k:=k4) (n:=6) (by omega)
    have hk5:=nextA_le hk4
    have hM5:=hM4.dice (nextA tape k4)
    rw[List.map_cons,List.map_nil,hd]
    simp (disch:=omega) only[Ac,↓Pc,simprocAttr]
    unfold diceO at hM5
    generalize nextV tape k4 (6)=y at *
    generalize nextA tape k4=k5 at *
    clear hk4 f0 f1 fp fr hM4
    generalize os4.set 0 (Ob.var [.tree 1 (ints tape),.lit (.int .i64 k5)])=os5 at *
    have f0:os5[0]?=some (.var [.tree 1 (ints tape),.lit (.int .i64 k5)]):=hM5.F.b0
    have f1:os5[1]?=some (.var (eMdl m)):=hM5.F.b2
    have fp:os5[gn]?=some (.var [.ref p 5 0 R.length]):=hM5.F.b1
    have fr:os5[p]?=some (.arr 5 (rowsOf rwR R)):=hM5.F.b3
    simp (disch:=omega) only[Ac,↓Pc,simprocAttr,fp,fr,hrow]
    repeat' (first|with_reducible refine And.intro ?_ ?_|omega|with_reducible rfl)
    refine hK _ ?_
    clear hK K
    repeat (first|refine Xu ?_)
    have hP:=hM5.putp (.arr 5 ((rowsOf rwR R).set κ [.lit (.int .i64 (y - 1)),kE kid,mE mv,.lit (.slice none 0 0),.lit (.slice none 0 0)]))
    exact fin m _ gn p R.length hmb hP.b3 hP.b2 (hM5.row (by omega) hrows κ ⟨y - 1,(kid.map (·.2)).getD [],(mv.map (·.2)).getD [],[],[]⟩ _ _ (hsm _ _ _ _ _ (by omega) (by omega) (by decide) (by decide) (by simp)) hP.b0 (fun b hb=>hP.at_ b (by simp[hb])) (fun e=>⟨.lit _,frz_kid kid (fun b hb=>hP.at_ b (by simp[hkb b hb])),frz_mv mv (fun b hb=>hP.at_ b (by simp[hmb2 b hb])),.nil 1,.nil 1,trivial⟩)) (by omega) _ (Xv X0)
  · obtain ⟨rest,hrest⟩ :∃rest,os4=(.var [.tree 1 (ints tape),.lit (.int .i64 k4)]:Ob)::rest:=by
      cases os4 with
      | nil=>cases f0
      | cons a l=>exact⟨l,by rw[Option.some.inj (show some a=some _ from f0)]⟩
    subst hrest
    obtain ⟨p1,rfl⟩ :∃p1,p=p1+1:=⟨p - 1,by
      have:p≠0:=fun e=>by subst e;cases fr
      omega⟩
    obtain ⟨g1,rfl⟩ :∃g1,gn=g1+1:=⟨gn - 1,by omega⟩
    have ha1:rest[0]?=some (.var (eMdl m)):=f1
    have hv1:rest[g1]?=some (.var [.ref (p1+1) 5 0 R.length]):=fp
    have hp1:rest[p1]?=some (.arr 5 (rowsOf rwR R)):=fr
    repeat' (first|((fail_if_success (first|refine W_at 14 ?_|refine W_atE 14 ?_));refine Xr X0 ?_;intro K hK)|refine Xo X0 ?_|(refine hK _ ?_;clear hK K)|(refine Xg X0 ?_ ?_<;>try intro hb)|(refine Xi ?_ ?_<;>try intro ht)|refine Xz ?_|refine Xe ?_|refine Xd ?_ ?_|omega|with_reducible rfl|exact trivial)
    cases kid with
    | none =>
      have hr1:(rowsOf rwR R)[κ]?=some [.lit (.int .i64 c),.lit (.slice none 0 0),mE mv,.lit (.slice none 0 0),.lit (.slice none 0 0)]:=hrow
      refine W_draw [] (.take 0 (.take 1 (.take 5 (.take 6 (.take 7 (.take 8 (.take 9 (.both 2 (.both 3 (.both 4 (.take 10 (.take 11 (.take 12 (.take 13 (.take 14 (.take 15 .nil)))))) 10 (.take 4 (.take 11 (.take 12 (.take 13 (.take 14 (.take 15 .nil))))))) 10 (.take 3 (.take 4 (.take 11 (.take 12 (.take 13 (.take 14 (.take 15 .nil)))))))) 10 (.take 2 (.take 3 (.take 4 (.take 11 (.take 12 (.take 13 (.take 14 (.take 15 .nil)))))))))))))))) rfl (by decide) (by decide +kernel) ?_
      simp (disch:=omega) only[Ac,↓Pc,simprocAttr,Pw,hp1,hv1,hr1,ha1,oLo hp1,oLo hv1,oSo hp1,oSo hv1,Oc2,List.append_assoc,List.length_append,List.length_set,List.length_cons]
      repeat' (first|with_reducible refine And.intro ?_ ?_|omega|with_reducible rfl)
      all_goals
        refine callK_sel [0] (next_ok tape k4 ((R.length:Int)+1) (by unfold In64;omega) hk4 hL) (by decide) ⟨rfl,trivial⟩ ⟨.eq rfl,.pure rfl,trivial⟩ ?_
        rw[List.map_cons,List.map_nil,hd]
        simp (disch:=omega) only[Ac,↓Pc,simprocAttr,Pw,hp1,hv1,hr1,ha1,oLo hp1,oLo hv1,oSo hp1,oSo hv1,Oc2,List.append_assoc,List.length_append,List.length_set,List.length_cons]
        repeat' (first|with_reducible refine And.intro ?_ ?_|omega|with_reducible rfl)
      all_goals
        repeat (first|refine Xu ?_)
        generalize nextV tape k4 ((R.length:Int)+1)=y at *
        have hP:=((hM4.dice (nextA tape k4)).putp (.arr 5 ((rowsOf rwR R).set κ [.lit (.int .i64 c),.ref (rest.length+1+1) 1 0 1,mE mv,.lit (.slice none 0 0),.lit (.slice none 0 0)]))).app [.arr 1 [[.lit (.int .i64 y)]],.arr 1 (ints [y])]
        have hz:((((Ob.var [.tree 1 (ints tape),.lit (.int .i64 k4)]::rest).set 0 (diceO tape (nextA tape k4))).set (p1+1) (.arr 5 ((rowsOf rwR R).set κ [.lit (.int .i64 c),.ref (rest.length+1+1) 1 0 1,mE mv,.lit (.slice none 0 0),.lit (.slice none 0 0)])))++[.arr 1 [[.lit (.int .i64 y)]],.arr 1 (ints [y])])[rest.length+1+1]?=some (.arr 1 (ints [y])):=by
          have:=oLk (((Ob.var [.tree 1 (ints tape),.lit (.int .i64 k4)]::rest).set 0 (diceO tape (nextA tape k4))).set (p1+1) (.arr 5 ((rowsOf rwR R).set κ [.lit (.int .i64 c),.ref (rest.length+1+1) 1 0 1,mE mv,.lit (.slice none 0 0),.lit (.slice none 0 0)]))) [.arr 1 [[.lit (.int .i64 y)]],.arr 1 (ints [y])] 1
          rw[List.length_set,List.length_set,List.length_cons] at this
          exact this
        exact fin m _ (g1+1) (p1+1) R.length hmb hP.b3 hP.b2 ((hM4.dice (nextA tape k4)).row (by omega) hrows κ ⟨c,[y],(mv.map (·.2)).getD [],[],[]⟩ _ _ (hsm _ _ _ _ _ (by simp) (by omega) (by decide) (by decide) (by simp)) hP.b0 (fun b hb=>hP.at_ b (by simp[hb])) (fun e=>⟨.lit _,frzO_ints hz rfl (by simp),frz_mv mv (fun b hb=>hP.at_ b (by simp[hmb2 b hb])),.nil 1,.nil 1,trivial⟩)) (by omega) _ (Xv X0)
    | some x =>
      obtain ⟨q,xs⟩:=x
      have fq:(Ob.var [.tree 1 (ints tape),.lit (.int .i64 k4)]::rest)[q]?=some (.arr 1 (ints xs)):=hM4.F.at_ (q,.arr 1 (ints xs)) (by simp[hkb (q,.arr 1 (ints xs)) (by simp[kO])])
      obtain ⟨q1,rfl⟩ :∃q1,q=q1+1:=⟨q - 1,by
        have:q≠0:=fun e=>by subst e;cases fq
        omega⟩
      have hq1:rest[q1]?=some (.arr 1 (ints xs)):=fq
      have hr1:(rowsOf rwR R)[κ]?=some [.lit (.int .i64 c),.ref (q1+1) 1 0 xs.length,mE mv,.lit (.slice none 0 0),.lit (.slice none 0 0)]:=hrow
      have hxs:xs.length≤24:=hrs.1 _ rfl
      have hkq:=fun k2 Y l=>hM4.killq hκ (q:=q1+1) (z:=.arr 1 (ints xs)) (K:=mO mv) (by rw[hrD];exact List.Perm.refl _) k2 Y l
      have hgp:(rest.set q1 Ob.gone)[p1]?=some (.arr 5 (rowsOf rwR R)):=by
        have h:=(hM4.split hκ)
        rw[hrD] at h
        have h2:=(Fc.kill (i:=q1+1) (x:=.arr 1 (ints xs)) h .gone).at_ (p1+1,.arr 5 (rowsOf rwR R)) (by simp)
        exact h2
      have hgv:(rest.set q1 Ob.gone)[g1]?=some (.var [.ref (p1+1) 5 0 R.length]):=by
        have h:=(hM4.split hκ)
        rw[hrD] at h
        have h2:=(Fc.kill (i:=q1+1) (x:=.arr 1 (ints xs)) h .gone).at_ (g1+1,.var [.ref (p1+1) 5 0 R.length]) (by simp)
        exact h2
      refine W_draw [] (.take 0 (.take 1 (.take 5 (.take 6 (.take 7 (.take 8 (.take 9 (.both 2 (.both 3 (.both 4 (.take 10 (.take 11 (.take 12 (.take 13 (.take 14 (.take 15 .nil)))))) 10 (.take 4 (.take 11 (.take 12 (.take 13 (.take 14 (.take 15 .nil))))))) 10 (.take 3 (.take 4 (.take 11 (.take 12 (.take 13 (.take 14 (.take 15 .nil)))))))) 10 (.take 2 (.take 3 (.take 4 (.take 11 (.take 12 (.take 13 (.take 14 (.take 15 .nil)))))))))))))))) rfl (by decide) (by decide +kernel) ?_
      simp (disch:=omega) only[Ac,↓Pc,simprocAttr,Pw,hq1,hp1,hv1,hr1,ha1,oLo hp1,oLo hv1,oSo hp1,oSo hv1,Oc2,List.append_assoc,List.length_append,List.length_set,List.length_cons]
      repeat' (first|with_reducible refine And.intro ?_ ?_|omega|with_reducible rfl)
      all_goals
        refine callK_sel [0] (next_ok tape k4 ((R.length:Int)+1) (by unfold In64;omega) hk4 hL) (by decide) ⟨rfl,trivial⟩ ⟨.eq rfl,.pure rfl,trivial⟩ ?_
        rw[List.map_cons,List.map_nil,hd]
        simp (disch:=omega) only[Ac,↓Pc,simprocAttr,Pw,hq1,oLo hq1,oSo hq1,hgp,hgv,oLo hgp,oSo hgp,oLo hgv,ints_app1,hp1,hv1,hr1,ha1,oLo hp1,oLo hv1,oSo hp1,oSo hv1,Oc2,List.append_assoc,List.length_append,List.length_set,List.length_cons]
        repeat' (first|with_reducible refine And.intro ?_ ?_|omega|with_reducible rfl)
      all_goals
        repeat (first|refine Xu ?_)
        generalize nextV tape k4 ((R.length:Int)+1)=y at *
        have hP:=hkq (nextA tape k4) (.arr 5 ((rowsOf rwR R).set κ [.lit (.int .i64 c),.ref (rest.length+1+1) 1 0 (xs.length+1),mE mv,.lit (.slice none 0 0),.lit (.slice none 0 0)])) [.arr 1 [[.lit (.int .i64 y)]],.arr 1 (ints (xs++[y]))]
        have hz:(((((Ob.var [.tree 1 (ints tape),.lit (.int .i64 k4)]::rest).set 0 (diceO tape (nextA tape k4))).set (q1+1) .gone).set (p1+1) (.arr 5 ((rowsOf rwR R).set κ [.lit (.int .i64 c),.ref (rest.length+1+1) 1 0 (xs.length+1),mE mv,.lit (.slice none 0 0),.lit (.slice none 0 0)])))++[.arr 1 [[.lit (.int .i64 y)]],.arr 1 (ints (xs++[y]))])[rest.length+1+1]?=some (.arr 1 (ints (xs++[y]))):=by
          have:=oLk ((((Ob.var [.tree 1 (ints tape),.lit (.int .i64 k4)]::rest).set 0 (diceO tape (nextA tape k4))).set (q1+1) .gone).set (p1+1) (.arr 5 ((rowsOf rwR R).set κ [.lit (.int .i64 c),.ref (rest.length+1+1) 1 0 (xs.length+1),mE mv,.lit (.slice none 0 0),.lit (.slice none 0 0)]))) [.arr 1 [[.lit (.int .i64 y)]],.arr 1 (ints (xs++[y]))] 1
          rw[List.length_set,List.length_set,List.length_set,List.length_cons] at this
          exact this
        exact fin m _ (g1+1) (p1+1) R.length hmb (hP.at_ (1,.var (eMdl m)) (by simp)) (hP.at_ (g1+1,.var [.ref (p1+1) 5 0 R.length]) (by simp)) (Fin5.row (by omega) hrows κ ⟨c,xs++[y],(mv.map (·.2)).getD [],[],[]⟩ _ _ (hsm _ _ _ _ _ (by simp;omega) (by omega) (by decide) (by decide) (by simp)) hP.b0 (fun b hb=>hP.at_ b (by simp[hb])) (fun e=>⟨.lit _,frzO_ints hz (by simp) (by simp),frz_mv mv (fun b hb=>hP.at_ b (by simp[hb])),.nil 1,.nil 1,trivial⟩)) (by omega) _ (Xv X0)
  · cases kid with
    | none =>
      have hr0:(rowsOf rwR R)[κ]?=some [.lit (.int .i64 c),.lit (.slice none 0 0),mE mv,.lit (.slice none 0 0),.lit (.slice none 0 0)]:=hrow
      repeat' (first|((fail_if_success (first|refine W_at 17 ?_|refine W_atE 17 ?_));refine Xr (X3 @fp @fr @hr0) ?_;intro K hK)|refine Xo (X3 @fp @fr @hr0) ?_|(refine hK _ ?_;clear hK K)|(refine Xg (X3 @fp @fr @hr0) ?_ ?_<;>try intro hb)|(refine Xi ?_ ?_<;>try intro ht)|refine Xz ?_|refine Xe ?_|refine Xd ?_ ?_|omega|with_reducible rfl|exact trivial)
      all_goals try (exfalso;omega)
      exact fin m os4 gn p R.length hmb f1 fp (hfin2 hM4) (by omega) _ (Xv X0)
    | some x =>
      obtain ⟨q,xs⟩:=x
      have fq:os4[q]?=some (.arr 1 (ints xs)):=hM4.F.at_ (q,.arr 1 (ints xs)) (by simp[hkb (q,.arr 1 (ints xs)) (by simp[kO])])
      have hr0:(rowsOf rwR R)[κ]?=some [.lit (.int .i64 c),.ref q 1 0 xs.length,mE mv,.lit (.slice none 0 0),.lit (.slice none 0 0)]:=hrow
      have hxs:xs.length≤24:=hrs.1 _ rfl
      repeat' (first|((fail_if_success (first|refine W_at 17 ?_|refine W_atE 17 ?_));refine Xr (X4 @fp @fr @hr0 @fq) ?_;intro K hK)|refine Xo (X4 @fp @fr @hr0 @fq) ?_|(refine hK _ ?_;clear hK K)|(refine Xg (X4 @fp @fr @hr0 @fq) ?_ ?_<;>try intro hb)|(refine Xi ?_ ?_<;>try intro ht)|refine Xz ?_|refine Xe ?_|refine Xd ?_ ?_|omega|with_reducible rfl|exact trivial)
      all_goals try (exfalso;omega)
      · obtain ⟨rest,hrest⟩ :∃rest,os4=(.var [.tree 1 (ints tape),.lit (.int .i64 k4)]:Ob)::rest:=by
          cases os4 with
          | nil=>cases f0
          | cons a l=>exact⟨l,by rw[Option.some.inj (show some a=some _ from f0)]⟩
        subst hrest
        obtain ⟨p1,rfl⟩ :∃p1,p=p1+1:=⟨p - 1,by
          have:p≠0:=fun e=>by subst e;cases fr
          omega⟩
        obtain ⟨g1,rfl⟩ :∃g1,gn=g1+1:=⟨gn - 1,by omega⟩
        have ha1:rest[0]?=some (.var (eMdl m)):=f1
        have hv1:rest[g1]?=some (.var [.ref (p1+1) 5 0 R.length]):=fp
        have hp1:rest[p1]?=some (.arr 5 (rowsOf rwR R)):=fr
        obtain ⟨q1,rfl⟩ :∃q1,q=q1+1:=⟨q - 1,by
          have:q≠0:=fun e=>by subst e;cases fq
          omega⟩
        have hq1:rest[q1]?=some (.arr 1 (ints xs)):=fq
        have hr1:=hr0
        have hnx:=next_ok tape k4 (xs.length) (by unfold In64;omega) hk4 hL
        have hvi:=nextV_range (L:=tape) (k:=k4) (n:=xs.length) (by omega)
        have hk5:=nextA_le hk4
        generalize nextV tape k4 xs.length=vi at *
        generalize nextA tape k4=k5 at *
        have hny:=next_ok tape k5 ((R.length:Int)+1) (by unfold In64;omega) hk5 hL
        generalize nextV tape k5 ((R.length:Int)+1)=y at *
        generalize nextA tape k5=k6 at *
        refine W_drawH 0 [] [10,16] (.take 0 (.take 1 (.take 2 (.take 3 (.take 4 (.take 5 (.take 6 (.take 7 (.take 8 (.take 9 (.take 11 (.take 12 (.take 13 (.take 14 (.take 10 (.take 15 (.take 16 (.take 17 (.take 18 .nil))))))))))))))))))) rfl (by decide) (by decide +kernel) ?_
        simp (disch:=omega) only[Ac,↓Pc,simprocAttr,Hc,stepAtH,hq1,hp1,hv1,hr1,ha1,oLo hp1,oLo hv1,oSo hp1,oSo hv1,Oc2,List.append_assoc,List.length_append,List.length_set,List.length_cons]
        repeat' (first|with_reducible refine And.intro ?_ ?_|omega|with_reducible rfl|(refine callD_of (hnx) rfl rfl rfl rfl (by (repeat' (first|exact trivial|refine And.intro ?_ ?_))<;>first|exact .inl ⟨rfl,rfl⟩|exact .inr ⟨rfl,rfl⟩) ?_;simp (disch:=omega) only[Ac,↓Pc,simprocAttr,Hc,stepAtH,hq1,hp1,hv1,hr1,ha1,oLo hp1,oLo hv1,oSo hp1,oSo hv1,Oc2,List.append_assoc,List.length_append,List.length_set,List.length_cons])|(refine callD_of (hny) rfl rfl rfl rfl (by (repeat' (first|exact trivial|refine And.intro ?_ ?_))<;>first|exact .inl ⟨rfl,rfl⟩|exact .inr ⟨rfl,rfl⟩) ?_;simp (disch:=omega) only[Ac,↓Pc,simprocAttr,Hc,stepAtH,hq1,hp1,hv1,hr1,ha1,oLo hp1,oLo hv1,oSo hp1,oSo hv1,Oc2,List.append_assoc,List.length_append,List.length_set,List.length_cons]))
        repeat (first|refine Xu ?_)
        have hS:=(hM4.dice k6).split hκ
        rw[hrD] at hS
        have hP:=Fc.put (i:=q1+1) (x:=.arr 1 (ints xs)) hS (.arr 1 (ints (xs.set vi.toNat y)))
        have hself:=set_selfR hr1
        have hpp:=hP.at_ (p1+1,.arr 5 (rowsOf rwR R)) (by simp)
        rw[← hself] at hpp
        exact fin m _ (g1+1) (p1+1) R.length hmb (hP.at_ (1,.var (eMdl m)) (by simp)) (hP.at_ (g1+1,.var [.ref (p1+1) 5 0 R.length]) (by simp)) (Fin5.row (by omega) hrows κ ⟨c,xs.set vi.toNat y,(mv.map (·.2)).getD [],[],[]⟩ _ _ (hsm _ _ _ _ _ (by rw[List.length_set];omega) (by omega) (by decide) (by decide) (by simp)) hpp (fun b hb=>hP.at_ b (by simp[hb])) (fun e=>⟨.lit _,frzO_ints hP.b0 (by rw[List.length_set]) (by simp),frz_mv mv (fun b hb=>hP.at_ b (by simp[hb])),.nil 1,.nil 1,trivial⟩)) (by omega) _ (Xv X0)
      · exact fin m os4 gn p R.length hmb f1 fp (hfin2 hM4) (by omega) _ (Xv X0)
  · repeat' (first|(refine Xr (X5 @fp @fr @hrow (oLo fp) (X5 (oLo fr) (oSo fr) (oSo fp) @Oc2 (X3 @List.append_assoc.{0} @List.length_append.{0} @List.length_set.{0}))) ?_;intro K hK)|refine Xo (X5 @fp @fr @hrow (oLo fp) (X5 (oLo fr) (oSo fr) (oSo fp) @Oc2 (X3 @List.append_assoc.{0} @List.length_append.{0} @List.length_set.{0}))) ?_|(refine hK _ ?_;clear hK K)|(refine Xg (X5 @fp @fr @hrow (oLo fp) (X5 (oLo fr) (oSo fr) (oSo fp) @Oc2 (X3 @List.append_assoc.{0} @List.length_append.{0} @List.length_set.{0}))) ?_ ?_<;>try intro hb)|(refine Xi ?_ ?_<;>try intro ht)|refine Xz ?_|refine Xe ?_|refine Xd ?_ ?_|omega|with_reducible rfl|exact trivial)
    have hP:=hM4.putp (.arr 5 ((rowsOf rwR R).set κ [.lit (.int .i64 c),kE kid,mE mv,.ref os4.length 1 0 1,.lit (.slice none 0 0)]))
    have hPl:(os4.set p (.arr 5 ((rowsOf rwR R).set κ [.lit (.int .i64 c),kE kid,mE mv,.ref os4.length 1 0 1,.lit (.slice none 0 0)]))).length=os4.length:=List.length_set ..
    generalize hoo:os4.set p (.arr 5 ((rowsOf rwR R).set κ [.lit (.int .i64 c),kE kid,mE mv,.ref os4.length 1 0 1,.lit (.slice none 0 0)]))=oo at *
    have hQ:=hP.app [.arr 1 (ints [0])]
    have hz:(oo++[Ob.arr 1 (ints [0])])[os4.length]?=some (.arr 1 (ints [0])):=by rw[← hPl];exact oL0 _ _ _
    exact fin m _ gn p R.length hmb hQ.b3 hQ.b2 (hM4.row (by omega) hrows κ ⟨c,(kid.map (·.2)).getD [],(mv.map (·.2)).getD [],[0],[]⟩ _ _ (hsm _ _ _ _ _ (by omega) (by omega) (by decide) (by decide) (by simp)) hQ.b0 (fun b hb=>hQ.at_ b (by simp[hb])) (fun e=>⟨.lit _,frz_kid kid (fun b hb=>hQ.at_ b (by simp[hkb b hb])),frz_mv mv (fun b hb=>hQ.at_ b (by simp[hmb2 b hb])),frzO_ints hz rfl (by simp),.nil 1,trivial⟩)) (by omega) _ (Xv X0)
  · repeat' (first|(refine Xr (X5 @fp @fr @hrow (oLo fp) (X5 (oLo fr) (oSo fr) (oSo fp) @Oc2 (X3 @List.append_assoc.{0} @List.length_append.{0} @List.length_set.{0}))) ?_;intro K hK)|refine Xo (X5 @fp @fr @hrow (oLo fp) (X5 (oLo fr) (oSo fr) (oSo fp) @Oc2 (X3 @List.append_assoc.{0} @List.length_append.{0} @List.length_set.{0}))) ?_|(refine hK _ ?_;clear hK K)|(refine Xg (X5 @fp @fr @hrow (oLo fp) (X5 (oLo fr) (oSo fr) (oSo fp) @Oc2 (X3 @List.append_assoc.{0} @List.length_append.{0} @List.length_set.{0}))) ?_ ?_<;>try intro hb)|(refine Xi ?_ ?_<;>try intro ht)|refine Xz ?_|refine Xe ?_|refine Xd ?_ ?_|omega|with_reducible rfl|exact trivial)
    have hP:=hM4.putp (.arr 5 ((rowsOf rwR R).set κ [.lit (.int .i64 c),kE kid,mE mv,.lit (.slice none 0 0),.ref (os4.length+1) 1 0 1]))
    have hPl:(os4.set p (.arr 5 ((rowsOf rwR R).set κ [.lit (.int .i64 c),kE kid,mE mv,.lit (.slice none 0 0),.ref (os4.length+1) 1 0 1]))).length=os4.length:=List.length_set ..
    generalize hoo:os4.set p (.arr 5 ((rowsOf rwR R).set κ [.lit (.int .i64 c),kE kid,mE mv,.lit (.slice none 0 0),.ref (os4.length+1) 1 0 1]))=oo at *
    have hQ:=hP.app [.arr 2 [],.arr 1 [[.ref os4.length 2 0 0]]]
    have hz:(oo++[Ob.arr 2 [],Ob.arr 1 [[.ref os4.length 2 0 0]]])[os4.length]?=some (.arr 2 []):=by rw[← hPl];exact oL0 _ _ _
    have hz2:(oo++[Ob.arr 2 [],Ob.arr 1 [[.ref os4.length 2 0 0]]])[os4.length+1]?=some (.arr 1 [[.ref os4.length 2 0 0]]):=by
      have:=oLk oo [Ob.arr 2 [],Ob.arr 1 [[.ref os4.length 2 0 0]]] 1
      rw[hPl] at this;exact this
    exact fin m _ gn p R.length hmb hQ.b3 hQ.b2 (hM4.row (by omega) hrows κ ⟨c,(kid.map (·.2)).getD [],(mv.map (·.2)).getD [],[],[[]]⟩ _ _ (hsm _ _ _ _ _ (by omega) (by omega) (by decide) (by decide) (by simp)) hQ.b0 (fun b hb=>hQ.at_ b (by simp[hb])) (fun e=>⟨.lit _,frz_kid kid (fun b hb=>hQ.at_ b (by simp[hkb b hb])),frz_mv mv (fun b hb=>hQ.at_ b (by simp[hmb2 b hb])),.nil 1,Frz.mk hz2 rfl (by simp) (rows_wid _) ⟨⟨Frz.mk hz rfl (by simp) (rows_wid (enc:=eCh) ([]:List (Int × Int))) trivial,trivial⟩,trivial⟩,trivial⟩)) (by omega) _ (Xv X0)
  · have gv:(os4.set p Ob.gone)[gn]?=some (.var [.ref p 5 0 R.length]):=oSn fp fr (by simp)
    repeat' (first|(refine Xr (X5 @gv (oLo gv) (oSo gv) @fp (X5 @fr @hrow (oLo fp) (oLo fr) (X5 (oSo fr) (oSo fp) @Oc2 @List.append_assoc.{0} (X2 @List.length_append.{0} @List.length_set.{0})))) ?_;intro K hK)|refine Xo (X5 @gv (oLo gv) (oSo gv) @fp (X5 @fr @hrow (oLo fp) (oLo fr) (X5 (oSo fr) (oSo fp) @Oc2 @List.append_assoc.{0} (X2 @List.length_append.{0} @List.length_set.{0})))) ?_|(refine hK _ ?_;clear hK K)|(refine Xg (X5 @gv (oLo gv) (oSo gv) @fp (X5 @fr @hrow (oLo fp) (oLo fr) (X5 (oSo fr) (oSo fp) @Oc2 @List.append_assoc.{0} (X2 @List.length_append.{0} @List.length_set.{0})))) ?_ ?_<;>try intro hb)|(refine Xi ?_ ?_<;>try intro ht)|refine Xz ?_|refine Xe ?_|refine Xd ?_ ?_|omega|with_reducible rfl|exact trivial)
    have hN:=hM4.newN (.arr 5 [rwR lfW])
    have hRl2:(R++[lfW]).length=R.length+1:=by simp
    have hNf:=hN.fin (by omega) (fun r hr=>small_row (rowS_new hrows r hr))
    have hNv:=hN.F.b1
    have hN1:=hN.F.b2
    rw[hRl2] at hNf hNv
    exact fin m _ gn (os4.length+1) (R.length+1) hmb hN1 hNv hNf (by omega) _ (by rw[← rw_app];exact Xv X0)
  · obtain ⟨rest,hrest⟩ :∃rest,os4=(.var [.tree 1 (ints tape),.lit (.int .i64 k4)]:Ob)::rest:=by
      cases os4 with
      | nil=>cases f0
      | cons a l=>exact⟨l,by rw[Option.some.inj (show some a=some _ from f0)]⟩
    subst hrest
    obtain ⟨p1,rfl⟩ :∃p1,p=p1+1:=⟨p - 1,by
      have:p≠0:=fun e=>by subst e;cases fr
      omega⟩
    obtain ⟨g1,rfl⟩ :∃g1,gn=g1+1:=⟨gn - 1,by omega⟩
    have ha1:rest[0]?=some (.var (eMdl m)):=f1
    have hv1:rest[g1]?=some (.var [.ref (p1+1) 5 0 R.length]):=fp
    have hp1:rest[p1]?=some (.arr 5 (rowsOf rwR R)):=fr
    repeat' (first|((fail_if_success (first|refine W_at 25 ?_|refine W_atE 25 ?_));refine Xr X0 ?_;intro K hK)|refine Xo X0 ?_|(refine hK _ ?_;clear hK K)|(refine Xg X0 ?_ ?_<;>try intro hb)|(refine Xi ?_ ?_<;>try intro ht)|refine Xz ?_|refine Xe ?_|refine Xd ?_ ?_|omega|with_reducible rfl|exact trivial)
    have hnx:=next_ok tape k4 4 (by unfold In64;omega) hk4 hL
    have hvx:=nextV_range (L:=tape) (k:=k4) (n:=4) (by omega)
    have hk5:=nextA_le hk4
    generalize nextV tape k4 4=x1 at *
    generalize nextA tape k4=k5 at *
    have hny:=next_ok tape k5 3 (by unfold In64;omega) hk5 hL
    have hk6:=nextA_le hk5
    generalize nextV tape k5 3=x2 at *
    generalize nextA tape k5=k6 at *
    have hnz:=next_ok tape k6 4 (by unfold In64;omega) hk6 hL
    generalize nextV tape k6 4=x3 at *
    generalize nextA tape k6=k7 at *
    cases mv with
    | none =>
      have hr1:(rowsOf rwR R)[κ]?=some [.lit (.int .i64 c),kE kid,.lit (.slice none 0 0),.lit (.slice none 0 0),.lit (.slice none 0 0)]:=hrow
      refine W_drawH 0 [] [6,9,11] (.take 0 (.take 1 (.take 2 (.take 3 (.take 4 (.take 5 (.take 6 (.take 7 (.take 8 (.take 9 (.take 10 (.take 11 (.take 12 (.take 13 (.take 14 (.take 15 (.take 16 (.take 17 .nil)))))))))))))))))) rfl (by decide) (by decide +kernel) ?_
      simp (disch:=omega) only[Ac,↓Pc,simprocAttr,Hc,stepAtH,hp1,hv1,hr1,ha1,oLo hp1,oLo hv1,oSo hp1,oSo hv1,Oc2,List.append_assoc,List.length_append,List.length_set,List.length_cons]
      repeat' (first|with_reducible refine And.intro ?_ ?_|omega|with_reducible rfl|(refine callD_of (hnx) rfl rfl rfl rfl (by (repeat' (first|exact trivial|refine And.intro ?_ ?_))<;>first|exact .inl ⟨rfl,rfl⟩|exact .inr ⟨rfl,rfl⟩) ?_;simp (disch:=omega) only[Ac,↓Pc,simprocAttr,Hc,stepAtH,hp1,hv1,hr1,ha1,oLo hp1,oLo hv1,oSo hp1,oSo hv1,Oc2,List.append_assoc,List.length_append,List.length_set,List.length_cons])|(refine callD_of (hny) rfl rfl rfl rfl (by (repeat' (first|exact trivial|refine And.intro ?_ ?_))<;>first|exact .inl ⟨rfl,rfl⟩|exact .inr ⟨rfl,rfl⟩) ?_;simp (disch:=omega) only[Ac,↓Pc,simprocAttr,Hc,stepAtH,hp1,hv1,hr1,ha1,oLo hp1,oLo hv1,oSo hp1,oSo hv1,Oc2,List.append_assoc,List.length_append,List.length_set,List.length_cons])|(refine callD_of (hnz) rfl rfl rfl rfl (by (repeat' (first|exact trivial|refine And.intro ?_ ?_))<;>first|exact .inl ⟨rfl,rfl⟩|exact .inr ⟨rfl,rfl⟩) ?_;simp (disch:=omega) only[Ac,↓Pc,simprocAttr,Hc,stepAtH,hp1,hv1,hr1,ha1,oLo hp1,oLo hv1,oSo hp1,oSo hv1,Oc2,List.append_assoc,List.length_append,List.length_set,List.length_cons]))
      all_goals
        repeat (first|refine Xu ?_)
        have hP:=((hM4.dice k7).putp (.arr 5 ((rowsOf rwR R).set κ [.lit (.int .i64 c),kE kid,.ref (rest.length+1+1) 4 0 1,.lit (.slice none 0 0),.lit (.slice none 0 0)]))).app [.arr 4 [eMv ⟨x1 - 1,x2,x3,0⟩],.arr 4 (rowsOf eMv [⟨x1 - 1,x2,x3,0⟩])]
        have hz:((((Ob.var [.tree 1 (ints tape),.lit (.int .i64 k4)]::rest).set 0 (diceO tape k7)).set (p1+1) (.arr 5 ((rowsOf rwR R).set κ [.lit (.int .i64 c),kE kid,.ref (rest.length+1+1) 4 0 1,.lit (.slice none 0 0),.lit (.slice none 0 0)])))++[.arr 4 [eMv ⟨x1 - 1,x2,x3,0⟩],.arr 4 (rowsOf eMv [⟨x1 - 1,x2,x3,0⟩])])[rest.length+1+1]?=some (.arr 4 (rowsOf eMv [⟨x1 - 1,x2,x3,0⟩])):=by
          have:=oLk (((Ob.var [.tree 1 (ints tape),.lit (.int .i64 k4)]::rest).set 0 (diceO tape k7)).set (p1+1) (.arr 5 ((rowsOf rwR R).set κ [.lit (.int .i64 c),kE kid,.ref (rest.length+1+1) 4 0 1,.lit (.slice none 0 0),.lit (.slice none 0 0)]))) [.arr 4 [eMv ⟨x1 - 1,x2,x3,0⟩],.arr 4 (rowsOf eMv [⟨x1 - 1,x2,x3,0⟩])] 1
          rw[List.length_set,List.length_set,List.length_cons] at this
          exact this
        exact fin m _ (g1+1) (p1+1) R.length hmb hP.b3 hP.b2 ((hM4.dice k7).row (by omega) hrows κ ⟨c,(kid.map (·.2)).getD [],[⟨x1 - 1,x2,x3,0⟩],[],[]⟩ _ _ (hsm _ _ _ _ _ (by omega) (by simp) (by decide) (by decide) (by simp)) hP.b0 (fun b hb=>hP.at_ b (by simp[hb])) (fun e=>⟨.lit _,frz_kid kid (fun b hb=>hP.at_ b (by simp[hkb b hb])),frzO_enc hz rfl (by simp),.nil 1,.nil 1,trivial⟩)) (by omega) _ (Xv X0)
    | some x =>
      obtain ⟨q,xs⟩:=x
      have fq:(Ob.var [.tree 1 (ints tape),.lit (.int .i64 k4)]::rest)[q]?=some (.arr 4 (rowsOf eMv xs)):=hM4.F.at_ (q,.arr 4 (rowsOf eMv xs)) (by simp[hmb2 (q,.arr 4 (rowsOf eMv xs)) (by simp[mO])])
      obtain ⟨q1,rfl⟩ :∃q1,q=q1+1:=⟨q - 1,by
        have:q≠0:=fun e=>by subst e;cases fq
        omega⟩
      have hq1:rest[q1]?=some (.arr 4 (rowsOf eMv xs)):=fq
      have hr1:(rowsOf rwR R)[κ]?=some [.lit (.int .i64 c),kE kid,.ref (q1+1) 4 0 xs.length,.lit (.slice none 0 0),.lit (.slice none 0 0)]:=hrow
      have hxs:xs.length≤3:=hrs.2 _ rfl
      have hpm:(rwO ⟨c,kid,some (q1+1,xs)⟩).Perm ((q1+1,.arr 4 (rowsOf eMv xs))::kO kid):=by
        unfold rwO mO;exact List.perm_append_singleton _ _
      have hkq:=fun k2 Y l=>hM4.killq hκ (q:=q1+1) (z:=.arr 4 (rowsOf eMv xs)) (K:=kO kid) (by rw[hrD];exact hpm) k2 Y l
      have hgp:(rest.set q1 Ob.gone)[p1]?=some (.arr 5 (rowsOf rwR R)):=by
        have h:=(hM4.split hκ)
        rw[hrD] at h
        exact (Fc.kill (i:=q1+1) (x:=.arr 4 (rowsOf eMv xs)) (h.perm (List.Perm.append_right _ hpm)) .gone).at_ (p1+1,.arr 5 (rowsOf rwR R)) (by simp)
      have hgv:(rest.set q1 Ob.gone)[g1]?=some (.var [.ref (p1+1) 5 0 R.length]):=by
        have h:=(hM4.split hκ)
        rw[hrD] at h
        exact (Fc.kill (i:=q1+1) (x:=.arr 4 (rowsOf eMv xs)) (h.perm (List.Perm.append_right _ hpm)) .gone).at_ (g1+1,.var [.ref (p1+1) 5 0 R.length]) (by simp)
      refine W_drawH 0 [] [6,9,11] (.take 0 (.take 1 (.take 2 (.take 3 (.take 4 (.take 5 (.take 6 (.take 7 (.take 8 (.take 9 (.take 10 (.take 11 (.take 12 (.take 13 (.take 14 (.take 15 (.take 16 (.take 17 .nil)))))))))))))))))) rfl (by decide) (by decide +kernel) ?_
      simp (disch:=omega) only[Ac,↓Pc,simprocAttr,Hc,stepAtH,hq1,oLo hq1,oSo hq1,hgp,hgv,oLo hgp,oSo hgp,oLo hgv,hp1,hv1,hr1,ha1,oLo hp1,oLo hv1,oSo hp1,oSo hv1,Oc2,List.append_assoc,List.length_append,List.length_set,List.length_cons]
      repeat' (first|with_reducible refine And.intro ?_ ?_|omega|with_reducible rfl|(refine callD_of (hnx) rfl rfl rfl rfl (by (repeat' (first|exact trivial|refine And.intro ?_ ?_))<;>first|exact .inl ⟨rfl,rfl⟩|exact .inr ⟨rfl,rfl⟩) ?_;simp (disch:=omega) only[Ac,↓Pc,simprocAttr,Hc,stepAtH,hq1,oLo hq1,oSo hq1,hgp,hgv,oLo hgp,oSo hgp,oLo hgv,hp1,hv1,hr1,ha1,oLo hp1,oLo hv1,oSo hp1,oSo hv1,Oc2,List.append_assoc,List.length_append,List.length_set,List.length_cons])|(refine callD_of (hny) rfl rfl rfl rfl (by (repeat' (first|exact trivial|refine And.intro ?_ ?_))<;>first|exact .inl ⟨rfl,rfl⟩|exact .inr ⟨rfl,rfl⟩) ?_;simp (disch:=omega) only[Ac,↓Pc,simprocAttr,Hc,stepAtH,hq1,oLo hq1,oSo hq1,hgp,hgv,oLo hgp,oSo hgp,oLo hgv,hp1,hv1,hr1,ha1,oLo hp1,oLo hv1,oSo hp1,oSo hv1,Oc2,List.append_assoc,List.length_append,List.length_set,List.length_cons])|(refine callD_of (hnz) rfl rfl rfl rfl (by (repeat' (first|exact trivial|refine And.intro ?_ ?_))<;>first|exact .inl ⟨rfl,rfl⟩|exact .inr ⟨rfl,rfl⟩) ?_;simp (disch:=omega) only[Ac,↓Pc,simprocAttr,Hc,stepAtH,hq1,oLo hq1,oSo hq1,hgp,hgv,oLo hgp,oSo hgp,oLo hgv,hp1,hv1,hr1,ha1,oLo hp1,oLo hv1,oSo hp1,oSo hv1,Oc2,List.append_assoc,List.length_append,List.length_set,List.length_cons]))
      all_goals
        repeat (first|refine Xu ?_)
        have hP:=hkq k7 (.arr 5 ((rowsOf rwR R).set κ [.lit (.int .i64 c),kE kid,.ref (rest.length+1+1) 4 0 (xs.length+1),.lit (.slice none 0 0),.lit (.slice none 0 0)])) [.arr 4 [eMv ⟨x1 - 1,x2,x3,0⟩],.arr 4 (rowsOf eMv xs++[eMv ⟨x1 - 1,x2,x3,0⟩])]
        have hz:(((((Ob.var [.tree 1 (ints tape),.lit (.int .i64 k4)]::rest).set 0 (diceO tape k7)).set (q1+1) .gone).set (p1+1) (.arr 5 ((rowsOf rwR R).set κ [.lit (.int .i64 c),kE kid,.ref (rest.length+1+1) 4 0 (xs.length+1),.lit (.slice none 0 0),.lit (.slice none 0 0)])))++[.arr 4 [eMv ⟨x1 - 1,x2,x3,0⟩],.arr 4 (rowsOf eMv xs++[eMv ⟨x1 - 1,x2,x3,0⟩])])[rest.length+1+1]?=some (.arr 4 (rowsOf eMv (xs++[⟨x1 - 1,x2,x3,0⟩]))):=by
          have:=oLk ((((Ob.var [.tree 1 (ints tape),.lit (.int .i64 k4)]::rest).set 0 (diceO tape k7)).set (q1+1) .gone).set (p1+1) (.arr 5 ((rowsOf rwR R).set κ [.lit (.int .i64 c),kE kid,.ref (rest.length+1+1) 4 0 (xs.length+1),.lit (.slice none 0 0),.lit (.slice none 0 0)]))) [.arr 4 [eMv ⟨x1 - 1,x2,x3,0⟩],.arr 4 (rowsOf eMv xs++[eMv ⟨x1 - 1,x2,x3,0⟩])] 1
          rw[List.length_set,List.length_set,List.length_set,List.length_cons] at this
          exact this.trans (by rw[show [Ob.arr 4 [eMv ⟨x1 - 1,x2,x3,0⟩],Ob.arr 4 (rowsOf eMv xs++[eMv ⟨x1 - 1,x2,x3,0⟩])][1]?=some (Ob.arr 4 (rowsOf eMv xs++[eMv ⟨x1 - 1,x2,x3,0⟩])) from rfl,rows_app1 (enc:=eMv) xs ⟨x1 - 1,x2,x3,0⟩])
        exact fin m _ (g1+1) (p1+1) R.length hmb (hP.at_ (1,.var (eMdl m)) (by simp)) (hP.at_ (g1+1,.var [.ref (p1+1) 5 0 R.length]) (by simp)) (Fin5.row (by omega) hrows κ ⟨c,(kid.map (·.2)).getD [],xs++[⟨x1 - 1,x2,x3,0⟩],[],[]⟩ _ _ (hsm _ _ _ _ _ (by omega) (by simp;omega) (by decide) (by decide) (by simp)) hP.b0 (fun b hb=>hP.at_ b (by simp[hb])) (fun e=>⟨.lit _,frz_kid kid (fun b hb=>hP.at_ b (by simp[hb])),frzO_enc hz (by simp) (by simp),.nil 1,.nil 1,trivial⟩)) (by omega) _ (Xv X0)
  · repeat' (first|((fail_if_success (first|refine W_at 10 ?_|refine W_atE 10 ?_));refine Xr (X3 @fp @fr @hrow) ?_;intro K hK)|refine Xo (X3 @fp @fr @hrow) ?_|(refine hK _ ?_;clear hK K)|(refine Xg (X3 @fp @fr @hrow) ?_ ?_<;>try intro hb)|(refine Xi ?_ ?_<;>try intro ht)|refine Xz ?_|refine Xe ?_|refine Xd ?_ ?_|omega|with_reducible rfl|exact trivial)
    have hod:=odd_ok tape k4 m hvm hk4 hL
    unfold dice at hod
    refine W_region_ce 2 (by decide) _ rfl ?_
    intro K hK
    simp (disch:=omega) only[Ac,↓Pc,simprocAttr,List.take,List.drop,f1]
    refine⟨rfl,(show callKR Tryz.prog 12 [.ptr 0 0 0,.agg (eMdl m)] (some 36) _ _ from ?_)⟩
    refine callKR_sel [0] hod (by decide) ⟨f0,trivial⟩ ⟨.eq rfl,.pure rfl,trivial⟩ ?_
    rintro r ob ⟨m2,k5,hm2,hk5,rfl,rfl⟩
    rw[List.map_cons,List.map_nil,hd]
    have hM5:=(hM4.dice k5).mdl m2
    have f1':∀ x,(os4.set 0 x)[1]?=some (.var (eMdl m)):=fun x=>(hM4.F.put x).b2
    simp (disch:=omega) only[Ac,↓Pc,simprocAttr,f1']
    refine hK _ ?_
    clear hK K
    repeat (first|refine Xu ?_)
    exact fin m2 _ gn p R.length hm2.mb hM5.F.b2 hM5.F.b1 (hfin2 (hM4.dice k5) |> fun _=>hM5.fin (by omega) (fun r hr=>small_row (hrows r hr))) (by omega) _ (Xv X0)
end T
open Go Go.Am Go.Proofs
open Nat (reduceEqDiff reduceAdd reduceLeDiff reduceMul)
open Int (reduceNeg reduceLE reduceToNat)
set_option maxRecDepth 20000
namespace T
theorem proofmade_ok (tape:List Int) (node:Int):Holds Tryz.prog 3 [.tree 1 (ints tape),.lit (.int .i64 node)] [] (.lit (.bool true)) [] :=
  pmade_ok awake21_ok (fun m P k hm hP=>proofexact_ok m P k hm hP) tape node
end T

