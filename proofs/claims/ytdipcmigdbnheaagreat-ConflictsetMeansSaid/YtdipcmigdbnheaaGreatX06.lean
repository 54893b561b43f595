import Derived.Test.YtdipcmigdbnheaaGreatX05
import Derived.Laws.IdiomRangeMap
set_option linter.unusedVariables false
set_option linter.unusedSimpArgs false
set_option linter.unnecessarySimpa false
set_option linter.unusedSectionVars false
set_option maxHeartbeats 64000000
set_option maxRecDepth 20000
open List renaming range→aN,range'→mn,range'_succ→uJ,range'_append→Fa,mem_of_getElem?→gB,getElem?_drop→nr,length_take→gV,getElem?_take_of_lt→E8,getElem?_eq_some_iff→aQ,getElem?_set→b6,getD_eq_getElem?_getD→aA,getElem?_append_left→cn,getElem?_append_right→eK,length_set→bI
open Array renaming getElem?_eq_some_iff→oA,length_toList→si
open Nat renaming one_mul→pX,zero_add→fi,lt_of_lt_of_le→Fi,lt_irrefl→xN
open Option renaming some→cY
namespace Go.Am
variable {P:Program} {N n0:Nat} {σ:St} {Q:Exit→St→Prop}
def ua:Exit→Bool
  | .normal=>true
  | _=>false
def AA (id:Nat):Exit→Bool
  | .normal=>true
  | .exit j=>j == id
  | _=>false
theorem NP {e:Exit} (h:ua e=false):e≠.normal:=by intro h2;subst h2;simp[ua] at h
theorem NQ {id:Nat} {e:Exit} (h:AA id e=false):e≠.normal∧e≠.exit id:=by
  constructor
  · intro h2;subst h2;simp[AA] at h
  · intro h2;subst h2;simp[AA] at h
theorem rk {id:Nat} {ops:Array Oper} {y:Code} (h:∀ K:St→Prop,(∀ s,W P N n0 y Q s→K s)→opsL P ops ops.toList K σ) (hd:gj N ops=true:=by decide):W P N n0 (.seq (.region id ops false) y) Q σ:=tU hd h
theorem Zk {id:Nat} {ops:Array Oper} (h:∀ K:St→Prop,(∀ s,Q .normal s→K s)→opsL P ops ops.toList K σ) (hd:gj N ops=true:=by decide):W P N n0 (.region id ops false) Q σ:=W6 hd h
theorem rd {id:Nat} {ops:Array Oper} {y:Code} (h:∀ K:St→Prop,(∀ s,W P N n0 y Q s→K s)→opsL P ops ops.toList K σ) (hm:P.follows .mixedOrders=true:=by rfl) (hd:gj N ops=true:=by decide) (ht:wA ops=true:=by decide +kernel):W P N n0 (.seq (.region id ops true) y) Q σ:=W7 hm hd ht h
theorem Zl {id:Nat} {ops:Array Oper} (h:∀ K:St→Prop,(∀ s,Q .normal s→K s)→opsL P ops ops.toList K σ) (hm:P.follows .mixedOrders=true:=by rfl) (hd:gj N ops=true:=by decide) (ht:wA ops=true:=by decide +kernel):W P N n0 (.region id ops true) Q σ:=W8 hm hd ht h
theorem rb {id:Nat} {ops:Array Oper} {y:Code} (h:∀ K:St→Prop,(∀ s,W P N n0 y Q s→K s)→qt P ops ops.toList K σ) (hm:P.follows .mixedOrders=true:=by rfl) (hd:gj N ops=true:=by decide) (ht:Db ops=true:=by decide +kernel):W P N n0 (.seq (.region id ops true) y) Q σ:=YU hm hd ht h
theorem AB {id:Nat} {ops:Array Oper} (h:∀ K:St→Prop,(∀ s,Q .normal s→K s)→qt P ops ops.toList K σ) (hm:P.follows .mixedOrders=true:=by rfl) (hd:gj N ops=true:=by decide) (ht:Db ops=true:=by decide +kernel):W P N n0 (.region id ops true) Q σ:=YV hm hd ht h
theorem ra {id:Nat} {ops:Array Oper} {y:Code} (h:∀ K:St→Prop,(∀ s,W P N n0 y Q s→K s)→qq P ops ops.toList K σ) (hm:P.follows .mixedOrders=true:=by rfl) (hd:gj N ops=true:=by decide) (ht:Da ops=true:=by decide +kernel):W P N n0 (.seq (.region id ops true) y) Q σ:=YR hm hd ht h
theorem AD {id:Nat} {ops:Array Oper} (h:∀ K:St→Prop,(∀ s,Q .normal s→K s)→qq P ops ops.toList K σ) (hm:P.follows .mixedOrders=true:=by rfl) (hd:gj N ops=true:=by decide) (ht:Da ops=true:=by decide +kernel):W P N n0 (.region id ops true) Q σ:=YS hm hd ht h
theorem Wk {x y:Code} (h:∀ Q':Exit→St→Prop,(∀ s,W P N n0 y Q s→Q' .normal s)→(∀ e s,ua e=false→Q e s→Q' e s)→W P N n0 x Q' σ):W P N n0 (.seq x y) Q σ :=
  XR fun Q' h1 h2=>h Q' h1 fun e s he=>h2 e s (NP he)
theorem Wb {id:Nat} {c:Code} (h:∀ Q':Exit→St→Prop,(∀ s,Q .normal s→Q' .normal s)→(∀ s,Q .normal s→Q' (.exit id) s)→(∀ e s,AA id e=false→Q e s→Q' e s)→W P N n0 c Q' σ):W P N n0 (.block id c) Q σ :=
  W3 fun Q' h1 h2 h3=>h Q' h1 h2 fun e s he=>h3 e s (NQ he).1 (NQ he).2
theorem Wc {c:Operand} {x y:Code} {t:Bool} (ht:t=true→W P N n0 x Q σ) (hf:t=false→W P N n0 y Q σ) (hc:ev σ c=.lit (.bool t):=by (simp only[Go.Am.mD,Go.Am.Lc,↓reduceIte,Nat.reduceEqDiff,Nat.reduceBEq];exact rfl)):W P N n0 (.cond c x y) Q σ:=z5 hc ht hf
theorem aU {α:Type} {c:Code} (S:α→St) (I:α→Prop) (M:α→Nat) (x0:α) (hI:I x0) (h0:aB n0 σ (S x0))
    (round:∀ x,I x→∀ Q':Exit→St→Prop,(∀ s y,I y→M y<M x→aB n0 s (S y)→Q' .normal s)→(∀ e s,ua e=false→Q e s→Q' e s)→W P N n0 c Q' (S x)):W P N n0 (.loop c) Q σ :=
  WW S I M x0 hI h0 fun x hx Q' h1 h2=>round x hx Q' h1 fun e s he=>h2 e s (NP he)
end Go.Am
namespace Go.Am
variable {P:Program} {N n0:Nat} {σ:St} {Q:Exit→St→Prop}
theorem Zm {K0:St→Prop} (n m:Nat) {ops:Array Oper} (hd:gj N ops=true) (o o2:Oper) (ho:ops[n]?=some o) (dL:ops[n+1+m]?=some o2)
    {os:List Ob} {γ0:Cx} {a:Act} {w:World} {R:Exit→Act→World→Prop} (aJ:gI N os γ0 σ a w) (Dk:∀ σ' a' w',K0 σ'→gI N os γ0 σ' a' w'→R .normal a' w')
    (h:opsL P ops (ops.toList.take n) (sL P o (opsL P ops ((ops.toList.drop (n+1)).take m) (sL P o2 (opsL P ops (ops.toList.drop (n+1+m+1)) K0)))) σ) :
    wpOps P ops R (aN ops.size) a w:=by
  have F4:n+1+m<ops.size:=(oA.1 dL).1
  have e:aN ops.size=mn 0 (ops.toList.take n).length++(n::(mn (n+1) ((ops.toList.drop (n+1)).take m).length++((n+1+m)::mn (n+1+m+1) (ops.toList.drop (n+1+m+1)).length))):=by
    rw[List.range_eq_range',← uJ]
    have h1:((ops.toList.drop (n+1)).take m).length=m:=by simp;omega
    have h2:(ops.toList.take n).length=n:=by simp;omega
    have h3:(ops.toList.drop (n+1+m+1)).length=ops.size - (n+1+m+1):=by simp
    rw[h1,h2,h3]
    have a1:=Fa (s:=n+1) (m:=m) (n:=ops.size - (n+1+m+1)+1) (step:=1)
    simp only[pX] at a1
    rw[a1,← uJ]
    have a2:=Fa (s:=0) (m:=n) (n:=m+(ops.size - (n+1+m+1)+1)+1) (step:=1)
    simp only[fi,pX] at a2
    rw[a2]
    congr 1
    omega
  rw[e]
  refine wD _ a w ?_
  refine q8 (qd hd) (K:=sL P o (opsL P ops ((ops.toList.drop (n+1)).take m) (sL P o2 (opsL P ops (ops.toList.drop (n+1+m+1)) K0)))) (fun σ' a' w' hk e7=>?_) (ops.toList.take n) 0 σ a w (fun k hk=>?_) h aJ
  · show wpOps P ops _ _ a' w'
    rw[wpOps_cons]
    unfold wpOp
    simp only[ho]
    have hw:Region.wanted o (yielded ops a'.tmps)=true:=by simp[Region.wanted,hk.1]
    rw[if_pos hw]
    left
    refine GC hk e7 (qd hd o (gB (by simpa using ho))) (fun σ2 a2 w2 bS Ax=>?_)
    refine wD _ a2 w2 ?_
    refine q8 (qd hd) (K:=sL P o2 (opsL P ops (ops.toList.drop (n+1+m+1)) K0)) (fun σ' a' w' hk e7=>?_) ((ops.toList.drop (n+1)).take m) (n+1) σ2 a2 w2 (fun k hk=>?_) bS Ax
    · show wpOps P ops _ _ a' w'
      rw[wpOps_cons]
      unfold wpOp
      simp only[dL]
      have hw:Region.wanted o2 (yielded ops a'.tmps)=true:=by simp[Region.wanted,hk.1]
      rw[if_pos hw]
      left
      refine GC hk e7 (qd hd o2 (gB (by simpa using dL))) (fun σ2 a2 w2 bS Ax=>?_)
      refine q8 (qd hd) (K:=K0) (fun Ay a3 w3 kG mF=>Dk Ay a3 w3 kG mF) (ops.toList.drop (n+1+m+1)) (n+1+m+1) σ2 a2 w2 (fun k hk=>?_) bS Ax
      rw[nr]
      simp
    · simp only[gV,List.length_drop,si] at hk
      rw[E8 (by omega),nr]
      simp
  · simp only[gV,si] at hk
    rw[E8 (by omega)]
    simp
theorem Zn (n m:Nat) {id:Nat} {ops:Array Oper} (hd:gj N ops=true) (o o2:Oper) (ho:ops[n]?=some o) (dL:ops[n+1+m]?=some o2)
    (h:∀ K:St→Prop,(∀ s,Q .normal s→K s)→opsL P ops (ops.toList.take n) (sL P o (opsL P ops ((ops.toList.drop (n+1)).take m) (sL P o2 (opsL P ops (ops.toList.drop (n+1+m+1)) K)))) σ):W P N n0 (.region id ops false) Q σ:=by
  intro os γ0 a w hn aJ
  refine wp_region ?_
  exact Zm n m hd o o2 ho dL aJ (fun Ay a3 w3 kG mF=>⟨Ay,kG,mF⟩) (h _ (fun _ h=>h))
end Go.Am
namespace Go.Am
variable {P:Program} {N n0:Nat} {σ:St} {Q:Exit→St→Prop}
class Head (p:Prop):Prop where
  on:True
section
variable {ops:Array Oper} {o:Oper} {l:List Oper} {K:St→Prop}
instance:Head (opsL P ops (o::l) K σ):=⟨trivial⟩
instance {qs:List Nat} {t:PT}:Head (ja P ops qs t K σ):=⟨trivial⟩
instance {qs:List Nat} {i:Nat}:Head (pE P ops qs i (o::l) K σ):=⟨trivial⟩
instance:Head (qq P ops (o::l) K σ):=⟨trivial⟩
instance:Head (qt P ops (o::l) K σ):=⟨trivial⟩
end
theorem gO {p:Prop} [Head p] (h:p):p:=h
class Dl (p:Prop) (b:outParam Bool) (A B:outParam Prop):Prop where
  sp:(b=true→A)→(b=false→B)→p
instance {o:Oper} {K:St→Prop} {b want:Bool}:Dl (mZ P o K b want σ) b (mZ P o K true want σ) (mZ P o K false want σ):=⟨XS⟩
instance {q:Bool} {o:Oper} {K:St→Prop} {b want:Bool}:Dl (nC q P o K b want σ) b (nC q P o K true want σ) (nC q P o K false want σ):=⟨WU⟩
theorem gS {p:Prop} {b:Bool} {A B:Prop} [h:Dl p b A B] (h1:b=true→A) (h2:b=false→B):p:=h.sp h1 h2
def NR:Code→Option Exit
  | .skip=>some .normal
  | .label _=>some .normal
  | .exit id=>some (.exit id)
  | .ret=>some .ret
  | _=>none
theorem Wz {c:Code} {e:Exit} (hc:NR c=some e) (h:Q e σ):W P N n0 c Q σ:=by
  cases c<;>simp[NR] at hc
  all_goals subst hc
  all_goals first|exact z4 h|exact XO h|exact XP h|exact XN h
def Dm (P:Program) (d:Bool) (ops:Array Oper):Bool:=!d || (P.follows .mixedOrders && wA ops)
theorem rr {id:Nat} {ops:Array Oper} {d:Bool} {y:Code} (h:∀ K:St→Prop,(∀ s,W P N n0 y Q s→K s)→opsL P ops ops.toList K σ) (ht:Dm P d ops=true:=by decide +kernel) (hd:gj N ops=true:=by decide):W P N n0 (.seq (.region id ops d) y) Q σ:=by
  cases d
  · exact rk h hd
  · have h2:P.follows .mixedOrders=true∧wA ops=true:=by simpa [Dm] using ht
    exact rd h h2.1 hd h2.2
theorem sQ {id:Nat} {ops:Array Oper} {d:Bool} (h:∀ K:St→Prop,(∀ s,Q .normal s→K s)→opsL P ops ops.toList K σ) (ht:Dm P d ops=true:=by decide +kernel) (hd:gj N ops=true:=by decide):W P N n0 (.region id ops d) Q σ:=by
  cases d
  · exact Zk h hd
  · have h2:P.follows .mixedOrders=true∧wA ops=true:=by simpa [Dm] using ht
    exact Zl h h2.1 hd h2.2
class AE (rows:List (List AV)) (sz:outParam Nat):Prop where
  wid:∀ row∈rows,row.length=sz
  bW:∀ row∈rows,∀ v∈row,(∃ x,v=AV.lit x)∨∃ s r,v=AV.tree s r
instance (xs:List Int):AE (ints xs) 1:=⟨oE _,pw _⟩
instance (xs:List Bool):AE (aY xs) 1:=⟨zS _,Cz _⟩
instance (xs:List (List Int)):AE (fE xs) 1:=⟨Kx _,Kw _⟩
instance {α:Type} {enc:α→List AV} {sz:Nat} [Row enc sz] (xs:List α):AE (rowsOf enc xs) sz:=⟨eT _,jy _⟩
theorem aE.fz {kp:Nat→Prop} {ρ:Nat→Nat} {id sz len:Nat} {rows:List (List AV)} [h:AE rows sz] (ho:σ.aa[id]?=some (.arr sz rows)) (hl:len=rows.length)
    (qc:¬ kp id:=by first|exact gK (by decide)|decide):aE σ kp ρ true (.tree sz rows) (.ref id sz 0 len):=aE.bW ho h.wid hl qc h.bW
theorem aB.se (ak:List Nat) (snap:Bool) {l:List (Nat × AV)} {co:List Ob} (ho:nE (br σ.aa.length ak) σ.aa ak co) (h:qg (aE σ (kept ak co) (br σ.aa.length ak) snap) σ.env l)
    (cC:ak.Nodup:=by decide) (hn:n0≤ak.length:=by decide) (cV:∀ i,i<n0→ak.getD i 0=i:=by decide):aB n0 σ ⟨Am.aw l,co⟩:=aB.ak ak snap l co cC ho hn cV h
theorem Zo (ak:List Nat) (snap:Bool) {v res:AV} {a8:List Ob} (ho:nE (br σ.aa.length ak) σ.aa ak a8) (h:aE σ (kept ak a8) (br σ.aa.length ak) snap res v)
    (cC:ak.Nodup:=by decide) (hn:n0≤ak.length:=by decide) (cV:∀ i,i<n0→ak.getD i 0=i:=by decide):mT n0 σ v res a8:=cP ak snap cC ho hn cV h
end Go.Am
namespace Go.Am
theorem NS:dQ []=.bG []:=rfl
theorem NT (a b:AV) (l:List AV):dQ (a::b::l)=.bG (a::b::l):=rfl
end Go.Am
namespace Go.Am
variable {P:Program} {N n0:Nat} {σ:St}
inductive PF where
  | nil
  | take (i:Nat) (t:PF)
  | both (i:Nat) (t:PF) (j:Nat) (u:PF)
  | three (i:Nat) (t:PF) (j:Nat) (u:PF) (k:Nat) (v:PF)
  | four (i:Nat) (t:PF) (j:Nat) (u:PF) (k:Nat) (v:PF) (l:Nat) (w:PF)
def PF.ok (ops:Array Oper) (qs:List Nat):PF→Nat→Array Bool→Bool
  | .nil,n,aP=>n == 0 && (Region.ready .any ops aP).isEmpty
  | .take _ _,0,_=>false
  | .take i t,n+1,aP=>Cm ops qs aP i (FF ops i) && t.ok ops qs n (aP.setIfInBounds i true)
  | .both _ _ _ _,0,_=>false
  | .both i t j u,n+1,aP=>(Region.ready .any ops aP == [i,j]) && t.ok ops qs n (aP.setIfInBounds i true) && u.ok ops qs n (aP.setIfInBounds j true)
  | .three _ _ _ _ _ _,0,_=>false
  | .three i t j u k v,n+1,aP=>(Region.ready .any ops aP == [i,j,k]) && t.ok ops qs n (aP.setIfInBounds i true) && u.ok ops qs n (aP.setIfInBounds j true) && v.ok ops qs n (aP.setIfInBounds k true)
  | .four _ _ _ _ _ _ _ _,0,_=>false
  | .four i t j u k v l w,n+1,aP=>(Region.ready .any ops aP == [i,j,k,l]) && t.ok ops qs n (aP.setIfInBounds i true) && u.ok ops qs n (aP.setIfInBounds j true) && v.ok ops qs n (aP.setIfInBounds k true) && w.ok ops qs n (aP.setIfInBounds l true)
def jz (P:Program) (ops:Array Oper) (qs:List Nat):PF→(St→Prop)→St→Prop
  | .nil,K,σ=>K σ
  | .take i t,K,σ=>cW P ops qs i (jz P ops qs t K) σ
  | .both i t j u,K,σ=>cW P ops qs i (jz P ops qs t K) σ∧cW P ops qs j (jz P ops qs u K) σ
  | .three i t j u k v,K,σ=>cW P ops qs i (jz P ops qs t K) σ∧cW P ops qs j (jz P ops qs u K) σ∧cW P ops qs k (jz P ops qs v K) σ
  | .four i t j u k v l w,K,σ=>cW P ops qs i (jz P ops qs t K) σ∧cW P ops qs j (jz P ops qs u K) σ∧cW P ops qs k (jz P ops qs v K) σ∧cW P ops qs l (jz P ops qs w K) σ
section
variable {ops:Array Oper} {qs:List Nat} {K:St→Prop} {i j k l:Nat} {t u v w:PF}
theorem NU:jz P ops qs .nil K σ=K σ:=rfl
theorem NV:jz P ops qs (.take i t) K σ=cW P ops qs i (jz P ops qs t K) σ:=rfl
theorem NW:jz P ops qs (.both i t j u) K σ=(cW P ops qs i (jz P ops qs t K) σ∧cW P ops qs j (jz P ops qs u K) σ):=rfl
theorem NX:jz P ops qs (.three i t j u k v) K σ=(cW P ops qs i (jz P ops qs t K) σ∧cW P ops qs j (jz P ops qs u K) σ∧cW P ops qs k (jz P ops qs v K) σ):=rfl
theorem NY:jz P ops qs (.four i t j u k v l w) K σ=(cW P ops qs i (jz P ops qs t K) σ∧cW P ops qs j (jz P ops qs u K) σ∧cW P ops qs k (jz P ops qs v K) σ∧cW P ops qs l (jz P ops qs w K) σ):=rfl
end
theorem Fc:type_of% @NU∧type_of% @NV∧type_of% @NW∧type_of% @NX∧type_of% @NY:=⟨@NU,@NV,@NW,@NX,@NY⟩
end Go.Am
namespace Go.Am
variable {P:Program} {N n0:Nat} {σ:St}
theorem NZ (dst:Option Tmp) (t:TypeId) (a:Operand) (tt:TypeId) (p:String) (af:Array Edge) (g:Option (Nat × Bool)) (K:St→Prop):kY true P ⟨dst,.load t a,tt,p,af,g⟩ σ K=qZ P t dst K σ (ev σ a):=rfl
theorem Lq:type_of% @NZ∧type_of% @qZ.eq_1:=⟨@NZ,@qZ.eq_1⟩
theorem aB.l6 (d id:Nat) {cells:List AV} (ho:σ.aa[id]?=some (.var cells)) (hd:σ.env d=.ptr id 0 0) (kz:∀ v∈cells,(∃ x,v=.lit x)∨∃ s r,v=.tree s r):aB n0 σ ⟨iM σ.env d (.b7 cells),σ.aa.set id .gone⟩:=by
  intro os γ0 γ _ hs hf
  have wm:id<σ.aa.length:=(aQ.1 ho).1
  let aF:Cx:={ γ with Z:=fun b=>γ.Z b∨∃ o cap,γ.blk id=some (b,o,cap) }
  let dJ:=σ.aa.set id .gone
  have fC:∀ i,dJ[i]?=if i=id then some .gone else σ.aa[i]?:=by
    intro i
    show (σ.aa.set id _)[i]?=_
    rw[b6]
    by_cases h1:i=id
    · subst h1;simp[wm]
    · simp[Ne.symm h1,h1]
  have hR:∀ v cv,ay σ.aa γ.w γ.Z γ.blk v cv→ay dJ aF.w aF.Z aF.blk v cv:=fun v cv hv =>
    hv.mono (fun b hb=>⟨.inl hb,rfl⟩) (fun i o hi=>by
      rw[fC]
      by_cases h1:i=id
      · left;rw[if_pos h1]
      · rw[if_neg h1]
        by_cases hg:o=.gone
        · subst hg;exact .inl hi
        · exact .inr ⟨rfl,o,hi,Ob.jG hg⟩)
  have cz:∀ i,Live dJ i→Live σ.aa i∧i≠id:=by
    rintro i ⟨o,hi,hg⟩
    rw[fC] at hi
    split at hi
    · simp at hi;exact absurd hi.symm hg
    · rename_i h2;exact⟨⟨o,hi,hg⟩,h2⟩
  have nB:Live σ.aa id:=⟨_,ho,by simp⟩
  obtain ⟨b,cap,cur,t,h1,h2,h3,h4⟩:=hs.ez _ _ ho
  have sx:=hs.aw d
  rw[hd] at sx
  have jt:ay dJ aF.w aF.Z aF.blk (.b7 cells) (γ.tmps.getD d Go.undef):=by
    generalize γ.tmps.getD d Go.undef=cv at sx
    cases sx with
    | bW _ _ h=>cases h
    | lU _ _ _ _ h=>rw[ho] at h;simp at h
    | mu _ _ b2 afB afC h hb =>
      rw[h1] at hb
      simp only[cY.injEq,Prod.mk.injEq] at hb
      obtain ⟨rfl,_,_⟩:=hb
      refine .b7 cells b 0 (fun j=>cur.getD j Go.undef) (.inr ⟨0,cap,h1⟩) (fun j x hx=>?_) (fun j x hx=>?_)
      · rw[fi]
        exact yb h2 (by rw[h3];exact (aQ.1 hx).1)
      · have dK:cg σ (fun y=>y≠id) x x:=by
          rcases kz x (gB hx) with ⟨v,rfl⟩ | ⟨s,r,rfl⟩
          · exact .lit v
          · exact .tree s r
        exact dK.zI hs (γc:=aF) (fun b hb=>.inl hb) rfl (fun x b o cap cV _ hb=>.inr ⟨o,cap,by rw[show id=x by simpa using (Decidable.not_not.1 cV).symm];exact hb⟩) _ (h4 j x hx)
    | mY _ _ _ _ _ _ _ _ h=>rw[ho] at h;simp at h
  refine⟨aF,rfl,rfl,⟨fun k=>?_,?_,fun i j b o c o' c' hi hj=>hs.inj i j b o c o' c' (cz i hi).1 (cz j hj).1,?_,?_⟩,?_⟩
  · show ay dJ aF.w aF.Z aF.blk (iM σ.env d (.b7 cells) k) (γ.tmps.getD k Go.undef)
    simp only[iM]
    split
    · rename_i e;subst e;exact jt
    · exact hR _ _ (hs.aw k)
  · intro i o hi
    have hi':dJ[i]?=some o:=hi
    rw[fC] at hi'
    split at hi'
    · simp only[cY.injEq] at hi';subst hi';trivial
    · by_cases hg:o=.gone
      · subst hg;trivial
      · exact (hs.ez i o hi').mono hR rfl (fun _ _ _ _=>rfl)
  · rintro b ⟨i,o,c',hi,hb⟩ (hz | ⟨o',cap,db⟩)
    · exact hs.nz b ⟨i,o,c',(cz i hi).1,hb⟩ hz
    · exact (cz i hi).2 (hs.inj i id b o c' o' cap (cz i hi).1 nB hb db)
  · rintro b (hz | ⟨o,cap,hb⟩)
    · exact hs.gG b hz
    · exact hs.blt nB hb
  · refine⟨hf.lS,hf.tape,hf.output,hf.size,hf.ax,fun b hb=>.inl (hf.z0 b hb),?_,?_,by show os.length≤dJ.length;simp[dJ];exact hf.len,?_⟩
    · rintro b (hz | ⟨o,cap,hb⟩)
      · exact hf.z1 b hz
      · exact .inr (hf.own b ⟨id,o,cap,nB,hb⟩)
    · rintro b ⟨i,o,c',hi,hb⟩
      exact hf.own b ⟨i,o,c',(cz i hi).1,hb⟩
    · intro i hi hl
      obtain ⟨h1,x,x',hx,df,hk⟩:=hf.kA i hi (cz i hl).1
      have ix:Live dJ i:=hl
      obtain ⟨o,dL,p9⟩:=ix
      refine⟨h1,x,o,hx,dL,?_⟩
      rw[fC] at dL
      split at dL
      · simp at dL;exact absurd dL.symm p9
      · rw[df] at dL
        simp only[cY.injEq] at dL
        subst dL;exact hk
end Go.Am
namespace Go.Am
variable {P:Program} {N n0:Nat} {σ:St}
inductive Gh where
  | map (iO:List (Value × Value))
  | iter (mb since:Nat) (seen:List Nat)
def Gh.At (w:World) (b:Nat):Gh→Prop
  | .map iO=>w.heap[b]?=some (.map (fS iO) iO.length)
  | .iter mb since seen=>w.heap[b]?=some (.mapIter (some mb) since seen.toArray since)
theorem Gh.At.heap {w w':World} {b:Nat} {g:Gh} (h:g.At w b) (e:w'.heap[b]?=w.heap[b]?):g.At w' b:=by
  cases g<;>exact e.trans h
theorem Gh.At.lt {w:World} {b:Nat} {g:Gh} (h:g.At w b):b<w.heap.size:=by
  cases g<;>exact (oA.1 h).1
abbrev Mem:=Nat→Option Gh
def nT (μ:Mem) (b:Nat) (g:Gh):Mem:=fun k=>if k=b then some g else μ k
theorem Dp (μ:Mem) (b:Nat) (g:Gh):nT μ b g b=some g:=by simp[nT]
theorem vn (μ:Mem) {b c:Nat} (g:Gh) (h:c≠b):nT μ b g c=μ c:=by simp[nT,h]
def AF:Mem:=fun _=>none
structure qw (μ:Mem) (os:List Ob) (γ0 γ:Cx):Prop where
  gh:∀ b g,μ b=some g→g.At γ.w b
  fresh:∀ b g,μ b=some g→γ0.w.heap.size≤b
  Dq:∀ b g,μ b=some g→¬ γ.Z b
  yD:∀ b g,μ b=some g→¬ nL os γ.blk b
theorem qw.nil (os:List Ob) (γ0 γ:Cx):qw AF os γ0 γ:=⟨by simp[AF],by simp[AF],by simp[AF],by simp[AF]⟩
theorem qw.ax {μ:Mem} {os os':List Ob} {γ0 γ aF:Cx} (h:qw μ os γ0 γ) (hf:Fr os γ os' aF):qw μ os' γ0 aF :=
  ⟨fun b g hp=>(h.gh b g hp).heap (hf.ax _ (h.gh b g hp).lt (h.yD b g hp)),h.fresh,fun b g hp hz=>by
    rcases hf.z1 _ hz with h1 | h1 | h1
    · exact h.Dq b g hp h1
    · exact h.yD b g hp h1
    · have:=(h.gh b g hp).lt;omega,fun b g hp ho=>by
    rcases hf.own _ ho with h1 | h1
    · exact h.yD b g hp h1
    · have:=(h.gh b g hp).lt;omega⟩
theorem qw.le {μ N0:Mem} {os:List Ob} {γ0 γ:Cx} (h:qw μ os γ0 γ) (hl:∀ b g,N0 b=some g→μ b=some g):qw N0 os γ0 γ :=
  ⟨fun b g hp=>h.gh b g (hl b g hp),fun b g hp=>h.fresh b g (hl b g hp),fun b g hp=>h.Dq b g (hl b g hp),fun b g hp=>h.yD b g (hl b g hp)⟩
def ub (N:Nat) (os:List Ob) (γ0:Cx) (σ:St) (μ:Mem) (a:Act) (w:World):Prop :=
  a.defers=[]∧a.tmps.size=N∧∃ γ,γ.w=w∧γ.tmps=a.tmps∧bq σ γ∧Fr os γ0 σ.aa γ∧qw μ σ.aa γ0 γ
variable {Q:Exit→St→Mem→Prop} {μ:Mem}
def yE (n0:Nat) (σ σ':St):Prop:=∀ (os:List Ob) (γ0 γ:Cx),os.length=n0→bq σ γ→Fr os γ0 σ.aa γ →
  ∃ aF,aF.w=γ.w∧aF.tmps=γ.tmps∧bq σ' aF∧Fr os γ0 σ'.aa aF∧(∀ b,aF.Z b→γ.Z b∨nL σ.aa γ.blk b)∧∀ b,nL σ'.aa aF.blk b→nL σ.aa γ.blk b
theorem yE.aw (l:List (Nat × AV)) (os:List Ob) (ho:σ.aa=os) (h:Has σ.env l):yE n0 σ ⟨aw l,os⟩:=by
  subst ho
  intro os γ0 γ _ hs hf
  refine⟨γ,rfl,rfl,⟨fun k=>?_,hs.ez,hs.inj,hs.nz,hs.gG⟩,hf,fun _ h=>.inl h,fun _ h=>h⟩
  rcases Cp l k with h' | ⟨p,hp,rfl,h'⟩
  · show ay _ _ _ _ (Am.aw l k) _
    rw[h'];exact .undef _
  · show ay _ _ _ _ (Am.aw l p.1) _
    rw[h',← h.mem p hp];exact hs.aw p.1
theorem yE.se (ak:List Nat) (snap:Bool) {l:List (Nat × AV)} {co:List Ob} (ho:nE (br σ.aa.length ak) σ.aa ak co) (h:qg (aE σ (kept ak co) (br σ.aa.length ak) snap) σ.env l)
    (cC:ak.Nodup:=by decide) (hn:n0≤ak.length:=by decide) (cV:∀ i,i<n0→ak.getD i 0=i:=by decide):yE n0 σ ⟨Am.aw l,co⟩:=by
  intro os γ0 γ tT hs hf
  obtain ⟨h1,h2,h3⟩:=ho.spec
  obtain ⟨aF,a1,a2,a3,a4⟩:=hs.select ak snap co cC h1 h2 h3 (Am.aw l) γ.tmps (fun k=>by
    rcases Cp l k with h' | ⟨p,hp,rfl,h'⟩
    · exact .inl h'
    · right;rw[h'];exact⟨_,h.mem p hp,hs.aw p.1⟩)
  obtain ⟨b1,b2,b3,b4⟩:=a4
  refine⟨aF,a1,a2,a3,hf.select (by omega) h1 (fun i hi=>cV i (by omega)) a1 ⟨b1,b2,b3,b4⟩,b3,?_⟩
  rintro b ⟨i,o,c,hi,hb⟩
  have bw:=hi.lt
  rw[b1 i bw] at hb
  exact⟨_,o,c,(b4 i hi).1,hb⟩
end Go.Am
namespace Go.Am
variable {P:Program} {N n0:Nat} {σ:St}
def iE (L:List (Int × Value)):List (Value × Value):=L.map fun p=>(.int .i64 p.1,p.2)
def sR (x:Int) (v:Value):List (Int × Value)→List (Int × Value)
  | []=>[(x,v)]
  | p::r=>if p.1=x then (x,v)::r else p::sR x v r
def N1 (x:Int):List (Int × Value)→Option Value
  | []=>none
  | p::r=>if p.1=x then some p.2 else N1 x r
theorem run_checkKey {kt:TypeId} (hk:P.underlying kt=some (.int .i64)) (e:Bool) (x:Int) (w:World):(Instr.checkKey e 10000 kt (.int .i64 x)).run P w=.ok () w:=by
  have h:∀ d:Nat,(Instr.checkKey e (d+1) kt (.int .i64 x)).run P w=.ok () w:=fun d=>by simp[Instr.checkKey,run_underlying hk]
  exact h 9999
end Go.Am
namespace Go.Am
variable {P:Program} {N n0:Nat} {σ:St}
theorem bq.AG {γ:Cx} (h:bq σ γ) {w':World} {b:Nat} (hz:¬ γ.Z b) (ho:¬ nL σ.aa γ.blk b) (hk:∀ k,k≠b→k<γ.w.heap.size→w'.heap[k]?=γ.w.heap[k]?) (a9:γ.w.heap.size≤w'.heap.size):bq σ { γ with w:=w' }:=by
  have hR:∀ v cv,ay σ.aa γ.w γ.Z γ.blk v cv→ay σ.aa w' γ.Z γ.blk v cv:=fun v cv hv =>
    hv.mono (fun k GV=>⟨GV,hk k (fun e=>hz (e ▸ GV)) (h.gG k GV)⟩) (fun i x hx=>by
      by_cases cQ:x=.gone
      · subst cQ;exact .inl hx
      · exact .inr ⟨rfl,x,hx,Ob.jG cQ⟩)
  refine⟨fun k=>hR _ _ (h.aw k),fun i o hi=>?_,h.inj,h.nz,fun k aH=>Fi (h.gG k aH) a9⟩
  by_cases cQ:o=.gone
  · subst cQ;trivial
  · exact (h.ez i o hi).mono hR rfl (fun k x c hb=>hk k (fun e=>ho ⟨i,x,c,⟨o,hi,cQ⟩,e ▸ hb⟩) (h.blt ⟨o,hi,cQ⟩ hb))
theorem Fr.AG {os:List Ob} {γ0 γ:Cx} (h:Fr os γ0 σ.aa γ) {w':World} {b:Nat} (hb:γ0.w.heap.size≤b) (hk:∀ k,k≠b→k<γ.w.heap.size→w'.heap[k]?=γ.w.heap[k]?) (a9:γ.w.heap.size≤w'.heap.size)
    (h1:w'.os=γ.w.os) (h2:w'.tape=γ.w.tape) (h3:w'.output=γ.w.output):Fr os γ0 σ.aa { γ with w:=w' } :=
  ⟨h1.trans h.lS,h2.trans h.tape,h3.trans h.output,Nat.le_trans h.size a9,fun k aH ho=>(hk k (by omega) (Fi aH h.size)).trans (h.ax k aH ho),h.z0,h.z1,h.own,h.len,h.kA⟩
theorem qw.AG {μ:Mem} {os:List Ob} {γ0 γ:Cx} (h:qw μ os γ0 γ) {w':World} {b:Nat} {g:Gh} (hz:¬ γ.Z b) (ho:¬ nL os γ.blk b) (hb:γ0.w.heap.size≤b) (hk:∀ k,k≠b→k<γ.w.heap.size→w'.heap[k]?=γ.w.heap[k]?)
    (hg:g.At w' b):qw (nT μ b g) os γ0 { γ with w:=w' }:=by
  have one:∀ k g',nT μ b g k=some g'→(k=b∧g'=g)∨(k≠b∧μ k=some g'):=fun k g' h'=>by
    by_cases e:k=b
    · subst e;rw[Dp] at h';exact .inl ⟨rfl,by simpa using h'.symm⟩
    · rw[vn μ g e] at h';exact .inr ⟨e,h'⟩
  refine⟨fun k g' h'=>?_,fun k g' h'=>?_,fun k g' h'=>?_,fun k g' h'=>?_⟩<;>rcases one k g' h' with ⟨rfl,rfl⟩ | ⟨e,h2⟩
  · exact hg
  · exact (h.gh k g' h2).heap (hk k e (h.gh k g' h2).lt)
  · exact hb
  · exact h.fresh k g' h2
  · exact hz
  · exact h.Dq k g' h2
  · exact ho
  · exact h.yD k g' h2
variable {μ:Mem}
def Zp (P:Program) (t:TypeId):Prop:=∃ kt et,P.underlying t=some (.map kt et)∧P.underlying kt=some (.int .i64)
def GW (P:Program) (t:TypeId):Prop:=∃ kt et,P.underlying t=some (.map kt et)
def Zq (P:Program) (t:TypeId) (z:Value):Prop:=∃ kt et,P.underlying t=some (.map kt et)∧P.underlying kt=some (.int .i64)∧∀ w:World,(zeroValue et).run P w=.ok z w
def Zr (P:Program) (o:Oper) (op:BinOp) (t:TypeId) (x y:AV) (σ:St) (μ:Mem) (K:St→Mem→Prop):Prop :=
  match x with
  | .lit (.map a)=>GW P t∧y=.lit (.map none)∧match op with | .eql=>K (σ.put o.dst (.lit (.bool a.isNone))) μ | .neq=>K (σ.put o.dst (.lit (.bool (!a.isNone)))) μ | _=>False
  | _=>ba P o σ fun s=>K s μ
def Zs (P:Program) (o:Oper) (args:List AV) (fl:List TypeId) (σ:St) (μ:Mem) (K:St→Mem→Prop):Prop :=
  match args with
  | [.lit (.map (some b))]=>∃ t iO,fl=[t]∧GW P t∧μ b=some (.map iO)∧K (σ.put o.dst (.lit (.int .i64 (iO.length:Nat)))) μ
  | _=>ba P o σ fun s=>K s μ
def N2 (P:Program) (o:Oper) (σ:St) (μ:Mem) (K:St→Mem→Prop):Prop :=
  match o.op with
  | .makeMap _ none=>∀ b,μ b=none→K (σ.put o.dst (.lit (.map (some b)))) (nT μ b (.map []))
  | .lookup t x i false=>∃ n z,ev σ i=.lit (.int .i64 n)∧Zq P t z ∧
      ((ev σ x=.lit (.map none)∧K (σ.put o.dst (.lit z)) μ)∨∃ b L,ev σ x=.lit (.map (some b))∧μ b=some (.map (iE L))∧K (σ.put o.dst (.lit ((N1 n L).getD z))) μ)
  | .mapUpdate t m k x=>∃ b n L v,Zp P t∧ev σ m=.lit (.map (some b))∧ev σ k=.lit (.int .i64 n)∧ev σ x=.lit v∧μ b=some (.map (iE L))∧K (σ.put o.dst .undef) (nT μ b (.map (iE (sR n v L))))
  | .range t x=>∃ b iO,GW P t∧ev σ x=.lit (.map (some b))∧μ b=some (.map iO)∧∀ r,μ r=none→K (σ.put o.dst (.lit (.pointer (some ⟨r,0,none⟩)))) (nT μ r (.iter b iO.length []))
  | .next x false=>∃ r b seen iO,ev σ x=.lit (.pointer (some ⟨r,0,none⟩))∧μ r=some (.iter b iO.length seen)∧μ b=some (.map iO) ∧
      ((∀ j<iO.length,j∈seen)→K (σ.put o.dst (.bG [.lit (.bool false)])) μ) ∧
      ∀ j p,iO[j]?=some p→j ∉ seen→K (σ.put o.dst (.bG [.lit (.bool true),.lit p.1,.lit p.2])) (nT μ r (.iter b iO.length (seen++[j])))
  | .entry x=>∃ r b seen j iO p,ev σ x=.lit (.pointer (some ⟨r,0,none⟩))∧μ r=some (.iter b iO.length (seen++[j]))∧μ b=some (.map iO)∧iO[j]?=some p∧K (σ.put o.dst (.bG [.lit p.1,.lit p.2])) μ
  | .binOp op t x y _=>Zr P o op t (ev σ x) (ev σ y) σ μ K
  | .call ⟨.builtin .len,args,fl⟩=>Zs P o (args.toList.map (ev σ)) fl.toList σ μ K
  | _=>ba P o σ fun s=>K s μ
theorem ub.block {os:List Ob} {γ0:Cx} {a:Act} {w w':World} (h:ub N os γ0 σ μ a w) {b:Nat} {g:Gh} (hb:(∃ g',μ b=some g')∨b=w.heap.size) (hk:∀ k,k≠b→k<w.heap.size→w'.heap[k]?=w.heap[k]?) (a9:w.heap.size≤w'.heap.size)
    (h1:w'.os=w.os) (h2:w'.tape=w.tape) (h3:w'.output=w.output) (hg:g.At w' b):ub N os γ0 σ (nT μ b g) a w':=by
  obtain ⟨iY,uc,γ,rfl,ha,hs,hf,hm⟩:=h
  have db:¬ γ.Z b∧¬ nL σ.aa γ.blk b∧γ0.w.heap.size≤b:=by
    rcases hb with ⟨g',qj⟩ | rfl
    · exact⟨hm.Dq _ _ qj,hm.yD _ _ qj,hm.fresh _ _ qj⟩
    · refine⟨fun hz=>xN _ (hs.gG _ hz),?_,hf.size⟩
      rintro ⟨i,o,c,hl,hb⟩
      exact xN _ (hs.blt hl hb)
  exact⟨iY,uc,{ γ with w:=w' },rfl,ha,hs.AG db.1 db.2.1 hk a9,hf.AG db.2.2 hk a9 h1 h2 h3,hm.AG db.1 db.2.1 db.2.2 hk hg⟩
theorem ub.ev {os:List Ob} {γ0:Cx} {a:Act} {w:World} (h:ub N os γ0 σ μ a w) {x:Operand} {v:Value} (hx:ev σ x=.lit v):a.eval x=v:=by
  obtain ⟨_,_,γ,rfl,ha,hs,_⟩:=h
  have:=sG hs ha x
  rw[hx] at this
  exact this.cM
theorem ub.at {os:List Ob} {γ0:Cx} {a:Act} {w:World} (h:ub N os γ0 σ μ a w) {b:Nat} {g:Gh} (hb:μ b=some g):g.At w b:=by
  obtain ⟨_,_,γ,rfl,ha,hs,_,hm⟩:=h
  exact hm.gh _ _ hb
theorem ub.none {os:List Ob} {γ0:Cx} {a:Act} {w:World} (h:ub N os γ0 σ μ a w):μ w.heap.size=none:=by
  cases hb:μ w.heap.size with
  | none=>rfl
  | some g=>exact absurd (h.at hb).lt (xN _)
def wX (P:Program) (o:Oper) (K:St→Mem→Prop) (b want:Bool) (σ:St) (μ:Mem):Prop:=(b=want→N2 P o σ μ K)∧(b≠want→K (σ.put o.dst (.lit (.tuple #[]))) μ)
def Dr (P:Program) (ops:Array Oper):List Oper→(St→Mem→Prop)→St→Mem→Prop
  | [],K,σ,μ=>K σ μ
  | o::r,K,σ,μ =>
    match o.guard with
    | none=>N2 P o σ μ (Dr P ops r K)
    | some (j,want) =>
      match (ops[j]?).bind (·.dst) with
      | none=>False
      | some d =>
        match σ.env d with
        | .lit (.bool b)=>wX P o (Dr P ops r K) b want σ μ
        | .lit (.tuple vs)=>vs = #[]∧Dr P ops r K (σ.put o.dst (.lit (.tuple #[]))) μ
        | _=>False
end Go.Am
namespace Go.Am
variable {P:Program} {N n0:Nat} {σ:St} {μ:Mem} {Q:Exit→St→Mem→Prop}
section
variable {ops:Array Oper} {o:Oper} {l:List Oper} {K:St→Mem→Prop}
instance:Head (Dr P ops (o::l) K σ μ):=⟨trivial⟩
theorem Zt {b want:Bool} (h1:b=true→wX P o K true want σ μ) (h2:b=false→wX P o K false want σ μ):wX P o K b want σ μ:=by
  cases b
  · exact h2 rfl
  · exact h1 rfl
instance {b want:Bool}:Dl (wX P o K b want σ μ) b (wX P o K true want σ μ) (wX P o K false want σ μ):=⟨Zt⟩
variable {dst:Option Tmp} {tt:TypeId} {p:String} {af:Array Edge} {g:Option (Nat × Bool)}
end
end Go.Am
namespace Go.Am
variable {P:Program} {N n0:Nat} {σ:St} {μ:Mem} {K:St→Mem→Prop} {dst:Option Tmp} {tt:TypeId} {p:String} {af:Array Edge} {g:Option (Nat × Bool)}
theorem yE.refl:yE n0 σ σ:=fun os γ0 γ _ hs hf=>⟨γ,rfl,rfl,hs,hf,fun _ h=>.inl h,fun _ h=>h⟩
end Go.Am
namespace Go.Am
variable {P:Program} {N n0:Nat} {σ:St}
theorem vo {f:FuncId} {args:List AV} {dst:Option Tmp} {K:St→Prop} {gH:AV→List Ob→Prop} (h:eO P f args σ.aa gH)
    (hK:∀ res a8,gH res a8→σ.aa.length≤a8.length∧K ((⟨σ.env,a8⟩:St).put dst res)):lZ P f args dst K σ:=by
  refine⟨aN σ.aa.length,false,args,σ.aa,gH,h,⟨List.nodup_range,by simp,?_,rfl,?_⟩,fun res a8 hp=>⟨by simp,?_⟩⟩
  · intro j o hj
    have bw:=(aQ.1 hj).1
    rw[uY,zR]
    simpa [aA,List.getElem?_range bw] using hj
  · intro j c d hc hd
    rw[hc] at hd
    simp only[cY.injEq] at hd
    subst hd
    exact .eq (by rw[uY,uX])
  · obtain ⟨hl,hK⟩:=hK res a8 hp
    rw[uY,uX]
    have:a8.map (bO (fun j=>j))=a8:=by
      have h:bO (fun j=>j)=id:=by funext o;exact zR o
      simp[h]
    rw[this,Kg _ _ hl]
    exact hK
theorem GX {Q:Exit→St→Prop} (n:Nat) {id:Nat} {ops:Array Oper} (hd:gj N ops=true) (h:∀ K K1:St→Prop,(∀ s,Q .normal s→K s)→(∀ s s1,aB n0 s s1→opsL P ops (ops.toList.drop n) K s1→K1 s)→opsL P ops (ops.toList.take n) K1 σ):W P N n0 (.region id ops false) Q σ:=by
  intro os γ0 a w hn aJ
  refine wp_region ?_
  exact Xa (qd hd) hn (K:=Q .normal) (K1:=fun s=>∃ s1,aB n0 s s1∧opsL P ops (ops.toList.drop n) (Q .normal) s1) (fun σ' a' w' hK e7=>⟨σ',hK,e7⟩) n (fun s h=>h) σ a w (h _ _ (fun _ h=>h) (fun s s1 h1 h2=>⟨s1,h1,h2⟩)) aJ
theorem an.Zu {f:FuncId} {sz:Nat} {pre post:List AV} {aa a8:List Ob} {res:AV} (h:an P f (pre++.tree sz []::post) aa res a8):an P f (pre++.lit (.slice none 0 0)::post) aa res a8:=by
  refine⟨h.1,fun γ a9 hs=>h.2 γ (by simpa using a9) ⟨fun k=>?_,hs.ez,hs.inj,hs.nz,hs.gG⟩⟩
  have:=hs.aw k
  dsimp only at this ⊢
  by_cases hk:k=pre.length
  · subst hk
    have e1:(pre++AV.lit (.slice none 0 0)::post).getD pre.length .undef=.lit (.slice none 0 0):=by simp
    have e2:(pre++AV.tree sz []::post).getD pre.length .undef=.tree sz []:=by simp
    rw[e1] at this
    rw[e2,this.cM]
    exact .bW _ _ (.nil _ _ _)
  · have e:(pre++AV.tree sz []::post).getD k .undef=(pre++AV.lit (.slice none 0 0)::post).getD k .undef:=by
      simp only[aA]
      congr 1
      rcases Nat.lt_or_ge k pre.length with h1 | h1
      · rw[cn h1,cn h1]
      · rw[eK h1,eK h1,show k - pre.length=(k - pre.length - 1)+1 by omega];rfl
    rw[e];exact this
end Go.Am
namespace Go.Am
variable {P:Program} {N n0:Nat} {σ:St} {Q:Exit→St→Prop}
theorem aB.GY (a id r0 c sz Ds:Nat) {R:List (List AV)} {cells:List AV} {rows:List (List AV)} (ho:σ.aa[id]?=some (.arr Ds R)) (a7:R[r0]?=some cells) (ha:σ.aa[a]?=some (.arr sz rows)) (hc:cells[c]?=some (.ref a sz 0 rows.length)) (Ar:a≠id)
    (hw:∀ row∈rows,row.length=sz) (kz:∀ row∈rows,∀ v∈row,(∃ x,v=.lit x)∨∃ s r,v=.tree s r):aB n0 σ ⟨σ.env,(σ.aa.set a .gone).set id (.arr Ds (R.set r0 (cells.set c (.tree sz rows))))⟩:=by
  intro os γ0 γ _ hs hf
  have wm:id<σ.aa.length:=(aQ.1 ho).1
  have fK:a<σ.aa.length:=(aQ.1 ha).1
  let aF:Cx:={ γ with Z:=fun b=>γ.Z b∨∃ o cap,γ.blk a=some (b,o,cap) }
  let dJ:=(σ.aa.set a .gone).set id (.arr Ds (R.set r0 (cells.set c (.tree sz rows))))
  have fC:∀ i,dJ[i]?=if i=id then some (.arr Ds (R.set r0 (cells.set c (.tree sz rows)))) else if i=a then some .gone else σ.aa[i]?:=by
    intro i
    show ((σ.aa.set a .gone).set id _)[i]?=_
    rw[b6,b6]
    by_cases h1:i=id
    · subst h1;simp[wm]
    · by_cases h2:i=a
      · subst h2;simp[Ne.symm h1,h1,fK]
      · simp[Ne.symm h1,Ne.symm h2,h1,h2]
  have hR:∀ v cv,ay σ.aa γ.w γ.Z γ.blk v cv→ay dJ aF.w aF.Z aF.blk v cv:=fun v cv hv =>
    hv.mono (fun b hb=>⟨.inl hb,rfl⟩) (fun i o hi=>by
      rw[fC]
      by_cases h1:i=id
      · subst h1
        rw[ho] at hi
        simp only[cY.injEq] at hi
        subst hi
        right
        exact⟨rfl,_,by rw[if_pos rfl],by simp[Ob.dW]⟩
      · rw[if_neg h1]
        by_cases h2:i=a
        · left;rw[if_pos h2]
        · rw[if_neg h2]
          by_cases hg:o=.gone
          · subst hg;exact .inl hi
          · exact .inr ⟨rfl,o,hi,Ob.jG hg⟩)
  have cz:∀ i,Live dJ i→Live σ.aa i∧i≠a:=by
    rintro i ⟨o,hi,hg⟩
    rw[fC] at hi
    split at hi
    · rename_i h1;subst h1;exact⟨⟨_,ho,by simp⟩,Ne.symm Ar⟩
    · split at hi
      · simp at hi;exact absurd hi.symm hg
      · rename_i h2;exact⟨⟨o,hi,hg⟩,h2⟩
  have nB:Live σ.aa a:=⟨_,ha,by simp⟩
  refine⟨aF,rfl,rfl,⟨fun k=>hR _ _ (hs.aw k),?_,fun i j b o c o' c' hi hj=>hs.inj i j b o c o' c' (cz i hi).1 (cz j hj).1,?_,?_⟩,?_⟩
  · intro i o hi
    have hi':dJ[i]?=some o:=hi
    rw[fC] at hi'
    split at hi'
    · rename_i h1
      subst h1
      simp only[cY.injEq] at hi'
      subst hi'
      obtain ⟨h0,hr,aT⟩:=hs.ez _ _ ho
      have Ao:r0<R.length:=(aQ.1 a7).1
      refine⟨h0,fun row wY=>?_,?_⟩
      · rcases List.mem_or_eq_of_mem_set wY with h | h
        · exact hr row h
        · subst h;rw[bI];exact hr cells (gB a7)
      · rcases aT with ⟨h1,h2⟩ | ⟨b,o,cap,cur,t,h1,h2,h3,h4,h5,h6⟩
        · exact absurd (show r0<0 by rw[h2] at Ao;exact Ao) (Nat.not_lt_zero _)
        · refine .inr ⟨b,o,cap,cur,t,h1,h2,h3,by rw[bI];exact h4,h5,fun r k v hv=>?_⟩
          unfold cellAt at hv
          rw[b6] at hv
          by_cases e:r0=r
          · subst e
            rw[if_pos rfl,if_pos Ao,Option.bind_some,b6] at hv
            split at hv
            · rename_i e
              subst e
              split at hv
              · simp only[cY.injEq] at hv
                subst hv
                have dK:cg σ (fun x=>x≠a) (.tree sz rows) (.ref a sz 0 rows.length):=cg.flat ha hw rfl (by simp) kz
                exact .bW _ _ (dK.zI hs (γc:=aF) (fun b hb=>.inl hb) rfl (fun x b o cap cV _ hb=>.inr ⟨o,cap,by rw[show a=x by simpa using (Decidable.not_not.1 cV).symm];exact hb⟩) _ (h6 r0 c _ (by unfold cellAt;rw[a7];exact hc)))
              · simp at hv
            · exact hR _ _ (h6 r0 k v (by unfold cellAt;rw[a7];exact hv))
          · rw[if_neg e] at hv
            exact hR _ _ (h6 r k v hv)
    · split at hi'
      · simp only[cY.injEq] at hi';subst hi';trivial
      · by_cases hg:o=.gone
        · subst hg;trivial
        · exact (hs.ez i o hi').mono hR rfl (fun _ _ _ _=>rfl)
  · rintro b ⟨i,o,c',hi,hb⟩ (hz | ⟨o',cap,db⟩)
    · exact hs.nz b ⟨i,o,c',(cz i hi).1,hb⟩ hz
    · exact (cz i hi).2 (hs.inj i a b o c' o' cap (cz i hi).1 nB hb db)
  · rintro b (hz | ⟨o,cap,hb⟩)
    · exact hs.gG b hz
    · exact hs.blt nB hb
  · refine⟨hf.lS,hf.tape,hf.output,hf.size,hf.ax,fun b hb=>.inl (hf.z0 b hb),?_,?_,by show os.length≤dJ.length;simp[dJ];exact hf.len,?_⟩
    · rintro b (hz | ⟨o,cap,hb⟩)
      · exact hf.z1 b hz
      · exact .inr (hf.own b ⟨a,o,cap,nB,hb⟩)
    · rintro b ⟨i,o,c',hi,hb⟩
      exact hf.own b ⟨i,o,c',(cz i hi).1,hb⟩
    · intro i hi hl
      obtain ⟨h1,x,x',hx,df,hk⟩:=hf.kA i hi (cz i hl).1
      have z':=(cz i hl).2
      have ix:Live dJ i:=hl
      obtain ⟨o,dL,p9⟩:=ix
      refine⟨h1,x,o,hx,dL,?_⟩
      rw[fC] at dL
      split at dL
      · rename_i e
        subst e
        rw[ho] at df
        simp only[cY.injEq] at df dL
        subst df;subst dL
        refine Ob.Gz hk (by simp[Ob.dW])
      · rw[df] at dL
        simp only[cY.injEq] at dL
        subst dL;exact hk
end Go.Am

