import Derived.Test.YtdipcmigdbnheaaGreatX07
set_option linter.unusedVariables false
set_option linter.unusedSimpArgs false
set_option linter.unnecessarySimpa false
set_option linter.unusedSectionVars false
set_option maxHeartbeats 64000000
set_option maxRecDepth 20000
open List renaming range→bn,range'→lU,range'_succ→uJ,range'_append→GZ,mem_of_getElem?→iy,getElem?_drop→mX,length_take→eX,getElem?_take_of_lt→DV
open Nat renaming one_mul→tg
open Array renaming length_toList→th
namespace Go.Am
variable {P:Program} {N n0:Nat} {σ:St} {Q:Exit→St→Prop}
def sR:Exit→Bool
  | .normal=>true
  | _=>false
def CX (id:Nat):Exit→Bool
  | .normal=>true
  | .exit j=>j == id
  | _=>false
theorem JG {e:Exit} (h:sR e=false):e≠.normal:=by intro h2;subst h2;simp[sR] at h
theorem SH {id:Nat} {e:Exit} (h:CX id e=false):e≠.normal∧e≠.exit id:=by
  constructor
  · intro h2;subst h2;simp[CX] at h
  · intro h2;subst h2;simp[CX] at h
theorem rk {id:Nat} {ops:Array Oper} {y:Code} (h:∀ K:St→Prop,(∀ s,W P N n0 y Q s→K s)→opsL P ops ops.toList K σ) (hd:gz N ops=true:=by decide):W P N n0 (.seq (.region id ops false) y) Q σ:=HS hd h
theorem rke {id:Nat} {ops:Array Oper} (h:∀ K:St→Prop,(∀ s,Q .normal s→K s)→opsL P ops ops.toList K σ) (hd:gz N ops=true:=by decide):W P N n0 (.region id ops false) Q σ:=ZX hd h
theorem rd {id:Nat} {ops:Array Oper} {y:Code} (h:∀ K:St→Prop,(∀ s,W P N n0 y Q s→K s)→opsL P ops ops.toList K σ) (hm:P.follows .mixedOrders=true:=by rfl) (hd:gz N ops=true:=by decide) (ht:ye ops=true:=by decide +kernel):W P N n0 (.seq (.region id ops true) y) Q σ:=ZY hm hd ht h
theorem rde {id:Nat} {ops:Array Oper} (h:∀ K:St→Prop,(∀ s,Q .normal s→K s)→opsL P ops ops.toList K σ) (hm:P.follows .mixedOrders=true:=by rfl) (hd:gz N ops=true:=by decide) (ht:ye ops=true:=by decide +kernel):W P N n0 (.region id ops true) Q σ:=ZZ hm hd ht h
theorem rb {id:Nat} {ops:Array Oper} {y:Code} (h:∀ K:St→Prop,(∀ s,W P N n0 y Q s→K s)→q9 P ops ops.toList K σ) (hm:P.follows .mixedOrders=true:=by rfl) (hd:gz N ops=true:=by decide) (ht:EY ops=true:=by decide +kernel):W P N n0 (.seq (.region id ops true) y) Q σ:=abk hm hd ht h
theorem CY {id:Nat} {ops:Array Oper} (h:∀ K:St→Prop,(∀ s,Q .normal s→K s)→q9 P ops ops.toList K σ) (hm:P.follows .mixedOrders=true:=by rfl) (hd:gz N ops=true:=by decide) (ht:EY ops=true:=by decide +kernel):W P N n0 (.region id ops true) Q σ:=abl hm hd ht h
theorem ra {id:Nat} {ops:Array Oper} {y:Code} (h:∀ K:St→Prop,(∀ s,W P N n0 y Q s→K s)→q8 P ops ops.toList K σ) (hm:P.follows .mixedOrders=true:=by rfl) (hd:gz N ops=true:=by decide) (ht:EX ops=true:=by decide +kernel):W P N n0 (.seq (.region id ops true) y) Q σ:=abh hm hd ht h
theorem CZ {id:Nat} {ops:Array Oper} (h:∀ K:St→Prop,(∀ s,Q .normal s→K s)→q8 P ops ops.toList K σ) (hm:P.follows .mixedOrders=true:=by rfl) (hd:gz N ops=true:=by decide) (ht:EX ops=true:=by decide +kernel):W P N n0 (.region id ops true) Q σ:=abi hm hd ht h
theorem Wk {x y:Code} (h:∀ Q':Exit→St→Prop,(∀ s,W P N n0 y Q s→Q' .normal s)→(∀ e s,sR e=false→Q e s→Q' e s)→W P N n0 x Q' σ):W P N n0 (.seq x y) Q σ :=
  W_k fun Q' h1 h2=>h Q' h1 fun e s he=>h2 e s (JG he)
theorem Wb {id:Nat} {c:Code} (h:∀ Q':Exit→St→Prop,(∀ s,Q .normal s→Q' .normal s)→(∀ s,Q .normal s→Q' (.exit id) s)→(∀ e s,CX id e=false→Q e s→Q' e s)→W P N n0 c Q' σ):W P N n0 (.block id c) Q σ :=
  ZU fun Q' h1 h2 h3=>h Q' h1 h2 fun e s he=>h3 e s (SH he).1 (SH he).2
theorem Wc {c:Operand} {x y:Code} {t:Bool} (ht:t=true→W P N n0 x Q σ) (hf:t=false→W P N n0 y Q σ) (hc:ev σ c=.lit (.bool t):=by (simp only[Go.Am.sg,Go.Am.Lc,↓reduceIte,Nat.reduceEqDiff,Nat.reduceBEq];exact rfl)):W P N n0 (.cond c x y) Q σ:=N7 hc ht hf
theorem aG {α:Type} {c:Code} (S:α→St) (I:α→Prop) (M:α→Nat) (x0:α) (hI:I x0) (h0:aQ n0 σ (S x0))
    (round:∀ x,I x→∀ Q':Exit→St→Prop,(∀ s y,I y→M y<M x→aQ n0 s (S y)→Q' .normal s)→(∀ e s,sR e=false→Q e s→Q' e s)→W P N n0 c Q' (S x)):W P N n0 (.loop c) Q σ :=
  ZN S I M x0 hI h0 fun x hx Q' h1 h2=>round x hx Q' h1 fun e s he=>h2 e s (JG he)
end Go.Am
namespace Go.Am
variable {P:Program} {N n0:Nat} {σ:St} {Q:Exit→St→Prop}
theorem adz {K0:St→Prop} (n m:Nat) {ops:Array Oper} (hd:gz N ops=true) (o o2:Oper) (ho:ops[n]?=some o) (fh:ops[n+1+m]?=some o2)
    {os:List Ob} {γ0:Cx} {a:Act} {w:World} {R:Exit→Act→World→Prop} (aC:gF N os γ0 σ a w) (adA:∀ σ' a' w',K0 σ'→gF N os γ0 σ' a' w'→R .normal a' w')
    (h:opsL P ops (ops.toList.take n) (tM P o (opsL P ops ((ops.toList.drop (n+1)).take m) (tM P o2 (opsL P ops (ops.toList.drop (n+1+m+1)) K0)))) σ) :
    wpOps P ops R (bn ops.size) a w:=by
  have HO:n+1+m<ops.size:=(Array.getElem?_eq_some_iff.1 fh).1
  have e:bn ops.size=lU 0 (ops.toList.take n).length++(n::(lU (n+1) ((ops.toList.drop (n+1)).take m).length++((n+1+m)::lU (n+1+m+1) (ops.toList.drop (n+1+m+1)).length))):=by
    rw[List.range_eq_range',← uJ]
    have h1:((ops.toList.drop (n+1)).take m).length=m:=by simp;omega
    have h2:(ops.toList.take n).length=n:=by simp;omega
    have h3:(ops.toList.drop (n+1+m+1)).length=ops.size - (n+1+m+1):=by simp
    rw[h1,h2,h3]
    have a1:=GZ (s:=n+1) (m:=m) (n:=ops.size - (n+1+m+1)+1) (step:=1)
    simp only[tg] at a1
    rw[a1,← uJ]
    have a2:=GZ (s:=0) (m:=n) (n:=m+(ops.size - (n+1+m+1)+1)+1) (step:=1)
    simp only[Nat.zero_add,tg] at a2
    rw[a2]
    congr 1
    omega
  rw[e]
  refine xW _ a w ?_
  refine sc (qP hd) (K:=tM P o (opsL P ops ((ops.toList.drop (n+1)).take m) (tM P o2 (opsL P ops (ops.toList.drop (n+1+m+1)) K0)))) (fun σ' a' w' hk e7=>?_) (ops.toList.take n) 0 σ a w (fun k hk=>?_) h aC
  · show wpOps P ops _ _ a' w'
    rw[wpOps_cons]
    unfold wpOp
    simp only[ho]
    have hw:Region.wanted o (yielded ops a'.tmps)=true:=by simp[Region.wanted,hk.1]
    rw[if_pos hw]
    left
    refine Io hk e7 (qP hd o (iy (by simpa using ho))) (fun σ2 a2 w2 bG wJ=>?_)
    refine xW _ a2 w2 ?_
    refine sc (qP hd) (K:=tM P o2 (opsL P ops (ops.toList.drop (n+1+m+1)) K0)) (fun σ' a' w' hk e7=>?_) ((ops.toList.drop (n+1)).take m) (n+1) σ2 a2 w2 (fun k hk=>?_) bG wJ
    · show wpOps P ops _ _ a' w'
      rw[wpOps_cons]
      unfold wpOp
      simp only[fh]
      have hw:Region.wanted o2 (yielded ops a'.tmps)=true:=by simp[Region.wanted,hk.1]
      rw[if_pos hw]
      left
      refine Io hk e7 (qP hd o2 (iy (by simpa using fh))) (fun σ2 a2 w2 bG wJ=>?_)
      refine sc (qP hd) (K:=K0) (fun Cl a3 w3 ma jo=>adA Cl a3 w3 ma jo) (ops.toList.drop (n+1+m+1)) (n+1+m+1) σ2 a2 w2 (fun k hk=>?_) bG wJ
      rw[mX]
      simp
    · simp only[eX,List.length_drop,th] at hk
      rw[DV (by omega),mX]
      simp
  · simp only[eX,th] at hk
    rw[DV (by omega)]
    simp
theorem adB (n m:Nat) {id:Nat} {ops:Array Oper} (hd:gz N ops=true) (o o2:Oper) (ho:ops[n]?=some o) (fh:ops[n+1+m]?=some o2)
    (h:∀ K:St→Prop,(∀ s,Q .normal s→K s)→opsL P ops (ops.toList.take n) (tM P o (opsL P ops ((ops.toList.drop (n+1)).take m) (tM P o2 (opsL P ops (ops.toList.drop (n+1+m+1)) K)))) σ):W P N n0 (.region id ops false) Q σ:=by
  intro os γ0 a w hn aC
  refine wp_region ?_
  exact adz n m hd o o2 ho fh aC (fun Cl a3 w3 ma jo=>⟨Cl,ma,jo⟩) (h _ (fun _ h=>h))
end Go.Am
namespace Go.Am
variable {P:Program} {N n0:Nat} {σ:St} {Q:Exit→St→Prop}
class Head (p:Prop):Prop where
  on:True
section
variable {ops:Array Oper} {o:Oper} {l:List Oper} {K:St→Prop}
instance:Head (opsL P ops (o::l) K σ):=⟨trivial⟩
instance {qs:List Nat} {t:PT}:Head (iS P ops qs t K σ):=⟨trivial⟩
instance {qs:List Nat} {i:Nat}:Head (qh P ops qs i (o::l) K σ):=⟨trivial⟩
instance:Head (q8 P ops (o::l) K σ):=⟨trivial⟩
instance:Head (q9 P ops (o::l) K σ):=⟨trivial⟩
end
theorem gO {p:Prop} [Head p] (h:p):p:=h
class FJ (p:Prop) (b:outParam Bool) (A B:outParam Prop):Prop where
  sp:(b=true→A)→(b=false→B)→p
instance {o:Oper} {K:St→Prop} {b want:Bool}:FJ (nN P o K b want σ) b (nN P o K true want σ) (nN P o K false want σ):=⟨aan⟩
instance {q:Bool} {o:Oper} {K:St→Prop} {b want:Bool}:FJ (oA q P o K b want σ) b (oA q P o K true want σ) (oA q P o K false want σ):=⟨ZL⟩
theorem gS {p:Prop} {b:Bool} {A B:Prop} [h:FJ p b A B] (h1:b=true→A) (h2:b=false→B):p:=h.sp h1 h2
def SI:Code→Option Exit
  | .skip=>some .normal
  | .label _=>some .normal
  | .exit id=>some (.exit id)
  | .ret=>some .ret
  | _=>none
theorem Wz {c:Code} {e:Exit} (hc:SI c=some e) (h:Q e σ):W P N n0 c Q σ:=by
  cases c<;>simp[SI] at hc
  all_goals subst hc
  all_goals first|exact N6 h|exact aai h|exact aaj h|exact aah h
def FQ (P:Program) (d:Bool) (ops:Array Oper):Bool:=!d || (P.follows .mixedOrders && ye ops)
theorem rr {id:Nat} {ops:Array Oper} {d:Bool} {y:Code} (h:∀ K:St→Prop,(∀ s,W P N n0 y Q s→K s)→opsL P ops ops.toList K σ) (ht:FQ P d ops=true:=by decide +kernel) (hd:gz N ops=true:=by decide):W P N n0 (.seq (.region id ops d) y) Q σ:=by
  cases d
  · exact rk h hd
  · have h2:P.follows .mixedOrders=true∧ye ops=true:=by simpa [FQ] using ht
    exact rd h h2.1 hd h2.2
theorem uv {id:Nat} {ops:Array Oper} {d:Bool} (h:∀ K:St→Prop,(∀ s,Q .normal s→K s)→opsL P ops ops.toList K σ) (ht:FQ P d ops=true:=by decide +kernel) (hd:gz N ops=true:=by decide):W P N n0 (.region id ops d) Q σ:=by
  cases d
  · exact rke h hd
  · have h2:P.follows .mixedOrders=true∧ye ops=true:=by simpa [FQ] using ht
    exact rde h h2.1 hd h2.2
class C0 (rows:List (List AV)) (sz:outParam Nat):Prop where
  wid:∀ row∈rows,row.length=sz
  cI:∀ row∈rows,∀ v∈row,(∃ x,v=AV.lit x)∨∃ s r,v=AV.tree s r
instance (xs:List Int):C0 (ints xs) 1:=⟨oB _,pw _⟩
instance (xs:List Bool):C0 (bf xs) 1:=⟨HD _,NP _⟩
instance (xs:List (List Int)):C0 (kr xs) 1:=⟨Z1 _,Z0 _⟩
instance {α:Type} {enc:α→List AV} {sz:Nat} [Row enc sz] (xs:List α):C0 (rowsOf enc xs) sz:=⟨kC _,tL _⟩
theorem aO.fz {kp:Nat→Prop} {ρ:Nat→Nat} {id sz len:Nat} {rows:List (List AV)} [h:C0 rows sz] (ho:σ.aa[id]?=some (.arr sz rows)) (hl:len=rows.length)
    (qO:¬ kp id:=by first|exact jk (by decide)|decide):aO σ kp ρ true (.tree sz rows) (.ref id sz 0 len):=aO.cI ho h.wid hl qO h.cI
theorem aQ.se (an:List Nat) (snap:Bool) {l:List (Nat × AV)} {co:List Ob} (ho:ox (a9 σ.aa.length an) σ.aa an co) (h:qR (aO σ (kept an co) (a9 σ.aa.length an) snap) σ.env l)
    (bC:an.Nodup:=by decide) (hn:n0≤an.length:=by decide) (cT:∀ i,i<n0→an.getD i 0=i:=by decide):aQ n0 σ ⟨Am.aw l,co⟩:=aQ.an an snap l co bC ho hn cT h
theorem JJ (an:List Nat) (snap:Bool) {v res:AV} {bh:List Ob} (ho:ox (a9 σ.aa.length an) σ.aa an bh) (h:aO σ (kept an bh) (a9 σ.aa.length an) snap res v)
    (bC:an.Nodup:=by decide) (hn:n0≤an.length:=by decide) (cT:∀ i,i<n0→an.getD i 0=i:=by decide):nK n0 σ v res bh:=dR an snap bC ho hn cT h
end Go.Am
namespace Go.Am
theorem SJ:ew []=.bM []:=rfl
theorem SK (a b:AV) (l:List AV):ew (a::b::l)=.bM (a::b::l):=rfl
end Go.Am
namespace Go.Am
variable {P:Program} {N n0:Nat} {σ:St}
inductive PF where
  | nil
  | take (i:Nat) (t:PF)
  | both (i:Nat) (t:PF) (j:Nat) (u:PF)
  | three (i:Nat) (t:PF) (j:Nat) (u:PF) (k:Nat) (v:PF)
  | four (i:Nat) (t:PF) (j:Nat) (u:PF) (k:Nat) (v:PF) (l:Nat) (w:PF)
def PF.ok (ops:Array Oper) (qs:List Nat):PF→Nat→Array Bool→Bool
  | .nil,n,aR=>n == 0 && (Region.ready .any ops aR).isEmpty
  | .take _ _,0,_=>false
  | .take i t,n+1,aR=>Ep ops qs aR i (Hz ops i) && t.ok ops qs n (aR.setIfInBounds i true)
  | .both _ _ _ _,0,_=>false
  | .both i t j u,n+1,aR=>(Region.ready .any ops aR == [i,j]) && t.ok ops qs n (aR.setIfInBounds i true) && u.ok ops qs n (aR.setIfInBounds j true)
  | .three _ _ _ _ _ _,0,_=>false
  | .three i t j u k v,n+1,aR=>(Region.ready .any ops aR == [i,j,k]) && t.ok ops qs n (aR.setIfInBounds i true) && u.ok ops qs n (aR.setIfInBounds j true) && v.ok ops qs n (aR.setIfInBounds k true)
  | .four _ _ _ _ _ _ _ _,0,_=>false
  | .four i t j u k v l w,n+1,aR=>(Region.ready .any ops aR == [i,j,k,l]) && t.ok ops qs n (aR.setIfInBounds i true) && u.ok ops qs n (aR.setIfInBounds j true) && v.ok ops qs n (aR.setIfInBounds k true) && w.ok ops qs n (aR.setIfInBounds l true)
def jA (P:Program) (ops:Array Oper) (qs:List Nat):PF→(St→Prop)→St→Prop
  | .nil,K,σ=>K σ
  | .take i t,K,σ=>cL P ops qs i (jA P ops qs t K) σ
  | .both i t j u,K,σ=>cL P ops qs i (jA P ops qs t K) σ∧cL P ops qs j (jA P ops qs u K) σ
  | .three i t j u k v,K,σ=>cL P ops qs i (jA P ops qs t K) σ∧cL P ops qs j (jA P ops qs u K) σ∧cL P ops qs k (jA P ops qs v K) σ
  | .four i t j u k v l w,K,σ=>cL P ops qs i (jA P ops qs t K) σ∧cL P ops qs j (jA P ops qs u K) σ∧cL P ops qs k (jA P ops qs v K) σ∧cL P ops qs l (jA P ops qs w K) σ
section
variable {ops:Array Oper} {qs:List Nat} {K:St→Prop} {i j k l:Nat} {t u v w:PF}
theorem SL:jA P ops qs .nil K σ=K σ:=rfl
theorem SM:jA P ops qs (.take i t) K σ=cL P ops qs i (jA P ops qs t K) σ:=rfl
theorem SN:jA P ops qs (.both i t j u) K σ=(cL P ops qs i (jA P ops qs t K) σ∧cL P ops qs j (jA P ops qs u K) σ):=rfl
theorem SO:jA P ops qs (.three i t j u k v) K σ=(cL P ops qs i (jA P ops qs t K) σ∧cL P ops qs j (jA P ops qs u K) σ∧cL P ops qs k (jA P ops qs v K) σ):=rfl
theorem SP:jA P ops qs (.four i t j u k v l w) K σ=(cL P ops qs i (jA P ops qs t K) σ∧cL P ops qs j (jA P ops qs u K) σ∧cL P ops qs k (jA P ops qs v K) σ∧cL P ops qs l (jA P ops qs w K) σ):=rfl
end
theorem Fc:type_of% @SL∧type_of% @SM∧type_of% @SN∧type_of% @SO∧type_of% @SP:=⟨@SL,@SM,@SN,@SO,@SP⟩
end Go.Am

