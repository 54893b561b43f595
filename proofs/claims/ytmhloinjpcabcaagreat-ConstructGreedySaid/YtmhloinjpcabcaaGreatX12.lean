import Derived.Test.YtmhloinjpcabcaaGreatX10
set_option linter.unusedVariables false
set_option linter.unusedSimpArgs false
set_option linter.unnecessarySimpa false
set_option linter.unusedSectionVars false
set_option maxHeartbeats 64000000
set_option maxRecDepth 20000
namespace Go.Am
variable {P:Program} {N n0:Nat} {σ:St} {Q:Exit→St→Prop}
def isN:Exit→Bool
  | .normal=>true
  | _=>false
def isX (id:Nat):Exit→Bool
  | .normal=>true
  | .exit j=>j == id
  | _=>false
theorem isN_ne {e:Exit} (h:isN e=false):e≠.normal:=by intro h2;subst h2;simp[isN] at h
theorem isX_ne {id:Nat} {e:Exit} (h:isX id e=false):e≠.normal∧e≠.exit id:=by
  constructor
  · intro h2;subst h2;simp[isX] at h
  · intro h2;subst h2;simp[isX] at h
theorem rk {id:Nat} {ops:Array Oper} {y:Code} (h:∀ K:St→Prop,(∀ s,W P N n0 y Q s→K s)→opsL P ops ops.toList K σ) (hd:dstOK N ops=true:=by decide):W P N n0 (.seq (.region id ops false) y) Q σ:=W_region_k hd h
theorem rke {id:Nat} {ops:Array Oper} (h:∀ K:St→Prop,(∀ s,Q .normal s→K s)→opsL P ops ops.toList K σ) (hd:dstOK N ops=true:=by decide):W P N n0 (.region id ops false) Q σ:=W_region_e hd h
theorem rd {id:Nat} {ops:Array Oper} {y:Code} (h:∀ K:St→Prop,(∀ s,W P N n0 y Q s→K s)→opsL P ops ops.toList K σ) (hm:P.follows .mixedOrders=true:=by rfl) (hd:dstOK N ops=true:=by decide) (ht:inText ops=true:=by decide +kernel):W P N n0 (.seq (.region id ops true) y) Q σ:=W_draw_o hm hd ht h
theorem rde {id:Nat} {ops:Array Oper} (h:∀ K:St→Prop,(∀ s,Q .normal s→K s)→opsL P ops ops.toList K σ) (hm:P.follows .mixedOrders=true:=by rfl) (hd:dstOK N ops=true:=by decide) (ht:inText ops=true:=by decide +kernel):W P N n0 (.region id ops true) Q σ:=W_draw_oe hm hd ht h
theorem rb {id:Nat} {ops:Array Oper} {y:Code} (h:∀ K:St→Prop,(∀ s,W P N n0 y Q s→K s)→opsLB P ops ops.toList K σ) (hm:P.follows .mixedOrders=true:=by rfl) (hd:dstOK N ops=true:=by decide) (ht:inTextB ops=true:=by decide +kernel):W P N n0 (.seq (.region id ops true) y) Q σ:=W_draw_b hm hd ht h
theorem rbe {id:Nat} {ops:Array Oper} (h:∀ K:St→Prop,(∀ s,Q .normal s→K s)→opsLB P ops ops.toList K σ) (hm:P.follows .mixedOrders=true:=by rfl) (hd:dstOK N ops=true:=by decide) (ht:inTextB ops=true:=by decide +kernel):W P N n0 (.region id ops true) Q σ:=W_draw_be hm hd ht h
theorem ra {id:Nat} {ops:Array Oper} {y:Code} (h:∀ K:St→Prop,(∀ s,W P N n0 y Q s→K s)→opsLA P ops ops.toList K σ) (hm:P.follows .mixedOrders=true:=by rfl) (hd:dstOK N ops=true:=by decide) (ht:inTextA ops=true:=by decide +kernel):W P N n0 (.seq (.region id ops true) y) Q σ:=W_draw_a hm hd ht h
theorem rae {id:Nat} {ops:Array Oper} (h:∀ K:St→Prop,(∀ s,Q .normal s→K s)→opsLA P ops ops.toList K σ) (hm:P.follows .mixedOrders=true:=by rfl) (hd:dstOK N ops=true:=by decide) (ht:inTextA ops=true:=by decide +kernel):W P N n0 (.region id ops true) Q σ:=W_draw_ae hm hd ht h
theorem Wk {x y:Code} (h:∀ Q':Exit→St→Prop,(∀ s,W P N n0 y Q s→Q' .normal s)→(∀ e s,isN e=false→Q e s→Q' e s)→W P N n0 x Q' σ):W P N n0 (.seq x y) Q σ :=
  W_k fun Q' h1 h2=>h Q' h1 fun e s he=>h2 e s (isN_ne he)
theorem Wb {id:Nat} {c:Code} (h:∀ Q':Exit→St→Prop,(∀ s,Q .normal s→Q' .normal s)→(∀ s,Q .normal s→Q' (.exit id) s)→(∀ e s,isX id e=false→Q e s→Q' e s)→W P N n0 c Q' σ):W P N n0 (.block id c) Q σ :=
  W_block_k fun Q' h1 h2 h3=>h Q' h1 h2 fun e s he=>h3 e s (isX_ne he).1 (isX_ne he).2
theorem Wc {c:Operand} {x y:Code} {t:Bool} (ht:t=true→W P N n0 x Q σ) (hf:t=false→W P N n0 y Q σ) (hc:ev σ c=.lit (.bool t):=by (simp only[Go.Am.LKc,Go.Am.Lc,↓reduceIte,Nat.reduceEqDiff,Nat.reduceBEq];exact rfl)):W P N n0 (.cond c x y) Q σ:=W_cond hc ht hf
theorem W_loopS {α:Type} {c:Code} (S:α→St) (I:α→Prop) (M:α→Nat) (x0:α) (hI:I x0) (h0:Turns n0 σ (S x0))
    (round:∀ x,I x→∀ Q':Exit→St→Prop,(∀ s y,I y→M y<M x→Turns n0 s (S y)→Q' .normal s)→(∀ e s,isN e=false→Q e s→Q' e s)→W P N n0 c Q' (S x)):W P N n0 (.loop c) Q σ :=
  W_loopT S I M x0 hI h0 fun x hx Q' h1 h2=>round x hx Q' h1 fun e s he=>h2 e s (isN_ne he)
end Go.Am
namespace Go.Am
variable {P:Program} {N n0:Nat} {σ:St} {Q:Exit→St→Prop}
end Go.Am
namespace Go.Am
variable {P:Program} {N n0:Nat} {σ:St} {Q:Exit→St→Prop}
class Head (p:Prop):Prop where
  on:True
section
variable {ops:Array Oper} {o:Oper} {l:List Oper} {K:St→Prop}
instance:Head (opsL P ops (o::l) K σ):=⟨trivial⟩
instance {qs:List Nat} {t:PT}:Head (planW P ops qs t K σ):=⟨trivial⟩
instance {qs:List Nat} {i:Nat}:Head (opsLQ P ops qs i (o::l) K σ):=⟨trivial⟩
instance:Head (opsLA P ops (o::l) K σ):=⟨trivial⟩
instance:Head (opsLB P ops (o::l) K σ):=⟨trivial⟩
end
theorem gO {p:Prop} [Head p] (h:p):p:=h
class Grd (p:Prop) (b:outParam Bool) (A B:outParam Prop):Prop where
  sp:(b=true→A)→(b=false→B)→p
instance {o:Oper} {K:St→Prop} {b want:Bool}:Grd (guardK P o K b want σ) b (guardK P o K true want σ) (guardK P o K false want σ):=⟨guardK_split⟩
instance {q:Bool} {o:Oper} {K:St→Prop} {b want:Bool}:Grd (guardM q P o K b want σ) b (guardM q P o K true want σ) (guardM q P o K false want σ):=⟨guardM_split⟩
theorem gS {p:Prop} {b:Bool} {A B:Prop} [h:Grd p b A B] (h1:b=true→A) (h2:b=false→B):p:=h.sp h1 h2
def leafE:Code→Option Exit
  | .skip=>some .normal
  | .label _=>some .normal
  | .exit id=>some (.exit id)
  | .ret=>some .ret
  | _=>none
theorem Wz {c:Code} {e:Exit} (hc:leafE c=some e) (h:Q e σ):W P N n0 c Q σ:=by
  cases c<;>simp[leafE] at hc
  all_goals subst hc
  all_goals first|exact W_skip h|exact W_exit h|exact W_ret h|exact W_label h
def ordB (P:Program) (d:Bool) (ops:Array Oper):Bool:=!d || (P.follows .mixedOrders && inText ops)
theorem rr {id:Nat} {ops:Array Oper} {d:Bool} {y:Code} (h:∀ K:St→Prop,(∀ s,W P N n0 y Q s→K s)→opsL P ops ops.toList K σ) (ht:ordB P d ops=true:=by decide +kernel) (hd:dstOK N ops=true:=by decide):W P N n0 (.seq (.region id ops d) y) Q σ:=by
  cases d
  · exact rk h hd
  · have h2:P.follows .mixedOrders=true∧inText ops=true:=by simpa [ordB] using ht
    exact rd h h2.1 hd h2.2
theorem rre {id:Nat} {ops:Array Oper} {d:Bool} (h:∀ K:St→Prop,(∀ s,Q .normal s→K s)→opsL P ops ops.toList K σ) (ht:ordB P d ops=true:=by decide +kernel) (hd:dstOK N ops=true:=by decide):W P N n0 (.region id ops d) Q σ:=by
  cases d
  · exact rke h hd
  · have h2:P.follows .mixedOrders=true∧inText ops=true:=by simpa [ordB] using ht
    exact rde h h2.1 hd h2.2
class FlatR (rows:List (List AV)) (sz:outParam Nat):Prop where
  wid:∀ row∈rows,row.length=sz
  frz:∀ row∈rows,∀ v∈row,(∃ x,v=AV.lit x)∨∃ s r,v=AV.tree s r
instance (xs:List Int):FlatR (ints xs) 1:=⟨ints_wid _,ints_frz _⟩
instance (xs:List Bool):FlatR (bools xs) 1:=⟨bools_wid _,bools_frz _⟩
instance (xs:List (List Int)):FlatR (intss xs) 1:=⟨intss_wid _,intss_frz _⟩
instance {α:Type} {enc:α→List AV} {sz:Nat} [Row enc sz] (xs:List α):FlatR (rowsOf enc xs) sz:=⟨rows_wid _,rows_frz _⟩
theorem ArgR.fz {kp:Nat→Prop} {ρ:Nat→Nat} {id sz len:Nat} {rows:List (List AV)} [h:FlatR rows sz] (ho:σ.objs[id]?=some (.arr sz rows)) (hl:len=rows.length)
    (hsel:¬ kp id:=by first|exact not_kept (by decide)|decide):ArgR σ kp ρ true (.tree sz rows) (.ref id sz 0 len):=ArgR.frz ho h.wid hl hsel h.frz
theorem Turns.se (sel:List Nat) (snap:Bool) {l:List (Nat × AV)} {co:List Ob} (ho:SelO (rho σ.objs.length sel) σ.objs sel co) (h:HasR (ArgR σ (kept sel co) (rho σ.objs.length sel) snap) σ.env l)
    (hnd:sel.Nodup:=by decide) (hn:n0≤sel.length:=by decide) (hid:∀ i,i<n0→sel.getD i 0=i:=by decide):Turns n0 σ ⟨Am.slots l,co⟩:=Turns.sel sel snap l co hnd ho hn hid h
theorem RetOK_se (sel:List Nat) (snap:Bool) {v res:AV} {objs':List Ob} (ho:SelO (rho σ.objs.length sel) σ.objs sel objs') (h:ArgR σ (kept sel objs') (rho σ.objs.length sel) snap res v)
    (hnd:sel.Nodup:=by decide) (hn:n0≤sel.length:=by decide) (hid:∀ i,i<n0→sel.getD i 0=i:=by decide):RetOK n0 σ v res objs':=RetOK_sel sel snap hnd ho hn hid h
end Go.Am
namespace Go.Am
theorem retV_0:retV []=.tup []:=rfl
theorem retV_2 (a b:AV) (l:List AV):retV (a::b::l)=.tup (a::b::l):=rfl
end Go.Am
namespace Go.Am
variable {P:Program} {N n0:Nat} {σ:St}
inductive PF where
  | nil
  | take (i:Nat) (t:PF)
  | both (i:Nat) (t:PF) (j:Nat) (u:PF)
  | three (i:Nat) (t:PF) (j:Nat) (u:PF) (k:Nat) (v:PF)
  | four (i:Nat) (t:PF) (j:Nat) (u:PF) (k:Nat) (v:PF) (l:Nat) (w:PF)
def PF.ok (ops:Array Oper) (qs:List Nat):PF→Nat→Array Bool→Bool
  | .nil,n,listed=>n == 0 && (Region.ready .any ops listed).isEmpty
  | .take _ _,0,_=>false
  | .take i t,n+1,listed=>takeOK ops qs listed i (depsOf ops i) && t.ok ops qs n (listed.setIfInBounds i true)
  | .both _ _ _ _,0,_=>false
  | .both i t j u,n+1,listed=>(Region.ready .any ops listed == [i,j]) && t.ok ops qs n (listed.setIfInBounds i true) && u.ok ops qs n (listed.setIfInBounds j true)
  | .three _ _ _ _ _ _,0,_=>false
  | .three i t j u k v,n+1,listed=>(Region.ready .any ops listed == [i,j,k]) && t.ok ops qs n (listed.setIfInBounds i true) && u.ok ops qs n (listed.setIfInBounds j true) && v.ok ops qs n (listed.setIfInBounds k true)
  | .four _ _ _ _ _ _ _ _,0,_=>false
  | .four i t j u k v l w,n+1,listed=>(Region.ready .any ops listed == [i,j,k,l]) && t.ok ops qs n (listed.setIfInBounds i true) && u.ok ops qs n (listed.setIfInBounds j true) && v.ok ops qs n (listed.setIfInBounds k true) && w.ok ops qs n (listed.setIfInBounds l true)
section
variable {ops:Array Oper} {qs:List Nat} {K:St→Prop} {i j k l:Nat} {t u v w:PF}
end
end Go.Am

