import Derived.Test.YtafhoboejkcmiaaGreatX09
import Derived.Test.YtafhoboejkcmiaaGreatX10
import Derived.Laws.IdiomRangeMap
set_option linter.unusedVariables false
set_option linter.unusedSimpArgs false
set_option linter.unnecessarySimpa false
set_option linter.unusedSectionVars false
set_option maxHeartbeats 64000000
set_option maxRecDepth 20000
namespace Go.Am
variable {P:Program} {N n0:Nat} {σ:St} {Q:Exit→St→Prop}
def isN:Exit→Bool
  | .normal=>true
  | _=>false
def isX (id:Nat):Exit→Bool
  | .normal=>true
  | .exit j=>j == id
  | _=>false
theorem isN_ne {e:Exit} (h:isN e=false):e≠.normal:=by intro h2;subst h2;simp[isN] at h
theorem isX_ne {id:Nat} {e:Exit} (h:isX id e=false):e≠.normal∧e≠.exit id:=by
  constructor
  · intro h2;subst h2;simp[isX] at h
  · intro h2;subst h2;simp[isX] at h
theorem rk {id:Nat} {ops:Array Oper} {y:Code} (h:∀ K:St→Prop,(∀ s,W P N n0 y Q s→K s)→opsL P ops ops.toList K σ) (hd:dstOK N ops=true:=by decide):W P N n0 (.seq (.region id ops false) y) Q σ:=W_region_k hd h
theorem rke {id:Nat} {ops:Array Oper} (h:∀ K:St→Prop,(∀ s,Q .normal s→K s)→opsL P ops ops.toList K σ) (hd:dstOK N ops=true:=by decide):W P N n0 (.region id ops false) Q σ:=W_region_e hd h
theorem rd {id:Nat} {ops:Array Oper} {y:Code} (h:∀ K:St→Prop,(∀ s,W P N n0 y Q s→K s)→opsL P ops ops.toList K σ) (hm:P.follows .mixedOrders=true:=by rfl) (hd:dstOK N ops=true:=by decide) (ht:inText ops=true:=by decide +kernel):W P N n0 (.seq (.region id ops true) y) Q σ:=W_draw_o hm hd ht h
theorem rde {id:Nat} {ops:Array Oper} (h:∀ K:St→Prop,(∀ s,Q .normal s→K s)→opsL P ops ops.toList K σ) (hm:P.follows .mixedOrders=true:=by rfl) (hd:dstOK N ops=true:=by decide) (ht:inText ops=true:=by decide +kernel):W P N n0 (.region id ops true) Q σ:=W_draw_oe hm hd ht h
theorem rb {id:Nat} {ops:Array Oper} {y:Code} (h:∀ K:St→Prop,(∀ s,W P N n0 y Q s→K s)→opsLB P ops ops.toList K σ) (hm:P.follows .mixedOrders=true:=by rfl) (hd:dstOK N ops=true:=by decide) (ht:inTextB ops=true:=by decide +kernel):W P N n0 (.seq (.region id ops true) y) Q σ:=W_draw_b hm hd ht h
theorem rbe {id:Nat} {ops:Array Oper} (h:∀ K:St→Prop,(∀ s,Q .normal s→K s)→opsLB P ops ops.toList K σ) (hm:P.follows .mixedOrders=true:=by rfl) (hd:dstOK N ops=true:=by decide) (ht:inTextB ops=true:=by decide +kernel):W P N n0 (.region id ops true) Q σ:=W_draw_be hm hd ht h
theorem ra {id:Nat} {ops:Array Oper} {y:Code} (h:∀ K:St→Prop,(∀ s,W P N n0 y Q s→K s)→opsLA P ops ops.toList K σ) (hm:P.follows .mixedOrders=true:=by rfl) (hd:dstOK N ops=true:=by decide) (ht:inTextA ops=true:=by decide +kernel):W P N n0 (.seq (.region id ops true) y) Q σ:=W_draw_a hm hd ht h
theorem rae {id:Nat} {ops:Array Oper} (h:∀ K:St→Prop,(∀ s,Q .normal s→K s)→opsLA P ops ops.toList K σ) (hm:P.follows .mixedOrders=true:=by rfl) (hd:dstOK N ops=true:=by decide) (ht:inTextA ops=true:=by decide +kernel):W P N n0 (.region id ops true) Q σ:=W_draw_ae hm hd ht h
theorem Wk {x y:Code} (h:∀ Q':Exit→St→Prop,(∀ s,W P N n0 y Q s→Q' .normal s)→(∀ e s,isN e=false→Q e s→Q' e s)→W P N n0 x Q' σ):W P N n0 (.seq x y) Q σ :=
  W_k fun Q' h1 h2=>h Q' h1 fun e s he=>h2 e s (isN_ne he)
theorem Wb {id:Nat} {c:Code} (h:∀ Q':Exit→St→Prop,(∀ s,Q .normal s→Q' .normal s)→(∀ s,Q .normal s→Q' (.exit id) s)→(∀ e s,isX id e=false→Q e s→Q' e s)→W P N n0 c Q' σ):W P N n0 (.block id c) Q σ :=
  W_block_k fun Q' h1 h2 h3=>h Q' h1 h2 fun e s he=>h3 e s (isX_ne he).1 (isX_ne he).2
theorem Wc {c:Operand} {x y:Code} {t:Bool} (ht:t=true→W P N n0 x Q σ) (hf:t=false→W P N n0 y Q σ) (hc:ev σ c=.lit (.bool t):=by (simp only[Go.Am.LKc,Go.Am.Lc,↓reduceIte,Nat.reduceEqDiff,Nat.reduceBEq];exact rfl)):W P N n0 (.cond c x y) Q σ:=W_cond hc ht hf
theorem W_loopS {α:Type} {c:Code} (S:α→St) (I:α→Prop) (M:α→Nat) (x0:α) (hI:I x0) (h0:Turns n0 σ (S x0))
    (round:∀ x,I x→∀ Q':Exit→St→Prop,(∀ s y,I y→M y<M x→Turns n0 s (S y)→Q' .normal s)→(∀ e s,isN e=false→Q e s→Q' e s)→W P N n0 c Q' (S x)):W P N n0 (.loop c) Q σ :=
  W_loopT S I M x0 hI h0 fun x hx Q' h1 h2=>round x hx Q' h1 fun e s he=>h2 e s (isN_ne he)
end Go.Am
namespace Go.Am
variable {P:Program} {N n0:Nat} {σ:St} {Q:Exit→St→Prop}
end Go.Am
namespace Go.Am
variable {P:Program} {N n0:Nat} {σ:St} {Q:Exit→St→Prop}
class Head (p:Prop):Prop where
  on:True
section
variable {ops:Array Oper} {o:Oper} {l:List Oper} {K:St→Prop}
instance:Head (opsL P ops (o::l) K σ):=⟨trivial⟩
instance {qs:List Nat} {t:PT}:Head (planW P ops qs t K σ):=⟨trivial⟩
instance {qs:List Nat} {i:Nat}:Head (opsLQ P ops qs i (o::l) K σ):=⟨trivial⟩
instance:Head (opsLA P ops (o::l) K σ):=⟨trivial⟩
instance:Head (opsLB P ops (o::l) K σ):=⟨trivial⟩
end
theorem gO {p:Prop} [Head p] (h:p):p:=h
class Grd (p:Prop) (b:outParam Bool) (A B:outParam Prop):Prop where
  sp:(b=true→A)→(b=false→B)→p
instance {o:Oper} {K:St→Prop} {b want:Bool}:Grd (guardK P o K b want σ) b (guardK P o K true want σ) (guardK P o K false want σ):=⟨guardK_split⟩
instance {q:Bool} {o:Oper} {K:St→Prop} {b want:Bool}:Grd (guardM q P o K b want σ) b (guardM q P o K true want σ) (guardM q P o K false want σ):=⟨guardM_split⟩
theorem gS {p:Prop} {b:Bool} {A B:Prop} [h:Grd p b A B] (h1:b=true→A) (h2:b=false→B):p:=h.sp h1 h2
def leafE:Code→Option Exit
  | .skip=>some .normal
  | .label _=>some .normal
  | .exit id=>some (.exit id)
  | .ret=>some .ret
  | _=>none
theorem Wz {c:Code} {e:Exit} (hc:leafE c=some e) (h:Q e σ):W P N n0 c Q σ:=by
  cases c<;>simp[leafE] at hc
  all_goals subst hc
  all_goals first|exact W_skip h|exact W_exit h|exact W_ret h|exact W_label h
def ordB (P:Program) (d:Bool) (ops:Array Oper):Bool:=!d || (P.follows .mixedOrders && inText ops)
theorem rr {id:Nat} {ops:Array Oper} {d:Bool} {y:Code} (h:∀ K:St→Prop,(∀ s,W P N n0 y Q s→K s)→opsL P ops ops.toList K σ) (ht:ordB P d ops=true:=by decide +kernel) (hd:dstOK N ops=true:=by decide):W P N n0 (.seq (.region id ops d) y) Q σ:=by
  cases d
  · exact rk h hd
  · have h2:P.follows .mixedOrders=true∧inText ops=true:=by simpa [ordB] using ht
    exact rd h h2.1 hd h2.2
theorem rre {id:Nat} {ops:Array Oper} {d:Bool} (h:∀ K:St→Prop,(∀ s,Q .normal s→K s)→opsL P ops ops.toList K σ) (ht:ordB P d ops=true:=by decide +kernel) (hd:dstOK N ops=true:=by decide):W P N n0 (.region id ops d) Q σ:=by
  cases d
  · exact rke h hd
  · have h2:P.follows .mixedOrders=true∧inText ops=true:=by simpa [ordB] using ht
    exact rde h h2.1 hd h2.2
class FlatR (rows:List (List AV)) (sz:outParam Nat):Prop where
  wid:∀ row∈rows,row.length=sz
  frz:∀ row∈rows,∀ v∈row,(∃ x,v=AV.lit x)∨∃ s r,v=AV.tree s r
instance (xs:List Int):FlatR (ints xs) 1:=⟨ints_wid _,ints_frz _⟩
instance (xs:List Bool):FlatR (bools xs) 1:=⟨bools_wid _,bools_frz _⟩
instance (xs:List (List Int)):FlatR (intss xs) 1:=⟨intss_wid _,intss_frz _⟩
instance {α:Type} {enc:α→List AV} {sz:Nat} [Row enc sz] (xs:List α):FlatR (rowsOf enc xs) sz:=⟨rows_wid _,rows_frz _⟩
theorem ArgR.fz {kp:Nat→Prop} {ρ:Nat→Nat} {id sz len:Nat} {rows:List (List AV)} [h:FlatR rows sz] (ho:σ.objs[id]?=some (.arr sz rows)) (hl:len=rows.length)
    (hsel:¬ kp id:=by first|exact not_kept (by decide)|decide):ArgR σ kp ρ true (.tree sz rows) (.ref id sz 0 len):=ArgR.frz ho h.wid hl hsel h.frz
theorem Turns.se (sel:List Nat) (snap:Bool) {l:List (Nat × AV)} {co:List Ob} (ho:SelO (rho σ.objs.length sel) σ.objs sel co) (h:HasR (ArgR σ (kept sel co) (rho σ.objs.length sel) snap) σ.env l)
    (hnd:sel.Nodup:=by decide) (hn:n0≤sel.length:=by decide) (hid:∀ i,i<n0→sel.getD i 0=i:=by decide):Turns n0 σ ⟨Am.slots l,co⟩:=Turns.sel sel snap l co hnd ho hn hid h
theorem RetOK_se (sel:List Nat) (snap:Bool) {v res:AV} {objs':List Ob} (ho:SelO (rho σ.objs.length sel) σ.objs sel objs') (h:ArgR σ (kept sel objs') (rho σ.objs.length sel) snap res v)
    (hnd:sel.Nodup:=by decide) (hn:n0≤sel.length:=by decide) (hid:∀ i,i<n0→sel.getD i 0=i:=by decide):RetOK n0 σ v res objs':=RetOK_sel sel snap hnd ho hn hid h
end Go.Am
namespace Go.Am
theorem retV_0:retV []=.tup []:=rfl
theorem retV_2 (a b:AV) (l:List AV):retV (a::b::l)=.tup (a::b::l):=rfl
end Go.Am
namespace Go.Am
variable {P:Program} {N n0:Nat} {σ:St}
inductive PF where
  | nil
  | take (i:Nat) (t:PF)
  | both (i:Nat) (t:PF) (j:Nat) (u:PF)
  | three (i:Nat) (t:PF) (j:Nat) (u:PF) (k:Nat) (v:PF)
  | four (i:Nat) (t:PF) (j:Nat) (u:PF) (k:Nat) (v:PF) (l:Nat) (w:PF)
def PF.ok (ops:Array Oper) (qs:List Nat):PF→Nat→Array Bool→Bool
  | .nil,n,listed=>n == 0 && (Region.ready .any ops listed).isEmpty
  | .take _ _,0,_=>false
  | .take i t,n+1,listed=>takeOK ops qs listed i (depsOf ops i) && t.ok ops qs n (listed.setIfInBounds i true)
  | .both _ _ _ _,0,_=>false
  | .both i t j u,n+1,listed=>(Region.ready .any ops listed == [i,j]) && t.ok ops qs n (listed.setIfInBounds i true) && u.ok ops qs n (listed.setIfInBounds j true)
  | .three _ _ _ _ _ _,0,_=>false
  | .three i t j u k v,n+1,listed=>(Region.ready .any ops listed == [i,j,k]) && t.ok ops qs n (listed.setIfInBounds i true) && u.ok ops qs n (listed.setIfInBounds j true) && v.ok ops qs n (listed.setIfInBounds k true)
  | .four _ _ _ _ _ _ _ _,0,_=>false
  | .four i t j u k v l w,n+1,listed=>(Region.ready .any ops listed == [i,j,k,l]) && t.ok ops qs n (listed.setIfInBounds i true) && u.ok ops qs n (listed.setIfInBounds j true) && v.ok ops qs n (listed.setIfInBounds k true) && w.ok ops qs n (listed.setIfInBounds l true)
section
variable {ops:Array Oper} {qs:List Nat} {K:St→Prop} {i j k l:Nat} {t u v w:PF}
end
end Go.Am
namespace Go.Am
variable {P:Program} {N n0:Nat} {σ:St}
end Go.Am
namespace Go.Am
variable {P:Program} {N n0:Nat} {σ:St}
inductive Gh where
  | map (ents:List (Value × Value))
  | iter (mb since:Nat) (seen:List Nat)
def Gh.At (w:World) (b:Nat):Gh→Prop
  | .map ents=>w.heap[b]?=some (.map (mkEs ents) ents.length)
  | .iter mb since seen=>w.heap[b]?=some (.mapIter (some mb) since seen.toArray since)
theorem Gh.At.heap {w w':World} {b:Nat} {g:Gh} (h:g.At w b) (e:w'.heap[b]?=w.heap[b]?):g.At w' b:=by
  cases g<;>exact e.trans h
theorem Gh.At.lt {w:World} {b:Nat} {g:Gh} (h:g.At w b):b<w.heap.size:=by
  cases g<;>exact (Array.getElem?_eq_some_iff.1 h).1
abbrev Mem:=Nat→Option Gh
def updM (μ:Mem) (b:Nat) (g:Gh):Mem:=fun k=>if k=b then some g else μ k
theorem updM_same (μ:Mem) (b:Nat) (g:Gh):updM μ b g b=some g:=by simp[updM]
theorem updM_ne (μ:Mem) {b c:Nat} (g:Gh) (h:c≠b):updM μ b g c=μ c:=by simp[updM,h]
def noM:Mem:=fun _=>none
structure MemOK (μ:Mem) (os:List Ob) (γ0 γ:Cx):Prop where
  gh:∀ b g,μ b=some g→g.At γ.w b
  fresh:∀ b g,μ b=some g→γ0.w.heap.size≤b
  notZ:∀ b g,μ b=some g→¬ γ.Z b
  notO:∀ b g,μ b=some g→¬ Owned os γ.blk b
theorem MemOK.nil (os:List Ob) (γ0 γ:Cx):MemOK noM os γ0 γ:=⟨by simp[noM],by simp[noM],by simp[noM],by simp[noM]⟩
theorem MemOK.keep {μ:Mem} {os os':List Ob} {γ0 γ γ':Cx} (h:MemOK μ os γ0 γ) (hf:Fr os γ os' γ'):MemOK μ os' γ0 γ' :=
  ⟨fun b g hp=>(h.gh b g hp).heap (hf.keep _ (h.gh b g hp).lt (h.notO b g hp)),h.fresh,fun b g hp hz=>by
    rcases hf.z1 _ hz with h1 | h1 | h1
    · exact h.notZ b g hp h1
    · exact h.notO b g hp h1
    · have:=(h.gh b g hp).lt;omega,fun b g hp ho=>by
    rcases hf.own _ ho with h1 | h1
    · exact h.notO b g hp h1
    · have:=(h.gh b g hp).lt;omega⟩
theorem MemOK.le {μ μ':Mem} {os:List Ob} {γ0 γ:Cx} (h:MemOK μ os γ0 γ) (hl:∀ b g,μ' b=some g→μ b=some g):MemOK μ' os γ0 γ :=
  ⟨fun b g hp=>h.gh b g (hl b g hp),fun b g hp=>h.fresh b g (hl b g hp),fun b g hp=>h.notZ b g (hl b g hp),fun b g hp=>h.notO b g (hl b g hp)⟩
def OkM (N:Nat) (os:List Ob) (γ0:Cx) (σ:St) (μ:Mem) (a:Act) (w:World):Prop :=
  a.defers=[]∧a.tmps.size=N∧∃ γ,γ.w=w∧γ.tmps=a.tmps∧Sim σ γ∧Fr os γ0 σ.objs γ∧MemOK μ σ.objs γ0 γ
variable {Q:Exit→St→Mem→Prop} {μ:Mem}
def TurnsM (n0:Nat) (σ σ':St):Prop:=∀ (os:List Ob) (γ0 γ:Cx),os.length=n0→Sim σ γ→Fr os γ0 σ.objs γ →
  ∃ γ',γ'.w=γ.w∧γ'.tmps=γ.tmps∧Sim σ' γ'∧Fr os γ0 σ'.objs γ'∧(∀ b,γ'.Z b→γ.Z b∨Owned σ.objs γ.blk b)∧∀ b,Owned σ'.objs γ'.blk b→Owned σ.objs γ.blk b
theorem TurnsM.slots (l:List (Nat × AV)) (os:List Ob) (ho:σ.objs=os) (h:Has σ.env l):TurnsM n0 σ ⟨slots l,os⟩:=by
  subst ho
  intro os γ0 γ _ hs hf
  refine⟨γ,rfl,rfl,⟨fun k=>?_,hs.obs,hs.inj,hs.nz,hs.zlt⟩,hf,fun _ h=>.inl h,fun _ h=>h⟩
  rcases slots_or l k with h' | ⟨p,hp,rfl,h'⟩
  · show RelV _ _ _ _ (Am.slots l k) _
    rw[h'];exact .undef _
  · show RelV _ _ _ _ (Am.slots l p.1) _
    rw[h',← h.mem p hp];exact hs.slots p.1
theorem TurnsM.se (sel:List Nat) (snap:Bool) {l:List (Nat × AV)} {co:List Ob} (ho:SelO (rho σ.objs.length sel) σ.objs sel co) (h:HasR (ArgR σ (kept sel co) (rho σ.objs.length sel) snap) σ.env l)
    (hnd:sel.Nodup:=by decide) (hn:n0≤sel.length:=by decide) (hid:∀ i,i<n0→sel.getD i 0=i:=by decide):TurnsM n0 σ ⟨Am.slots l,co⟩:=by
  intro os γ0 γ hos hs hf
  obtain ⟨h1,h2,h3⟩:=ho.spec
  obtain ⟨γ',a1,a2,a3,a4⟩:=hs.select sel snap co hnd h1 h2 h3 (Am.slots l) γ.tmps (fun k=>by
    rcases slots_or l k with h' | ⟨p,hp,rfl,h'⟩
    · exact .inl h'
    · right;rw[h'];exact⟨_,h.mem p hp,hs.slots p.1⟩)
  obtain ⟨b1,b2,b3,b4⟩:=a4
  refine⟨γ',a1,a2,a3,hf.select (by omega) h1 (fun i hi=>hid i (by omega)) a1 ⟨b1,b2,b3,b4⟩,b3,?_⟩
  rintro b ⟨i,o,c,hi,hb⟩
  have hlt:=hi.lt
  rw[b1 i hlt] at hb
  exact⟨_,o,c,(b4 i hi).1,hb⟩
end Go.Am
namespace Go.Am
variable {P:Program} {N n0:Nat} {σ:St}
def iE (L:List (Int × Value)):List (Value × Value):=L.map fun p=>(.int .i64 p.1,p.2)
def setI (x:Int) (v:Value):List (Int × Value)→List (Int × Value)
  | []=>[(x,v)]
  | p::r=>if p.1=x then (x,v)::r else p::setI x v r
def getI (x:Int):List (Int × Value)→Option Value
  | []=>none
  | p::r=>if p.1=x then some p.2 else getI x r
theorem run_checkKey {kt:TypeId} (hk:P.underlying kt=some (.int .i64)) (e:Bool) (x:Int) (w:World):(Instr.checkKey e 10000 kt (.int .i64 x)).run P w=.ok () w:=by
  have h:∀ d:Nat,(Instr.checkKey e (d+1) kt (.int .i64 x)).run P w=.ok () w:=fun d=>by simp[Instr.checkKey,run_underlying hk]
  exact h 9999
end Go.Am
namespace Go.Am
variable {P:Program} {N n0:Nat} {σ:St}
theorem Sim.otherB {γ:Cx} (h:Sim σ γ) {w':World} {b:Nat} (hz:¬ γ.Z b) (ho:¬ Owned σ.objs γ.blk b) (hk:∀ k,k≠b→k<γ.w.heap.size→w'.heap[k]?=γ.w.heap[k]?) (hsz:γ.w.heap.size≤w'.heap.size):Sim σ { γ with w:=w' }:=by
  have hR:∀ v cv,RelV σ.objs γ.w γ.Z γ.blk v cv→RelV σ.objs w' γ.Z γ.blk v cv:=fun v cv hv =>
    hv.mono (fun k hkz=>⟨hkz,hk k (fun e=>hz (e ▸ hkz)) (h.zlt k hkz)⟩) (fun i x hx=>by
      by_cases hgo:x=.gone
      · subst hgo;exact .inl hx
      · exact .inr ⟨rfl,x,hx,Ob.like_refl hgo⟩)
  refine⟨fun k=>hR _ _ (h.slots k),fun i o hi=>?_,h.inj,h.nz,fun k hk'=>Nat.lt_of_lt_of_le (h.zlt k hk') hsz⟩
  by_cases hgo:o=.gone
  · subst hgo;trivial
  · exact (h.obs i o hi).mono hR rfl (fun k x c hb=>hk k (fun e=>ho ⟨i,x,c,⟨o,hi,hgo⟩,e ▸ hb⟩) (h.blt ⟨o,hi,hgo⟩ hb))
theorem Fr.otherB {os:List Ob} {γ0 γ:Cx} (h:Fr os γ0 σ.objs γ) {w':World} {b:Nat} (hb:γ0.w.heap.size≤b) (hk:∀ k,k≠b→k<γ.w.heap.size→w'.heap[k]?=γ.w.heap[k]?) (hsz:γ.w.heap.size≤w'.heap.size)
    (h1:w'.os=γ.w.os) (h2:w'.tape=γ.w.tape) (h3:w'.output=γ.w.output):Fr os γ0 σ.objs { γ with w:=w' } :=
  ⟨h1.trans h.eos,h2.trans h.tape,h3.trans h.output,Nat.le_trans h.size hsz,fun k hk' ho=>(hk k (by omega) (Nat.lt_of_lt_of_le hk' h.size)).trans (h.keep k hk' ho),h.z0,h.z1,h.own,h.len,h.old⟩
theorem MemOK.otherB {μ:Mem} {os:List Ob} {γ0 γ:Cx} (h:MemOK μ os γ0 γ) {w':World} {b:Nat} {g:Gh} (hz:¬ γ.Z b) (ho:¬ Owned os γ.blk b) (hb:γ0.w.heap.size≤b) (hk:∀ k,k≠b→k<γ.w.heap.size→w'.heap[k]?=γ.w.heap[k]?)
    (hg:g.At w' b):MemOK (updM μ b g) os γ0 { γ with w:=w' }:=by
  have one:∀ k g',updM μ b g k=some g'→(k=b∧g'=g)∨(k≠b∧μ k=some g'):=fun k g' h'=>by
    by_cases e:k=b
    · subst e;rw[updM_same] at h';exact .inl ⟨rfl,by simpa using h'.symm⟩
    · rw[updM_ne μ g e] at h';exact .inr ⟨e,h'⟩
  refine⟨fun k g' h'=>?_,fun k g' h'=>?_,fun k g' h'=>?_,fun k g' h'=>?_⟩<;>rcases one k g' h' with ⟨rfl,rfl⟩ | ⟨e,h2⟩
  · exact hg
  · exact (h.gh k g' h2).heap (hk k e (h.gh k g' h2).lt)
  · exact hb
  · exact h.fresh k g' h2
  · exact hz
  · exact h.notZ k g' h2
  · exact ho
  · exact h.notO k g' h2
variable {μ:Mem}
def keysI (P:Program) (t:TypeId):Prop:=∃ kt et,P.underlying t=some (.map kt et)∧P.underlying kt=some (.int .i64)
def isMapT (P:Program) (t:TypeId):Prop:=∃ kt et,P.underlying t=some (.map kt et)
def keysZ (P:Program) (t:TypeId) (z:Value):Prop:=∃ kt et,P.underlying t=some (.map kt et)∧P.underlying kt=some (.int .i64)∧∀ w:World,(zeroValue et).run P w=.ok z w
def binM (P:Program) (o:Oper) (op:BinOp) (t:TypeId) (x y:AV) (σ:St) (μ:Mem) (K:St→Mem→Prop):Prop :=
  match x with
  | .lit (.map a)=>isMapT P t∧y=.lit (.map none)∧match op with | .eql=>K (σ.put o.dst (.lit (.bool a.isNone))) μ | .neq=>K (σ.put o.dst (.lit (.bool (!a.isNone)))) μ | _=>False
  | _=>opG P o σ fun s=>K s μ
def lenM (P:Program) (o:Oper) (args:List AV) (ats:List TypeId) (σ:St) (μ:Mem) (K:St→Mem→Prop):Prop :=
  match args with
  | [.lit (.map (some b))]=>∃ t ents,ats=[t]∧isMapT P t∧μ b=some (.map ents)∧K (σ.put o.dst (.lit (.int .i64 (ents.length:Nat)))) μ
  | _=>opG P o σ fun s=>K s μ
def opM (P:Program) (o:Oper) (σ:St) (μ:Mem) (K:St→Mem→Prop):Prop :=
  match o.op with
  | .makeMap _ none=>∀ b,μ b=none→K (σ.put o.dst (.lit (.map (some b)))) (updM μ b (.map []))
  | .lookup t x i false=>∃ n z,ev σ i=.lit (.int .i64 n)∧keysZ P t z ∧
      ((ev σ x=.lit (.map none)∧K (σ.put o.dst (.lit z)) μ)∨∃ b L,ev σ x=.lit (.map (some b))∧μ b=some (.map (iE L))∧K (σ.put o.dst (.lit ((getI n L).getD z))) μ)
  | .mapUpdate t m k x=>∃ b n L v,keysI P t∧ev σ m=.lit (.map (some b))∧ev σ k=.lit (.int .i64 n)∧ev σ x=.lit v∧μ b=some (.map (iE L))∧K (σ.put o.dst .undef) (updM μ b (.map (iE (setI n v L))))
  | .range t x=>∃ b ents,isMapT P t∧ev σ x=.lit (.map (some b))∧μ b=some (.map ents)∧∀ r,μ r=none→K (σ.put o.dst (.lit (.pointer (some ⟨r,0,none⟩)))) (updM μ r (.iter b ents.length []))
  | .next x false=>∃ r b seen ents,ev σ x=.lit (.pointer (some ⟨r,0,none⟩))∧μ r=some (.iter b ents.length seen)∧μ b=some (.map ents) ∧
      ((∀ j<ents.length,j∈seen)→K (σ.put o.dst (.tup [.lit (.bool false)])) μ) ∧
      ∀ j p,ents[j]?=some p→j ∉ seen→K (σ.put o.dst (.tup [.lit (.bool true),.lit p.1,.lit p.2])) (updM μ r (.iter b ents.length (seen++[j])))
  | .entry x=>∃ r b seen j ents p,ev σ x=.lit (.pointer (some ⟨r,0,none⟩))∧μ r=some (.iter b ents.length (seen++[j]))∧μ b=some (.map ents)∧ents[j]?=some p∧K (σ.put o.dst (.tup [.lit p.1,.lit p.2])) μ
  | .binOp op t x y _=>binM P o op t (ev σ x) (ev σ y) σ μ K
  | .call ⟨.builtin .len,args,ats⟩=>lenM P o (args.toList.map (ev σ)) ats.toList σ μ K
  | _=>opG P o σ fun s=>K s μ
theorem OkM.block {os:List Ob} {γ0:Cx} {a:Act} {w w':World} (h:OkM N os γ0 σ μ a w) {b:Nat} {g:Gh} (hb:(∃ g',μ b=some g')∨b=w.heap.size) (hk:∀ k,k≠b→k<w.heap.size→w'.heap[k]?=w.heap[k]?) (hsz:w.heap.size≤w'.heap.size)
    (h1:w'.os=w.os) (h2:w'.tape=w.tape) (h3:w'.output=w.output) (hg:g.At w' b):OkM N os γ0 σ (updM μ b g) a w':=by
  obtain ⟨hdf,hs0,γ,rfl,ha,hs,hf,hm⟩:=h
  have hb':¬ γ.Z b∧¬ Owned σ.objs γ.blk b∧γ0.w.heap.size≤b:=by
    rcases hb with ⟨g',hg'⟩ | rfl
    · exact⟨hm.notZ _ _ hg',hm.notO _ _ hg',hm.fresh _ _ hg'⟩
    · refine⟨fun hz=>Nat.lt_irrefl _ (hs.zlt _ hz),?_,hf.size⟩
      rintro ⟨i,o,c,hl,hb⟩
      exact Nat.lt_irrefl _ (hs.blt hl hb)
  exact⟨hdf,hs0,{ γ with w:=w' },rfl,ha,hs.otherB hb'.1 hb'.2.1 hk hsz,hf.otherB hb'.2.2 hk hsz h1 h2 h3,hm.otherB hb'.1 hb'.2.1 hb'.2.2 hk hg⟩
theorem OkM.ev {os:List Ob} {γ0:Cx} {a:Act} {w:World} (h:OkM N os γ0 σ μ a w) {x:Operand} {v:Value} (hx:ev σ x=.lit v):a.eval x=v:=by
  obtain ⟨_,_,γ,rfl,ha,hs,_⟩:=h
  have:=ev_rel hs ha x
  rw[hx] at this
  exact this.lit_inv
theorem OkM.at {os:List Ob} {γ0:Cx} {a:Act} {w:World} (h:OkM N os γ0 σ μ a w) {b:Nat} {g:Gh} (hb:μ b=some g):g.At w b:=by
  obtain ⟨_,_,γ,rfl,ha,hs,_,hm⟩:=h
  exact hm.gh _ _ hb
theorem OkM.none {os:List Ob} {γ0:Cx} {a:Act} {w:World} (h:OkM N os γ0 σ μ a w):μ w.heap.size=none:=by
  cases hb:μ w.heap.size with
  | none=>rfl
  | some g=>exact absurd (h.at hb).lt (Nat.lt_irrefl _)
def guardMM (P:Program) (o:Oper) (K:St→Mem→Prop) (b want:Bool) (σ:St) (μ:Mem):Prop:=(b=want→opM P o σ μ K)∧(b≠want→K (σ.put o.dst (.lit (.tuple #[]))) μ)
def opsM (P:Program) (ops:Array Oper):List Oper→(St→Mem→Prop)→St→Mem→Prop
  | [],K,σ,μ=>K σ μ
  | o::r,K,σ,μ =>
    match o.guard with
    | none=>opM P o σ μ (opsM P ops r K)
    | some (j,want) =>
      match (ops[j]?).bind (·.dst) with
      | none=>False
      | some d =>
        match σ.env d with
        | .lit (.bool b)=>guardMM P o (opsM P ops r K) b want σ μ
        | .lit (.tuple vs)=>vs = #[]∧opsM P ops r K (σ.put o.dst (.lit (.tuple #[]))) μ
        | _=>False
end Go.Am
namespace Go.Am
variable {P:Program} {N n0:Nat} {σ:St} {μ:Mem} {Q:Exit→St→Mem→Prop}
section
variable {ops:Array Oper} {o:Oper} {l:List Oper} {K:St→Mem→Prop}
instance:Head (opsM P ops (o::l) K σ μ):=⟨trivial⟩
theorem guardMM_split {b want:Bool} (h1:b=true→guardMM P o K true want σ μ) (h2:b=false→guardMM P o K false want σ μ):guardMM P o K b want σ μ:=by
  cases b
  · exact h2 rfl
  · exact h1 rfl
instance {b want:Bool}:Grd (guardMM P o K b want σ μ) b (guardMM P o K true want σ μ) (guardMM P o K false want σ μ):=⟨guardMM_split⟩
variable {dst:Option Tmp} {tt:TypeId} {p:String} {af:Array Edge} {g:Option (Nat × Bool)}
end
end Go.Am
namespace Go.Am
variable {P:Program} {N n0:Nat} {σ:St} {μ:Mem} {K:St→Mem→Prop} {dst:Option Tmp} {tt:TypeId} {p:String} {af:Array Edge} {g:Option (Nat × Bool)}
theorem TurnsM.refl:TurnsM n0 σ σ:=fun os γ0 γ _ hs hf=>⟨γ,rfl,rfl,hs,hf,fun _ h=>.inl h,fun _ h=>h⟩
end Go.Am
namespace Go.Am
variable {P:Program} {N n0:Nat} {σ:St}
theorem W_region_te {Q:Exit→St→Prop} (n:Nat) {id:Nat} {ops:Array Oper} (hd:dstOK N ops=true) (h:∀ K K1:St→Prop,(∀ s,Q .normal s→K s)→(∀ s s1,Turns n0 s s1→opsL P ops (ops.toList.drop n) K s1→K1 s)→opsL P ops (ops.toList.take n) K1 σ):W P N n0 (.region id ops false) Q σ:=by
  intro os γ0 a w hn hok
  refine wp_region ?_
  exact opsL_soundT (dstOK_spec hd) hn (K:=Q .normal) (K1:=fun s=>∃ s1,Turns n0 s s1∧opsL P ops (ops.toList.drop n) (Q .normal) s1) (fun σ' a' w' hK hok'=>⟨σ',hK,hok'⟩) n (fun s h=>h) σ a w (h _ _ (fun _ h=>h) (fun s s1 h1 h2=>⟨s1,h1,h2⟩)) hok
end Go.Am
namespace Go.Am
variable {P:Program} {N n0:Nat} {σ:St} {Q:Exit→St→Prop}
end Go.Am

