import Derived.Test.YtibijngmebpmmaaGreatAmG
set_option linter.unusedVariables false
set_option linter.unusedSimpArgs false
namespace Go.Am
variable {P:Program} {N n0:Nat} {σ:St} {Q:Exit→St→Prop}
def isN:Exit→Bool
  | .normal=>true
  | _=>false
def isX (id:Nat):Exit→Bool
  | .normal=>true
  | .exit j=>j == id
  | _=>false
theorem isN_ne {e:Exit} (h:isN e=false):e≠.normal:=by intro h2;subst h2;simp[isN] at h
theorem isX_ne {id:Nat} {e:Exit} (h:isX id e=false):e≠.normal∧e≠.exit id:=by
  constructor
  · intro h2;subst h2;simp[isX] at h
  · intro h2;subst h2;simp[isX] at h
theorem rk {id:Nat} {ops:Array Oper} {y:Code} (h:∀ K:St→Prop,(∀ s,W P N n0 y Q s→K s)→opsL P ops ops.toList K σ) (hd:dstOK N ops=true:=by decide):W P N n0 (.seq (.region id ops false) y) Q σ:=W_region_k hd h
theorem rke {id:Nat} {ops:Array Oper} (h:∀ K:St→Prop,(∀ s,Q .normal s→K s)→opsL P ops ops.toList K σ) (hd:dstOK N ops=true:=by decide):W P N n0 (.region id ops false) Q σ:=W_region_e hd h
theorem rd {id:Nat} {ops:Array Oper} {y:Code} (h:∀ K:St→Prop,(∀ s,W P N n0 y Q s→K s)→opsL P ops ops.toList K σ) (hm:P.follows .mixedOrders=true:=by rfl) (hd:dstOK N ops=true:=by decide) (ht:inText ops=true:=by decide +kernel):W P N n0 (.seq (.region id ops true) y) Q σ:=W_draw_o hm hd ht h
theorem rde {id:Nat} {ops:Array Oper} (h:∀ K:St→Prop,(∀ s,Q .normal s→K s)→opsL P ops ops.toList K σ) (hm:P.follows .mixedOrders=true:=by rfl) (hd:dstOK N ops=true:=by decide) (ht:inText ops=true:=by decide +kernel):W P N n0 (.region id ops true) Q σ:=W_draw_oe hm hd ht h
theorem rb {id:Nat} {ops:Array Oper} {y:Code} (h:∀ K:St→Prop,(∀ s,W P N n0 y Q s→K s)→opsLB P ops ops.toList K σ) (hm:P.follows .mixedOrders=true:=by rfl) (hd:dstOK N ops=true:=by decide) (ht:inTextB ops=true:=by decide +kernel):W P N n0 (.seq (.region id ops true) y) Q σ:=W_draw_b hm hd ht h
theorem rbe {id:Nat} {ops:Array Oper} (h:∀ K:St→Prop,(∀ s,Q .normal s→K s)→opsLB P ops ops.toList K σ) (hm:P.follows .mixedOrders=true:=by rfl) (hd:dstOK N ops=true:=by decide) (ht:inTextB ops=true:=by decide +kernel):W P N n0 (.region id ops true) Q σ:=W_draw_be hm hd ht h
theorem ra {id:Nat} {ops:Array Oper} {y:Code} (h:∀ K:St→Prop,(∀ s,W P N n0 y Q s→K s)→opsLA P ops ops.toList K σ) (hm:P.follows .mixedOrders=true:=by rfl) (hd:dstOK N ops=true:=by decide) (ht:inTextA ops=true:=by decide +kernel):W P N n0 (.seq (.region id ops true) y) Q σ:=W_draw_a hm hd ht h
theorem rae {id:Nat} {ops:Array Oper} (h:∀ K:St→Prop,(∀ s,Q .normal s→K s)→opsLA P ops ops.toList K σ) (hm:P.follows .mixedOrders=true:=by rfl) (hd:dstOK N ops=true:=by decide) (ht:inTextA ops=true:=by decide +kernel):W P N n0 (.region id ops true) Q σ:=W_draw_ae hm hd ht h
theorem Wk {x y:Code} (h:∀ Q':Exit→St→Prop,(∀ s,W P N n0 y Q s→Q' .normal s)→(∀ e s,isN e=false→Q e s→Q' e s)→W P N n0 x Q' σ):W P N n0 (.seq x y) Q σ :=
  W_k fun Q' h1 h2=>h Q' h1 fun e s he=>h2 e s (isN_ne he)
theorem Wb {id:Nat} {c:Code} (h:∀ Q':Exit→St→Prop,(∀ s,Q .normal s→Q' .normal s)→(∀ s,Q .normal s→Q' (.exit id) s)→(∀ e s,isX id e=false→Q e s→Q' e s)→W P N n0 c Q' σ):W P N n0 (.block id c) Q σ :=
  W_block_k fun Q' h1 h2 h3=>h Q' h1 h2 fun e s he=>h3 e s (isX_ne he).1 (isX_ne he).2
theorem Wc {c:Operand} {x y:Code} {t:Bool} (ht:t=true→W P N n0 x Q σ) (hf:t=false→W P N n0 y Q σ) (hc:ev σ c=.lit (.bool t):=by (simp only[Go.Am.LKc,Go.Am.Lc,↓reduceIte,Nat.reduceEqDiff,Nat.reduceBEq];exact rfl)):W P N n0 (.cond c x y) Q σ:=W_cond hc ht hf
theorem W_loopS {α:Type} {c:Code} (S:α→St) (I:α→Prop) (M:α→Nat) (x0:α) (hI:I x0) (h0:Turns n0 σ (S x0))
    (round:∀ x,I x→∀ Q':Exit→St→Prop,(∀ s y,I y→M y<M x→Turns n0 s (S y)→Q' .normal s)→(∀ e s,isN e=false→Q e s→Q' e s)→W P N n0 c Q' (S x)):W P N n0 (.loop c) Q σ :=
  W_loopT S I M x0 hI h0 fun x hx Q' h1 h2=>round x hx Q' h1 fun e s he=>h2 e s (isN_ne he)
end Go.Am
namespace Go.Am
variable {P:Program} {N n0:Nat} {σ:St} {Q:Exit→St→Prop}
end Go.Am
namespace Go.Am
variable {P:Program} {N n0:Nat} {σ:St} {Q:Exit→St→Prop}
class Head (p:Prop):Prop where
  on:True
section
variable {ops:Array Oper} {o:Oper} {l:List Oper} {K:St→Prop}
instance:Head (opsL P ops (o::l) K σ):=⟨trivial⟩
instance {qs:List Nat} {t:PT}:Head (planW P ops qs t K σ):=⟨trivial⟩
instance {qs:List Nat} {i:Nat}:Head (opsLQ P ops qs i (o::l) K σ):=⟨trivial⟩
instance:Head (opsLA P ops (o::l) K σ):=⟨trivial⟩
instance:Head (opsLB P ops (o::l) K σ):=⟨trivial⟩
end
theorem gO {p:Prop} [Head p] (h:p):p:=h
class Grd (p:Prop) (b:outParam Bool) (A B:outParam Prop):Prop where
  sp:(b=true→A)→(b=false→B)→p
instance {o:Oper} {K:St→Prop} {b want:Bool}:Grd (guardK P o K b want σ) b (guardK P o K true want σ) (guardK P o K false want σ):=⟨guardK_split⟩
instance {q:Bool} {o:Oper} {K:St→Prop} {b want:Bool}:Grd (guardM q P o K b want σ) b (guardM q P o K true want σ) (guardM q P o K false want σ):=⟨guardM_split⟩
theorem gS {p:Prop} {b:Bool} {A B:Prop} [h:Grd p b A B] (h1:b=true→A) (h2:b=false→B):p:=h.sp h1 h2
def leafE:Code→Option Exit
  | .skip=>some .normal
  | .label _=>some .normal
  | .exit id=>some (.exit id)
  | .ret=>some .ret
  | _=>none
theorem Wz {c:Code} {e:Exit} (hc:leafE c=some e) (h:Q e σ):W P N n0 c Q σ:=by
  cases c<;>simp[leafE] at hc
  all_goals subst hc
  all_goals first|exact W_skip h|exact W_exit h|exact W_ret h|exact W_label h
def ordB (P:Program) (d:Bool) (ops:Array Oper):Bool:=!d || (P.follows .mixedOrders && inText ops)
theorem rr {id:Nat} {ops:Array Oper} {d:Bool} {y:Code} (h:∀ K:St→Prop,(∀ s,W P N n0 y Q s→K s)→opsL P ops ops.toList K σ) (ht:ordB P d ops=true:=by decide +kernel) (hd:dstOK N ops=true:=by decide):W P N n0 (.seq (.region id ops d) y) Q σ:=by
  cases d
  · exact rk h hd
  · have h2:P.follows .mixedOrders=true∧inText ops=true:=by simpa [ordB] using ht
    exact rd h h2.1 hd h2.2
theorem rre {id:Nat} {ops:Array Oper} {d:Bool} (h:∀ K:St→Prop,(∀ s,Q .normal s→K s)→opsL P ops ops.toList K σ) (ht:ordB P d ops=true:=by decide +kernel) (hd:dstOK N ops=true:=by decide):W P N n0 (.region id ops d) Q σ:=by
  cases d
  · exact rke h hd
  · have h2:P.follows .mixedOrders=true∧inText ops=true:=by simpa [ordB] using ht
    exact rde h h2.1 hd h2.2
class FlatR (rows:List (List AV)) (sz:outParam Nat):Prop where
  wid:∀ row∈rows,row.length=sz
  frz:∀ row∈rows,∀ v∈row,(∃ x,v=AV.lit x)∨∃ s r,v=AV.tree s r
instance (xs:List Int):FlatR (ints xs) 1:=⟨ints_wid _,ints_frz _⟩
instance (xs:List Bool):FlatR (bools xs) 1:=⟨bools_wid _,bools_frz _⟩
instance (xs:List (List Int)):FlatR (intss xs) 1:=⟨intss_wid _,intss_frz _⟩
instance {α:Type} {enc:α→List AV} {sz:Nat} [Row enc sz] (xs:List α):FlatR (rowsOf enc xs) sz:=⟨rows_wid _,rows_frz _⟩
theorem ArgR.fz {kp:Nat→Prop} {ρ:Nat→Nat} {id sz len:Nat} {rows:List (List AV)} [h:FlatR rows sz] (ho:σ.objs[id]?=some (.arr sz rows)) (hl:len=rows.length)
    (hsel:¬ kp id:=by first|exact not_kept (by decide)|decide):ArgR σ kp ρ true (.tree sz rows) (.ref id sz 0 len):=ArgR.frz ho h.wid hl hsel h.frz
theorem Turns.se (sel:List Nat) (snap:Bool) {l:List (Nat × AV)} {co:List Ob} (ho:SelO (rho σ.objs.length sel) σ.objs sel co) (h:HasR (ArgR σ (kept sel co) (rho σ.objs.length sel) snap) σ.env l)
    (hnd:sel.Nodup:=by decide) (hn:n0≤sel.length:=by decide) (hid:∀ i,i<n0→sel.getD i 0=i:=by decide):Turns n0 σ ⟨Am.slots l,co⟩:=Turns.sel sel snap l co hnd ho hn hid h
theorem RetOK_se (sel:List Nat) (snap:Bool) {v res:AV} {objs':List Ob} (ho:SelO (rho σ.objs.length sel) σ.objs sel objs') (h:ArgR σ (kept sel objs') (rho σ.objs.length sel) snap res v)
    (hnd:sel.Nodup:=by decide) (hn:n0≤sel.length:=by decide) (hid:∀ i,i<n0→sel.getD i 0=i:=by decide):RetOK n0 σ v res objs':=RetOK_sel sel snap hnd ho hn hid h
end Go.Am
namespace Go.Am
theorem retV_0:retV []=.tup []:=rfl
theorem retV_2 (a b:AV) (l:List AV):retV (a::b::l)=.tup (a::b::l):=rfl
end Go.Am
namespace Go.Am
variable {P:Program} {N n0:Nat} {σ:St}
inductive PF where
  | nil
  | take (i:Nat) (t:PF)
  | both (i:Nat) (t:PF) (j:Nat) (u:PF)
  | three (i:Nat) (t:PF) (j:Nat) (u:PF) (k:Nat) (v:PF)
  | four (i:Nat) (t:PF) (j:Nat) (u:PF) (k:Nat) (v:PF) (l:Nat) (w:PF)
def PF.ok (ops:Array Oper) (qs:List Nat):PF→Nat→Array Bool→Bool
  | .nil,n,listed=>n == 0 && (Region.ready .any ops listed).isEmpty
  | .take _ _,0,_=>false
  | .take i t,n+1,listed=>takeOK ops qs listed i (depsOf ops i) && t.ok ops qs n (listed.setIfInBounds i true)
  | .both _ _ _ _,0,_=>false
  | .both i t j u,n+1,listed=>(Region.ready .any ops listed == [i,j]) && t.ok ops qs n (listed.setIfInBounds i true) && u.ok ops qs n (listed.setIfInBounds j true)
  | .three _ _ _ _ _ _,0,_=>false
  | .three i t j u k v,n+1,listed=>(Region.ready .any ops listed == [i,j,k]) && t.ok ops qs n (listed.setIfInBounds i true) && u.ok ops qs n (listed.setIfInBounds j true) && v.ok ops qs n (listed.setIfInBounds k true)
  | .four _ _ _ _ _ _ _ _,0,_=>false
  | .four i t j u k v l w,n+1,listed=>(Region.ready .any ops listed == [i,j,k,l]) && t.ok ops qs n (listed.setIfInBounds i true) && u.ok ops qs n (listed.setIfInBounds j true) && v.ok ops qs n (listed.setIfInBounds k true) && w.ok ops qs n (listed.setIfInBounds l true)
def planF4 (P:Program) (ops:Array Oper) (qs:List Nat):PF→(St→Prop)→St→Prop
  | .nil,K,σ=>K σ
  | .take i t,K,σ=>stepAt P ops qs i (planF4 P ops qs t K) σ
  | .both i t j u,K,σ=>stepAt P ops qs i (planF4 P ops qs t K) σ∧stepAt P ops qs j (planF4 P ops qs u K) σ
  | .three i t j u k v,K,σ=>stepAt P ops qs i (planF4 P ops qs t K) σ∧stepAt P ops qs j (planF4 P ops qs u K) σ∧stepAt P ops qs k (planF4 P ops qs v K) σ
  | .four i t j u k v l w,K,σ=>stepAt P ops qs i (planF4 P ops qs t K) σ∧stepAt P ops qs j (planF4 P ops qs u K) σ∧stepAt P ops qs k (planF4 P ops qs v K) σ∧stepAt P ops qs l (planF4 P ops qs w K) σ
theorem planF_any {ops:Array Oper} {qs:List Nat} {K:St→Prop}:∀ (t:PF) (n:Nat) (listed:Array Bool) (σ:St),t.ok ops qs n listed=true→planF4 P ops qs t K σ→anyW P ops qs K n listed σ
  | .nil,n,listed,σ,h,hp=>by
    simp only[PF.ok,Bool.and_eq_true,beq_iff_eq,List.isEmpty_iff] at h
    obtain ⟨rfl,h⟩:=h
    exact⟨h,hp⟩
  | .take _ _,0,_,_,h,_=>by simp[PF.ok] at h
  | .take i t,n+1,listed,σ,h,hp=>by
    simp only[PF.ok,Bool.and_eq_true] at h
    exact take_ok h.1 (stepAt_mono (fun s hs=>planF_any t n _ s h.2 hs) hp)
  | .both _ _ _ _,0,_,_,h,_=>by simp[PF.ok] at h
  | .both i t j u,n+1,listed,σ,h,hp=>by
    simp only[PF.ok,Bool.and_eq_true,beq_iff_eq] at h
    obtain ⟨⟨h1,h2⟩,h3⟩:=h
    refine⟨fun e=>by rw[h1] at e;simp at e,fun k hk=>?_⟩
    rw[h1] at hk
    simp only[List.mem_cons,List.not_mem_nil,or_false] at hk
    rcases hk with rfl | rfl
    · exact stepAt_mono (fun s hs=>planF_any t n _ s h2 hs) hp.1
    · exact stepAt_mono (fun s hs=>planF_any u n _ s h3 hs) hp.2
  | .three _ _ _ _ _ _,0,_,_,h,_=>by simp[PF.ok] at h
  | .three i t j u k v,n+1,listed,σ,h,hp=>by
    simp only[PF.ok,Bool.and_eq_true,beq_iff_eq] at h
    obtain ⟨⟨⟨h1,h2⟩,h3⟩,h4⟩:=h
    refine⟨fun e=>by rw[h1] at e;simp at e,fun x hk=>?_⟩
    rw[h1] at hk
    simp only[List.mem_cons,List.not_mem_nil,or_false] at hk
    rcases hk with rfl | rfl | rfl
    · exact stepAt_mono (fun s hs=>planF_any t n _ s h2 hs) hp.1
    · exact stepAt_mono (fun s hs=>planF_any u n _ s h3 hs) hp.2.1
    · exact stepAt_mono (fun s hs=>planF_any v n _ s h4 hs) hp.2.2
  | .four _ _ _ _ _ _ _ _,0,_,_,h,_=>by simp[PF.ok] at h
  | .four i t j u k v l w,n+1,listed,σ,h,hp=>by
    simp only[PF.ok,Bool.and_eq_true,beq_iff_eq] at h
    obtain ⟨⟨⟨⟨h1,h2⟩,h3⟩,h4⟩,h5⟩:=h
    refine⟨fun e=>by rw[h1] at e;simp at e,fun x hk=>?_⟩
    rw[h1] at hk
    simp only[List.mem_cons,List.not_mem_nil,or_false] at hk
    rcases hk with rfl | rfl | rfl | rfl
    · exact stepAt_mono (fun s hs=>planF_any t n _ s h2 hs) hp.1
    · exact stepAt_mono (fun s hs=>planF_any u n _ s h3 hs) hp.2.1
    · exact stepAt_mono (fun s hs=>planF_any v n _ s h4 hs) hp.2.2.1
    · exact stepAt_mono (fun s hs=>planF_any w n _ s h5 hs) hp.2.2.2
theorem W_drawF {id:Nat} {ops:Array Oper} {Q:Exit→St→Prop} (qs:List Nat) (t:PF) (hm:P.follows .mixedOrders=true) (hd:dstOK N ops=true) (ht:t.ok ops qs ops.size (Array.replicate ops.size false)=true)
    (h:planF4 P ops qs t (Q .normal) σ):W P N n0 (.region id ops true) Q σ :=
  W_region_any qs hm hd (planF_any t _ _ σ ht h)
section
variable {ops:Array Oper} {qs:List Nat} {K:St→Prop} {i j k l:Nat} {t u v w:PF}
theorem planF_nil:planF4 P ops qs .nil K σ=K σ:=rfl
theorem planF_take:planF4 P ops qs (.take i t) K σ=stepAt P ops qs i (planF4 P ops qs t K) σ:=rfl
theorem planF_both:planF4 P ops qs (.both i t j u) K σ=(stepAt P ops qs i (planF4 P ops qs t K) σ∧stepAt P ops qs j (planF4 P ops qs u K) σ):=rfl
theorem planF_three:planF4 P ops qs (.three i t j u k v) K σ=(stepAt P ops qs i (planF4 P ops qs t K) σ∧stepAt P ops qs j (planF4 P ops qs u K) σ∧stepAt P ops qs k (planF4 P ops qs v K) σ):=rfl
theorem planF_four:planF4 P ops qs (.four i t j u k v l w) K σ=(stepAt P ops qs i (planF4 P ops qs t K) σ∧stepAt P ops qs j (planF4 P ops qs u K) σ∧stepAt P ops qs k (planF4 P ops qs v K) σ∧stepAt P ops qs l (planF4 P ops qs w K) σ):=rfl
end
theorem Fc:type_of% @planF_nil∧type_of% @planF_take∧type_of% @planF_both∧type_of% @planF_three∧type_of% @planF_four:=⟨@planF_nil,@planF_take,@planF_both,@planF_three,@planF_four⟩
end Go.Am
namespace Go.Am
variable {P:Program} {N n0:Nat} {σ:St}
theorem opGm_load (dst:Option Tmp) (t:TypeId) (a:Operand) (tt:TypeId) (p:String) (af:Array Edge) (g:Option (Nat × Bool)) (K:St→Prop):opGm true P ⟨dst,.load t a,tt,p,af,g⟩ σ K=loadQ P t dst K σ (ev σ a):=rfl
theorem Lq:type_of% @opGm_load∧type_of% @loadQ.eq_1:=⟨@opGm_load,@loadQ.eq_1⟩
theorem Turns.frzP (d id:Nat) {cells:List AV} (ho:σ.objs[id]?=some (.var cells)) (hd:σ.env d=.ptr id 0 0) (hfz:∀ v∈cells,(∃ x,v=.lit x)∨∃ s r,v=.tree s r):Turns n0 σ ⟨upd σ.env d (.taddr cells),σ.objs.set id .gone⟩:=by
  intro os γ0 γ _ hs hf
  have hidl:id<σ.objs.length:=(List.getElem?_eq_some_iff.1 ho).1
  let γ':Cx:={ γ with Z:=fun b=>γ.Z b∨∃ o cap,γ.blk id=some (b,o,cap) }
  let os2:=σ.objs.set id .gone
  have hget:∀ i,os2[i]?=if i=id then some .gone else σ.objs[i]?:=by
    intro i
    show (σ.objs.set id _)[i]?=_
    rw[List.getElem?_set]
    by_cases h1:i=id
    · subst h1;simp[hidl]
    · simp[Ne.symm h1,h1]
  have hR:∀ v cv,RelV σ.objs γ.w γ.Z γ.blk v cv→RelV os2 γ'.w γ'.Z γ'.blk v cv:=fun v cv hv =>
    hv.mono (fun b hb=>⟨.inl hb,rfl⟩) (fun i o hi=>by
      rw[hget]
      by_cases h1:i=id
      · left;rw[if_pos h1]
      · rw[if_neg h1]
        by_cases hg:o=.gone
        · subst hg;exact .inl hi
        · exact .inr ⟨rfl,o,hi,Ob.like_refl hg⟩)
  have hlive:∀ i,Live os2 i→Live σ.objs i∧i≠id:=by
    rintro i ⟨o,hi,hg⟩
    rw[hget] at hi
    split at hi
    · simp at hi;exact absurd hi.symm hg
    · rename_i h2;exact⟨⟨o,hi,hg⟩,h2⟩
  have hav:Live σ.objs id:=⟨_,ho,by simp⟩
  obtain ⟨b,cap,cur,t,h1,h2,h3,h4⟩:=hs.obs _ _ ho
  have hsd:=hs.slots d
  rw[hd] at hsd
  have hslot:RelV os2 γ'.w γ'.Z γ'.blk (.taddr cells) (γ.tmps.getD d Go.undef):=by
    generalize γ.tmps.getD d Go.undef=cv at hsd
    cases hsd with
    | frz _ _ h=>cases h
    | deadPtr _ _ _ _ h=>rw[ho] at h;simp at h
    | ptrV _ _ b2 cap2 cells2 h hb =>
      rw[h1] at hb
      simp only[Option.some.injEq,Prod.mk.injEq] at hb
      obtain ⟨rfl,_,_⟩:=hb
      refine .taddr cells b 0 (fun j=>cur.getD j Go.undef) (.inr ⟨0,cap,h1⟩) (fun j x hx=>?_) (fun j x hx=>?_)
      · rw[Nat.zero_add]
        exact cell_getD h2 (by rw[h3];exact (List.getElem?_eq_some_iff.1 hx).1)
      · have hfr:Frz σ (fun y=>y≠id) x x:=by
          rcases hfz x (List.mem_of_getElem? hx) with ⟨v,rfl⟩ | ⟨s,r,rfl⟩
          · exact .lit v
          · exact .tree s r
        exact hfr.treeR hs (γc:=γ') (fun b hb=>.inl hb) rfl (fun x b o cap hid _ hb=>.inr ⟨o,cap,by rw[show id=x by simpa using (Decidable.not_not.1 hid).symm];exact hb⟩) _ (h4 j x hx)
    | ptrA _ _ _ _ _ _ _ _ h=>rw[ho] at h;simp at h
  refine⟨γ',rfl,rfl,⟨fun k=>?_,?_,fun i j b o c o' c' hi hj=>hs.inj i j b o c o' c' (hlive i hi).1 (hlive j hj).1,?_,?_⟩,?_⟩
  · show RelV os2 γ'.w γ'.Z γ'.blk (upd σ.env d (.taddr cells) k) (γ.tmps.getD k Go.undef)
    simp only[upd]
    split
    · rename_i e;subst e;exact hslot
    · exact hR _ _ (hs.slots k)
  · intro i o hi
    have hi':os2[i]?=some o:=hi
    rw[hget] at hi'
    split at hi'
    · simp only[Option.some.injEq] at hi';subst hi';trivial
    · by_cases hg:o=.gone
      · subst hg;trivial
      · exact (hs.obs i o hi').mono hR rfl (fun _ _ _ _=>rfl)
  · rintro b ⟨i,o,c',hi,hb⟩ (hz | ⟨o',cap,hb'⟩)
    · exact hs.nz b ⟨i,o,c',(hlive i hi).1,hb⟩ hz
    · exact (hlive i hi).2 (hs.inj i id b o c' o' cap (hlive i hi).1 hav hb hb')
  · rintro b (hz | ⟨o,cap,hb⟩)
    · exact hs.zlt b hz
    · exact hs.blt hav hb
  · refine⟨hf.eos,hf.tape,hf.output,hf.size,hf.keep,fun b hb=>.inl (hf.z0 b hb),?_,?_,by show os.length≤os2.length;simp[os2];exact hf.len,?_⟩
    · rintro b (hz | ⟨o,cap,hb⟩)
      · exact hf.z1 b hz
      · exact .inr (hf.own b ⟨id,o,cap,hav,hb⟩)
    · rintro b ⟨i,o,c',hi,hb⟩
      exact hf.own b ⟨i,o,c',(hlive i hi).1,hb⟩
    · intro i hi hl
      obtain ⟨h1,x,x',hx,hx',hk⟩:=hf.old i hi (hlive i hl).1
      have hl':Live os2 i:=hl
      obtain ⟨o,ho2,hg2⟩:=hl'
      refine⟨h1,x,o,hx,ho2,?_⟩
      rw[hget] at ho2
      split at ho2
      · simp at ho2;exact absurd ho2.symm hg2
      · rw[hx'] at ho2
        simp only[Option.some.injEq] at ho2
        subst ho2;exact hk
end Go.Am

