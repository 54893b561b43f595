import Derived.Test.YtkmfgcbdnijgeaaGreatX06
import Derived.Laws.IdiomRangeMap
set_option linter.unusedVariables false
set_option linter.unusedSimpArgs false
set_option linter.unnecessarySimpa false
set_option linter.unusedSectionVars false
set_option maxHeartbeats 64000000
set_option maxRecDepth 20000
namespace Go.Am
variable {P:Program} {N n0:Nat} {σ:St}
inductive PF where
  | nil
  | take (i:Nat) (t:PF)
  | both (i:Nat) (t:PF) (j:Nat) (u:PF)
  | three (i:Nat) (t:PF) (j:Nat) (u:PF) (k:Nat) (v:PF)
  | four (i:Nat) (t:PF) (j:Nat) (u:PF) (k:Nat) (v:PF) (l:Nat) (w:PF)
def PF.ok (ops:Array Oper) (qs:List Nat):PF→Nat→Array Bool→Bool
  | .nil,n,listed=>n == 0 && (Region.ready .any ops listed).isEmpty
  | .take _ _,0,_=>false
  | .take i t,n+1,listed=>takeOK ops qs listed i (depsOf ops i) && t.ok ops qs n (listed.setIfInBounds i true)
  | .both _ _ _ _,0,_=>false
  | .both i t j u,n+1,listed=>(Region.ready .any ops listed == [i,j]) && t.ok ops qs n (listed.setIfInBounds i true) && u.ok ops qs n (listed.setIfInBounds j true)
  | .three _ _ _ _ _ _,0,_=>false
  | .three i t j u k v,n+1,listed=>(Region.ready .any ops listed == [i,j,k]) && t.ok ops qs n (listed.setIfInBounds i true) && u.ok ops qs n (listed.setIfInBounds j true) && v.ok ops qs n (listed.setIfInBounds k true)
  | .four _ _ _ _ _ _ _ _,0,_=>false
  | .four i t j u k v l w,n+1,listed=>(Region.ready .any ops listed == [i,j,k,l]) && t.ok ops qs n (listed.setIfInBounds i true) && u.ok ops qs n (listed.setIfInBounds j true) && v.ok ops qs n (listed.setIfInBounds k true) && w.ok ops qs n (listed.setIfInBounds l true)
def planF4 (P:Program) (ops:Array Oper) (qs:List Nat):PF→(St→Prop)→St→Prop
  | .nil,K,σ=>K σ
  | .take i t,K,σ=>stepAt P ops qs i (planF4 P ops qs t K) σ
  | .both i t j u,K,σ=>stepAt P ops qs i (planF4 P ops qs t K) σ∧stepAt P ops qs j (planF4 P ops qs u K) σ
  | .three i t j u k v,K,σ=>stepAt P ops qs i (planF4 P ops qs t K) σ∧stepAt P ops qs j (planF4 P ops qs u K) σ∧stepAt P ops qs k (planF4 P ops qs v K) σ
  | .four i t j u k v l w,K,σ=>stepAt P ops qs i (planF4 P ops qs t K) σ∧stepAt P ops qs j (planF4 P ops qs u K) σ∧stepAt P ops qs k (planF4 P ops qs v K) σ∧stepAt P ops qs l (planF4 P ops qs w K) σ
theorem planF_any {ops:Array Oper} {qs:List Nat} {K:St→Prop}:∀ (t:PF) (n:Nat) (listed:Array Bool) (σ:St),t.ok ops qs n listed=true→planF4 P ops qs t K σ→anyW P ops qs K n listed σ
  | .nil,n,listed,σ,h,hp=>by
    simp only[PF.ok,Bool.and_eq_true,beq_iff_eq,List.isEmpty_iff] at h
    obtain ⟨rfl,h⟩:=h
    exact⟨h,hp⟩
  | .take _ _,0,_,_,h,_=>by simp[PF.ok] at h
  | .take i t,n+1,listed,σ,h,hp=>by
    simp only[PF.ok,Bool.and_eq_true] at h
    exact take_ok h.1 (stepAt_mono (fun s hs=>planF_any t n _ s h.2 hs) hp)
  | .both _ _ _ _,0,_,_,h,_=>by simp[PF.ok] at h
  | .both i t j u,n+1,listed,σ,h,hp=>by
    simp only[PF.ok,Bool.and_eq_true,beq_iff_eq] at h
    obtain ⟨⟨h1,h2⟩,h3⟩:=h
    refine⟨fun e=>by rw[h1] at e;simp at e,fun k hk=>?_⟩
    rw[h1] at hk
    simp only[List.mem_cons,List.not_mem_nil,or_false] at hk
    rcases hk with rfl | rfl
    · exact stepAt_mono (fun s hs=>planF_any t n _ s h2 hs) hp.1
    · exact stepAt_mono (fun s hs=>planF_any u n _ s h3 hs) hp.2
  | .three _ _ _ _ _ _,0,_,_,h,_=>by simp[PF.ok] at h
  | .three i t j u k v,n+1,listed,σ,h,hp=>by
    simp only[PF.ok,Bool.and_eq_true,beq_iff_eq] at h
    obtain ⟨⟨⟨h1,h2⟩,h3⟩,h4⟩:=h
    refine⟨fun e=>by rw[h1] at e;simp at e,fun x hk=>?_⟩
    rw[h1] at hk
    simp only[List.mem_cons,List.not_mem_nil,or_false] at hk
    rcases hk with rfl | rfl | rfl
    · exact stepAt_mono (fun s hs=>planF_any t n _ s h2 hs) hp.1
    · exact stepAt_mono (fun s hs=>planF_any u n _ s h3 hs) hp.2.1
    · exact stepAt_mono (fun s hs=>planF_any v n _ s h4 hs) hp.2.2
  | .four _ _ _ _ _ _ _ _,0,_,_,h,_=>by simp[PF.ok] at h
  | .four i t j u k v l w,n+1,listed,σ,h,hp=>by
    simp only[PF.ok,Bool.and_eq_true,beq_iff_eq] at h
    obtain ⟨⟨⟨⟨h1,h2⟩,h3⟩,h4⟩,h5⟩:=h
    refine⟨fun e=>by rw[h1] at e;simp at e,fun x hk=>?_⟩
    rw[h1] at hk
    simp only[List.mem_cons,List.not_mem_nil,or_false] at hk
    rcases hk with rfl | rfl | rfl | rfl
    · exact stepAt_mono (fun s hs=>planF_any t n _ s h2 hs) hp.1
    · exact stepAt_mono (fun s hs=>planF_any u n _ s h3 hs) hp.2.1
    · exact stepAt_mono (fun s hs=>planF_any v n _ s h4 hs) hp.2.2.1
    · exact stepAt_mono (fun s hs=>planF_any w n _ s h5 hs) hp.2.2.2
theorem W_drawF {id:Nat} {ops:Array Oper} {Q:Exit→St→Prop} (qs:List Nat) (t:PF) (hm:P.follows .mixedOrders=true) (hd:dstOK N ops=true) (ht:t.ok ops qs ops.size (Array.replicate ops.size false)=true)
    (h:planF4 P ops qs t (Q .normal) σ):W P N n0 (.region id ops true) Q σ :=
  W_region_any qs hm hd (planF_any t _ _ σ ht h)
section
variable {ops:Array Oper} {qs:List Nat} {K:St→Prop} {i j k l:Nat} {t u v w:PF}
theorem planF_nil:planF4 P ops qs .nil K σ=K σ:=rfl
theorem planF_take:planF4 P ops qs (.take i t) K σ=stepAt P ops qs i (planF4 P ops qs t K) σ:=rfl
theorem planF_both:planF4 P ops qs (.both i t j u) K σ=(stepAt P ops qs i (planF4 P ops qs t K) σ∧stepAt P ops qs j (planF4 P ops qs u K) σ):=rfl
theorem planF_three:planF4 P ops qs (.three i t j u k v) K σ=(stepAt P ops qs i (planF4 P ops qs t K) σ∧stepAt P ops qs j (planF4 P ops qs u K) σ∧stepAt P ops qs k (planF4 P ops qs v K) σ):=rfl
theorem planF_four:planF4 P ops qs (.four i t j u k v l w) K σ=(stepAt P ops qs i (planF4 P ops qs t K) σ∧stepAt P ops qs j (planF4 P ops qs u K) σ∧stepAt P ops qs k (planF4 P ops qs v K) σ∧stepAt P ops qs l (planF4 P ops qs w K) σ):=rfl
end
theorem Fc:type_of% @planF_nil∧type_of% @planF_take∧type_of% @planF_both∧type_of% @planF_three∧type_of% @planF_four:=⟨@planF_nil,@planF_take,@planF_both,@planF_three,@planF_four⟩
end Go.Am
namespace Go.Am
variable {P:Program} {N n0:Nat} {σ:St}
theorem opGm_load (dst:Option Tmp) (t:TypeId) (a:Operand) (tt:TypeId) (p:String) (af:Array Edge) (g:Option (Nat × Bool)) (K:St→Prop):opGm true P ⟨dst,.load t a,tt,p,af,g⟩ σ K=loadQ P t dst K σ (ev σ a):=rfl
theorem Lq:type_of% @opGm_load∧type_of% @loadQ.eq_1:=⟨@opGm_load,@loadQ.eq_1⟩
theorem Turns.frzP (d id:Nat) {cells:List AV} (ho:σ.objs[id]?=some (.var cells)) (hd:σ.env d=.ptr id 0 0) (hfz:∀ v∈cells,(∃ x,v=.lit x)∨∃ s r,v=.tree s r):Turns n0 σ ⟨upd σ.env d (.taddr cells),σ.objs.set id .gone⟩:=by
  intro os γ0 γ _ hs hf
  have hidl:id<σ.objs.length:=(List.getElem?_eq_some_iff.1 ho).1
  let γ':Cx:={ γ with Z:=fun b=>γ.Z b∨∃ o cap,γ.blk id=some (b,o,cap) }
  let os2:=σ.objs.set id .gone
  have hget:∀ i,os2[i]?=if i=id then some .gone else σ.objs[i]?:=by
    intro i
    show (σ.objs.set id _)[i]?=_
    rw[List.getElem?_set]
    by_cases h1:i=id
    · subst h1;simp[hidl]
    · simp[Ne.symm h1,h1]
  have hR:∀ v cv,RelV σ.objs γ.w γ.Z γ.blk v cv→RelV os2 γ'.w γ'.Z γ'.blk v cv:=fun v cv hv =>
    hv.mono (fun b hb=>⟨.inl hb,rfl⟩) (fun i o hi=>by
      rw[hget]
      by_cases h1:i=id
      · left;rw[if_pos h1]
      · rw[if_neg h1]
        by_cases hg:o=.gone
        · subst hg;exact .inl hi
        · exact .inr ⟨rfl,o,hi,Ob.like_refl hg⟩)
  have hlive:∀ i,Live os2 i→Live σ.objs i∧i≠id:=by
    rintro i ⟨o,hi,hg⟩
    rw[hget] at hi
    split at hi
    · simp at hi;exact absurd hi.symm hg
    · rename_i h2;exact⟨⟨o,hi,hg⟩,h2⟩
  have hav:Live σ.objs id:=⟨_,ho,by simp⟩
  obtain ⟨b,cap,cur,t,h1,h2,h3,h4⟩:=hs.obs _ _ ho
  have hsd:=hs.slots d
  rw[hd] at hsd
  have hslot:RelV os2 γ'.w γ'.Z γ'.blk (.taddr cells) (γ.tmps.getD d Go.undef):=by
    generalize γ.tmps.getD d Go.undef=cv at hsd
    cases hsd with
    | frz _ _ h=>cases h
    | deadPtr _ _ _ _ h=>rw[ho] at h;simp at h
    | ptrV _ _ b2 cap2 cells2 h hb =>
      rw[h1] at hb
      simp only[Option.some.injEq,Prod.mk.injEq] at hb
      obtain ⟨rfl,_,_⟩:=hb
      refine .taddr cells b 0 (fun j=>cur.getD j Go.undef) (.inr ⟨0,cap,h1⟩) (fun j x hx=>?_) (fun j x hx=>?_)
      · rw[Nat.zero_add]
        exact cell_getD h2 (by rw[h3];exact (List.getElem?_eq_some_iff.1 hx).1)
      · have hfr:Frz σ (fun y=>y≠id) x x:=by
          rcases hfz x (List.mem_of_getElem? hx) with ⟨v,rfl⟩ | ⟨s,r,rfl⟩
          · exact .lit v
          · exact .tree s r
        exact hfr.treeR hs (γc:=γ') (fun b hb=>.inl hb) rfl (fun x b o cap hid _ hb=>.inr ⟨o,cap,by rw[show id=x by simpa using (Decidable.not_not.1 hid).symm];exact hb⟩) _ (h4 j x hx)
    | ptrA _ _ _ _ _ _ _ _ h=>rw[ho] at h;simp at h
  refine⟨γ',rfl,rfl,⟨fun k=>?_,?_,fun i j b o c o' c' hi hj=>hs.inj i j b o c o' c' (hlive i hi).1 (hlive j hj).1,?_,?_⟩,?_⟩
  · show RelV os2 γ'.w γ'.Z γ'.blk (upd σ.env d (.taddr cells) k) (γ.tmps.getD k Go.undef)
    simp only[upd]
    split
    · rename_i e;subst e;exact hslot
    · exact hR _ _ (hs.slots k)
  · intro i o hi
    have hi':os2[i]?=some o:=hi
    rw[hget] at hi'
    split at hi'
    · simp only[Option.some.injEq] at hi';subst hi';trivial
    · by_cases hg:o=.gone
      · subst hg;trivial
      · exact (hs.obs i o hi').mono hR rfl (fun _ _ _ _=>rfl)
  · rintro b ⟨i,o,c',hi,hb⟩ (hz | ⟨o',cap,hb'⟩)
    · exact hs.nz b ⟨i,o,c',(hlive i hi).1,hb⟩ hz
    · exact (hlive i hi).2 (hs.inj i id b o c' o' cap (hlive i hi).1 hav hb hb')
  · rintro b (hz | ⟨o,cap,hb⟩)
    · exact hs.zlt b hz
    · exact hs.blt hav hb
  · refine⟨hf.eos,hf.tape,hf.output,hf.size,hf.keep,fun b hb=>.inl (hf.z0 b hb),?_,?_,by show os.length≤os2.length;simp[os2];exact hf.len,?_⟩
    · rintro b (hz | ⟨o,cap,hb⟩)
      · exact hf.z1 b hz
      · exact .inr (hf.own b ⟨id,o,cap,hav,hb⟩)
    · rintro b ⟨i,o,c',hi,hb⟩
      exact hf.own b ⟨i,o,c',(hlive i hi).1,hb⟩
    · intro i hi hl
      obtain ⟨h1,x,x',hx,hx',hk⟩:=hf.old i hi (hlive i hl).1
      have hl':Live os2 i:=hl
      obtain ⟨o,ho2,hg2⟩:=hl'
      refine⟨h1,x,o,hx,ho2,?_⟩
      rw[hget] at ho2
      split at ho2
      · simp at ho2;exact absurd ho2.symm hg2
      · rw[hx'] at ho2
        simp only[Option.some.injEq] at ho2
        subst ho2;exact hk
end Go.Am
namespace Go.Am
variable {P:Program} {N n0:Nat} {σ:St}
inductive Gh where
  | map (ents:List (Value × Value))
  | iter (mb since:Nat) (seen:List Nat)
def mkEs (ents:List (Value × Value)):Array MapEntry:=(ents.mapIdx fun i p=>(⟨p.1,p.2,i⟩:MapEntry)).toArray
def Gh.At (w:World) (b:Nat):Gh→Prop
  | .map ents=>w.heap[b]?=some (.map (mkEs ents) ents.length)
  | .iter mb since seen=>w.heap[b]?=some (.mapIter (some mb) since seen.toArray since)
theorem Gh.At.heap {w w':World} {b:Nat} {g:Gh} (h:g.At w b) (e:w'.heap[b]?=w.heap[b]?):g.At w' b:=by
  cases g<;>exact e.trans h
theorem Gh.At.lt {w:World} {b:Nat} {g:Gh} (h:g.At w b):b<w.heap.size:=by
  cases g<;>exact (Array.getElem?_eq_some_iff.1 h).1
abbrev Mem:=Nat→Option Gh
def updM (μ:Mem) (b:Nat) (g:Gh):Mem:=fun k=>if k=b then some g else μ k
theorem updM_same (μ:Mem) (b:Nat) (g:Gh):updM μ b g b=some g:=by simp[updM]
theorem updM_ne (μ:Mem) {b c:Nat} (g:Gh) (h:c≠b):updM μ b g c=μ c:=by simp[updM,h]
def noM:Mem:=fun _=>none
structure MemOK (μ:Mem) (os:List Ob) (γ0 γ:Cx):Prop where
  gh:∀ b g,μ b=some g→g.At γ.w b
  fresh:∀ b g,μ b=some g→γ0.w.heap.size≤b
  notZ:∀ b g,μ b=some g→¬ γ.Z b
  notO:∀ b g,μ b=some g→¬ Owned os γ.blk b
theorem MemOK.nil (os:List Ob) (γ0 γ:Cx):MemOK noM os γ0 γ:=⟨by simp[noM],by simp[noM],by simp[noM],by simp[noM]⟩
theorem MemOK.keep {μ:Mem} {os os':List Ob} {γ0 γ γ':Cx} (h:MemOK μ os γ0 γ) (hf:Fr os γ os' γ'):MemOK μ os' γ0 γ' :=
  ⟨fun b g hp=>(h.gh b g hp).heap (hf.keep _ (h.gh b g hp).lt (h.notO b g hp)),h.fresh,fun b g hp hz=>by
    rcases hf.z1 _ hz with h1 | h1 | h1
    · exact h.notZ b g hp h1
    · exact h.notO b g hp h1
    · have:=(h.gh b g hp).lt;omega,fun b g hp ho=>by
    rcases hf.own _ ho with h1 | h1
    · exact h.notO b g hp h1
    · have:=(h.gh b g hp).lt;omega⟩
theorem MemOK.le {μ μ':Mem} {os:List Ob} {γ0 γ:Cx} (h:MemOK μ os γ0 γ) (hl:∀ b g,μ' b=some g→μ b=some g):MemOK μ' os γ0 γ :=
  ⟨fun b g hp=>h.gh b g (hl b g hp),fun b g hp=>h.fresh b g (hl b g hp),fun b g hp=>h.notZ b g (hl b g hp),fun b g hp=>h.notO b g (hl b g hp)⟩
def OkM (N:Nat) (os:List Ob) (γ0:Cx) (σ:St) (μ:Mem) (a:Act) (w:World):Prop :=
  a.defers=[]∧a.tmps.size=N∧∃ γ,γ.w=w∧γ.tmps=a.tmps∧Sim σ γ∧Fr os γ0 σ.objs γ∧MemOK μ σ.objs γ0 γ
def WM (P:Program) (N n0:Nat) (c:Code) (Q:Exit→St→Mem→Prop) (σ:St) (μ:Mem):Prop :=
  ∀ (os:List Ob) (γ0:Cx) (a:Act) (w:World),os.length=n0→OkM N os γ0 σ μ a w→c.wp P (fun e a' w'=>∃ σ' μ',Q e σ' μ'∧OkM N os γ0 σ' μ' a' w') a w
variable {Q:Exit→St→Mem→Prop} {μ:Mem}
theorem WM_lift {c:Code} (h:W P N σ.objs.length c (fun e s=>Q e s μ) σ):WM P N n0 c Q σ μ:=by
  rintro os γ0 a w hn ⟨hdf,hsz,γ,rfl,ha,hs,hf,hm⟩
  refine wp_mono (h σ.objs γ a γ.w rfl ⟨hdf,hsz,γ,rfl,ha,hs,Fr.refl _ _⟩) ?_
  rintro e a' w' ⟨σ',hq,hdf',hsz',γ',rfl,ha',hs',hf'⟩
  exact⟨σ',μ,hq,hdf',hsz',γ',rfl,ha',hs',hf.trans hf',hm.keep hf'⟩
theorem WM_z {c:Code} {e:Exit} (hc:leafE c=some e) (h:Q e σ μ):WM P N n0 c Q σ μ:=by
  cases c<;>simp[leafE] at hc
  all_goals subst hc
  all_goals first
    | exact fun _ _ _ _ _ hok=>wp_skip ⟨σ,μ,h,hok⟩
    | exact fun _ _ _ _ _ hok=>wp_label ⟨σ,μ,h,hok⟩
    | exact fun _ _ _ _ _ hok=>wp_exit ⟨σ,μ,h,hok⟩
    | exact fun _ _ _ _ _ hok=>wp_ret ⟨σ,μ,h,hok⟩
theorem WM_seq {x y:Code} (Q1:Exit→St→Mem→Prop) (h:WM P N n0 x Q1 σ μ) (hn:∀ s m,Q1 .normal s m→WM P N n0 y Q s m) (he:∀ e s m,e≠.normal→Q1 e s m→Q e s m):WM P N n0 (.seq x y) Q σ μ:=by
  intro os γ0 a w hl hok
  refine wp_seq (wp_mono (h os γ0 a w hl hok) ?_)
  rintro e a' w' ⟨σ',μ',h1,h2⟩
  cases e with
  | normal=>exact hn _ _ h1 os γ0 a' w' hl h2
  | exit id=>exact⟨σ',μ',he _ _ _ (by simp) h1,h2⟩
  | goto l=>exact⟨σ',μ',he _ _ _ (by simp) h1,h2⟩
  | ret=>exact⟨σ',μ',he _ _ _ (by simp) h1,h2⟩
  | panic c=>exact⟨σ',μ',he _ _ _ (by simp) h1,h2⟩
  | outgrown=>exact⟨σ',μ',he _ _ _ (by simp) h1,h2⟩
theorem WM_k {x y:Code} (h:∀ Q':Exit→St→Mem→Prop,(∀ s m,WM P N n0 y Q s m→Q' .normal s m)→(∀ e s m,isN e=false→Q e s m→Q' e s m)→WM P N n0 x Q' σ μ):WM P N n0 (.seq x y) Q σ μ :=
  WM_seq (fun e s m=>(e=.normal→WM P N n0 y Q s m)∧(e≠.normal→Q e s m)) (h _ (fun s m h=>⟨fun _=>h,fun h=>absurd rfl h⟩) (fun e s m he h=>⟨fun e2=>absurd e2 (isN_ne he),fun _=>h⟩)) (fun s m h=>h.1 rfl) (fun e s m he h=>h.2 he)
theorem WM_cond {c:Operand} {x y:Code} {t:Bool} (hc:ev σ c=.lit (.bool t)) (ht:t=true→WM P N n0 x Q σ μ) (hf:t=false→WM P N n0 y Q σ μ):WM P N n0 (.cond c x y) Q σ μ:=by
  intro os γ0 a w hn hok
  have hcv:a.eval c=.bool t:=by
    obtain ⟨_,_,γ,rfl,ha,hs,_⟩:=hok
    have:=ev_rel hs ha c
    rw[hc] at this
    exact this.lit_inv
  exact wp_cond_split hcv (fun h=>ht h os γ0 a w hn hok) (fun h=>hf h os γ0 a w hn hok)
theorem WM_block {id:Nat} {c:Code} (h:∀ Q':Exit→St→Mem→Prop,(∀ s m,Q .normal s m→Q' .normal s m)→(∀ s m,Q .normal s m→Q' (.exit id) s m)→(∀ e s m,isX id e=false→Q e s m→Q' e s m)→WM P N n0 c Q' σ μ):WM P N n0 (.block id c) Q σ μ:=by
  intro os γ0 a w hn hok
  have h':=h (fun e s m=>(e=.exit id→Q .normal s m)∧(e≠.exit id→Q e s m)) (fun s m h=>⟨fun e=>by simp at e,fun _=>h⟩) (fun s m h=>⟨fun _=>h,fun e=>absurd rfl e⟩) (fun e s m he h=>⟨fun e2=>absurd e2 (isX_ne he).2,fun _=>h⟩)
  refine wp_block (wp_mono (h' os γ0 a w hn hok) ?_)
  rintro e a' w' ⟨σ',μ',h1,h2⟩
  cases e with
  | exit id' =>
    simp only[Exit.inBlock]
    split
    · rename_i he;exact⟨σ',μ',h1.1 (by rw[he]),h2⟩
    · rename_i he;exact⟨σ',μ',h1.2 (fun e=>he (by simpa using e)),h2⟩
  | normal=>exact⟨σ',μ',h1.2 (by simp),h2⟩
  | goto l=>exact⟨σ',μ',h1.2 (by simp),h2⟩
  | ret=>exact⟨σ',μ',h1.2 (by simp),h2⟩
  | panic c=>exact⟨σ',μ',h1.2 (by simp),h2⟩
  | outgrown=>exact⟨σ',μ',h1.2 (by simp),h2⟩
def TurnsM (n0:Nat) (σ σ':St):Prop:=∀ (os:List Ob) (γ0 γ:Cx),os.length=n0→Sim σ γ→Fr os γ0 σ.objs γ →
  ∃ γ',γ'.w=γ.w∧γ'.tmps=γ.tmps∧Sim σ' γ'∧Fr os γ0 σ'.objs γ'∧(∀ b,γ'.Z b→γ.Z b∨Owned σ.objs γ.blk b)∧∀ b,Owned σ'.objs γ'.blk b→Owned σ.objs γ.blk b
theorem TurnsM.okM {σ':St} (h:TurnsM n0 σ σ') {os:List Ob} {γ0:Cx} {a:Act} {w:World} (hn:os.length=n0) (hok:OkM N os γ0 σ μ a w):OkM N os γ0 σ' μ a w:=by
  obtain ⟨h1,h2,γ,rfl,h3,h4,h5,h6⟩:=hok
  obtain ⟨γ',e1,e2,e3,e4,e5,e6⟩:=h os γ0 γ hn h4 h5
  refine⟨h1,h2,γ',e1,e2.trans h3,e3,e4,fun b g hp=>(h6.gh b g hp).heap (by rw[e1]),h6.fresh,fun b g hp hz=>?_,fun b g hp ho=>h6.notO b g hp (e6 _ ho)⟩
  rcases e5 _ hz with h | h
  · exact h6.notZ b g hp h
  · exact h6.notO b g hp h
theorem WM_turn {c:Code} {σ':St} (h:TurnsM n0 σ σ') (hw:WM P N n0 c Q σ' μ):WM P N n0 c Q σ μ :=
  fun os γ0 a w hn hok=>hw os γ0 a w hn (h.okM hn hok)
theorem TurnsM.slots (l:List (Nat × AV)) (os:List Ob) (ho:σ.objs=os) (h:Has σ.env l):TurnsM n0 σ ⟨slots l,os⟩:=by
  subst ho
  intro os γ0 γ _ hs hf
  refine⟨γ,rfl,rfl,⟨fun k=>?_,hs.obs,hs.inj,hs.nz,hs.zlt⟩,hf,fun _ h=>.inl h,fun _ h=>h⟩
  rcases slots_or l k with h' | ⟨p,hp,rfl,h'⟩
  · show RelV _ _ _ _ (Am.slots l k) _
    rw[h'];exact .undef _
  · show RelV _ _ _ _ (Am.slots l p.1) _
    rw[h',← h.mem p hp];exact hs.slots p.1
theorem TurnsM.se (sel:List Nat) (snap:Bool) {l:List (Nat × AV)} {co:List Ob} (ho:SelO (rho σ.objs.length sel) σ.objs sel co) (h:HasR (ArgR σ (kept sel co) (rho σ.objs.length sel) snap) σ.env l)
    (hnd:sel.Nodup:=by decide) (hn:n0≤sel.length:=by decide) (hid:∀ i,i<n0→sel.getD i 0=i:=by decide):TurnsM n0 σ ⟨Am.slots l,co⟩:=by
  intro os γ0 γ hos hs hf
  obtain ⟨h1,h2,h3⟩:=ho.spec
  obtain ⟨γ',a1,a2,a3,a4⟩:=hs.select sel snap co hnd h1 h2 h3 (Am.slots l) γ.tmps (fun k=>by
    rcases slots_or l k with h' | ⟨p,hp,rfl,h'⟩
    · exact .inl h'
    · right;rw[h'];exact⟨_,h.mem p hp,hs.slots p.1⟩)
  obtain ⟨b1,b2,b3,b4⟩:=a4
  refine⟨γ',a1,a2,a3,hf.select (by omega) h1 (fun i hi=>hid i (by omega)) a1 ⟨b1,b2,b3,b4⟩,b3,?_⟩
  rintro b ⟨i,o,c,hi,hb⟩
  have hlt:=hi.lt
  rw[b1 i hlt] at hb
  exact⟨_,o,c,(b4 i hi).1,hb⟩
theorem WM_loop {α:Type} {c:Code} (S:α→St) (I:α→Mem→Prop) (M:α→Nat) (x0:α) (hI:I x0 μ) (h0:TurnsM n0 σ (S x0))
    (round:∀ x m0,I x m0→∀ Q':Exit→St→Mem→Prop,(∀ s m y,I y m→M y<M x→TurnsM n0 s (S y)→Q' .normal s m)→(∀ e s m,isN e=false→Q e s m→Q' e s m)→WM P N n0 c Q' (S x) m0):WM P N n0 (.loop c) Q σ μ:=by
  refine WM_turn h0 ?_
  intro os γ0 a w hn hok b k cs
  have key:∀ n x m0 a w,M x=n→I x m0→OkM N os γ0 (S x) m0 a w →
      ∃ e a' w',(∃ σ' μ',Q e σ' μ'∧OkM N os γ0 σ' μ' a' w')∧Arrives P (lone (b.at a (.code c::.inLoop c::k)) cs w) b k cs e a' w':=by
    intro n
    induction n using Nat.strongRecOn with
    | _ n ih =>
      intro x m0 a w hm hI hok
      have hr:=round x m0 hI (fun e s m=>(e=.normal→∃ y,I y m∧M y<M x∧TurnsM n0 s (S y))∧(e≠.normal→Q e s m)) (fun s m y h1 h2 h3=>⟨fun _=>⟨y,h1,h2,h3⟩,fun h=>absurd rfl h⟩)
        (fun e s m he h=>⟨fun e2=>absurd e2 (isN_ne he),fun _=>h⟩)
      obtain ⟨e,a₁,w₁,⟨σ',μ',hq,hok'⟩,harr⟩:=hr os γ0 a w hn hok b (.inLoop c::k) cs
      cases e with
      | normal =>
        obtain ⟨y,hIy,hlt,ht⟩:=hq.1 rfl
        obtain ⟨e₂,a₂,w₂,hq₂,harr₂⟩:=ih (M y) (by omega) y _ a₁ w₁ rfl hIy (ht.okM hn hok')
        exact⟨e₂,a₂,w₂,hq₂,.of_steps (Steps.trans harr (.one step_inLoop)) harr₂⟩
      | exit id=>exact⟨_,a₁,w₁,⟨σ',μ',hq.2 (by simp),hok'⟩,.pass (x:=.inLoop c) rfl (fun _ _=>.inl (by simp)) harr⟩
      | goto l=>exact⟨_,a₁,w₁,⟨σ',μ',hq.2 (by simp),hok'⟩,.pass (x:=.inLoop c) rfl (fun _ _=>.inl (by simp)) harr⟩
      | ret=>exact⟨_,a₁,w₁,⟨σ',μ',hq.2 (by simp),hok'⟩,.pass (x:=.inLoop c) rfl (fun _ _=>.inl (by simp)) harr⟩
      | panic ch=>exact⟨_,a₁,w₁,⟨σ',μ',hq.2 (by simp),hok'⟩,.pass (x:=.inLoop c) rfl (fun _ _=>.inl (by simp)) harr⟩
      | outgrown=>exact⟨_,a₁,w₁,⟨σ',μ',hq.2 (by simp),hok'⟩,.pass (x:=.inLoop c) rfl (fun _ _=>.inl (by simp)) harr⟩
  obtain ⟨e,a',w',hq,harr⟩:=key _ x0 _ a w rfl hI hok
  exact⟨e,a',w',hq,.of_steps (.one step_loop) harr⟩
theorem W_of_WM {c:Code} {Q:Exit→St→Prop} (h:WM P N n0 c (fun e s _=>Q e s) σ noM):W P N n0 c Q σ:=by
  rintro os γ0 a w hn ⟨h1,h2,γ,rfl,h3,h4,h5⟩
  refine wp_mono (h os γ0 a γ.w hn ⟨h1,h2,γ,rfl,h3,h4,h5,MemOK.nil _ _ _⟩) ?_
  rintro e a' w' ⟨σ',μ',hq,k1,k2,γ',rfl,k3,k4,k5,k6⟩
  exact⟨σ',hq,k1,k2,γ',rfl,k3,k4,k5⟩
end Go.Am
namespace Go.Am
variable {P:Program} {N n0:Nat} {σ:St}
def iE (L:List (Int × Value)):List (Value × Value):=L.map fun p=>(.int .i64 p.1,p.2)
def setI (x:Int) (v:Value):List (Int × Value)→List (Int × Value)
  | []=>[(x,v)]
  | p::r=>if p.1=x then (x,v)::r else p::setI x v r
def getI (x:Int):List (Int × Value)→Option Value
  | []=>none
  | p::r=>if p.1=x then some p.2 else getI x r
def findIx (x:Int):List (Int × Value)→Nat→Option (Nat × Value)
  | [],_=>none
  | p::r,i=>if p.1=x then some (i,p.2) else findIx x r (i+1)
theorem findIx_get (x:Int):∀ (L:List (Int × Value)) (i:Nat),(findIx x L i).map (·.2)=getI x L
  | [],_=>rfl
  | p::r,i=>by
    rw[findIx,getI]
    split
    · rfl
    · exact findIx_get x r (i+1)
theorem findIx_none (x:Int) (v:Value):∀ (L:List (Int × Value)) (i:Nat),findIx x L i=none→setI x v L=L++[(x,v)]
  | [],_,_=>rfl
  | p::r,i,h=>by
    rw[findIx] at h
    split at h
    · cases h
    · rename_i hp
      rw[setI,if_neg hp,findIx_none x v r (i+1) h];rfl
theorem findIx_some (x:Int) (v:Value):∀ (L:List (Int × Value)) (i j:Nat) (u:Value),findIx x L i=some (j,u)→i≤j∧L[j - i]?=some (x,u)∧setI x v L=L.set (j - i) (x,v)
  | [],_,_,_,h=>by cases h
  | p::r,i,j,u,h=>by
    rw[findIx] at h
    split at h
    · rename_i hp
      simp only[Option.some.injEq,Prod.mk.injEq] at h
      obtain ⟨rfl,rfl⟩:=h
      refine⟨Nat.le_refl _,?_,?_⟩
      · rw[Nat.sub_self];simp[← hp]
      · rw[Nat.sub_self,setI,if_pos hp];rfl
    · rename_i hp
      obtain ⟨h1,h2,h3⟩:=findIx_some x v r (i+1) j u h
      have e:j - i=(j - (i+1))+1:=by omega
      refine⟨by omega,?_,?_⟩
      · rw[e,List.getElem?_cons_succ];exact h2
      · rw[e,setI,if_neg hp,h3];rfl
theorem mkEs_toList (ents:List (Value × Value)):(mkEs ents).toList=ents.mapIdx fun i p=>(⟨p.1,p.2,i⟩:MapEntry):=by simp[mkEs]
theorem findNow_gen {k:TypeDesc} (hk:k=.int .i64) (x:Int):∀ (L:List (Int × Value)) (f:Nat→Nat) (i:Nat),Instr.findNow k (.int .i64 x) ((iE L).mapIdx fun i p=>(⟨p.1,p.2,f i⟩:MapEntry)) i=some (findIx x L i)
  | [],_,_=>rfl
  | p::r,f,i=>by
    subst hk
    simp only[iE,List.map_cons,List.mapIdx_cons,Instr.findNow,Instr.sameNow,if_true,findIx]
    by_cases h:p.1=x
    · rw[if_pos h];subst h;simp
    · rw[if_neg h]
      have:(x == p.1)=false:=by simpa using fun e=>h e.symm
      rw[this]
      simpa [iE] using findNow_gen rfl x r (fun j=>f (j+1)) (i+1)
theorem run_findKey {kt:TypeId} (hk:P.underlying kt=some (.int .i64)) (x:Int) (L:List (Int × Value)) (w:World):(Instr.findKey kt (.int .i64 x) (mkEs (iE L)).toList).run P w=.ok (findIx x L 0) w:=by
  have h:=findNow_gen (k:=.int .i64) rfl x L id 0
  simp only[id] at h
  simp[Instr.findKey,run_underlying hk,mkEs_toList,h]
theorem run_checkKey {kt:TypeId} (hk:P.underlying kt=some (.int .i64)) (e:Bool) (x:Int) (w:World):(Instr.checkKey e 10000 kt (.int .i64 x)).run P w=.ok () w:=by
  have h:∀ d:Nat,(Instr.checkKey e (d+1) kt (.int .i64 x)).run P w=.ok () w:=fun d=>by simp[Instr.checkKey,run_underlying hk]
  exact h 9999
theorem run_lookupI {t kt et:TypeId} (ht:P.underlying t=some (.map kt et)) (hk:P.underlying kt=some (.int .i64)) {z:Value} {w:World} (hz:(zeroValue et).run P w=.ok z w) {b n:Nat} {L:List (Int × Value)}
    (hb:w.heap[b]?=some (.map (mkEs (iE L)) n)) (x:Int):(Instr.lookup t (.map (some b)) (.int .i64 x) false).run P w=.ok ((getI x L).getD z) w:=by
  rw[← findIx_get x L 0]
  simp only[Instr.lookup,Sem.run_bind,run_underlying ht,MapKept.run_getObj_map hb,run_checkKey hk,run_findKey hk,Result.andThen_ok,Sem.run_pure]
  cases h:findIx x L 0 with
  | none=>simp[hz]
  | some q=>simp
theorem run_lookupN {t kt et:TypeId} (ht:P.underlying t=some (.map kt et)) (hk:P.underlying kt=some (.int .i64)) {z:Value} {w:World} (hz:(zeroValue et).run P w=.ok z w) (x:Int) :
    (Instr.lookup t (.map none) (.int .i64 x) false).run P w=.ok z w:=by
  have h:=run_findKey (P:=P) hk x [] w
  have e:(mkEs (iE [])).toList=(#[]:Array MapEntry).toList:=rfl
  rw[e] at h
  simp only[Instr.lookup,Sem.run_bind,run_underlying ht,run_checkKey hk,h,Result.andThen_ok,Sem.run_pure]
  simp[findIx,hz]
theorem mkEs_push (L:List (Value × Value)) (p:Value × Value):(mkEs L).push ⟨p.1,p.2,L.length⟩=mkEs (L++[p]):=by
  apply Array.toList_inj.1
  rw[Array.toList_push,mkEs_toList,mkEs_toList,List.mapIdx_append]
  simp
theorem mkEs_modify (L:List (Value × Value)) (i:Nat) (f:MapEntry→MapEntry) (p:Value × Value) (hf:∀ q,L[i]?=some q→f ⟨q.1,q.2,i⟩=⟨p.1,p.2,i⟩):(mkEs L).modify i f=mkEs (L.set i p):=by
  apply Array.ext_getElem?
  intro j
  rw[Array.getElem?_modify]
  simp only[mkEs,List.getElem?_toArray,List.getElem?_mapIdx,List.getElem?_set]
  by_cases h:i=j
  · subst h
    rw[if_pos rfl,if_pos rfl]
    cases hq:L[i]? with
    | none =>
      have:¬ i<L.length:=by
        have:=List.getElem?_eq_none_iff.1 hq;omega
      simp[this]
    | some q =>
      have:i<L.length:=(List.getElem?_eq_some_iff.1 hq).1
      simp[this,hf q hq]
  · rw[if_neg h,if_neg h]
theorem run_updateI {t kt et:TypeId} (ht:P.underlying t=some (.map kt et)) (hk:P.underlying kt=some (.int .i64)) {w:World} {b:Nat} {L:List (Int × Value)}
    (hb:w.heap[b]?=some (.map (mkEs (iE L)) L.length)) (x:Int) (v:Value) :
    (Instr.mapUpdate t (.map (some b)) (.int .i64 x) v).run P w=.ok () { w with heap:=w.heap.setIfInBounds b (.map (mkEs (iE (setI x v L))) (setI x v L).length) }:=by
  simp only[Instr.mapUpdate,Sem.run_bind,run_underlying ht,MapKept.run_getObj_map hb,run_checkKey hk,run_findKey hk,Result.andThen_ok]
  cases h:findIx x L 0 with
  | none =>
    have h2:=findIx_none x v L 0 h
    have e:=mkEs_push (iE L) (.int .i64 x,v)
    rw[show (iE L).length=L.length by simp[iE]] at e
    simp only[MapKept.run_setObj_map _ hb,e,h2,show iE (L++[(x,v)])=iE L++[(.int .i64 x,v)] by simp[iE],List.length_append,List.length_singleton]
  | some q =>
    obtain ⟨j,u⟩:=q
    obtain ⟨_,h2,h3⟩:=findIx_some x v L 0 j u h
    rw[Nat.sub_zero] at h2 h3
    have hkey:(((mkEs (iE L))[j]?).map (·.key)).getD (.int .i64 x)=.int .i64 x:=by
      simp[mkEs,iE,h2]
    have hsame:Instr.sameBits 10000 (.int .i64 x) (.int .i64 x)=true:=by simp[Instr.sameBits]
    have hst:(Instr.keyThatStays (.int .i64 x) (.int .i64 x)).run P w=.ok (.int .i64 x) w:=by simp[Instr.keyThatStays,hsame]
    have e:=mkEs_modify (iE L) j (fun e=>{ e with key:=.int .i64 x,val:=v }) (.int .i64 x,v) (fun q _=>rfl)
    have e2:(iE L).set j (.int .i64 x,v)=iE (setI x v L):=by rw[h3];simp[iE,List.map_set]
    simp only[hkey,Sem.run_bind,hst,Result.andThen_ok,MapKept.run_setObj_map _ hb]
    rw[e,e2,h3,List.length_set]
theorem run_rangeM {t kt et:TypeId} (ht:P.underlying t=some (.map kt et)) {w:World} {b n:Nat} {es:Array MapEntry} (hb:w.heap[b]?=some (.map es n)) :
    (Instr.range t (.map (some b))).run P w=.ok (.pointer (some ⟨w.heap.size,0,none⟩)) (w.alloc (.mapIter (some b) n #[] n)):=run_range_map w t kt et b es n ht hb
theorem mkEs_mem {ents:List (Value × Value)} {x:MapEntry} (h:x∈(mkEs ents).toList):x.born<ents.length∧ents[x.born]?=some (x.key,x.val):=by
  rw[mkEs_toList] at h
  obtain ⟨i,hi,rfl⟩:=List.mem_mapIdx.1 h
  exact⟨hi,by simp[hi]⟩
theorem run_nextM {w:World} {r b n:Nat} {seen:List Nat} {ents:List (Value × Value)} (hn:n=ents.length) (hr:w.heap[r]?=some (.mapIter (some b) n seen.toArray n)) (hb:w.heap[b]?=some (.map (mkEs ents) n)) (ty:TypeId) :
    ((∀ j<ents.length,j∈seen)∧(Instr.next (.pointer (some ⟨r,0,none⟩)) false ty).run P w=.ok (.tuple #[.bool false]) w) ∨
    ∃ j p d,ents[j]?=some p∧j ∉ seen∧(Instr.next (.pointer (some ⟨r,0,none⟩)) false ty).run P w=.ok (.tuple #[.bool true,p.1,p.2]) { w with heap:=w.heap.setIfInBounds r (.mapIter (some b) n (seen++[j]).toArray n),drawn:=d }:=by
  subst hn
  have hold:∀ x∈(mkEs ents).toList,x.born<ents.length:=fun x hx=>(mkEs_mem hx).1
  simp only[Instr.next,getObj,Sem.run_bind,Sem.run,hr,hb,Result.andThen,next_test_false seen.toArray (mkEs ents) ents.length ents.length hold (Nat.le_refl _),Bool.false_eq_true,if_false]
  have hL:∀ x,x∈((mkEs ents).filter fun e=>!seen.toArray.contains e.born).toList↔x∈(mkEs ents).toList∧x.born ∉ seen:=by
    intro x;simp
  have hmem:∀ x∈((mkEs ents).filter fun e=>!seen.toArray.contains e.born).toList,x.born<ents.length:=fun x hx=>hold x ((hL x).1 hx).1
  generalize (mkEs ents).filter (fun e=>!seen.toArray.contains e.born)=L at hmem hL ⊢
  have e1:L.filter (fun x=>decide (x.born<ents.length))=L:=Array.filter_eq_self.2 (fun x hx=>by simpa using hmem x (by simpa using hx))
  have e2:L.filter (fun x=>decide (x.born ≥ ents.length)) = #[]:=by
    rw[Array.filter_eq_empty_iff]
    intro x hx
    have:=hmem x (by simpa using hx)
    simp
    omega
  simp only[e1,e2,Array.append_empty]
  by_cases h0:L.size=0
  · left
    have:L = #[]:=Array.eq_empty_of_size_eq_zero h0
    subst this
    refine⟨fun j hj=>?_,?_⟩
    · cases hc:decide (j∈seen) with
      | true=>exact of_decide_eq_true hc
      | false =>
        have hns:=of_decide_eq_false hc
        have:=(hL ⟨(ents[j]).1,(ents[j]).2,j⟩).2 ⟨by rw[mkEs_toList];exact List.mem_mapIdx.2 ⟨j,hj,rfl⟩,hns⟩
        simp at this
    · simp[choose,Sem.run,Question.forced]
  · right
    have hne:L.isEmpty=false:=by simp[Array.isEmpty,h0]
    simp only[hne,Bool.false_eq_true,if_false,Array.empty_append,Array.size_map]
    have hch :∃(j:Nat) (d:Nat),j<L.size∧(choose (Question.mapNext L.size)).run P w=.ok j { w with drawn:=d }:=by
      by_cases hf:L.size≤1
      · exact⟨0,w.drawn,by omega,by simp[choose,Sem.run,Question.forced,hf]⟩
      · exact⟨_,w.drawn+1,Nat.mod_lt _ (by omega),by
          simp only[choose,Sem.run,Question.forced,decide_eq_true_eq,hf,if_false,Question.cut]
          rfl⟩
    obtain ⟨j,d,hj,hrun⟩:=hch
    have hx:=(hL L[j]).1 (by simp)
    obtain ⟨h1,h2⟩:=mkEs_mem hx.1
    refine⟨L[j].born,_,d,h2,hx.2,?_⟩
    simp only[hrun,Array.getElem?_map,Array.getElem?_eq_getElem hj,Option.map_some,Sem.run_bind,Result.andThen]
    simp only[setObj,Sem.run,hr,List.push_toArray]
    rfl
theorem run_entryM {w:World} {r b n j:Nat} {seen:List Nat} {ents:List (Value × Value)} {p:Value × Value} (hn:n=ents.length) (hr:w.heap[r]?=some (.mapIter (some b) n (seen++[j]).toArray n)) (hb:w.heap[b]?=some (.map (mkEs ents) n))
    (hp:ents[j]?=some p):(Instr.entry (.pointer (some ⟨r,0,none⟩))).run P w=.ok (.tuple #[p.1,p.2]) w:=by
  have hj:=(List.getElem?_eq_some_iff.1 hp).1
  have hm:(⟨p.1,p.2,j⟩:MapEntry)∈(mkEs ents).toList:=by
    rw[mkEs_toList]
    refine List.mem_mapIdx.2 ⟨j,hj,?_⟩
    rw[List.getElem?_eq_getElem hj] at hp
    simp only[Option.some.injEq] at hp
    rw[hp]
  have hnd:((mkEs ents).toList.map (·.born)).Nodup:=by
    rw[mkEs_toList]
    have:(ents.mapIdx fun i p=>(⟨p.1,p.2,i⟩:MapEntry)).map (·.born)=List.range ents.length:=by
      apply List.ext_getElem?
      intro i
      simp only[List.getElem?_map,List.getElem?_mapIdx]
      rcases Nat.lt_or_ge i ents.length with h | h
      · simp[h]
      · simp[h]
    rw[this]
    exact List.nodup_range
  have hf:(mkEs ents).find? (·.born == j)=some ⟨p.1,p.2,j⟩:=by rw[← Array.find?_toList];exact find_born ⟨p.1,p.2,j⟩ _ hnd hm
  simp only[Instr.entry,getObj,Sem.run_bind,Sem.run,hr,hb,Result.andThen,List.back?_toArray,List.getLast?_append,List.getLast?_singleton,Option.some_or,bne_self_eq_false,Bool.false_eq_true,if_false,hf]
  rfl
theorem eql_map_nil (w:World) (t kt et:TypeId) (a:Option Nat) (ht:P.underlying t=some (.map kt et)):(binOp .eql t (.map a) (.map none)).run P w=.ok (.bool a.isNone) w:=by
  have h:∀ d:Nat,(Op.equalIn (d+1) t (.map a) (.map none)).run P w=.ok a.isNone w:=fun d=>by
    cases a<;>simp[Op.equalIn,run_underlying ht]
  simp[binOp,Op.equal,Op.maxDepth,h]
theorem neq_map_nil (w:World) (t kt et:TypeId) (a:Option Nat) (ht:P.underlying t=some (.map kt et)):(binOp .neq t (.map a) (.map none)).run P w=.ok (.bool (!a.isNone)) w:=by
  have h:∀ d:Nat,(Op.equalIn (d+1) t (.map a) (.map none)).run P w=.ok a.isNone w:=fun d=>by
    cases a<;>simp[Op.equalIn,run_underlying ht]
  simp[binOp,Op.equal,Op.maxDepth,h]
end Go.Am
namespace Go.Am
variable {P:Program} {N n0:Nat} {σ:St}
theorem Sim.otherB {γ:Cx} (h:Sim σ γ) {w':World} {b:Nat} (hz:¬ γ.Z b) (ho:¬ Owned σ.objs γ.blk b) (hk:∀ k,k≠b→k<γ.w.heap.size→w'.heap[k]?=γ.w.heap[k]?) (hsz:γ.w.heap.size≤w'.heap.size):Sim σ { γ with w:=w' }:=by
  have hR:∀ v cv,RelV σ.objs γ.w γ.Z γ.blk v cv→RelV σ.objs w' γ.Z γ.blk v cv:=fun v cv hv =>
    hv.mono (fun k hkz=>⟨hkz,hk k (fun e=>hz (e ▸ hkz)) (h.zlt k hkz)⟩) (fun i x hx=>by
      by_cases hgo:x=.gone
      · subst hgo;exact .inl hx
      · exact .inr ⟨rfl,x,hx,Ob.like_refl hgo⟩)
  refine⟨fun k=>hR _ _ (h.slots k),fun i o hi=>?_,h.inj,h.nz,fun k hk'=>Nat.lt_of_lt_of_le (h.zlt k hk') hsz⟩
  by_cases hgo:o=.gone
  · subst hgo;trivial
  · exact (h.obs i o hi).mono hR rfl (fun k x c hb=>hk k (fun e=>ho ⟨i,x,c,⟨o,hi,hgo⟩,e ▸ hb⟩) (h.blt ⟨o,hi,hgo⟩ hb))
theorem Fr.otherB {os:List Ob} {γ0 γ:Cx} (h:Fr os γ0 σ.objs γ) {w':World} {b:Nat} (hb:γ0.w.heap.size≤b) (hk:∀ k,k≠b→k<γ.w.heap.size→w'.heap[k]?=γ.w.heap[k]?) (hsz:γ.w.heap.size≤w'.heap.size)
    (h1:w'.os=γ.w.os) (h2:w'.tape=γ.w.tape) (h3:w'.output=γ.w.output):Fr os γ0 σ.objs { γ with w:=w' } :=
  ⟨h1.trans h.eos,h2.trans h.tape,h3.trans h.output,Nat.le_trans h.size hsz,fun k hk' ho=>(hk k (by omega) (Nat.lt_of_lt_of_le hk' h.size)).trans (h.keep k hk' ho),h.z0,h.z1,h.own,h.len,h.old⟩
theorem MemOK.otherB {μ:Mem} {os:List Ob} {γ0 γ:Cx} (h:MemOK μ os γ0 γ) {w':World} {b:Nat} {g:Gh} (hz:¬ γ.Z b) (ho:¬ Owned os γ.blk b) (hb:γ0.w.heap.size≤b) (hk:∀ k,k≠b→k<γ.w.heap.size→w'.heap[k]?=γ.w.heap[k]?)
    (hg:g.At w' b):MemOK (updM μ b g) os γ0 { γ with w:=w' }:=by
  have one:∀ k g',updM μ b g k=some g'→(k=b∧g'=g)∨(k≠b∧μ k=some g'):=fun k g' h'=>by
    by_cases e:k=b
    · subst e;rw[updM_same] at h';exact .inl ⟨rfl,by simpa using h'.symm⟩
    · rw[updM_ne μ g e] at h';exact .inr ⟨e,h'⟩
  refine⟨fun k g' h'=>?_,fun k g' h'=>?_,fun k g' h'=>?_,fun k g' h'=>?_⟩<;>rcases one k g' h' with ⟨rfl,rfl⟩ | ⟨e,h2⟩
  · exact hg
  · exact (h.gh k g' h2).heap (hk k e (h.gh k g' h2).lt)
  · exact hb
  · exact h.fresh k g' h2
  · exact hz
  · exact h.notZ k g' h2
  · exact ho
  · exact h.notO k g' h2
variable {μ:Mem}
def keysI (P:Program) (t:TypeId):Prop:=∃ kt et,P.underlying t=some (.map kt et)∧P.underlying kt=some (.int .i64)
def isMapT (P:Program) (t:TypeId):Prop:=∃ kt et,P.underlying t=some (.map kt et)
def keysZ (P:Program) (t:TypeId) (z:Value):Prop:=∃ kt et,P.underlying t=some (.map kt et)∧P.underlying kt=some (.int .i64)∧∀ w:World,(zeroValue et).run P w=.ok z w
def binM (P:Program) (o:Oper) (op:BinOp) (t:TypeId) (x y:AV) (σ:St) (μ:Mem) (K:St→Mem→Prop):Prop :=
  match x with
  | .lit (.map a)=>isMapT P t∧y=.lit (.map none)∧match op with | .eql=>K (σ.put o.dst (.lit (.bool a.isNone))) μ | .neq=>K (σ.put o.dst (.lit (.bool (!a.isNone)))) μ | _=>False
  | _=>opG P o σ fun s=>K s μ
def lenM (P:Program) (o:Oper) (args:List AV) (ats:List TypeId) (σ:St) (μ:Mem) (K:St→Mem→Prop):Prop :=
  match args with
  | [.lit (.map (some b))]=>∃ t ents,ats=[t]∧isMapT P t∧μ b=some (.map ents)∧K (σ.put o.dst (.lit (.int .i64 (ents.length:Nat)))) μ
  | _=>opG P o σ fun s=>K s μ
def opM (P:Program) (o:Oper) (σ:St) (μ:Mem) (K:St→Mem→Prop):Prop :=
  match o.op with
  | .makeMap _ none=>∀ b,μ b=none→K (σ.put o.dst (.lit (.map (some b)))) (updM μ b (.map []))
  | .lookup t x i false=>∃ n z,ev σ i=.lit (.int .i64 n)∧keysZ P t z ∧
      ((ev σ x=.lit (.map none)∧K (σ.put o.dst (.lit z)) μ)∨∃ b L,ev σ x=.lit (.map (some b))∧μ b=some (.map (iE L))∧K (σ.put o.dst (.lit ((getI n L).getD z))) μ)
  | .mapUpdate t m k x=>∃ b n L v,keysI P t∧ev σ m=.lit (.map (some b))∧ev σ k=.lit (.int .i64 n)∧ev σ x=.lit v∧μ b=some (.map (iE L))∧K (σ.put o.dst .undef) (updM μ b (.map (iE (setI n v L))))
  | .range t x=>∃ b ents,isMapT P t∧ev σ x=.lit (.map (some b))∧μ b=some (.map ents)∧∀ r,μ r=none→K (σ.put o.dst (.lit (.pointer (some ⟨r,0,none⟩)))) (updM μ r (.iter b ents.length []))
  | .next x false=>∃ r b seen ents,ev σ x=.lit (.pointer (some ⟨r,0,none⟩))∧μ r=some (.iter b ents.length seen)∧μ b=some (.map ents) ∧
      ((∀ j<ents.length,j∈seen)→K (σ.put o.dst (.tup [.lit (.bool false)])) μ) ∧
      ∀ j p,ents[j]?=some p→j ∉ seen→K (σ.put o.dst (.tup [.lit (.bool true),.lit p.1,.lit p.2])) (updM μ r (.iter b ents.length (seen++[j])))
  | .entry x=>∃ r b seen j ents p,ev σ x=.lit (.pointer (some ⟨r,0,none⟩))∧μ r=some (.iter b ents.length (seen++[j]))∧μ b=some (.map ents)∧ents[j]?=some p∧K (σ.put o.dst (.tup [.lit p.1,.lit p.2])) μ
  | .binOp op t x y _=>binM P o op t (ev σ x) (ev σ y) σ μ K
  | .call ⟨.builtin .len,args,ats⟩=>lenM P o (args.toList.map (ev σ)) ats.toList σ μ K
  | _=>opG P o σ fun s=>K s μ
theorem OkM.okay {os:List Ob} {γ0:Cx} {a:Act} {w:World} (h:OkM N os γ0 σ μ a w) :∃γ:Cx,Okay N σ.objs γ σ a w∧∀ σ' a' w',Okay N σ.objs γ σ' a' w'→OkM N os γ0 σ' μ a' w':=by
  obtain ⟨hdf,hsz,γ,rfl,ha,hs,hf,hm⟩:=h
  refine⟨γ,⟨hdf,hsz,γ,rfl,ha,hs,Fr.refl _ _⟩,?_⟩
  rintro σ' a' w' ⟨hdf',hsz',γ',rfl,ha',hs',hf'⟩
  exact⟨hdf',hsz',γ',rfl,ha',hs',hf.trans hf',hm.keep hf'⟩
theorem OkM.putV {os:List Ob} {γ0:Cx} {a:Act} {w:World} (h:OkM N os γ0 σ μ a w) {o:Oper} (hd:∀ d,o.dst=some d→d<N) {v:AV} {cv:Value} (hv:∀ γ:Cx,γ.w=w→Sim σ γ→RelV σ.objs γ.w γ.Z γ.blk v cv):OkM N os γ0 (σ.put o.dst v) μ (a.put o.dst cv) w:=by
  obtain ⟨hdf,hsz,γ,rfl,ha,hs,hf,hm⟩:=h
  refine⟨by rw[put_defers];exact hdf,by rw[put_size];exact hsz,{ γ with tmps:=(a.put o.dst cv).tmps },rfl,rfl,put_sim hs ha (fun d h=>by rw[hsz];exact hd d h) (hv γ rfl hs),?_,?_⟩
  · rw[objs_put];exact hf.put _
  · rw[objs_put];exact⟨hm.gh,hm.fresh,hm.notZ,hm.notO⟩
theorem OkM.block {os:List Ob} {γ0:Cx} {a:Act} {w w':World} (h:OkM N os γ0 σ μ a w) {b:Nat} {g:Gh} (hb:(∃ g',μ b=some g')∨b=w.heap.size) (hk:∀ k,k≠b→k<w.heap.size→w'.heap[k]?=w.heap[k]?) (hsz:w.heap.size≤w'.heap.size)
    (h1:w'.os=w.os) (h2:w'.tape=w.tape) (h3:w'.output=w.output) (hg:g.At w' b):OkM N os γ0 σ (updM μ b g) a w':=by
  obtain ⟨hdf,hs0,γ,rfl,ha,hs,hf,hm⟩:=h
  have hb':¬ γ.Z b∧¬ Owned σ.objs γ.blk b∧γ0.w.heap.size≤b:=by
    rcases hb with ⟨g',hg'⟩ | rfl
    · exact⟨hm.notZ _ _ hg',hm.notO _ _ hg',hm.fresh _ _ hg'⟩
    · refine⟨fun hz=>Nat.lt_irrefl _ (hs.zlt _ hz),?_,hf.size⟩
      rintro ⟨i,o,c,hl,hb⟩
      exact Nat.lt_irrefl _ (hs.blt hl hb)
  exact⟨hdf,hs0,{ γ with w:=w' },rfl,ha,hs.otherB hb'.1 hb'.2.1 hk hsz,hf.otherB hb'.2.2 hk hsz h1 h2 h3,hm.otherB hb'.1 hb'.2.1 hb'.2.2 hk hg⟩
theorem OkM.ev {os:List Ob} {γ0:Cx} {a:Act} {w:World} (h:OkM N os γ0 σ μ a w) {x:Operand} {v:Value} (hx:ev σ x=.lit v):a.eval x=v:=by
  obtain ⟨_,_,γ,rfl,ha,hs,_⟩:=h
  have:=ev_rel hs ha x
  rw[hx] at this
  exact this.lit_inv
theorem OkM.at {os:List Ob} {γ0:Cx} {a:Act} {w:World} (h:OkM N os γ0 σ μ a w) {b:Nat} {g:Gh} (hb:μ b=some g):g.At w b:=by
  obtain ⟨_,_,γ,rfl,ha,hs,_,hm⟩:=h
  exact hm.gh _ _ hb
theorem OkM.none {os:List Ob} {γ0:Cx} {a:Act} {w:World} (h:OkM N os γ0 σ μ a w):μ w.heap.size=none:=by
  cases hb:μ w.heap.size with
  | none=>rfl
  | some g=>exact absurd (h.at hb).lt (Nat.lt_irrefl _)
theorem iE_length (L:List (Int × Value)):(iE L).length=L.length:=by simp[iE]
theorem opM_sound {os:List Ob} {γ0:Cx} {o:Oper} {K:St→Mem→Prop} (h:opM P o σ μ K) {a:Act} {w:World} (hok:OkM N os γ0 σ μ a w) (hd:∀ d,o.dst=some d→d<N)
    {Q:Exit→Act→World→Prop} {next:Act→World→Prop} (hn:∀ σ' μ' a' w',K σ' μ'→OkM N os γ0 σ' μ' a' w'→next a' w'):o.wp P a w next Q:=by
  have gen:opG P o σ (fun s=>K s μ)→o.wp P a w next Q:=fun hg=>by
    obtain ⟨γ,h1,h2⟩:=hok.okay
    exact opG_sound hg h1 hd (fun σ' a' w' hK hok'=>hn _ _ _ _ hK (h2 _ _ _ hok'))
  have lit:∀ (v:Value) w',(execOp a.eval o).run P w=.ok (.value v) w'→∀ μ',OkM N os γ0 σ μ' a w'→K (σ.put o.dst (.lit v)) μ'→o.wp P a w next Q:=fun v w' hr μ' hok' hK=>by
    unfold Oper.wp;rw[hr];exact hn _ _ _ _ hK (hok'.putV hd (fun γ _ _=>RelV.lit v))
  obtain ⟨dst,op,type,pos,after,guard⟩:=o
  unfold opM at h
  cases op
  case makeMap t r =>
    cases r with
    | some r=>exact gen h
    | none =>
      refine lit (.map (some w.heap.size)) (w.alloc (.map #[] 0)) (by simp[execOp,Instr.makeMap]) _ ?_ (h w.heap.size hok.none)
      exact hok.block (.inr rfl) (fun k _ hk=>by rw[heap_alloc_old _ _ hk]) (by show w.heap.size≤(w.heap.push _).size;simp) rfl rfl rfl (by rw[Gh.At,heap_alloc_new];rfl)
  case lookup t x i ok =>
    cases ok with
    | true=>exact gen h
    | false =>
      obtain ⟨n,z,hi,⟨kt,et,ht,hk,hz⟩,h⟩:=h
      rcases h with ⟨hx,hK⟩ | ⟨b,L,hx,hb,hK⟩
      · exact lit z w (by simp[execOp,hok.ev hx,hok.ev hi,run_lookupN ht hk (hz w)]) μ hok hK
      · exact lit _ w (by simp[execOp,hok.ev hx,hok.ev hi,run_lookupI ht hk (hz w) (hok.at hb)]) μ hok hK
  case mapUpdate t m k x =>
    obtain ⟨b,n,L,v,⟨kt,et,ht,hk⟩,hm,hi,hx,hb,hK⟩:=h
    have hat:=hok.at hb
    rw[Gh.At,iE_length] at hat
    have hlt:=(Array.getElem?_eq_some_iff.1 hat).1
    have hr:=run_updateI (P:=P) ht hk hat n v
    unfold Oper.wp
    have hr2:(execOp a.eval ⟨dst,.mapUpdate t m k x,type,pos,after,guard⟩).run P w=.ok .skip { w with heap:=w.heap.setIfInBounds b (.map (mkEs (iE (setI n v L))) (setI n v L).length) }:=by
      simp[execOp,hok.ev hm,hok.ev hi,hok.ev hx,hr]
    rw[hr2]
    have hw':OkM N os γ0 σ (updM μ b (.map (iE (setI n v L)))) a { w with heap:=w.heap.setIfInBounds b (.map (mkEs (iE (setI n v L))) (setI n v L).length) }:=by
      refine hok.block (.inl ⟨_,hb⟩) (fun k hk _=>?_) (by simp) rfl rfl rfl ?_
      · simp[Array.getElem?_setIfInBounds_ne (Ne.symm hk)]
      · rw[Gh.At,iE_length];simp[hlt]
    exact hn _ _ _ _ hK (hw'.putV hd (fun γ _ _=>.undef _))
  case range t x =>
    obtain ⟨b,ents,⟨kt,et,ht⟩,hx,hb,hK⟩:=h
    refine lit (.pointer (some ⟨w.heap.size,0,none⟩)) (w.alloc (.mapIter (some b) ents.length #[] ents.length)) (by simp[execOp,hok.ev hx,run_rangeM ht (hok.at hb)]) _ ?_ (hK w.heap.size hok.none)
    exact hok.block (.inr rfl) (fun k _ hk=>by rw[heap_alloc_old _ _ hk]) (by show w.heap.size≤(w.heap.push _).size;simp) rfl rfl rfl (by rw[Gh.At,heap_alloc_new])
  case next x s =>
    cases s with
    | true=>exact gen h
    | false =>
      obtain ⟨r,b,seen,ents,hx,hr,hb,h1,h2⟩:=h
      have hlt:=(hok.at hr).lt
      rcases run_nextM (P:=P) rfl (hok.at hr) (hok.at hb) type with ⟨k1,k2⟩ | ⟨j,p,d,k1,k2,k3⟩
      · have hr2:(execOp a.eval ⟨dst,.next x false,type,pos,after,guard⟩).run P w=.ok (.value (.tuple #[.bool false])) w:=by simp[execOp,hok.ev hx,k2]
        unfold Oper.wp;rw[hr2]
        exact hn _ _ _ _ (h1 k1) (hok.putV hd (fun γ _ _=>.tup _ _ rfl (fun i y hi=>by
          cases i with
          | zero=>simp at hi;subst hi;exact RelV.lit _
          | succ i=>simp at hi)))
      · have hr2:(execOp a.eval ⟨dst,.next x false,type,pos,after,guard⟩).run P w=.ok (.value (.tuple #[.bool true,p.1,p.2])) { w with heap:=w.heap.setIfInBounds r (.mapIter (some b) ents.length (seen++[j]).toArray ents.length),drawn:=d }:=by simp[execOp,hok.ev hx,k3]
        unfold Oper.wp;rw[hr2]
        have hw':OkM N os γ0 σ (updM μ r (.iter b ents.length (seen++[j]))) a { w with heap:=w.heap.setIfInBounds r (.mapIter (some b) ents.length (seen++[j]).toArray ents.length),drawn:=d }:=by
          refine hok.block (.inl ⟨_,hr⟩) (fun k hk _=>?_) (by simp) rfl rfl rfl ?_
          · simp[Array.getElem?_setIfInBounds_ne (Ne.symm hk)]
          · rw[Gh.At];simp[hlt]
        refine hn _ _ _ _ (h2 j p k1 k2) (hw'.putV hd (fun γ _ _=>.tup _ _ rfl (fun i y hi=>?_)))
        · match i,hi with
          | 0,hi=>simp at hi;subst hi;exact RelV.lit _
          | 1,hi=>simp at hi;subst hi;exact RelV.lit _
          | 2,hi=>simp at hi;subst hi;exact RelV.lit _
          | i+3,hi=>simp at hi
  case entry x =>
    obtain ⟨r,b,seen,j,ents,p,hx,hr,hb,hp,hK⟩:=h
    have hr2:(execOp a.eval ⟨dst,.entry x,type,pos,after,guard⟩).run P w=.ok (.value (.tuple #[p.1,p.2])) w:=by simp[execOp,hok.ev hx,run_entryM (P:=P) rfl (hok.at hr) (hok.at hb) hp]
    unfold Oper.wp;rw[hr2]
    exact hn _ _ _ _ hK (hok.putV hd (fun γ _ _=>.tup _ _ rfl (fun i y hi=>by
      match i,hi with
      | 0,hi=>simp at hi;subst hi;exact RelV.lit _
      | 1,hi=>simp at hi;subst hi;exact RelV.lit _
      | i+2,hi=>simp at hi)))
  case binOp op t x y yt =>
    replace h:binM P _ op t (Am.ev σ x) (Am.ev σ y) σ μ K:=h
    unfold binM at h
    split at h
    · rename_i m hx
      obtain ⟨⟨kt,et,ht⟩,hy,h⟩:=h
      split at h
      · exact lit _ w (by simp[execOp,hok.ev hx,hok.ev hy,eqGuard_at_map,eql_map_nil w t kt et m ht]) μ hok h
      · exact lit _ w (by simp[execOp,hok.ev hx,hok.ev hy,eqGuard_at_map,neq_map_nil w t kt et m ht]) μ hok h
      · exact h.elim
    · exact gen h
  case call c =>
    obtain ⟨callee,args,ats⟩:=c
    cases callee with
    | value f=>exact gen h
    | invoke r m=>exact gen h
    | builtin b =>
      cases b
      case len =>
        replace h:lenM P _ (args.toList.map (Am.ev σ)) ats.toList σ μ K:=h
        unfold lenM at h
        split at h
        · rename_i b hx
          obtain ⟨t,ents,hat,⟨kt,et,ht⟩,hb,hK⟩:=h
          obtain ⟨x,hax,hx2⟩ :∃x,args.toList=[x]∧Am.ev σ x=.lit (.map (some b)):=by
            cases ha:args.toList with
            | nil=>rw[ha] at hx;simp at hx
            | cons x r =>
              rw[ha] at hx
              cases r with
              | nil=>exact⟨x,rfl,by simpa using hx⟩
              | cons y r=>simp at hx
          have ea:args = #[x]:=by rw[← Array.toArray_toList (xs:=args),hax]
          have eb:ats = #[t]:=by rw[← Array.toArray_toList (xs:=ats),hat]
          subst ea;subst eb
          have hat2:=hok.at hb
          exact lit _ w (by simp[execOp,resolve,invoke,builtin,Builtin.len_,hok.ev hx2,run_underlying ht,MapKept.run_getObj_map hat2,mkEs,goInt]) μ hok hK
        · exact gen h
      all_goals exact gen h
  all_goals exact gen h
def guardMM (P:Program) (o:Oper) (K:St→Mem→Prop) (b want:Bool) (σ:St) (μ:Mem):Prop:=(b=want→opM P o σ μ K)∧(b≠want→K (σ.put o.dst (.lit (.tuple #[]))) μ)
def opsM (P:Program) (ops:Array Oper):List Oper→(St→Mem→Prop)→St→Mem→Prop
  | [],K,σ,μ=>K σ μ
  | o::r,K,σ,μ =>
    match o.guard with
    | none=>opM P o σ μ (opsM P ops r K)
    | some (j,want) =>
      match (ops[j]?).bind (·.dst) with
      | none=>False
      | some d =>
        match σ.env d with
        | .lit (.bool b)=>guardMM P o (opsM P ops r K) b want σ μ
        | .lit (.tuple vs)=>vs = #[]∧opsM P ops r K (σ.put o.dst (.lit (.tuple #[]))) μ
        | _=>False
theorem opsM_sound {os:List Ob} {γ0:Cx} {ops:Array Oper} (hd:∀ o∈ops.toList,∀ d,o.dst=some d→d<N) {K:St→Mem→Prop} {Q:Exit→Act→World→Prop}
    (hQ:∀ σ' μ' a' w',K σ' μ'→OkM N os γ0 σ' μ' a' w'→Q .normal a' w'):∀ (l:List Oper) (i:Nat) (σ:St) (μ:Mem) (a:Act) (w:World),ops.toList.drop i=l→opsM P ops l K σ μ→OkM N os γ0 σ μ a w →
      wpOps P ops Q (List.range' i l.length) a w
  | [],i,σ,μ,a,w,_,h,hok=>by simpa [wpOps] using hQ _ _ _ _ h hok
  | o::r,i,σ,μ,a,w,hl,h,hok=>by
    have hi:ops[i]?=some o:=by
      have:(ops.toList.drop i)[0]?=some o:=by rw[hl];rfl
      simpa using this
    have hr:ops.toList.drop (i+1)=r:=by
      have:=congrArg List.tail hl
      simpa [List.tail_drop] using this
    have hmem:o∈ops.toList:=List.mem_of_getElem? (by simpa using hi)
    rw[List.length_cons,List.range'_succ,wpOps_cons]
    unfold wpOp
    simp only[hi]
    unfold opsM at h
    cases hg:o.guard with
    | none =>
      simp only[hg] at h
      have hw:Region.wanted o (yielded ops a.tmps)=true:=by simp[Region.wanted,hg]
      rw[if_pos hw]
      left
      exact opM_sound h hok (hd o hmem) (fun σ' μ' a' w' hK hok'=>opsM_sound hd hQ r (i+1) σ' μ' a' w' hr hK hok')
    | some jw =>
      obtain ⟨j,want⟩:=jw
      simp only[hg] at h
      cases hdj:(ops[j]?).bind (·.dst) with
      | none=>simp[hdj] at h
      | some d =>
        simp only[hdj] at h
        have hv:∀ v,σ.env d=.lit v→a.tmps.getD d Go.undef=v:=fun v he=>by
          have:=hok.ev (x:=.tmp d) (v:=v) (by simpa [ev] using he)
          simpa [Act.eval] using this
        split at h
        · rename_i b he
          have hv:=hv _ he
          have hy:yielded ops a.tmps j=some b:=by
            unfold yielded
            rw[hdj]
            have:a.tmps[d]?=some (.bool b):=by
              rw[Array.getD_eq_getD_getElem?] at hv
              cases hx:a.tmps[d]? with
              | none=>rw[hx] at hv;simp[Go.undef] at hv
              | some y=>rw[hx] at hv;simp at hv;rw[hv]
            simp[this]
          by_cases hbw:b=want
          · have hw:Region.wanted o (yielded ops a.tmps)=true:=by simp[Region.wanted,hg,hy,hbw]
            rw[if_pos hw]
            left
            exact opM_sound (h.1 hbw) hok (hd o hmem) (fun σ' μ' a' w' hK hok'=>opsM_sound hd hQ r (i+1) σ' μ' a' w' hr hK hok')
          · have hw:Region.wanted o (yielded ops a.tmps)=false:=by simp[Region.wanted,hg,hy,hbw]
            rw[if_neg (by rw[hw];simp)]
            exact opsM_sound hd hQ r (i+1) _ _ _ _ hr (h.2 hbw) (hok.putV (hd o hmem) (fun γ _ _=>RelV.lit _))
        · rename_i vs he
          have hv:=hv _ he
          have hy:yielded ops a.tmps j=none:=by
            unfold yielded
            rw[hdj]
            rw[Array.getD_eq_getD_getElem?] at hv
            cases hx:a.tmps[d]? with
            | none=>simp[hx]
            | some y=>rw[hx] at hv;simp at hv;subst hv;simp[hx]
          have hw:Region.wanted o (yielded ops a.tmps)=false:=by simp[Region.wanted,hg,hy]
          rw[if_neg (by rw[hw];simp)]
          exact opsM_sound hd hQ r (i+1) _ _ _ _ hr h.2 (hok.putV (hd o hmem) (fun γ _ _=>RelV.lit _))
        · exact h.elim
theorem WM_region {id:Nat} {ops:Array Oper} {Q:Exit→St→Mem→Prop} (hd:dstOK N ops=true) (h:opsM P ops ops.toList (Q .normal) σ μ):WM P N n0 (.region id ops false) Q σ μ:=by
  intro os γ0 a w _ hok
  refine wp_region ?_
  have:=opsM_sound (P:=P) (N:=N) (os:=os) (γ0:=γ0) (ops:=ops) (dstOK_spec hd) (K:=Q .normal) (Q:=fun e a' w'=>∃ σ' μ',Q e σ' μ'∧OkM N os γ0 σ' μ' a' w') (fun σ' μ' a' w' hK hok'=>⟨σ',μ',hK,hok'⟩)
    ops.toList 0 σ μ a w rfl h hok
  rw[List.range_eq_range']
  simpa using this
end Go.Am
namespace Go.Am
variable {P:Program} {N n0:Nat} {σ:St} {μ:Mem} {Q:Exit→St→Mem→Prop}
theorem mr {id:Nat} {ops:Array Oper} {y:Code} (h:∀ K:St→Mem→Prop,(∀ s m,WM P N n0 y Q s m→K s m)→opsM P ops ops.toList K σ μ) (hd:dstOK N ops=true:=by decide):WM P N n0 (.seq (.region id ops false) y) Q σ μ :=
  WM_k fun Q' h1 _=>WM_region hd (h _ h1)
theorem mre {id:Nat} {ops:Array Oper} (h:∀ K:St→Mem→Prop,(∀ s m,Q .normal s m→K s m)→opsM P ops ops.toList K σ μ) (hd:dstOK N ops=true:=by decide):WM P N n0 (.region id ops false) Q σ μ :=
  WM_region hd (h _ fun _ _ h=>h)
theorem mc {c:Operand} {x y:Code} {t:Bool} (ht:t=true→WM P N n0 x Q σ μ) (hf:t=false→WM P N n0 y Q σ μ) (hc:ev σ c=.lit (.bool t):=by (simp only[Go.Am.LKc,Go.Am.Lc,↓reduceIte,Nat.reduceEqDiff,Nat.reduceBEq];exact rfl)):WM P N n0 (.cond c x y) Q σ μ:=WM_cond hc ht hf
theorem ml {c y:Code} (h:∀ Q':Exit→St→Prop,(∀ s,WM P N n0 y Q s μ→Q' .normal s)→(∀ e s,isN e=false→Q e s μ→Q' e s)→W P N σ.objs.length c Q' σ):WM P N n0 (.seq c y) Q σ μ :=
  WM_k fun Q' h1 h2=>WM_lift (h (fun e s=>Q' e s μ) (fun s=>h1 s μ) (fun e s=>h2 e s μ))
section
variable {ops:Array Oper} {o:Oper} {l:List Oper} {K:St→Mem→Prop}
instance:Head (opsM P ops (o::l) K σ μ):=⟨trivial⟩
theorem guardMM_split {b want:Bool} (h1:b=true→guardMM P o K true want σ μ) (h2:b=false→guardMM P o K false want σ μ):guardMM P o K b want σ μ:=by
  cases b
  · exact h2 rfl
  · exact h1 rfl
instance {b want:Bool}:Grd (guardMM P o K b want σ μ) b (guardMM P o K true want σ μ) (guardMM P o K false want σ μ):=⟨guardMM_split⟩
theorem guardMM_tt:guardMM P o K true true σ μ=opM P o σ μ K:=by simp[guardMM]
theorem guardMM_ff:guardMM P o K false false σ μ=opM P o σ μ K:=by simp[guardMM]
theorem guardMM_tf:guardMM P o K true false σ μ=K (σ.put o.dst (.lit (.tuple #[]))) μ:=by simp[guardMM]
theorem guardMM_ft:guardMM P o K false true σ μ=K (σ.put o.dst (.lit (.tuple #[]))) μ:=by simp[guardMM]
theorem opsM_nil:opsM P ops [] K σ μ=K σ μ:=rfl
variable {dst:Option Tmp} {tt:TypeId} {p:String} {af:Array Edge} {g:Option (Nat × Bool)}
theorem opM_move (x:Operand):opM P ⟨dst,.move x,tt,p,af,g⟩ σ μ K=opG P ⟨dst,.move x,tt,p,af,g⟩ σ (fun s=>K s μ):=rfl
theorem opM_assign (x:Operand):opM P ⟨dst,.assign x,tt,p,af,g⟩ σ μ K=opG P ⟨dst,.assign x,tt,p,af,g⟩ σ (fun s=>K s μ):=rfl
theorem opM_pick (x y z:Operand):opM P ⟨dst,.pick x y z,tt,p,af,g⟩ σ μ K=opG P ⟨dst,.pick x y z,tt,p,af,g⟩ σ (fun s=>K s μ):=rfl
theorem opM_alloc (e:TypeId):opM P ⟨dst,.alloc e,tt,p,af,g⟩ σ μ K=opG P ⟨dst,.alloc e,tt,p,af,g⟩ σ (fun s=>K s μ):=rfl
theorem opM_box (e:TypeId) (x:Operand):opM P ⟨dst,.box e x,tt,p,af,g⟩ σ μ K=opG P ⟨dst,.box e x,tt,p,af,g⟩ σ (fun s=>K s μ):=rfl
theorem opM_build (t:TypeId) (l:Array (Nat × Operand)):opM P ⟨dst,.build t l,tt,p,af,g⟩ σ μ K=opG P ⟨dst,.build t l,tt,p,af,g⟩ σ (fun s=>K s μ):=rfl
theorem opM_buildSlice (t:TypeId) (n:Nat) (l:Array (Nat × Operand)):opM P ⟨dst,.buildSlice t n l,tt,p,af,g⟩ σ μ K=opG P ⟨dst,.buildSlice t n l,tt,p,af,g⟩ σ (fun s=>K s μ):=rfl
theorem opM_load (t:TypeId) (x:Operand):opM P ⟨dst,.load t x,tt,p,af,g⟩ σ μ K=opG P ⟨dst,.load t x,tt,p,af,g⟩ σ (fun s=>K s μ):=rfl
theorem opM_store (t:TypeId) (x y:Operand):opM P ⟨dst,.store t x y,tt,p,af,g⟩ σ μ K=opG P ⟨dst,.store t x y,tt,p,af,g⟩ σ (fun s=>K s μ):=rfl
theorem opM_unOp (u:UnOp) (t:TypeId) (x:Operand):opM P ⟨dst,.unOp u t x,tt,p,af,g⟩ σ μ K=opG P ⟨dst,.unOp u t x,tt,p,af,g⟩ σ (fun s=>K s μ):=rfl
theorem opM_makeFunc (f:Fn) (x y:Array Operand):opM P ⟨dst,.makeFunc f x y,tt,p,af,g⟩ σ μ K=opG P ⟨dst,.makeFunc f x y,tt,p,af,g⟩ σ (fun s=>K s μ):=rfl
theorem opM_makeSlice (t:TypeId) (x y:Operand):opM P ⟨dst,.makeSlice t x y,tt,p,af,g⟩ σ μ K=opG P ⟨dst,.makeSlice t x y,tt,p,af,g⟩ σ (fun s=>K s μ):=rfl
theorem opM_slice (t:TypeId) (x:Operand) (lo hi mx:Option Operand):opM P ⟨dst,.slice t x lo hi mx,tt,p,af,g⟩ σ μ K=opG P ⟨dst,.slice t x lo hi mx,tt,p,af,g⟩ σ (fun s=>K s μ):=rfl
theorem opM_field (t:TypeId) (x:Operand) (n:Nat):opM P ⟨dst,.field t x n,tt,p,af,g⟩ σ μ K=opG P ⟨dst,.field t x n,tt,p,af,g⟩ σ (fun s=>K s μ):=rfl
theorem opM_fieldAddr (t:TypeId) (x:Operand) (n:Nat):opM P ⟨dst,.fieldAddr t x n,tt,p,af,g⟩ σ μ K=opG P ⟨dst,.fieldAddr t x n,tt,p,af,g⟩ σ (fun s=>K s μ):=rfl
theorem opM_indexAddr (t:TypeId) (x y:Operand):opM P ⟨dst,.indexAddr t x y,tt,p,af,g⟩ σ μ K=opG P ⟨dst,.indexAddr t x y,tt,p,af,g⟩ σ (fun s=>K s μ):=rfl
theorem opM_nilCheck (x:Operand):opM P ⟨dst,.nilCheck x,tt,p,af,g⟩ σ μ K=opG P ⟨dst,.nilCheck x,tt,p,af,g⟩ σ (fun s=>K s μ):=rfl
theorem opM_extract (x:Operand) (n:Nat):opM P ⟨dst,.extract x n,tt,p,af,g⟩ σ μ K=opG P ⟨dst,.extract x n,tt,p,af,g⟩ σ (fun s=>K s μ):=rfl
theorem opM_convert (s d:TypeId) (x:Operand):opM P ⟨dst,.convert s d x,tt,p,af,g⟩ σ μ K=opG P ⟨dst,.convert s d x,tt,p,af,g⟩ σ (fun s=>K s μ):=rfl
theorem opM_callv (f:Operand) (args:Array Operand) (ats:Array TypeId):opM P ⟨dst,.call ⟨.value f,args,ats⟩,tt,p,af,g⟩ σ μ K=opG P ⟨dst,.call ⟨.value f,args,ats⟩,tt,p,af,g⟩ σ (fun s=>K s μ):=rfl
theorem opM_append (args:Array Operand) (ats:Array TypeId):opM P ⟨dst,.call ⟨.builtin .append,args,ats⟩,tt,p,af,g⟩ σ μ K=opG P ⟨dst,.call ⟨.builtin .append,args,ats⟩,tt,p,af,g⟩ σ (fun s=>K s μ):=rfl
theorem opM_min (args:Array Operand) (ats:Array TypeId):opM P ⟨dst,.call ⟨.builtin .min,args,ats⟩,tt,p,af,g⟩ σ μ K=opG P ⟨dst,.call ⟨.builtin .min,args,ats⟩,tt,p,af,g⟩ σ (fun s=>K s μ):=rfl
theorem opM_max (args:Array Operand) (ats:Array TypeId):opM P ⟨dst,.call ⟨.builtin .max,args,ats⟩,tt,p,af,g⟩ σ μ K=opG P ⟨dst,.call ⟨.builtin .max,args,ats⟩,tt,p,af,g⟩ σ (fun s=>K s μ):=rfl
theorem opM_copy (args:Array Operand) (ats:Array TypeId):opM P ⟨dst,.call ⟨.builtin .copy,args,ats⟩,tt,p,af,g⟩ σ μ K=opG P ⟨dst,.call ⟨.builtin .copy,args,ats⟩,tt,p,af,g⟩ σ (fun s=>K s μ):=rfl
theorem opM_len (args:Array Operand) (ats:Array TypeId):opM P ⟨dst,.call ⟨.builtin .len,args,ats⟩,tt,p,af,g⟩ σ μ K=lenM P ⟨dst,.call ⟨.builtin .len,args,ats⟩,tt,p,af,g⟩ (args.toList.map (ev σ)) ats.toList σ μ K:=rfl
theorem opM_binOp (op:BinOp) (t:TypeId) (x y:Operand) (yt:TypeId):opM P ⟨dst,.binOp op t x y yt,tt,p,af,g⟩ σ μ K=binM P ⟨dst,.binOp op t x y yt,tt,p,af,g⟩ op t (ev σ x) (ev σ y) σ μ K:=rfl
theorem binM_int (k:IntKind) (n:Int) (op:BinOp) (t:TypeId) (y:AV):binM P o op t (.lit (.int k n)) y σ μ K=opG P o σ (fun s=>K s μ):=rfl
theorem binM_bool (b:Bool) (op:BinOp) (t:TypeId) (y:AV):binM P o op t (.lit (.bool b)) y σ μ K=opG P o σ (fun s=>K s μ):=rfl
theorem binM_slice (a:Option Addr) (n c:Nat) (op:BinOp) (t:TypeId) (y:AV):binM P o op t (.lit (.slice a n c)) y σ μ K=opG P o σ (fun s=>K s μ):=rfl
theorem binM_tree (s:Nat) (r:List (List AV)) (op:BinOp) (t:TypeId) (y:AV):binM P o op t (.tree s r) y σ μ K=opG P o σ (fun s=>K s μ):=rfl
theorem binM_agg (l:List AV) (op:BinOp) (t:TypeId) (y:AV):binM P o op t (.agg l) y σ μ K=opG P o σ (fun s=>K s μ):=rfl
theorem binM_ref (a b c d:Nat) (op:BinOp) (t:TypeId) (y:AV):binM P o op t (.ref a b c d) y σ μ K=opG P o σ (fun s=>K s μ):=rfl
theorem binM_eql (a:Option Nat) (t:TypeId) (y:AV):binM P o .eql t (.lit (.map a)) y σ μ K=(isMapT P t∧y=.lit (.map none)∧K (σ.put o.dst (.lit (.bool a.isNone))) μ):=rfl
theorem binM_neq (a:Option Nat) (t:TypeId) (y:AV):binM P o .neq t (.lit (.map a)) y σ μ K=(isMapT P t∧y=.lit (.map none)∧K (σ.put o.dst (.lit (.bool (!a.isNone)))) μ):=rfl
theorem lenM_tree (s:Nat) (r:List (List AV)) (t:List TypeId):lenM P o [.tree s r] t σ μ K=opG P o σ (fun s=>K s μ):=rfl
theorem lenM_ref (a b c d:Nat) (t:List TypeId):lenM P o [.ref a b c d] t σ μ K=opG P o σ (fun s=>K s μ):=rfl
theorem lenM_slice (a:Option Addr) (n c:Nat) (t:List TypeId):lenM P o [.lit (.slice a n c)] t σ μ K=opG P o σ (fun s=>K s μ):=rfl
theorem lenM_map (b:Nat) (t:List TypeId):lenM P o [.lit (.map (some b))] t σ μ K =∃t1 ents,t=[t1]∧isMapT P t1∧μ b=some (.map ents)∧K (σ.put o.dst (.lit (.int .i64 (ents.length:Nat)))) μ:=rfl
theorem opsM_cons:opsM P ops (o::l) K σ μ=(match o.guard with | none=>opM P o σ μ (opsM P ops l K) | some (j,want)=>match (ops[j]?).bind (·.dst) with | none=>False | some d=>match σ.env d with | .lit (.bool b)=>guardMM P o (opsM P ops l K) b want σ μ | .lit (.tuple vs)=>vs = #[]∧opsM P ops l K (σ.put o.dst (.lit (.tuple #[]))) μ | _=>False):=by rw[opsM]<;>rfl
theorem litOf_mapM (a:Option Nat):litOf (.map a)=.lit (.map a):=rfl
end
theorem Mc:type_of% @litOf_mapM∧type_of% @opM_move∧type_of% @opM_assign∧type_of% @opM_pick∧type_of% @opM_alloc∧type_of% @opM_box∧type_of% @opM_build∧type_of% @opM_buildSlice∧type_of% @opM_load∧type_of% @opM_store∧type_of% @opM_unOp∧type_of% @opM_makeFunc∧type_of% @opM_makeSlice∧type_of% @opM_slice∧type_of% @opM_field∧type_of% @opM_fieldAddr∧type_of% @opM_indexAddr∧type_of% @opM_nilCheck∧type_of% @opM_extract∧type_of% @opM_convert∧type_of% @opM_callv∧type_of% @opM_append∧type_of% @opM_min∧type_of% @opM_max∧type_of% @opM_copy∧type_of% @opM_len∧type_of% @opM_binOp∧type_of% @binM_int∧type_of% @binM_bool∧type_of% @binM_slice∧type_of% @binM_tree∧type_of% @binM_agg∧type_of% @binM_ref∧type_of% @binM_eql∧type_of% @binM_neq∧type_of% @lenM_tree∧type_of% @lenM_ref∧type_of% @lenM_slice∧type_of% @lenM_map∧type_of% @opsM_cons∧type_of% @opsM_nil∧type_of% @guardMM_tt∧type_of% @guardMM_ff∧type_of% @guardMM_tf∧type_of% @guardMM_ft :=
  ⟨@litOf_mapM,@opM_move,@opM_assign,@opM_pick,@opM_alloc,@opM_box,@opM_build,@opM_buildSlice,@opM_load,@opM_store,@opM_unOp,@opM_makeFunc,@opM_makeSlice,@opM_slice,@opM_field,@opM_fieldAddr,@opM_indexAddr,@opM_nilCheck,@opM_extract,@opM_convert,@opM_callv,@opM_append,@opM_min,@opM_max,@opM_copy,@opM_len,@opM_binOp,@binM_int,@binM_bool,@binM_slice,@binM_tree,@binM_agg,@binM_ref,@binM_eql,@binM_neq,@lenM_tree,@lenM_ref,@lenM_slice,@lenM_map,@opsM_cons,@opsM_nil,@guardMM_tt,@guardMM_ff,@guardMM_tf,@guardMM_ft⟩
end Go.Am
namespace Go.Am
variable {P:Program} {N n0:Nat} {σ:St} {μ:Mem} {K:St→Mem→Prop} {dst:Option Tmp} {tt:TypeId} {p:String} {af:Array Edge} {g:Option (Nat × Bool)}
theorem om_make {t:TypeId} (h:∀ b,μ b=none→K (σ.put dst (.lit (.map (some b)))) (updM μ b (.map []))):opM P ⟨dst,.makeMap t none,tt,p,af,g⟩ σ μ K:=h
theorem om_look {t:TypeId} {x i:Operand} {b:Nat} {n:Int} {z:Value} (hx:ev σ x=.lit (.map (some b))) (hi:ev σ i=.lit (.int .i64 n)) (hz:keysZ P t z) {L:List (Int × Value)} (hb:μ b=some (.map (iE L)))
    (hK:K (σ.put dst (.lit ((getI n L).getD z))) μ):opM P ⟨dst,.lookup t x i false,tt,p,af,g⟩ σ μ K:=⟨n,z,hi,hz,.inr ⟨b,L,hx,hb,hK⟩⟩
theorem om_upd {t:TypeId} {m k x:Operand} {b:Nat} {n:Int} {v:Value} (hm:ev σ m=.lit (.map (some b))) (hi:ev σ k=.lit (.int .i64 n)) (hx:ev σ x=.lit v) (hk:keysI P t) {L:List (Int × Value)} (hb:μ b=some (.map (iE L)))
    (hK:K (σ.put dst .undef) (updM μ b (.map (iE (setI n v L))))):opM P ⟨dst,.mapUpdate t m k x,tt,p,af,g⟩ σ μ K:=⟨b,n,L,v,hk,hm,hi,hx,hb,hK⟩
theorem om_range {t:TypeId} {x:Operand} {b:Nat} (hx:ev σ x=.lit (.map (some b))) (hk:isMapT P t) {ents:List (Value × Value)} (hb:μ b=some (.map ents))
    (hK:∀ r,μ r=none→K (σ.put dst (.lit (.pointer (some ⟨r,0,none⟩)))) (updM μ r (.iter b ents.length []))):opM P ⟨dst,.range t x,tt,p,af,g⟩ σ μ K:=⟨b,ents,hk,hx,hb,hK⟩
theorem om_next {x:Operand} {r b:Nat} {seen:List Nat} {ents:List (Value × Value)} (hx:ev σ x=.lit (.pointer (some ⟨r,0,none⟩))) (hr:μ r=some (.iter b ents.length seen)) (hb:μ b=some (.map ents))
    (h1:(∀ j<ents.length,j∈seen)→K (σ.put dst (.tup [.lit (.bool false)])) μ)
    (h2:∀ j p,ents[j]?=some p→j ∉ seen→K (σ.put dst (.tup [.lit (.bool true),.lit p.1,.lit p.2])) (updM μ r (.iter b ents.length (seen++[j])))):opM P ⟨dst,.next x false,tt,p,af,g⟩ σ μ K:=⟨r,b,seen,ents,hx,hr,hb,h1,h2⟩
theorem om_entry {x:Operand} {r b j:Nat} {seen:List Nat} {ents:List (Value × Value)} {q:Value × Value} (hx:ev σ x=.lit (.pointer (some ⟨r,0,none⟩))) (hr:μ r=some (.iter b ents.length (seen++[j]))) (hb:μ b=some (.map ents)) (hp:ents[j]?=some q)
    (hK:K (σ.put dst (.tup [.lit q.1,.lit q.2])) μ):opM P ⟨dst,.entry x,tt,p,af,g⟩ σ μ K:=⟨r,b,seen,j,ents,q,hx,hr,hb,hp,hK⟩
theorem TurnsM.refl:TurnsM n0 σ σ:=fun os γ0 γ _ hs hf=>⟨γ,rfl,rfl,hs,hf,fun _ h=>.inl h,fun _ h=>h⟩
end Go.Am
namespace Go.Am
variable {P:Program} {N n0:Nat} {σ:St}
theorem callKR_all {f:FuncId} {args:List AV} {dst:Option Tmp} {K:St→Prop} {Post:AV→List Ob→Prop} (h:HoldsR P f args σ.objs Post)
    (hK:∀ res objs',Post res objs'→σ.objs.length≤objs'.length∧K ((⟨σ.env,objs'⟩:St).put dst res)):callKR P f args dst K σ:=by
  refine⟨List.range σ.objs.length,false,args,σ.objs,Post,h,⟨List.nodup_range,by simp,?_,rfl,?_⟩,fun res objs' hp=>⟨by simp,?_⟩⟩
  · intro j o hj
    have hlt:=(List.getElem?_eq_some_iff.1 hj).1
    rw[rho_id,renO_id]
    simpa [List.getD_eq_getElem?_getD,List.getElem?_range hlt] using hj
  · intro j c d hc hd
    rw[hc] at hd
    simp only[Option.some.injEq] at hd
    subst hd
    exact .eq (by rw[rho_id,ren_id])
  · obtain ⟨hl,hK⟩:=hK res objs' hp
    rw[rho_id,ren_id]
    have:objs'.map (renO (fun j=>j))=objs':=by
      have h:renO (fun j=>j)=id:=by funext o;exact renO_id o
      simp[h]
    rw[this,mergeO_range _ _ hl]
    exact hK
theorem W_region_te {Q:Exit→St→Prop} (n:Nat) {id:Nat} {ops:Array Oper} (hd:dstOK N ops=true) (h:∀ K K1:St→Prop,(∀ s,Q .normal s→K s)→(∀ s s1,Turns n0 s s1→opsL P ops (ops.toList.drop n) K s1→K1 s)→opsL P ops (ops.toList.take n) K1 σ):W P N n0 (.region id ops false) Q σ:=by
  intro os γ0 a w hn hok
  refine wp_region ?_
  exact opsL_soundT (dstOK_spec hd) hn (K:=Q .normal) (K1:=fun s=>∃ s1,Turns n0 s s1∧opsL P ops (ops.toList.drop n) (Q .normal) s1) (fun σ' a' w' hK hok'=>⟨σ',hK,hok'⟩) n (fun s h=>h) σ a w (h _ _ (fun _ h=>h) (fun s s1 h1 h2=>⟨s1,h1,h2⟩)) hok
theorem Holds.nilArg {f:FuncId} {sz:Nat} {pre post:List AV} {objs objs':List Ob} {res:AV} (h:Holds P f (pre++.tree sz []::post) objs res objs'):Holds P f (pre++.lit (.slice none 0 0)::post) objs res objs':=by
  refine⟨h.1,fun γ hsz hs=>h.2 γ (by simpa using hsz) ⟨fun k=>?_,hs.obs,hs.inj,hs.nz,hs.zlt⟩⟩
  have:=hs.slots k
  dsimp only at this ⊢
  by_cases hk:k=pre.length
  · subst hk
    have e1:(pre++AV.lit (.slice none 0 0)::post).getD pre.length .undef=.lit (.slice none 0 0):=by simp
    have e2:(pre++AV.tree sz []::post).getD pre.length .undef=.tree sz []:=by simp
    rw[e1] at this
    rw[e2,this.lit_inv]
    exact .frz _ _ (.nil _ _ _)
  · have e:(pre++AV.tree sz []::post).getD k .undef=(pre++AV.lit (.slice none 0 0)::post).getD k .undef:=by
      simp only[List.getD_eq_getElem?_getD]
      congr 1
      rcases Nat.lt_or_ge k pre.length with h1 | h1
      · rw[List.getElem?_append_left h1,List.getElem?_append_left h1]
      · rw[List.getElem?_append_right h1,List.getElem?_append_right h1,show k - pre.length=(k - pre.length - 1)+1 by omega];rfl
    rw[e];exact this
end Go.Am
namespace Go.Am
variable {P:Program} {N n0:Nat} {σ:St} {Q:Exit→St→Prop}
theorem Turns.frzR (a id r0 c sz sz2:Nat) {R:List (List AV)} {cells:List AV} {rows:List (List AV)} (ho:σ.objs[id]?=some (.arr sz2 R)) (hrow:R[r0]?=some cells) (ha:σ.objs[a]?=some (.arr sz rows)) (hc:cells[c]?=some (.ref a sz 0 rows.length)) (hai:a≠id)
    (hw:∀ row∈rows,row.length=sz) (hfz:∀ row∈rows,∀ v∈row,(∃ x,v=.lit x)∨∃ s r,v=.tree s r):Turns n0 σ ⟨σ.env,(σ.objs.set a .gone).set id (.arr sz2 (R.set r0 (cells.set c (.tree sz rows))))⟩:=by
  intro os γ0 γ _ hs hf
  have hidl:id<σ.objs.length:=(List.getElem?_eq_some_iff.1 ho).1
  have hal:a<σ.objs.length:=(List.getElem?_eq_some_iff.1 ha).1
  let γ':Cx:={ γ with Z:=fun b=>γ.Z b∨∃ o cap,γ.blk a=some (b,o,cap) }
  let os2:=(σ.objs.set a .gone).set id (.arr sz2 (R.set r0 (cells.set c (.tree sz rows))))
  have hget:∀ i,os2[i]?=if i=id then some (.arr sz2 (R.set r0 (cells.set c (.tree sz rows)))) else if i=a then some .gone else σ.objs[i]?:=by
    intro i
    show ((σ.objs.set a .gone).set id _)[i]?=_
    rw[List.getElem?_set,List.getElem?_set]
    by_cases h1:i=id
    · subst h1;simp[hidl]
    · by_cases h2:i=a
      · subst h2;simp[Ne.symm h1,h1,hal]
      · simp[Ne.symm h1,Ne.symm h2,h1,h2]
  have hR:∀ v cv,RelV σ.objs γ.w γ.Z γ.blk v cv→RelV os2 γ'.w γ'.Z γ'.blk v cv:=fun v cv hv =>
    hv.mono (fun b hb=>⟨.inl hb,rfl⟩) (fun i o hi=>by
      rw[hget]
      by_cases h1:i=id
      · subst h1
        rw[ho] at hi
        simp only[Option.some.injEq] at hi
        subst hi
        right
        exact⟨rfl,_,by rw[if_pos rfl],by simp[Ob.like]⟩
      · rw[if_neg h1]
        by_cases h2:i=a
        · left;rw[if_pos h2]
        · rw[if_neg h2]
          by_cases hg:o=.gone
          · subst hg;exact .inl hi
          · exact .inr ⟨rfl,o,hi,Ob.like_refl hg⟩)
  have hlive:∀ i,Live os2 i→Live σ.objs i∧i≠a:=by
    rintro i ⟨o,hi,hg⟩
    rw[hget] at hi
    split at hi
    · rename_i h1;subst h1;exact⟨⟨_,ho,by simp⟩,Ne.symm hai⟩
    · split at hi
      · simp at hi;exact absurd hi.symm hg
      · rename_i h2;exact⟨⟨o,hi,hg⟩,h2⟩
  have hav:Live σ.objs a:=⟨_,ha,by simp⟩
  refine⟨γ',rfl,rfl,⟨fun k=>hR _ _ (hs.slots k),?_,fun i j b o c o' c' hi hj=>hs.inj i j b o c o' c' (hlive i hi).1 (hlive j hj).1,?_,?_⟩,?_⟩
  · intro i o hi
    have hi':os2[i]?=some o:=hi
    rw[hget] at hi'
    split at hi'
    · rename_i h1
      subst h1
      simp only[Option.some.injEq] at hi'
      subst hi'
      obtain ⟨h0,hr,hob⟩:=hs.obs _ _ ho
      have hr0:r0<R.length:=(List.getElem?_eq_some_iff.1 hrow).1
      refine⟨h0,fun row hrw=>?_,?_⟩
      · rcases List.mem_or_eq_of_mem_set hrw with h | h
        · exact hr row h
        · subst h;rw[List.length_set];exact hr cells (List.mem_of_getElem? hrow)
      · rcases hob with ⟨h1,h2⟩ | ⟨b,o,cap,cur,t,h1,h2,h3,h4,h5,h6⟩
        · exact absurd (show r0<0 by rw[h2] at hr0;exact hr0) (Nat.not_lt_zero _)
        · refine .inr ⟨b,o,cap,cur,t,h1,h2,h3,by rw[List.length_set];exact h4,h5,fun r k v hv=>?_⟩
          unfold cellAt at hv
          rw[List.getElem?_set] at hv
          by_cases e:r0=r
          · subst e
            rw[if_pos rfl,if_pos hr0,Option.bind_some,List.getElem?_set] at hv
            split at hv
            · rename_i e
              subst e
              split at hv
              · simp only[Option.some.injEq] at hv
                subst hv
                have hfr:Frz σ (fun x=>x≠a) (.tree sz rows) (.ref a sz 0 rows.length):=Frz.flat ha hw rfl (by simp) hfz
                exact .frz _ _ (hfr.treeR hs (γc:=γ') (fun b hb=>.inl hb) rfl (fun x b o cap hid _ hb=>.inr ⟨o,cap,by rw[show a=x by simpa using (Decidable.not_not.1 hid).symm];exact hb⟩) _ (h6 r0 c _ (by unfold cellAt;rw[hrow];exact hc)))
              · simp at hv
            · exact hR _ _ (h6 r0 k v (by unfold cellAt;rw[hrow];exact hv))
          · rw[if_neg e] at hv
            exact hR _ _ (h6 r k v hv)
    · split at hi'
      · simp only[Option.some.injEq] at hi';subst hi';trivial
      · by_cases hg:o=.gone
        · subst hg;trivial
        · exact (hs.obs i o hi').mono hR rfl (fun _ _ _ _=>rfl)
  · rintro b ⟨i,o,c',hi,hb⟩ (hz | ⟨o',cap,hb'⟩)
    · exact hs.nz b ⟨i,o,c',(hlive i hi).1,hb⟩ hz
    · exact (hlive i hi).2 (hs.inj i a b o c' o' cap (hlive i hi).1 hav hb hb')
  · rintro b (hz | ⟨o,cap,hb⟩)
    · exact hs.zlt b hz
    · exact hs.blt hav hb
  · refine⟨hf.eos,hf.tape,hf.output,hf.size,hf.keep,fun b hb=>.inl (hf.z0 b hb),?_,?_,by show os.length≤os2.length;simp[os2];exact hf.len,?_⟩
    · rintro b (hz | ⟨o,cap,hb⟩)
      · exact hf.z1 b hz
      · exact .inr (hf.own b ⟨a,o,cap,hav,hb⟩)
    · rintro b ⟨i,o,c',hi,hb⟩
      exact hf.own b ⟨i,o,c',(hlive i hi).1,hb⟩
    · intro i hi hl
      obtain ⟨h1,x,x',hx,hx',hk⟩:=hf.old i hi (hlive i hl).1
      have hia:=(hlive i hl).2
      have hl':Live os2 i:=hl
      obtain ⟨o,ho2,hg2⟩:=hl'
      refine⟨h1,x,o,hx,ho2,?_⟩
      rw[hget] at ho2
      split at ho2
      · rename_i e
        subst e
        rw[ho] at hx'
        simp only[Option.some.injEq] at hx' ho2
        subst hx';subst ho2
        refine Ob.like_trans hk (by simp[Ob.like])
      · rw[hx'] at ho2
        simp only[Option.some.injEq] at ho2
        subst ho2;exact hk
end Go.Am
namespace Go.Am
theorem Holds.turn {P:Program} {f:FuncId} {args:List AV} {objs objs' objs2:List Ob} {res res2:AV} (h:Holds P f args objs res objs') (ht:Turns objs.length ⟨fun k=>[res].getD k .undef,objs'⟩ ⟨fun k=>[res2].getD k .undef,objs2⟩):Holds P f args objs res2 objs2:=by
  obtain ⟨hc,h⟩:=h
  refine⟨hc,fun γ hs1 hs2=>Calls.mono (h γ hs1 hs2) ?_⟩
  rintro e w' ⟨cv,γ',h1,h2,h3,h4,h5⟩
  obtain ⟨γ2,a1,a2,a3,a4⟩:=ht objs γ γ' rfl h4 h5
  exact⟨cv,γ2,h1,a1.trans h2,a2.trans h3,a3,a4⟩
theorem Turns.mapv {n0:Nat} {v v':AV} {os:List Ob} (h:∀ (w:World) (Z:Nat→Prop) (blk:Blk) (cv:Value),RelV os w Z blk v cv→RelV os w Z blk v' cv):Turns n0 ⟨fun k=>[v].getD k .undef,os⟩ ⟨fun k=>[v'].getD k .undef,os⟩:=by
  intro os0 γ0 γ _ hs hf
  refine⟨γ,rfl,rfl,⟨fun k=>?_,hs.obs,hs.inj,hs.nz,hs.zlt⟩,hf⟩
  have:=hs.slots k
  cases k with
  | zero=>exact h _ _ _ _ this
  | succ k=>exact this
theorem RelV.hide {os:List Ob} {w:World} {Z:Nat→Prop} {blk:Blk} {a b c:AV} {cv:Value} (h:RelV os w Z blk (.tup [a,b,c]) cv):RelV os w Z blk (.tup [a,.undef,c]) cv:=by
  cases h with
  | frz _ _ h=>cases h
  | tup _ cvs hs h =>
    refine .tup _ cvs hs fun j x hx=>?_
    match j,hx with
    | 0,hx=>exact h 0 x hx
    | 1,hx=>cases hx;exact .undef _
    | 2,hx=>exact h 2 x hx
theorem Holds.hide {P:Program} {f:FuncId} {args:List AV} {objs objs':List Ob} {a b c:AV} (h:Holds P f args objs (.tup [a,b,c]) objs'):Holds P f args objs (.tup [a,.undef,c]) objs':=h.turn (Turns.mapv fun _ _ _ _ h=>h.hide)
end Go.Am

