import Derived.Test.YtmhloinjpcabcaaGreatX12
import Derived.Laws.IdiomRangeMap
set_option linter.unusedVariables false
set_option linter.unusedSimpArgs false
set_option linter.unnecessarySimpa false
set_option linter.unusedSectionVars false
set_option maxHeartbeats 64000000
set_option maxRecDepth 20000
namespace Go.Am
variable {P:Program} {N n0:Nat} {σ:St}
theorem Turns.frzP (d id:Nat) {cells:List AV} (ho:σ.objs[id]?=some (.var cells)) (hd:σ.env d=.ptr id 0 0) (hfz:∀ v∈cells,(∃ x,v=.lit x)∨∃ s r,v=.tree s r):Turns n0 σ ⟨upd σ.env d (.taddr cells),σ.objs.set id .gone⟩:=by
  intro os γ0 γ _ hs hf
  have hidl:id<σ.objs.length:=(List.getElem?_eq_some_iff.1 ho).1
  let γ':Cx:={ γ with Z:=fun b=>γ.Z b∨∃ o cap,γ.blk id=some (b,o,cap) }
  let os2:=σ.objs.set id .gone
  have hget:∀ i,os2[i]?=if i=id then some .gone else σ.objs[i]?:=by
    intro i
    show (σ.objs.set id _)[i]?=_
    rw[List.getElem?_set]
    by_cases h1:i=id
    · subst h1;simp[hidl]
    · simp[Ne.symm h1,h1]
  have hR:∀ v cv,RelV σ.objs γ.w γ.Z γ.blk v cv→RelV os2 γ'.w γ'.Z γ'.blk v cv:=fun v cv hv =>
    hv.mono (fun b hb=>⟨.inl hb,rfl⟩) (fun i o hi=>by
      rw[hget]
      by_cases h1:i=id
      · left;rw[if_pos h1]
      · rw[if_neg h1]
        by_cases hg:o=.gone
        · subst hg;exact .inl hi
        · exact .inr ⟨rfl,o,hi,Ob.like_refl hg⟩)
  have hlive:∀ i,Live os2 i→Live σ.objs i∧i≠id:=by
    rintro i ⟨o,hi,hg⟩
    rw[hget] at hi
    split at hi
    · simp at hi;exact absurd hi.symm hg
    · rename_i h2;exact⟨⟨o,hi,hg⟩,h2⟩
  have hav:Live σ.objs id:=⟨_,ho,by simp⟩
  obtain ⟨b,cap,cur,t,h1,h2,h3,h4⟩:=hs.obs _ _ ho
  have hsd:=hs.slots d
  rw[hd] at hsd
  have hslot:RelV os2 γ'.w γ'.Z γ'.blk (.taddr cells) (γ.tmps.getD d Go.undef):=by
    generalize γ.tmps.getD d Go.undef=cv at hsd
    cases hsd with
    | frz _ _ h=>cases h
    | deadPtr _ _ _ _ h=>rw[ho] at h;simp at h
    | ptrV _ _ b2 cap2 cells2 h hb =>
      rw[h1] at hb
      simp only[Option.some.injEq,Prod.mk.injEq] at hb
      obtain ⟨rfl,_,_⟩:=hb
      refine .taddr cells b 0 (fun j=>cur.getD j Go.undef) (.inr ⟨0,cap,h1⟩) (fun j x hx=>?_) (fun j x hx=>?_)
      · rw[Nat.zero_add]
        exact cell_getD h2 (by rw[h3];exact (List.getElem?_eq_some_iff.1 hx).1)
      · have hfr:Frz σ (fun y=>y≠id) x x:=by
          rcases hfz x (List.mem_of_getElem? hx) with ⟨v,rfl⟩ | ⟨s,r,rfl⟩
          · exact .lit v
          · exact .tree s r
        exact hfr.treeR hs (γc:=γ') (fun b hb=>.inl hb) rfl (fun x b o cap hid _ hb=>.inr ⟨o,cap,by rw[show id=x by simpa using (Decidable.not_not.1 hid).symm];exact hb⟩) _ (h4 j x hx)
    | ptrA _ _ _ _ _ _ _ _ h=>rw[ho] at h;simp at h
  refine⟨γ',rfl,rfl,⟨fun k=>?_,?_,fun i j b o c o' c' hi hj=>hs.inj i j b o c o' c' (hlive i hi).1 (hlive j hj).1,?_,?_⟩,?_⟩
  · show RelV os2 γ'.w γ'.Z γ'.blk (upd σ.env d (.taddr cells) k) (γ.tmps.getD k Go.undef)
    simp only[upd]
    split
    · rename_i e;subst e;exact hslot
    · exact hR _ _ (hs.slots k)
  · intro i o hi
    have hi':os2[i]?=some o:=hi
    rw[hget] at hi'
    split at hi'
    · simp only[Option.some.injEq] at hi';subst hi';trivial
    · by_cases hg:o=.gone
      · subst hg;trivial
      · exact (hs.obs i o hi').mono hR rfl (fun _ _ _ _=>rfl)
  · rintro b ⟨i,o,c',hi,hb⟩ (hz | ⟨o',cap,hb'⟩)
    · exact hs.nz b ⟨i,o,c',(hlive i hi).1,hb⟩ hz
    · exact (hlive i hi).2 (hs.inj i id b o c' o' cap (hlive i hi).1 hav hb hb')
  · rintro b (hz | ⟨o,cap,hb⟩)
    · exact hs.zlt b hz
    · exact hs.blt hav hb
  · refine⟨hf.eos,hf.tape,hf.output,hf.size,hf.keep,fun b hb=>.inl (hf.z0 b hb),?_,?_,by show os.length≤os2.length;simp[os2];exact hf.len,?_⟩
    · rintro b (hz | ⟨o,cap,hb⟩)
      · exact hf.z1 b hz
      · exact .inr (hf.own b ⟨id,o,cap,hav,hb⟩)
    · rintro b ⟨i,o,c',hi,hb⟩
      exact hf.own b ⟨i,o,c',(hlive i hi).1,hb⟩
    · intro i hi hl
      obtain ⟨h1,x,x',hx,hx',hk⟩:=hf.old i hi (hlive i hl).1
      have hl':Live os2 i:=hl
      obtain ⟨o,ho2,hg2⟩:=hl'
      refine⟨h1,x,o,hx,ho2,?_⟩
      rw[hget] at ho2
      split at ho2
      · simp at ho2;exact absurd ho2.symm hg2
      · rw[hx'] at ho2
        simp only[Option.some.injEq] at ho2
        subst ho2;exact hk
end Go.Am
namespace Go.Am
variable {P:Program} {N n0:Nat} {σ:St}
inductive Gh where
  | map (ents:List (Value × Value))
  | iter (mb since:Nat) (seen:List Nat)
def Gh.At (w:World) (b:Nat):Gh→Prop
  | .map ents=>w.heap[b]?=some (.map (mkEs ents) ents.length)
  | .iter mb since seen=>w.heap[b]?=some (.mapIter (some mb) since seen.toArray since)
theorem Gh.At.heap {w w':World} {b:Nat} {g:Gh} (h:g.At w b) (e:w'.heap[b]?=w.heap[b]?):g.At w' b:=by
  cases g<;>exact e.trans h
theorem Gh.At.lt {w:World} {b:Nat} {g:Gh} (h:g.At w b):b<w.heap.size:=by
  cases g<;>exact (Array.getElem?_eq_some_iff.1 h).1
abbrev Mem:=Nat→Option Gh
def updM (μ:Mem) (b:Nat) (g:Gh):Mem:=fun k=>if k=b then some g else μ k
theorem updM_same (μ:Mem) (b:Nat) (g:Gh):updM μ b g b=some g:=by simp[updM]
theorem updM_ne (μ:Mem) {b c:Nat} (g:Gh) (h:c≠b):updM μ b g c=μ c:=by simp[updM,h]
def noM:Mem:=fun _=>none
structure MemOK (μ:Mem) (os:List Ob) (γ0 γ:Cx):Prop where
  gh:∀ b g,μ b=some g→g.At γ.w b
  fresh:∀ b g,μ b=some g→γ0.w.heap.size≤b
  notZ:∀ b g,μ b=some g→¬ γ.Z b
  notO:∀ b g,μ b=some g→¬ Owned os γ.blk b
theorem MemOK.nil (os:List Ob) (γ0 γ:Cx):MemOK noM os γ0 γ:=⟨by simp[noM],by simp[noM],by simp[noM],by simp[noM]⟩
theorem MemOK.keep {μ:Mem} {os os':List Ob} {γ0 γ γ':Cx} (h:MemOK μ os γ0 γ) (hf:Fr os γ os' γ'):MemOK μ os' γ0 γ' :=
  ⟨fun b g hp=>(h.gh b g hp).heap (hf.keep _ (h.gh b g hp).lt (h.notO b g hp)),h.fresh,fun b g hp hz=>by
    rcases hf.z1 _ hz with h1 | h1 | h1
    · exact h.notZ b g hp h1
    · exact h.notO b g hp h1
    · have:=(h.gh b g hp).lt;omega,fun b g hp ho=>by
    rcases hf.own _ ho with h1 | h1
    · exact h.notO b g hp h1
    · have:=(h.gh b g hp).lt;omega⟩
theorem MemOK.le {μ μ':Mem} {os:List Ob} {γ0 γ:Cx} (h:MemOK μ os γ0 γ) (hl:∀ b g,μ' b=some g→μ b=some g):MemOK μ' os γ0 γ :=
  ⟨fun b g hp=>h.gh b g (hl b g hp),fun b g hp=>h.fresh b g (hl b g hp),fun b g hp=>h.notZ b g (hl b g hp),fun b g hp=>h.notO b g (hl b g hp)⟩
def OkM (N:Nat) (os:List Ob) (γ0:Cx) (σ:St) (μ:Mem) (a:Act) (w:World):Prop :=
  a.defers=[]∧a.tmps.size=N∧∃ γ,γ.w=w∧γ.tmps=a.tmps∧Sim σ γ∧Fr os γ0 σ.objs γ∧MemOK μ σ.objs γ0 γ
variable {Q:Exit→St→Mem→Prop} {μ:Mem}
def TurnsM (n0:Nat) (σ σ':St):Prop:=∀ (os:List Ob) (γ0 γ:Cx),os.length=n0→Sim σ γ→Fr os γ0 σ.objs γ →
  ∃ γ',γ'.w=γ.w∧γ'.tmps=γ.tmps∧Sim σ' γ'∧Fr os γ0 σ'.objs γ'∧(∀ b,γ'.Z b→γ.Z b∨Owned σ.objs γ.blk b)∧∀ b,Owned σ'.objs γ'.blk b→Owned σ.objs γ.blk b
theorem TurnsM.slots (l:List (Nat × AV)) (os:List Ob) (ho:σ.objs=os) (h:Has σ.env l):TurnsM n0 σ ⟨slots l,os⟩:=by
  subst ho
  intro os γ0 γ _ hs hf
  refine⟨γ,rfl,rfl,⟨fun k=>?_,hs.obs,hs.inj,hs.nz,hs.zlt⟩,hf,fun _ h=>.inl h,fun _ h=>h⟩
  rcases slots_or l k with h' | ⟨p,hp,rfl,h'⟩
  · show RelV _ _ _ _ (Am.slots l k) _
    rw[h'];exact .undef _
  · show RelV _ _ _ _ (Am.slots l p.1) _
    rw[h',← h.mem p hp];exact hs.slots p.1
theorem TurnsM.se (sel:List Nat) (snap:Bool) {l:List (Nat × AV)} {co:List Ob} (ho:SelO (rho σ.objs.length sel) σ.objs sel co) (h:HasR (ArgR σ (kept sel co) (rho σ.objs.length sel) snap) σ.env l)
    (hnd:sel.Nodup:=by decide) (hn:n0≤sel.length:=by decide) (hid:∀ i,i<n0→sel.getD i 0=i:=by decide):TurnsM n0 σ ⟨Am.slots l,co⟩:=by
  intro os γ0 γ hos hs hf
  obtain ⟨h1,h2,h3⟩:=ho.spec
  obtain ⟨γ',a1,a2,a3,a4⟩:=hs.select sel snap co hnd h1 h2 h3 (Am.slots l) γ.tmps (fun k=>by
    rcases slots_or l k with h' | ⟨p,hp,rfl,h'⟩
    · exact .inl h'
    · right;rw[h'];exact⟨_,h.mem p hp,hs.slots p.1⟩)
  obtain ⟨b1,b2,b3,b4⟩:=a4
  refine⟨γ',a1,a2,a3,hf.select (by omega) h1 (fun i hi=>hid i (by omega)) a1 ⟨b1,b2,b3,b4⟩,b3,?_⟩
  rintro b ⟨i,o,c,hi,hb⟩
  have hlt:=hi.lt
  rw[b1 i hlt] at hb
  exact⟨_,o,c,(b4 i hi).1,hb⟩
end Go.Am
namespace Go.Am
variable {P:Program} {N n0:Nat} {σ:St}
def iE (L:List (Int × Value)):List (Value × Value):=L.map fun p=>(.int .i64 p.1,p.2)
def setI (x:Int) (v:Value):List (Int × Value)→List (Int × Value)
  | []=>[(x,v)]
  | p::r=>if p.1=x then (x,v)::r else p::setI x v r
def getI (x:Int):List (Int × Value)→Option Value
  | []=>none
  | p::r=>if p.1=x then some p.2 else getI x r
theorem run_checkKey {kt:TypeId} (hk:P.underlying kt=some (.int .i64)) (e:Bool) (x:Int) (w:World):(Instr.checkKey e 10000 kt (.int .i64 x)).run P w=.ok () w:=by
  have h:∀ d:Nat,(Instr.checkKey e (d+1) kt (.int .i64 x)).run P w=.ok () w:=fun d=>by simp[Instr.checkKey,run_underlying hk]
  exact h 9999
end Go.Am
namespace Go.Am
variable {P:Program} {N n0:Nat} {σ:St}
theorem Sim.otherB {γ:Cx} (h:Sim σ γ) {w':World} {b:Nat} (hz:¬ γ.Z b) (ho:¬ Owned σ.objs γ.blk b) (hk:∀ k,k≠b→k<γ.w.heap.size→w'.heap[k]?=γ.w.heap[k]?) (hsz:γ.w.heap.size≤w'.heap.size):Sim σ { γ with w:=w' }:=by
  have hR:∀ v cv,RelV σ.objs γ.w γ.Z γ.blk v cv→RelV σ.objs w' γ.Z γ.blk v cv:=fun v cv hv =>
    hv.mono (fun k hkz=>⟨hkz,hk k (fun e=>hz (e ▸ hkz)) (h.zlt k hkz)⟩) (fun i x hx=>by
      by_cases hgo:x=.gone
      · subst hgo;exact .inl hx
      · exact .inr ⟨rfl,x,hx,Ob.like_refl hgo⟩)
  refine⟨fun k=>hR _ _ (h.slots k),fun i o hi=>?_,h.inj,h.nz,fun k hk'=>Nat.lt_of_lt_of_le (h.zlt k hk') hsz⟩
  by_cases hgo:o=.gone
  · subst hgo;trivial
  · exact (h.obs i o hi).mono hR rfl (fun k x c hb=>hk k (fun e=>ho ⟨i,x,c,⟨o,hi,hgo⟩,e ▸ hb⟩) (h.blt ⟨o,hi,hgo⟩ hb))
theorem Fr.otherB {os:List Ob} {γ0 γ:Cx} (h:Fr os γ0 σ.objs γ) {w':World} {b:Nat} (hb:γ0.w.heap.size≤b) (hk:∀ k,k≠b→k<γ.w.heap.size→w'.heap[k]?=γ.w.heap[k]?) (hsz:γ.w.heap.size≤w'.heap.size)
    (h1:w'.os=γ.w.os) (h2:w'.tape=γ.w.tape) (h3:w'.output=γ.w.output):Fr os γ0 σ.objs { γ with w:=w' } :=
  ⟨h1.trans h.eos,h2.trans h.tape,h3.trans h.output,Nat.le_trans h.size hsz,fun k hk' ho=>(hk k (by omega) (Nat.lt_of_lt_of_le hk' h.size)).trans (h.keep k hk' ho),h.z0,h.z1,h.own,h.len,h.old⟩
theorem MemOK.otherB {μ:Mem} {os:List Ob} {γ0 γ:Cx} (h:MemOK μ os γ0 γ) {w':World} {b:Nat} {g:Gh} (hz:¬ γ.Z b) (ho:¬ Owned os γ.blk b) (hb:γ0.w.heap.size≤b) (hk:∀ k,k≠b→k<γ.w.heap.size→w'.heap[k]?=γ.w.heap[k]?)
    (hg:g.At w' b):MemOK (updM μ b g) os γ0 { γ with w:=w' }:=by
  have one:∀ k g',updM μ b g k=some g'→(k=b∧g'=g)∨(k≠b∧μ k=some g'):=fun k g' h'=>by
    by_cases e:k=b
    · subst e;rw[updM_same] at h';exact .inl ⟨rfl,by simpa using h'.symm⟩
    · rw[updM_ne μ g e] at h';exact .inr ⟨e,h'⟩
  refine⟨fun k g' h'=>?_,fun k g' h'=>?_,fun k g' h'=>?_,fun k g' h'=>?_⟩<;>rcases one k g' h' with ⟨rfl,rfl⟩ | ⟨e,h2⟩
  · exact hg
  · exact (h.gh k g' h2).heap (hk k e (h.gh k g' h2).lt)
  · exact hb
  · exact h.fresh k g' h2
  · exact hz
  · exact h.notZ k g' h2
  · exact ho
  · exact h.notO k g' h2
variable {μ:Mem}
def keysI (P:Program) (t:TypeId):Prop:=∃ kt et,P.underlying t=some (.map kt et)∧P.underlying kt=some (.int .i64)
def isMapT (P:Program) (t:TypeId):Prop:=∃ kt et,P.underlying t=some (.map kt et)
def keysZ (P:Program) (t:TypeId) (z:Value):Prop:=∃ kt et,P.underlying t=some (.map kt et)∧P.underlying kt=some (.int .i64)∧∀ w:World,(zeroValue et).run P w=.ok z w
def binM (P:Program) (o:Oper) (op:BinOp) (t:TypeId) (x y:AV) (σ:St) (μ:Mem) (K:St→Mem→Prop):Prop :=
  match x with
  | .lit (.map a)=>isMapT P t∧y=.lit (.map none)∧match op with | .eql=>K (σ.put o.dst (.lit (.bool a.isNone))) μ | .neq=>K (σ.put o.dst (.lit (.bool (!a.isNone)))) μ | _=>False
  | _=>opG P o σ fun s=>K s μ
def lenM (P:Program) (o:Oper) (args:List AV) (ats:List TypeId) (σ:St) (μ:Mem) (K:St→Mem→Prop):Prop :=
  match args with
  | [.lit (.map (some b))]=>∃ t ents,ats=[t]∧isMapT P t∧μ b=some (.map ents)∧K (σ.put o.dst (.lit (.int .i64 (ents.length:Nat)))) μ
  | _=>opG P o σ fun s=>K s μ
def opM (P:Program) (o:Oper) (σ:St) (μ:Mem) (K:St→Mem→Prop):Prop :=
  match o.op with
  | .makeMap _ none=>∀ b,μ b=none→K (σ.put o.dst (.lit (.map (some b)))) (updM μ b (.map []))
  | .lookup t x i false=>∃ n z,ev σ i=.lit (.int .i64 n)∧keysZ P t z ∧
      ((ev σ x=.lit (.map none)∧K (σ.put o.dst (.lit z)) μ)∨∃ b L,ev σ x=.lit (.map (some b))∧μ b=some (.map (iE L))∧K (σ.put o.dst (.lit ((getI n L).getD z))) μ)
  | .mapUpdate t m k x=>∃ b n L v,keysI P t∧ev σ m=.lit (.map (some b))∧ev σ k=.lit (.int .i64 n)∧ev σ x=.lit v∧μ b=some (.map (iE L))∧K (σ.put o.dst .undef) (updM μ b (.map (iE (setI n v L))))
  | .range t x=>∃ b ents,isMapT P t∧ev σ x=.lit (.map (some b))∧μ b=some (.map ents)∧∀ r,μ r=none→K (σ.put o.dst (.lit (.pointer (some ⟨r,0,none⟩)))) (updM μ r (.iter b ents.length []))
  | .next x false=>∃ r b seen ents,ev σ x=.lit (.pointer (some ⟨r,0,none⟩))∧μ r=some (.iter b ents.length seen)∧μ b=some (.map ents) ∧
      ((∀ j<ents.length,j∈seen)→K (σ.put o.dst (.tup [.lit (.bool false)])) μ) ∧
      ∀ j p,ents[j]?=some p→j ∉ seen→K (σ.put o.dst (.tup [.lit (.bool true),.lit p.1,.lit p.2])) (updM μ r (.iter b ents.length (seen++[j])))
  | .entry x=>∃ r b seen j ents p,ev σ x=.lit (.pointer (some ⟨r,0,none⟩))∧μ r=some (.iter b ents.length (seen++[j]))∧μ b=some (.map ents)∧ents[j]?=some p∧K (σ.put o.dst (.tup [.lit p.1,.lit p.2])) μ
  | .binOp op t x y _=>binM P o op t (ev σ x) (ev σ y) σ μ K
  | .call ⟨.builtin .len,args,ats⟩=>lenM P o (args.toList.map (ev σ)) ats.toList σ μ K
  | _=>opG P o σ fun s=>K s μ
theorem OkM.block {os:List Ob} {γ0:Cx} {a:Act} {w w':World} (h:OkM N os γ0 σ μ a w) {b:Nat} {g:Gh} (hb:(∃ g',μ b=some g')∨b=w.heap.size) (hk:∀ k,k≠b→k<w.heap.size→w'.heap[k]?=w.heap[k]?) (hsz:w.heap.size≤w'.heap.size)
    (h1:w'.os=w.os) (h2:w'.tape=w.tape) (h3:w'.output=w.output) (hg:g.At w' b):OkM N os γ0 σ (updM μ b g) a w':=by
  obtain ⟨hdf,hs0,γ,rfl,ha,hs,hf,hm⟩:=h
  have hb':¬ γ.Z b∧¬ Owned σ.objs γ.blk b∧γ0.w.heap.size≤b:=by
    rcases hb with ⟨g',hg'⟩ | rfl
    · exact⟨hm.notZ _ _ hg',hm.notO _ _ hg',hm.fresh _ _ hg'⟩
    · refine⟨fun hz=>Nat.lt_irrefl _ (hs.zlt _ hz),?_,hf.size⟩
      rintro ⟨i,o,c,hl,hb⟩
      exact Nat.lt_irrefl _ (hs.blt hl hb)
  exact⟨hdf,hs0,{ γ with w:=w' },rfl,ha,hs.otherB hb'.1 hb'.2.1 hk hsz,hf.otherB hb'.2.2 hk hsz h1 h2 h3,hm.otherB hb'.1 hb'.2.1 hb'.2.2 hk hg⟩
theorem OkM.ev {os:List Ob} {γ0:Cx} {a:Act} {w:World} (h:OkM N os γ0 σ μ a w) {x:Operand} {v:Value} (hx:ev σ x=.lit v):a.eval x=v:=by
  obtain ⟨_,_,γ,rfl,ha,hs,_⟩:=h
  have:=ev_rel hs ha x
  rw[hx] at this
  exact this.lit_inv
theorem OkM.at {os:List Ob} {γ0:Cx} {a:Act} {w:World} (h:OkM N os γ0 σ μ a w) {b:Nat} {g:Gh} (hb:μ b=some g):g.At w b:=by
  obtain ⟨_,_,γ,rfl,ha,hs,_,hm⟩:=h
  exact hm.gh _ _ hb
theorem OkM.none {os:List Ob} {γ0:Cx} {a:Act} {w:World} (h:OkM N os γ0 σ μ a w):μ w.heap.size=none:=by
  cases hb:μ w.heap.size with
  | none=>rfl
  | some g=>exact absurd (h.at hb).lt (Nat.lt_irrefl _)
def guardMM (P:Program) (o:Oper) (K:St→Mem→Prop) (b want:Bool) (σ:St) (μ:Mem):Prop:=(b=want→opM P o σ μ K)∧(b≠want→K (σ.put o.dst (.lit (.tuple #[]))) μ)
def opsM (P:Program) (ops:Array Oper):List Oper→(St→Mem→Prop)→St→Mem→Prop
  | [],K,σ,μ=>K σ μ
  | o::r,K,σ,μ =>
    match o.guard with
    | none=>opM P o σ μ (opsM P ops r K)
    | some (j,want) =>
      match (ops[j]?).bind (·.dst) with
      | none=>False
      | some d =>
        match σ.env d with
        | .lit (.bool b)=>guardMM P o (opsM P ops r K) b want σ μ
        | .lit (.tuple vs)=>vs = #[]∧opsM P ops r K (σ.put o.dst (.lit (.tuple #[]))) μ
        | _=>False
end Go.Am

