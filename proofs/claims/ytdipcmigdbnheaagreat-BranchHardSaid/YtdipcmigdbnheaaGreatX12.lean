import Derived.Test.YtdipcmigdbnheaaGreatX11
import Derived.Laws.IdiomRangeMap
set_option linter.unusedVariables false
set_option linter.unusedSimpArgs false
set_option linter.unnecessarySimpa false
set_option linter.unusedSectionVars false
set_option maxHeartbeats 64000000
set_option maxRecDepth 20000
open List renaming getElem?_eq_some_iff→aS
open Option renaming some→da
open Nat renaming lt_of_lt_of_le→Gl,lt_irrefl→wK
namespace Go.Am
variable {P:Program} {N n0:Nat} {σ:St}
theorem Pq (dst:Option Tmp) (t:TypeId) (a:Operand) (tt:TypeId) (p:String) (af:Array Edge) (g:Option (Nat × Bool)) (K:St→Prop):kX true P ⟨dst,.load t a,tt,p,af,g⟩ σ K=rp P t dst K σ (ev σ a):=rfl
theorem Lq:type_of% @Pq∧type_of% @rp.eq_1:=⟨@Pq,@rp.eq_1⟩
theorem aA.vN (d id:Nat) {cells:List AV} (ho:σ.aa[id]?=some (.var cells)) (hd:σ.env d=.ptr id 0 0) (lS:∀ v∈cells,(∃ x,v=.lit x)∨∃ s r,v=.tree s r):aA n0 σ ⟨iG σ.env d (.db cells),σ.aa.set id .gone⟩:=by
  intro os γ0 γ _ hs hf
  have xr:id<σ.aa.length:=(aS.1 ho).1
  let aB:Cx:={ γ with Z:=fun b=>γ.Z b∨∃ o cap,γ.blk id=some (b,o,cap) }
  let dT:=σ.aa.set id .gone
  have eN:∀ i,dT[i]?=if i=id then some .gone else σ.aa[i]?:=by
    intro i
    show (σ.aa.set id _)[i]?=_
    rw[List.getElem?_set]
    by_cases h1:i=id
    · subst h1;simp[xr]
    · simp[Ne.symm h1,h1]
  have hR:∀ v cv,aw σ.aa γ.w γ.Z γ.blk v cv→aw dT aB.w aB.Z aB.blk v cv:=fun v cv hv =>
    hv.mono (fun b hb=>⟨.inl hb,rfl⟩) (fun i o hi=>by
      rw[eN]
      by_cases h1:i=id
      · left;rw[if_pos h1]
      · rw[if_neg h1]
        by_cases hg:o=.gone
        · subst hg;exact .inl hi
        · exact .inr ⟨rfl,o,hi,Ob.jB hg⟩)
  have cq:∀ i,Live dT i→Live σ.aa i∧i≠id:=by
    rintro i ⟨o,hi,hg⟩
    rw[eN] at hi
    split at hi
    · simp at hi;exact absurd hi.symm hg
    · rename_i h2;exact⟨⟨o,hi,hg⟩,h2⟩
  have n6:Live σ.aa id:=⟨_,ho,by simp⟩
  obtain ⟨b,cap,cur,t,h1,h2,h3,h4⟩:=hs.er _ _ ho
  have qN:=hs.av d
  rw[hd] at qN
  have jd:aw dT aB.w aB.Z aB.blk (.db cells) (γ.tmps.getD d Go.undef):=by
    generalize γ.tmps.getD d Go.undef=cv at qN
    cases qN with
    | cd _ _ h=>cases h
    | lU _ _ _ _ h=>rw[ho] at h;simp at h
    | mF _ _ b2 ag5 ag6 h hb =>
      rw[h1] at hb
      simp only[da.injEq,Prod.mk.injEq] at hb
      obtain ⟨rfl,_,_⟩:=hb
      refine .db cells b 0 (fun j=>cur.getD j Go.undef) (.inr ⟨0,cap,h1⟩) (fun j x hx=>?_) (fun j x hx=>?_)
      · rw[Nat.zero_add]
        exact yS h2 (by rw[h3];exact (aS.1 hx).1)
      · have dE:bV σ (fun y=>y≠id) x x:=by
          rcases lS x (List.mem_of_getElem? hx) with ⟨v,rfl⟩ | ⟨s,r,rfl⟩
          · exact .lit v
          · exact .tree s r
        exact dE.AQ hs (γc:=aB) (fun b hb=>.inl hb) rfl (fun x b o cap cN _ hb=>.inr ⟨o,cap,by rw[show id=x by simpa using (Decidable.not_not.1 cN).symm];exact hb⟩) _ (h4 j x hx)
    | m9 _ _ _ _ _ _ _ _ h=>rw[ho] at h;simp at h
  refine⟨aB,rfl,rfl,⟨fun k=>?_,?_,fun i j b o c o' c' hi hj=>hs.inj i j b o c o' c' (cq i hi).1 (cq j hj).1,?_,?_⟩,?_⟩
  · show aw dT aB.w aB.Z aB.blk (iG σ.env d (.db cells) k) (γ.tmps.getD k Go.undef)
    simp only[iG]
    split
    · rename_i e;subst e;exact jd
    · exact hR _ _ (hs.av k)
  · intro i o hi
    have hi':dT[i]?=some o:=hi
    rw[eN] at hi'
    split at hi'
    · simp only[da.injEq] at hi';subst hi';trivial
    · by_cases hg:o=.gone
      · subst hg;trivial
      · exact (hs.er i o hi').mono hR rfl (fun _ _ _ _=>rfl)
  · rintro b ⟨i,o,c',hi,hb⟩ (hz | ⟨o',cap,cU⟩)
    · exact hs.nz b ⟨i,o,c',(cq i hi).1,hb⟩ hz
    · exact (cq i hi).2 (hs.inj i id b o c' o' cap (cq i hi).1 n6 hb cU)
  · rintro b (hz | ⟨o,cap,hb⟩)
    · exact hs.gB b hz
    · exact hs.blt n6 hb
  · refine⟨hf.lT,hf.tape,hf.output,hf.size,hf.fC,fun b hb=>.inl (hf.z0 b hb),?_,?_,by show os.length≤dT.length;simp[dT];exact hf.len,?_⟩
    · rintro b (hz | ⟨o,cap,hb⟩)
      · exact hf.z1 b hz
      · exact .inr (hf.own b ⟨id,o,cap,n6,hb⟩)
    · rintro b ⟨i,o,c',hi,hb⟩
      exact hf.own b ⟨i,o,c',(cq i hi).1,hb⟩
    · intro i hi hl
      obtain ⟨h1,x,x',hx,cX,hk⟩:=hf.kG i hi (cq i hl).1
      have il:Live dT i:=hl
      obtain ⟨o,dO,ql⟩:=il
      refine⟨h1,x,o,hx,dO,?_⟩
      rw[eN] at dO
      split at dO
      · simp at dO;exact absurd dO.symm ql
      · rw[cX] at dO
        simp only[da.injEq] at dO
        subst dO;exact hk
end Go.Am
namespace Go.Am
variable {P:Program} {N n0:Nat} {σ:St}
inductive Gh where
  | map (iI:List (Value × Value))
  | iter (mb since:Nat) (seen:List Nat)
def Gh.At (w:World) (b:Nat):Gh→Prop
  | .map iI=>w.heap[b]?=some (.map (fX iI) iI.length)
  | .iter mb since seen=>w.heap[b]?=some (.mapIter (some mb) since seen.toArray since)
theorem Gh.At.heap {w w':World} {b:Nat} {g:Gh} (h:g.At w b) (e:w'.heap[b]?=w.heap[b]?):g.At w' b:=by
  cases g<;>exact e.trans h
theorem Gh.At.lt {w:World} {b:Nat} {g:Gh} (h:g.At w b):b<w.heap.size:=by
  cases g<;>exact (Array.getElem?_eq_some_iff.1 h).1
abbrev Mem:=Nat→Option Gh
def oh (μ:Mem) (b:Nat) (g:Gh):Mem:=fun k=>if k=b then some g else μ k
theorem EP (μ:Mem) (b:Nat) (g:Gh):oh μ b g b=some g:=by simp[oh]
theorem vV (μ:Mem) {b c:Nat} (g:Gh) (h:c≠b):oh μ b g c=μ c:=by simp[oh,h]
def BS:Mem:=fun _=>none
structure qO (μ:Mem) (os:List Ob) (γ0 γ:Cx):Prop where
  gh:∀ b g,μ b=some g→g.At γ.w b
  fresh:∀ b g,μ b=some g→γ0.w.heap.size≤b
  EX:∀ b g,μ b=some g→¬ γ.Z b
  zV:∀ b g,μ b=some g→¬ nU os γ.blk b
theorem qO.nil (os:List Ob) (γ0 γ:Cx):qO BS os γ0 γ:=⟨by simp[BS],by simp[BS],by simp[BS],by simp[BS]⟩
theorem qO.fC {μ:Mem} {os os':List Ob} {γ0 γ aB:Cx} (h:qO μ os γ0 γ) (hf:Fr os γ os' aB):qO μ os' γ0 aB :=
  ⟨fun b g hp=>(h.gh b g hp).heap (hf.fC _ (h.gh b g hp).lt (h.zV b g hp)),h.fresh,fun b g hp hz=>by
    rcases hf.z1 _ hz with h1 | h1 | h1
    · exact h.EX b g hp h1
    · exact h.zV b g hp h1
    · have:=(h.gh b g hp).lt;omega,fun b g hp ho=>by
    rcases hf.own _ ho with h1 | h1
    · exact h.zV b g hp h1
    · have:=(h.gh b g hp).lt;omega⟩
theorem qO.le {μ rY:Mem} {os:List Ob} {γ0 γ:Cx} (h:qO μ os γ0 γ) (hl:∀ b g,rY b=some g→μ b=some g):qO rY os γ0 γ :=
  ⟨fun b g hp=>h.gh b g (hl b g hp),fun b g hp=>h.fresh b g (hl b g hp),fun b g hp=>h.EX b g (hl b g hp),fun b g hp=>h.zV b g (hl b g hp)⟩
def rZ (N:Nat) (os:List Ob) (γ0:Cx) (σ:St) (μ:Mem) (a:Act) (w:World):Prop :=
  a.defers=[]∧a.tmps.size=N∧∃ γ,γ.w=w∧γ.tmps=a.tmps∧br σ γ∧Fr os γ0 σ.aa γ∧qO μ σ.aa γ0 γ
def WM (P:Program) (N n0:Nat) (c:Code) (Q:Exit→St→Mem→Prop) (σ:St) (μ:Mem):Prop :=
  ∀ (os:List Ob) (γ0:Cx) (a:Act) (w:World),os.length=n0→rZ N os γ0 σ μ a w→c.wp P (fun e a' w'=>∃ σ' rY,Q e σ' rY∧rZ N os γ0 σ' rY a' w') a w
variable {Q:Exit→St→Mem→Prop} {μ:Mem}
theorem abg {c:Code} (h:W P N σ.aa.length c (fun e s=>Q e s μ) σ):WM P N n0 c Q σ μ:=by
  rintro os γ0 a w hn ⟨ig,aW,γ,rfl,ha,hs,hf,hm⟩
  refine wp_mono (h σ.aa γ a γ.w rfl ⟨ig,aW,γ,rfl,ha,hs,Fr.refl _ _⟩) ?_
  rintro e a' w' ⟨σ',hq,abi,abj,aB,rfl,mh,gX,fV⟩
  exact⟨σ',μ,hq,abi,abj,aB,rfl,mh,gX,hf.trans fV,hm.fC fV⟩
theorem abk {x y:Code} (Q1:Exit→St→Mem→Prop) (h:WM P N n0 x Q1 σ μ) (hn:∀ s m,Q1 .normal s m→WM P N n0 y Q s m) (he:∀ e s m,e≠.normal→Q1 e s m→Q e s m):WM P N n0 (.seq x y) Q σ μ:=by
  intro os γ0 a w hl aQ
  refine wp_seq (wp_mono (h os γ0 a w hl aQ) ?_)
  rintro e a' w' ⟨σ',rY,h1,h2⟩
  cases e with
  | normal=>exact hn _ _ h1 os γ0 a' w' hl h2
  | exit id=>exact⟨σ',rY,he _ _ _ (by simp) h1,h2⟩
  | goto l=>exact⟨σ',rY,he _ _ _ (by simp) h1,h2⟩
  | ret=>exact⟨σ',rY,he _ _ _ (by simp) h1,h2⟩
  | panic c=>exact⟨σ',rY,he _ _ _ (by simp) h1,h2⟩
  | outgrown=>exact⟨σ',rY,he _ _ _ (by simp) h1,h2⟩
theorem abf {x y:Code} (h:∀ Q':Exit→St→Mem→Prop,(∀ s m,WM P N n0 y Q s m→Q' .normal s m)→(∀ e s m,rX e=false→Q e s m→Q' e s m)→WM P N n0 x Q' σ μ):WM P N n0 (.seq x y) Q σ μ :=
  abk (fun e s m=>(e=.normal→WM P N n0 y Q s m)∧(e≠.normal→Q e s m)) (h _ (fun s m h=>⟨fun _=>h,fun h=>absurd rfl h⟩) (fun e s m he h=>⟨fun e2=>absurd e2 (IE he),fun _=>h⟩)) (fun s m h=>h.1 rfl) (fun e s m he h=>h.2 he)
def zU (n0:Nat) (σ σ':St):Prop:=∀ (os:List Ob) (γ0 γ:Cx),os.length=n0→br σ γ→Fr os γ0 σ.aa γ →
  ∃ aB,aB.w=γ.w∧aB.tmps=γ.tmps∧br σ' aB∧Fr os γ0 σ'.aa aB∧(∀ b,aB.Z b→γ.Z b∨nU σ.aa γ.blk b)∧∀ b,nU σ'.aa aB.blk b→nU σ.aa γ.blk b
theorem zU.av (l:List (Nat × AV)) (os:List Ob) (ho:σ.aa=os) (h:Has σ.env l):zU n0 σ ⟨av l,os⟩:=by
  subst ho
  intro os γ0 γ _ hs hf
  refine⟨γ,rfl,rfl,⟨fun k=>?_,hs.er,hs.inj,hs.nz,hs.gB⟩,hf,fun _ h=>.inl h,fun _ h=>h⟩
  rcases Du l k with h' | ⟨p,hp,rfl,h'⟩
  · show aw _ _ _ _ (Am.av l k) _
    rw[h'];exact .undef _
  · show aw _ _ _ _ (Am.av l p.1) _
    rw[h',← h.mem p hp];exact hs.av p.1
theorem zU.se (aj:List Nat) (snap:Bool) {l:List (Nat × AV)} {co:List Ob} (ho:nQ (bd σ.aa.length aj) σ.aa aj co) (h:qo (aN σ (kept aj co) (bd σ.aa.length aj) snap) σ.env l)
    (bR:aj.Nodup:=by decide) (hn:n0≤aj.length:=by decide) (cN:∀ i,i<n0→aj.getD i 0=i:=by decide):zU n0 σ ⟨Am.av l,co⟩:=by
  intro os γ0 γ uj hs hf
  obtain ⟨h1,h2,h3⟩:=ho.spec
  obtain ⟨aB,a1,a2,a3,a4⟩:=hs.select aj snap co bR h1 h2 h3 (Am.av l) γ.tmps (fun k=>by
    rcases Du l k with h' | ⟨p,hp,rfl,h'⟩
    · exact .inl h'
    · right;rw[h'];exact⟨_,h.mem p hp,hs.av p.1⟩)
  obtain ⟨b1,b2,b3,b4⟩:=a4
  refine⟨aB,a1,a2,a3,hf.select (by omega) h1 (fun i hi=>cN i (by omega)) a1 ⟨b1,b2,b3,b4⟩,b3,?_⟩
  rintro b ⟨i,o,c,hi,hb⟩
  have bj:=hi.lt
  rw[b1 i bj] at hb
  exact⟨_,o,c,(b4 i hi).1,hb⟩
end Go.Am
namespace Go.Am
variable {P:Program} {N n0:Nat} {σ:St}
def iE (L:List (Int × Value)):List (Value × Value):=L.map fun p=>(.int .i64 p.1,p.2)
def tc (x:Int) (v:Value):List (Int × Value)→List (Int × Value)
  | []=>[(x,v)]
  | p::r=>if p.1=x then (x,v)::r else p::tc x v r
def Ps (x:Int):List (Int × Value)→Option Value
  | []=>none
  | p::r=>if p.1=x then some p.2 else Ps x r
theorem run_checkKey {kt:TypeId} (hk:P.underlying kt=some (.int .i64)) (e:Bool) (x:Int) (w:World):(Instr.checkKey e 10000 kt (.int .i64 x)).run P w=.ok () w:=by
  have h:∀ d:Nat,(Instr.checkKey e (d+1) kt (.int .i64 x)).run P w=.ok () w:=fun d=>by simp[Instr.checkKey,run_underlying hk]
  exact h 9999
end Go.Am
namespace Go.Am
variable {P:Program} {N n0:Nat} {σ:St}
theorem br.BT {γ:Cx} (h:br σ γ) {w':World} {b:Nat} (hz:¬ γ.Z b) (ho:¬ nU σ.aa γ.blk b) (hk:∀ k,k≠b→k<γ.w.heap.size→w'.heap[k]?=γ.w.heap[k]?) (aW:γ.w.heap.size≤w'.heap.size):br σ { γ with w:=w' }:=by
  have hR:∀ v cv,aw σ.aa γ.w γ.Z γ.blk v cv→aw σ.aa w' γ.Z γ.blk v cv:=fun v cv hv =>
    hv.mono (fun k IF=>⟨IF,hk k (fun e=>hz (e ▸ IF)) (h.gB k IF)⟩) (fun i x hx=>by
      by_cases bD:x=.gone
      · subst bD;exact .inl hx
      · exact .inr ⟨rfl,x,hx,Ob.jB bD⟩)
  refine⟨fun k=>hR _ _ (h.av k),fun i o hi=>?_,h.inj,h.nz,fun k aP=>Gl (h.gB k aP) aW⟩
  by_cases bD:o=.gone
  · subst bD;trivial
  · exact (h.er i o hi).mono hR rfl (fun k x c hb=>hk k (fun e=>ho ⟨i,x,c,⟨o,hi,bD⟩,e ▸ hb⟩) (h.blt ⟨o,hi,bD⟩ hb))
theorem Fr.BT {os:List Ob} {γ0 γ:Cx} (h:Fr os γ0 σ.aa γ) {w':World} {b:Nat} (hb:γ0.w.heap.size≤b) (hk:∀ k,k≠b→k<γ.w.heap.size→w'.heap[k]?=γ.w.heap[k]?) (aW:γ.w.heap.size≤w'.heap.size)
    (h1:w'.os=γ.w.os) (h2:w'.tape=γ.w.tape) (h3:w'.output=γ.w.output):Fr os γ0 σ.aa { γ with w:=w' } :=
  ⟨h1.trans h.lT,h2.trans h.tape,h3.trans h.output,Nat.le_trans h.size aW,fun k aP ho=>(hk k (by omega) (Gl aP h.size)).trans (h.fC k aP ho),h.z0,h.z1,h.own,h.len,h.kG⟩
theorem qO.BT {μ:Mem} {os:List Ob} {γ0 γ:Cx} (h:qO μ os γ0 γ) {w':World} {b:Nat} {g:Gh} (hz:¬ γ.Z b) (ho:¬ nU os γ.blk b) (hb:γ0.w.heap.size≤b) (hk:∀ k,k≠b→k<γ.w.heap.size→w'.heap[k]?=γ.w.heap[k]?)
    (hg:g.At w' b):qO (oh μ b g) os γ0 { γ with w:=w' }:=by
  have one:∀ k g',oh μ b g k=some g'→(k=b∧g'=g)∨(k≠b∧μ k=some g'):=fun k g' h'=>by
    by_cases e:k=b
    · subst e;rw[EP] at h';exact .inl ⟨rfl,by simpa using h'.symm⟩
    · rw[vV μ g e] at h';exact .inr ⟨e,h'⟩
  refine⟨fun k g' h'=>?_,fun k g' h'=>?_,fun k g' h'=>?_,fun k g' h'=>?_⟩<;>rcases one k g' h' with ⟨rfl,rfl⟩ | ⟨e,h2⟩
  · exact hg
  · exact (h.gh k g' h2).heap (hk k e (h.gh k g' h2).lt)
  · exact hb
  · exact h.fresh k g' h2
  · exact hz
  · exact h.EX k g' h2
  · exact ho
  · exact h.zV k g' h2
variable {μ:Mem}
def abl (P:Program) (t:TypeId):Prop:=∃ kt et,P.underlying t=some (.map kt et)∧P.underlying kt=some (.int .i64)
def IG (P:Program) (t:TypeId):Prop:=∃ kt et,P.underlying t=some (.map kt et)
def abm (P:Program) (t:TypeId) (z:Value):Prop:=∃ kt et,P.underlying t=some (.map kt et)∧P.underlying kt=some (.int .i64)∧∀ w:World,(zeroValue et).run P w=.ok z w
def abn (P:Program) (o:Oper) (op:BinOp) (t:TypeId) (x y:AV) (σ:St) (μ:Mem) (K:St→Mem→Prop):Prop :=
  match x with
  | .lit (.map a)=>IG P t∧y=.lit (.map none)∧match op with | .eql=>K (σ.put o.dst (.lit (.bool a.isNone))) μ | .neq=>K (σ.put o.dst (.lit (.bool (!a.isNone)))) μ | _=>False
  | _=>bf P o σ fun s=>K s μ
def abo (P:Program) (o:Oper) (args:List AV) (fc:List TypeId) (σ:St) (μ:Mem) (K:St→Mem→Prop):Prop :=
  match args with
  | [.lit (.map (some b))]=>∃ t iI,fc=[t]∧IG P t∧μ b=some (.map iI)∧K (σ.put o.dst (.lit (.int .i64 (iI.length:Nat)))) μ
  | _=>bf P o σ fun s=>K s μ
def Pt (P:Program) (o:Oper) (σ:St) (μ:Mem) (K:St→Mem→Prop):Prop :=
  match o.op with
  | .makeMap _ none=>∀ b,μ b=none→K (σ.put o.dst (.lit (.map (some b)))) (oh μ b (.map []))
  | .lookup t x i false=>∃ n z,ev σ i=.lit (.int .i64 n)∧abm P t z ∧
      ((ev σ x=.lit (.map none)∧K (σ.put o.dst (.lit z)) μ)∨∃ b L,ev σ x=.lit (.map (some b))∧μ b=some (.map (iE L))∧K (σ.put o.dst (.lit ((Ps n L).getD z))) μ)
  | .mapUpdate t m k x=>∃ b n L v,abl P t∧ev σ m=.lit (.map (some b))∧ev σ k=.lit (.int .i64 n)∧ev σ x=.lit v∧μ b=some (.map (iE L))∧K (σ.put o.dst .undef) (oh μ b (.map (iE (tc n v L))))
  | .range t x=>∃ b iI,IG P t∧ev σ x=.lit (.map (some b))∧μ b=some (.map iI)∧∀ r,μ r=none→K (σ.put o.dst (.lit (.pointer (some ⟨r,0,none⟩)))) (oh μ r (.iter b iI.length []))
  | .next x false=>∃ r b seen iI,ev σ x=.lit (.pointer (some ⟨r,0,none⟩))∧μ r=some (.iter b iI.length seen)∧μ b=some (.map iI) ∧
      ((∀ j<iI.length,j∈seen)→K (σ.put o.dst (.bL [.lit (.bool false)])) μ) ∧
      ∀ j p,iI[j]?=some p→j ∉ seen→K (σ.put o.dst (.bL [.lit (.bool true),.lit p.1,.lit p.2])) (oh μ r (.iter b iI.length (seen++[j])))
  | .entry x=>∃ r b seen j iI p,ev σ x=.lit (.pointer (some ⟨r,0,none⟩))∧μ r=some (.iter b iI.length (seen++[j]))∧μ b=some (.map iI)∧iI[j]?=some p∧K (σ.put o.dst (.bL [.lit p.1,.lit p.2])) μ
  | .binOp op t x y _=>abn P o op t (ev σ x) (ev σ y) σ μ K
  | .call ⟨.builtin .len,args,fc⟩=>abo P o (args.toList.map (ev σ)) fc.toList σ μ K
  | _=>bf P o σ fun s=>K s μ
theorem rZ.block {os:List Ob} {γ0:Cx} {a:Act} {w w':World} (h:rZ N os γ0 σ μ a w) {b:Nat} {g:Gh} (hb:(∃ g',μ b=some g')∨b=w.heap.size) (hk:∀ k,k≠b→k<w.heap.size→w'.heap[k]?=w.heap[k]?) (aW:w.heap.size≤w'.heap.size)
    (h1:w'.os=w.os) (h2:w'.tape=w.tape) (h3:w'.output=w.output) (hg:g.At w' b):rZ N os γ0 σ (oh μ b g) a w':=by
  obtain ⟨ig,uD,γ,rfl,ha,hs,hf,hm⟩:=h
  have cU:¬ γ.Z b∧¬ nU σ.aa γ.blk b∧γ0.w.heap.size≤b:=by
    rcases hb with ⟨g',qt⟩ | rfl
    · exact⟨hm.EX _ _ qt,hm.zV _ _ qt,hm.fresh _ _ qt⟩
    · refine⟨fun hz=>wK _ (hs.gB _ hz),?_,hf.size⟩
      rintro ⟨i,o,c,hl,hb⟩
      exact wK _ (hs.blt hl hb)
  exact⟨ig,uD,{ γ with w:=w' },rfl,ha,hs.BT cU.1 cU.2.1 hk aW,hf.BT cU.2.2 hk aW h1 h2 h3,hm.BT cU.1 cU.2.1 cU.2.2 hk hg⟩
theorem rZ.ev {os:List Ob} {γ0:Cx} {a:Act} {w:World} (h:rZ N os γ0 σ μ a w) {x:Operand} {v:Value} (hx:ev σ x=.lit v):a.eval x=v:=by
  obtain ⟨_,_,γ,rfl,ha,hs,_⟩:=h
  have:=sN hs ha x
  rw[hx] at this
  exact this.cH
theorem rZ.at {os:List Ob} {γ0:Cx} {a:Act} {w:World} (h:rZ N os γ0 σ μ a w) {b:Nat} {g:Gh} (hb:μ b=some g):g.At w b:=by
  obtain ⟨_,_,γ,rfl,ha,hs,_,hm⟩:=h
  exact hm.gh _ _ hb
theorem rZ.none {os:List Ob} {γ0:Cx} {a:Act} {w:World} (h:rZ N os γ0 σ μ a w):μ w.heap.size=none:=by
  cases hb:μ w.heap.size with
  | none=>rfl
  | some g=>exact absurd (h.at hb).lt (wK _)
def xM (P:Program) (o:Oper) (K:St→Mem→Prop) (b want:Bool) (σ:St) (μ:Mem):Prop:=(b=want→Pt P o σ μ K)∧(b≠want→K (σ.put o.dst (.lit (.tuple #[]))) μ)
def ET (P:Program) (ops:Array Oper):List Oper→(St→Mem→Prop)→St→Mem→Prop
  | [],K,σ,μ=>K σ μ
  | o::r,K,σ,μ =>
    match o.guard with
    | none=>Pt P o σ μ (ET P ops r K)
    | some (j,want) =>
      match (ops[j]?).bind (·.dst) with
      | none=>False
      | some d =>
        match σ.env d with
        | .lit (.bool b)=>xM P o (ET P ops r K) b want σ μ
        | .lit (.tuple vs)=>vs = #[]∧ET P ops r K (σ.put o.dst (.lit (.tuple #[]))) μ
        | _=>False
end Go.Am

