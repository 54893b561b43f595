import Derived.Test.YtdipcmigdbnheaaGreatX10
import Derived.Laws.IdiomRangeMap
set_option linter.unusedVariables false
set_option linter.unusedSimpArgs false
set_option linter.unnecessarySimpa false
set_option linter.unusedSectionVars false
set_option maxHeartbeats 64000000
set_option maxRecDepth 20000
open List renaming getElem?_eq_some_iff→aY
open Option renaming some→dw
open Nat renaming lt_of_lt_of_le→G9
namespace Go.Am
variable {P:Program} {N n0:Nat} {σ:St}
theorem SE (dst:Option Tmp) (t:TypeId) (a:Operand) (tt:TypeId) (p:String) (af:Array Edge) (g:Option (Nat × Bool)) (K:St→Prop):lB true P ⟨dst,.load t a,tt,p,af,g⟩ σ K=sh P t dst K σ (ev σ a):=rfl
theorem Lq:type_of% @SE∧type_of% @sh.eq_1:=⟨@SE,@sh.eq_1⟩
theorem aQ.Ap (d id:Nat) {cells:List AV} (ho:σ.aa[id]?=some (.var cells)) (hd:σ.env d=.ptr id 0 0) (tw:∀ v∈cells,(∃ x,v=.lit x)∨∃ s r,v=.tree s r):aQ n0 σ ⟨jG σ.env d (.dz cells),σ.aa.set id .gone⟩:=by
  intro os γ0 γ _ hs hf
  have Ch:id<σ.aa.length:=(aY.1 ho).1
  let aI:Cx:={ γ with Z:=fun b=>γ.Z b∨∃ o cap,γ.blk id=some (b,o,cap) }
  let fO:=σ.aa.set id .gone
  have gX:∀ i,fO[i]?=if i=id then some .gone else σ.aa[i]?:=by
    intro i
    show (σ.aa.set id _)[i]?=_
    rw[List.getElem?_set]
    by_cases h1:i=id
    · subst h1;simp[Ch]
    · simp[Ne.symm h1,h1]
  have hR:∀ v cv,aB σ.aa γ.w γ.Z γ.blk v cv→aB fO aI.w aI.Z aI.blk v cv:=fun v cv hv =>
    hv.mono (fun b hb=>⟨.inl hb,rfl⟩) (fun i o hi=>by
      rw[gX]
      by_cases h1:i=id
      · left;rw[if_pos h1]
      · rw[if_neg h1]
        by_cases hg:o=.gone
        · subst hg;exact .inl hi
        · exact .inr ⟨rfl,o,hi,Ob.jY hg⟩)
  have cM:∀ i,Live fO i→Live σ.aa i∧i≠id:=by
    rintro i ⟨o,hi,hg⟩
    rw[gX] at hi
    split at hi
    · simp at hi;exact absurd hi.symm hg
    · rename_i h2;exact⟨⟨o,hi,hg⟩,h2⟩
  have sG:Live σ.aa id:=⟨_,ho,by simp⟩
  obtain ⟨b,cap,cur,t,h1,h2,h3,h4⟩:=hs.eN _ _ ho
  have vA:=hs.aw d
  rw[hd] at vA
  have jW:aB fO aI.w aI.Z aI.blk (.dz cells) (γ.tmps.getD d Go.undef):=by
    generalize γ.tmps.getD d Go.undef=cv at vA
    cases vA with
    | cI _ _ h=>cases h
    | my _ _ _ _ h=>rw[ho] at h;simp at h
    | m7 _ _ b2 aiT aiU h hb =>
      rw[h1] at hb
      simp only[dw.injEq,Prod.mk.injEq] at hb
      obtain ⟨rfl,_,_⟩:=hb
      refine .dz cells b 0 (fun j=>cur.getD j Go.undef) (.inr ⟨0,cap,h1⟩) (fun j x hx=>?_) (fun j x hx=>?_)
      · rw[Nat.zero_add]
        exact zZ h2 (by rw[h3];exact (aY.1 hx).1)
      · have eE:cw σ (fun y=>y≠id) x x:=by
          rcases tw x (List.mem_of_getElem? hx) with ⟨v,rfl⟩ | ⟨s,r,rfl⟩
          · exact .lit v
          · exact .tree s r
        exact eE.Ex hs (γc:=aI) (fun b hb=>.inl hb) rfl (fun x b o cap cT _ hb=>.inr ⟨o,cap,by rw[show id=x by simpa using (Decidable.not_not.1 cT).symm];exact hb⟩) _ (h4 j x hx)
    | nL _ _ _ _ _ _ _ _ h=>rw[ho] at h;simp at h
  refine⟨aI,rfl,rfl,⟨fun k=>?_,?_,fun i j b o c o' c' hi hj=>hs.inj i j b o c o' c' (cM i hi).1 (cM j hj).1,?_,?_⟩,?_⟩
  · show aB fO aI.w aI.Z aI.blk (jG σ.env d (.dz cells) k) (γ.tmps.getD k Go.undef)
    simp only[jG]
    split
    · rename_i e;subst e;exact jW
    · exact hR _ _ (hs.aw k)
  · intro i o hi
    have ax:fO[i]?=some o:=hi
    rw[gX] at ax
    split at ax
    · simp only[dw.injEq] at ax;subst ax;trivial
    · by_cases hg:o=.gone
      · subst hg;trivial
      · exact (hs.eN i o ax).mono hR rfl (fun _ _ _ _=>rfl)
  · rintro b ⟨i,o,c',hi,hb⟩ (hz | ⟨o',cap,da⟩)
    · exact hs.nz b ⟨i,o,c',(cM i hi).1,hb⟩ hz
    · exact (cM i hi).2 (hs.inj i id b o c' o' cap (cM i hi).1 sG hb da)
  · rintro b (hz | ⟨o,cap,hb⟩)
    · exact hs.iq b hz
    · exact hs.blt sG hb
  · refine⟨hf.m5,hf.tape,hf.output,hf.size,hf.fV,fun b hb=>.inl (hf.z0 b hb),?_,?_,by show os.length≤fO.length;simp[fO];exact hf.len,?_⟩
    · rintro b (hz | ⟨o,cap,hb⟩)
      · exact hf.z1 b hz
      · exact .inr (hf.own b ⟨id,o,cap,sG,hb⟩)
    · rintro b ⟨i,o,c',hi,hb⟩
      exact hf.own b ⟨i,o,c',(cM i hi).1,hb⟩
    · intro i hi hl
      obtain ⟨h1,x,x',hx,cP,hk⟩:=hf.kz i hi (cM i hl).1
      have kY:Live fO i:=hl
      obtain ⟨o,fh,tF⟩:=kY
      refine⟨h1,x,o,hx,fh,?_⟩
      rw[gX] at fh
      split at fh
      · simp at fh;exact absurd fh.symm tF
      · rw[cP] at fh
        simp only[dw.injEq] at fh
        subst fh;exact hk
end Go.Am
namespace Go.Am
variable {P:Program} {N n0:Nat} {σ:St}
inductive Gh where
  | map (iN:List (Value × Value))
  | iter (mb since:Nat) (seen:List Nat)
def Gh.At (w:World) (b:Nat):Gh→Prop
  | .map iN=>w.heap[b]?=some (.map (gn iN) iN.length)
  | .iter mb since seen=>w.heap[b]?=some (.mapIter (some mb) since seen.toArray since)
theorem Gh.At.heap {w w':World} {b:Nat} {g:Gh} (h:g.At w b) (e:w'.heap[b]?=w.heap[b]?):g.At w' b:=by
  cases g<;>exact e.trans h
theorem Gh.At.lt {w:World} {b:Nat} {g:Gh} (h:g.At w b):b<w.heap.size:=by
  cases g<;>exact (Array.getElem?_eq_some_iff.1 h).1
abbrev Mem:=Nat→Option Gh
def oX (μ:Mem) (b:Nat) (g:Gh):Mem:=fun k=>if k=b then some g else μ k
theorem FA (μ:Mem) (b:Nat) (g:Gh):oX μ b g b=some g:=by simp[oX]
theorem xe (μ:Mem) {b c:Nat} (g:Gh) (h:c≠b):oX μ b g c=μ c:=by simp[oX,h]
def CV:Mem:=fun _=>none
structure rF (μ:Mem) (os:List Ob) (γ0 γ:Cx):Prop where
  gh:∀ b g,μ b=some g→g.At γ.w b
  fresh:∀ b g,μ b=some g→γ0.w.heap.size≤b
  FO:∀ b g,μ b=some g→¬ γ.Z b
  A2:∀ b g,μ b=some g→¬ oD os γ.blk b
theorem rF.nil (os:List Ob) (γ0 γ:Cx):rF CV os γ0 γ:=⟨by simp[CV],by simp[CV],by simp[CV],by simp[CV]⟩
theorem rF.fV {μ:Mem} {os gW:List Ob} {γ0 γ aI:Cx} (h:rF μ os γ0 γ) (hf:Fr os γ gW aI):rF μ gW γ0 aI :=
  ⟨fun b g hp=>(h.gh b g hp).heap (hf.fV _ (h.gh b g hp).lt (h.A2 b g hp)),h.fresh,fun b g hp hz=>by
    rcases hf.z1 _ hz with h1 | h1 | h1
    · exact h.FO b g hp h1
    · exact h.A2 b g hp h1
    · have:=(h.gh b g hp).lt;omega,fun b g hp ho=>by
    rcases hf.own _ ho with h1 | h1
    · exact h.A2 b g hp h1
    · have:=(h.gh b g hp).lt;omega⟩
theorem rF.le {μ sS:Mem} {os:List Ob} {γ0 γ:Cx} (h:rF μ os γ0 γ) (hl:∀ b g,sS b=some g→μ b=some g):rF sS os γ0 γ :=
  ⟨fun b g hp=>h.gh b g (hl b g hp),fun b g hp=>h.fresh b g (hl b g hp),fun b g hp=>h.FO b g (hl b g hp),fun b g hp=>h.A2 b g (hl b g hp)⟩
def sT (N:Nat) (os:List Ob) (γ0:Cx) (σ:St) (μ:Mem) (a:Act) (w:World):Prop :=
  a.defers=[]∧a.tmps.size=N∧∃ γ,γ.w=w∧γ.tmps=a.tmps∧bj σ γ∧Fr os γ0 σ.aa γ∧rF μ σ.aa γ0 γ
def WM (P:Program) (N n0:Nat) (c:Code) (Q:Exit→St→Mem→Prop) (σ:St) (μ:Mem):Prop :=
  ∀ (os:List Ob) (γ0:Cx) (a:Act) (w:World),os.length=n0→sT N os γ0 σ μ a w→c.wp P (fun e a' w'=>∃ σ' sS,Q e σ' sS∧sT N os γ0 σ' sS a' w') a w
variable {Q:Exit→St→Mem→Prop} {μ:Mem}
theorem ado {c:Code} (h:W P N σ.aa.length c (fun e s=>Q e s μ) σ):WM P N n0 c Q σ μ:=by
  rintro os γ0 a w hn ⟨iB,a5,γ,rfl,ha,hs,hf,hm⟩
  refine wp_mono (h σ.aa γ a γ.w rfl ⟨iB,a5,γ,rfl,ha,hs,Fr.refl _ _⟩) ?_
  rintro e a' w' ⟨σ',hq,adq,adr,aI,rfl,n7,jV,gl⟩
  exact⟨σ',μ,hq,adq,adr,aI,rfl,n7,jV,hf.trans gl,hm.fV gl⟩
theorem ads {x y:Code} (Q1:Exit→St→Mem→Prop) (h:WM P N n0 x Q1 σ μ) (hn:∀ s m,Q1 .normal s m→WM P N n0 y Q s m) (he:∀ e s m,e≠.normal→Q1 e s m→Q e s m):WM P N n0 (.seq x y) Q σ μ:=by
  intro os γ0 a w hl aC
  refine wp_seq (wp_mono (h os γ0 a w hl aC) ?_)
  rintro e a' w' ⟨σ',sS,h1,h2⟩
  cases e with
  | normal=>exact hn _ _ h1 os γ0 a' w' hl h2
  | exit id=>exact⟨σ',sS,he _ _ _ (by simp) h1,h2⟩
  | goto l=>exact⟨σ',sS,he _ _ _ (by simp) h1,h2⟩
  | ret=>exact⟨σ',sS,he _ _ _ (by simp) h1,h2⟩
  | panic c=>exact⟨σ',sS,he _ _ _ (by simp) h1,h2⟩
  | outgrown=>exact⟨σ',sS,he _ _ _ (by simp) h1,h2⟩
theorem adn {x y:Code} (h:∀ Q':Exit→St→Mem→Prop,(∀ s m,WM P N n0 y Q s m→Q' .normal s m)→(∀ e s m,sR e=false→Q e s m→Q' e s m)→WM P N n0 x Q' σ μ):WM P N n0 (.seq x y) Q σ μ :=
  ads (fun e s m=>(e=.normal→WM P N n0 y Q s m)∧(e≠.normal→Q e s m)) (h _ (fun s m h=>⟨fun _=>h,fun h=>absurd rfl h⟩) (fun e s m he h=>⟨fun e2=>absurd e2 (JG he),fun _=>h⟩)) (fun s m h=>h.1 rfl) (fun e s m he h=>h.2 he)
def A1 (n0:Nat) (σ σ':St):Prop:=∀ (os:List Ob) (γ0 γ:Cx),os.length=n0→bj σ γ→Fr os γ0 σ.aa γ →
  ∃ aI,aI.w=γ.w∧aI.tmps=γ.tmps∧bj σ' aI∧Fr os γ0 σ'.aa aI∧(∀ b,aI.Z b→γ.Z b∨oD σ.aa γ.blk b)∧∀ b,oD σ'.aa aI.blk b→oD σ.aa γ.blk b
theorem A1.aw (l:List (Nat × AV)) (os:List Ob) (ho:σ.aa=os) (h:Has σ.env l):A1 n0 σ ⟨aw l,os⟩:=by
  subst ho
  intro os γ0 γ _ hs hf
  refine⟨γ,rfl,rfl,⟨fun k=>?_,hs.eN,hs.inj,hs.nz,hs.iq⟩,hf,fun _ h=>.inl h,fun _ h=>h⟩
  rcases Er l k with h' | ⟨p,hp,rfl,h'⟩
  · show aB _ _ _ _ (Am.aw l k) _
    rw[h'];exact .undef _
  · show aB _ _ _ _ (Am.aw l p.1) _
    rw[h',← h.mem p hp];exact hs.aw p.1
theorem A1.se (an:List Nat) (snap:Bool) {l:List (Nat × AV)} {co:List Ob} (ho:ox (a9 σ.aa.length an) σ.aa an co) (h:qR (aO σ (kept an co) (a9 σ.aa.length an) snap) σ.env l)
    (bC:an.Nodup:=by decide) (hn:n0≤an.length:=by decide) (cT:∀ i,i<n0→an.getD i 0=i:=by decide):A1 n0 σ ⟨Am.aw l,co⟩:=by
  intro os γ0 γ u4 hs hf
  obtain ⟨h1,h2,h3⟩:=ho.spec
  obtain ⟨aI,a1,a2,a3,a4⟩:=hs.select an snap co bC h1 h2 h3 (Am.aw l) γ.tmps (fun k=>by
    rcases Er l k with h' | ⟨p,hp,rfl,h'⟩
    · exact .inl h'
    · right;rw[h'];exact⟨_,h.mem p hp,hs.aw p.1⟩)
  obtain ⟨b1,b2,b3,b4⟩:=a4
  refine⟨aI,a1,a2,a3,hf.select (by omega) h1 (fun i hi=>cT i (by omega)) a1 ⟨b1,b2,b3,b4⟩,b3,?_⟩
  rintro b ⟨i,o,c,hi,hb⟩
  have aT:=hi.lt
  rw[b1 i aT] at hb
  exact⟨_,o,c,(b4 i hi).1,hb⟩
end Go.Am
namespace Go.Am
variable {P:Program} {N n0:Nat} {σ:St}
def iE (L:List (Int × Value)):List (Value × Value):=L.map fun p=>(.int .i64 p.1,p.2)
def ur (x:Int) (v:Value):List (Int × Value)→List (Int × Value)
  | []=>[(x,v)]
  | p::r=>if p.1=x then (x,v)::r else p::ur x v r
def SF (x:Int):List (Int × Value)→Option Value
  | []=>none
  | p::r=>if p.1=x then some p.2 else SF x r
theorem run_checkKey {kt:TypeId} (hk:P.underlying kt=some (.int .i64)) (e:Bool) (x:Int) (w:World):(Instr.checkKey e 10000 kt (.int .i64 x)).run P w=.ok () w:=by
  have h:∀ d:Nat,(Instr.checkKey e (d+1) kt (.int .i64 x)).run P w=.ok () w:=fun d=>by simp[Instr.checkKey,run_underlying hk]
  exact h 9999
end Go.Am
namespace Go.Am
variable {P:Program} {N n0:Nat} {σ:St}
theorem bj.CW {γ:Cx} (h:bj σ γ) {w':World} {b:Nat} (hz:¬ γ.Z b) (ho:¬ oD σ.aa γ.blk b) (hk:∀ k,k≠b→k<γ.w.heap.size→w'.heap[k]?=γ.w.heap[k]?) (a5:γ.w.heap.size≤w'.heap.size):bj σ { γ with w:=w' }:=by
  have hR:∀ v cv,aB σ.aa γ.w γ.Z γ.blk v cv→aB σ.aa w' γ.Z γ.blk v cv:=fun v cv hv =>
    hv.mono (fun k JH=>⟨JH,hk k (fun e=>hz (e ▸ JH)) (h.iq k JH)⟩) (fun i x hx=>by
      by_cases bE:x=.gone
      · subst bE;exact .inl hx
      · exact .inr ⟨rfl,x,hx,Ob.jY bE⟩)
  refine⟨fun k=>hR _ _ (h.aw k),fun i o hi=>?_,h.inj,h.nz,fun k aF=>G9 (h.iq k aF) a5⟩
  by_cases bE:o=.gone
  · subst bE;trivial
  · exact (h.eN i o hi).mono hR rfl (fun k x c hb=>hk k (fun e=>ho ⟨i,x,c,⟨o,hi,bE⟩,e ▸ hb⟩) (h.blt ⟨o,hi,bE⟩ hb))
theorem Fr.CW {os:List Ob} {γ0 γ:Cx} (h:Fr os γ0 σ.aa γ) {w':World} {b:Nat} (hb:γ0.w.heap.size≤b) (hk:∀ k,k≠b→k<γ.w.heap.size→w'.heap[k]?=γ.w.heap[k]?) (a5:γ.w.heap.size≤w'.heap.size)
    (h1:w'.os=γ.w.os) (h2:w'.tape=γ.w.tape) (h3:w'.output=γ.w.output):Fr os γ0 σ.aa { γ with w:=w' } :=
  ⟨h1.trans h.m5,h2.trans h.tape,h3.trans h.output,Nat.le_trans h.size a5,fun k aF ho=>(hk k (by omega) (G9 aF h.size)).trans (h.fV k aF ho),h.z0,h.z1,h.own,h.len,h.kz⟩
theorem rF.CW {μ:Mem} {os:List Ob} {γ0 γ:Cx} (h:rF μ os γ0 γ) {w':World} {b:Nat} {g:Gh} (hz:¬ γ.Z b) (ho:¬ oD os γ.blk b) (hb:γ0.w.heap.size≤b) (hk:∀ k,k≠b→k<γ.w.heap.size→w'.heap[k]?=γ.w.heap[k]?)
    (hg:g.At w' b):rF (oX μ b g) os γ0 { γ with w:=w' }:=by
  have one:∀ k g',oX μ b g k=some g'→(k=b∧g'=g)∨(k≠b∧μ k=some g'):=fun k g' h'=>by
    by_cases e:k=b
    · subst e;rw[FA] at h';exact .inl ⟨rfl,by simpa using h'.symm⟩
    · rw[xe μ g e] at h';exact .inr ⟨e,h'⟩
  refine⟨fun k g' h'=>?_,fun k g' h'=>?_,fun k g' h'=>?_,fun k g' h'=>?_⟩<;>rcases one k g' h' with ⟨rfl,rfl⟩ | ⟨e,h2⟩
  · exact hg
  · exact (h.gh k g' h2).heap (hk k e (h.gh k g' h2).lt)
  · exact hb
  · exact h.fresh k g' h2
  · exact hz
  · exact h.FO k g' h2
  · exact ho
  · exact h.A2 k g' h2
variable {μ:Mem}
def adt (P:Program) (t:TypeId):Prop:=∃ kt et,P.underlying t=some (.map kt et)∧P.underlying kt=some (.int .i64)
def JI (P:Program) (t:TypeId):Prop:=∃ kt et,P.underlying t=some (.map kt et)
def adu (P:Program) (t:TypeId) (z:Value):Prop:=∃ kt et,P.underlying t=some (.map kt et)∧P.underlying kt=some (.int .i64)∧∀ w:World,(zeroValue et).run P w=.ok z w
def adv (P:Program) (o:Oper) (op:BinOp) (t:TypeId) (x y:AV) (σ:St) (μ:Mem) (K:St→Mem→Prop):Prop :=
  match x with
  | .lit (.map a)=>JI P t∧y=.lit (.map none)∧match op with | .eql=>K (σ.put o.dst (.lit (.bool a.isNone))) μ | .neq=>K (σ.put o.dst (.lit (.bool (!a.isNone)))) μ | _=>False
  | _=>bb P o σ fun s=>K s μ
def adw (P:Program) (o:Oper) (args:List AV) (fD:List TypeId) (σ:St) (μ:Mem) (K:St→Mem→Prop):Prop :=
  match args with
  | [.lit (.map (some b))]=>∃ t iN,fD=[t]∧JI P t∧μ b=some (.map iN)∧K (σ.put o.dst (.lit (.int .i64 (iN.length:Nat)))) μ
  | _=>bb P o σ fun s=>K s μ
def SG (P:Program) (o:Oper) (σ:St) (μ:Mem) (K:St→Mem→Prop):Prop :=
  match o.op with
  | .makeMap _ none=>∀ b,μ b=none→K (σ.put o.dst (.lit (.map (some b)))) (oX μ b (.map []))
  | .lookup t x i false=>∃ n z,ev σ i=.lit (.int .i64 n)∧adu P t z ∧
      ((ev σ x=.lit (.map none)∧K (σ.put o.dst (.lit z)) μ)∨∃ b L,ev σ x=.lit (.map (some b))∧μ b=some (.map (iE L))∧K (σ.put o.dst (.lit ((SF n L).getD z))) μ)
  | .mapUpdate t m k x=>∃ b n L v,adt P t∧ev σ m=.lit (.map (some b))∧ev σ k=.lit (.int .i64 n)∧ev σ x=.lit v∧μ b=some (.map (iE L))∧K (σ.put o.dst .undef) (oX μ b (.map (iE (ur n v L))))
  | .range t x=>∃ b iN,JI P t∧ev σ x=.lit (.map (some b))∧μ b=some (.map iN)∧∀ r,μ r=none→K (σ.put o.dst (.lit (.pointer (some ⟨r,0,none⟩)))) (oX μ r (.iter b iN.length []))
  | .next x false=>∃ r b seen iN,ev σ x=.lit (.pointer (some ⟨r,0,none⟩))∧μ r=some (.iter b iN.length seen)∧μ b=some (.map iN) ∧
      ((∀ j<iN.length,j∈seen)→K (σ.put o.dst (.bM [.lit (.bool false)])) μ) ∧
      ∀ j p,iN[j]?=some p→j ∉ seen→K (σ.put o.dst (.bM [.lit (.bool true),.lit p.1,.lit p.2])) (oX μ r (.iter b iN.length (seen++[j])))
  | .entry x=>∃ r b seen j iN p,ev σ x=.lit (.pointer (some ⟨r,0,none⟩))∧μ r=some (.iter b iN.length (seen++[j]))∧μ b=some (.map iN)∧iN[j]?=some p∧K (σ.put o.dst (.bM [.lit p.1,.lit p.2])) μ
  | .binOp op t x y _=>adv P o op t (ev σ x) (ev σ y) σ μ K
  | .call ⟨.builtin .len,args,fD⟩=>adw P o (args.toList.map (ev σ)) fD.toList σ μ K
  | _=>bb P o σ fun s=>K s μ
theorem sT.block {os:List Ob} {γ0:Cx} {a:Act} {w w':World} (h:sT N os γ0 σ μ a w) {b:Nat} {g:Gh} (hb:(∃ g',μ b=some g')∨b=w.heap.size) (hk:∀ k,k≠b→k<w.heap.size→w'.heap[k]?=w.heap[k]?) (a5:w.heap.size≤w'.heap.size)
    (h1:w'.os=w.os) (h2:w'.tape=w.tape) (h3:w'.output=w.output) (hg:g.At w' b):sT N os γ0 σ (oX μ b g) a w':=by
  obtain ⟨iB,pL,γ,rfl,ha,hs,hf,hm⟩:=h
  have da:¬ γ.Z b∧¬ oD σ.aa γ.blk b∧γ0.w.heap.size≤b:=by
    rcases hb with ⟨g',qS⟩ | rfl
    · exact⟨hm.FO _ _ qS,hm.A2 _ _ qS,hm.fresh _ _ qS⟩
    · refine⟨fun hz=>Nat.lt_irrefl _ (hs.iq _ hz),?_,hf.size⟩
      rintro ⟨i,o,c,hl,hb⟩
      exact Nat.lt_irrefl _ (hs.blt hl hb)
  exact⟨iB,pL,{ γ with w:=w' },rfl,ha,hs.CW da.1 da.2.1 hk a5,hf.CW da.2.2 hk a5 h1 h2 h3,hm.CW da.1 da.2.1 da.2.2 hk hg⟩
theorem sT.ev {os:List Ob} {γ0:Cx} {a:Act} {w:World} (h:sT N os γ0 σ μ a w) {x:Operand} {v:Value} (hx:ev σ x=.lit v):a.eval x=v:=by
  obtain ⟨_,_,γ,rfl,ha,hs,_⟩:=h
  have:=tI hs ha x
  rw[hx] at this
  exact this.cH
theorem sT.at {os:List Ob} {γ0:Cx} {a:Act} {w:World} (h:sT N os γ0 σ μ a w) {b:Nat} {g:Gh} (hb:μ b=some g):g.At w b:=by
  obtain ⟨_,_,γ,rfl,ha,hs,_,hm⟩:=h
  exact hm.gh _ _ hb
theorem sT.none {os:List Ob} {γ0:Cx} {a:Act} {w:World} (h:sT N os γ0 σ μ a w):μ w.heap.size=none:=by
  cases hb:μ w.heap.size with
  | none=>rfl
  | some g=>exact absurd (h.at hb).lt (Nat.lt_irrefl _)
def yZ (P:Program) (o:Oper) (K:St→Mem→Prop) (b want:Bool) (σ:St) (μ:Mem):Prop:=(b=want→SG P o σ μ K)∧(b≠want→K (σ.put o.dst (.lit (.tuple #[]))) μ)
def FI (P:Program) (ops:Array Oper):List Oper→(St→Mem→Prop)→St→Mem→Prop
  | [],K,σ,μ=>K σ μ
  | o::r,K,σ,μ =>
    match o.guard with
    | none=>SG P o σ μ (FI P ops r K)
    | some (j,want) =>
      match (ops[j]?).bind (·.dst) with
      | none=>False
      | some d =>
        match σ.env d with
        | .lit (.bool b)=>yZ P o (FI P ops r K) b want σ μ
        | .lit (.tuple vs)=>vs = #[]∧FI P ops r K (σ.put o.dst (.lit (.tuple #[]))) μ
        | _=>False
end Go.Am

