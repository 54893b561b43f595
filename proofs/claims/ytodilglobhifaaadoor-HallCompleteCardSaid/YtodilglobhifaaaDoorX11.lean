import Derived.Test.YtodilglobhifaaaDoorX09
import Derived.Laws.IdiomRangeMap
set_option linter.all false
set_option maxHeartbeats 0
set_option maxRecDepth 20000
open List renaming getElem?_eq_some_iff→aF
open Option renaming some→cB
open Nat renaming lt_of_lt_of_le→Af
namespace Go.Am
variable {P:Program} {N n0:Nat} {σ:St}
def aR.Pv(d id:Nat){cells:List AV}(ho:σ.aa[id]?=some (.var cells))(hd:σ.env d=.ptr id 0 0)(pQ:∀ v∈cells,(∃ x,v=.lit x)\/∃ s r,v=.tree s r):aR n0 σ ⟨fc σ.env d (.bO cells),σ.aa.set id .gone⟩:=by
 intro os γ0 γ _ hs hf;have re:id<σ.aa.length:=(aF.1 ho).1
 let ak:Cx:={ γ with Z:=λb=>γ.Z b\/∃ o cap,γ.blk id=some (b,o,cap) }
 let bH:=σ.aa.set id .gone
 have fb:∀ i,bH[i]?=if i=id then some .gone else σ.aa[i]?:=by
  intro i;show(σ.aa.set id _)[i]?=_;rw[List.getElem?_set];by_cases h1:i=id
  ·subst h1;simp[re]
  ·simp[Ne.symm h1,h1]
 have hR:∀ v cv,ah σ.aa γ.w γ.Z γ.blk v cv->ah bH ak.w ak.Z ak.blk v cv:=λv cv hv =>
  hv.mono (λb hb=>⟨.inl hb,rfl⟩) (λi o hi=>by
   rw[fb];by_cases h1:i=id
   ·left;rw[if_pos h1]
   ·rw[if_neg h1];by_cases hg:o=.gone
    ·subst hg;exact .inl hi
    ·exact .inr ⟨rfl,o,hi,Ob.fv hg⟩)
 have bc:∀ i,Live bH i->Live σ.aa i/\i≠id:=by
  rintro i⟨o,hi,hg⟩;rw[fb]at hi;split at hi
  ·simp at hi;exact absurd hi.symm hg
  ·rename_i h2;exact⟨⟨o,hi,hg⟩,h2⟩
 have jY:Live σ.aa id:=⟨_,ho,Eb⟩;obtain⟨b,cap,cur,t,h1,h2,h3,h4⟩:=hs.c9 _ _ ho;have oS:=hs.ax d;rw[hd]at oS;have eH:ah bH ak.w ak.Z ak.blk (.bO cells) (γ.tmps.getD d Go.undef):=by
  generalize γ.tmps.getD d Go.undef=cv at oS;cases oS with
  |bp _ _ h=>cases h
  |iG _ _ _ _ h=>rw[ho]at h;simp at h
  |iW _ _ b2 T7 T8 h hb =>
   rw[h1]at hb;simp only[cB.injEq,Prod.mk.injEq]at hb;obtain⟨rfl,_,_⟩:=hb;refine .bO cells b 0 (λj=>cur.getD j Go.undef) (.inr ⟨0,cap,h1⟩) (λj x hx=>?_) (λj x hx=>?_)
   ·rw[Nat.zero_add];exact tj h2 (by rw[h3];exact(aF.1 hx).1)
   ·have eu:cW σ (λy=>y≠id) x x:=by
     rcases pQ x (List.mem_of_getElem? hx) with⟨v,rfl⟩|⟨s,r,rfl⟩
     ·exact .lit v
     ·exact .tree s r
    exact eu.sX hs (γc:=ak) (λb hb=>.inl hb) rfl (λx b o cap bZ _ hb=>.inr ⟨o,cap,by rw[show id=x by simpa using(Decidable.not_not.1 bZ).symm];exact hb⟩) _ (h4 j x hx)
  |jA _ _ _ _ _ _ _ _ h=>rw[ho]at h;simp at h
 refine⟨ak,rfl,rfl,⟨λk=>?_,?_,λi j b o c o' c' hi hj=>hs.inj i j b o c o' c' (bc i hi).1 (bc j hj).1,?_,?_,λg=>rf (hs.gl g) λb hb=>⟨.inl hb,rfl⟩⟩,?_⟩
 ·show ah bH ak.w ak.Z ak.blk (fc σ.env d (.bO cells) k) (γ.tmps.getD k Go.undef);simp only[fc];split
  ·rename_i e;subst e;exact eH
  ·exact hR _ _ (hs.ax k)
 ·intro i o hi;have hi':bH[i]?=some o:=hi;rw[fb]at hi';split at hi'
  ·simp only[cB.injEq]at hi';subst hi';trivial
  ·by_cases hg:o=.gone
   ·subst hg;trivial
   ·exact(hs.c9 i o hi').mono hR rfl (λ_ _ _ _=>rfl)
 ·rintro b ⟨i,o,c',hi,hb⟩ (hz|⟨o',cap,bq⟩)
  ·exact hs.nz b ⟨i,o,c',(bc i hi).1,hb⟩ hz
  ·exact(bc i hi).2 (hs.inj i id b o c' o' cap (bc i hi).1 jY hb bq)
 ·rintro b (hz|⟨o,cap,hb⟩)
  ·exact hs.eF b hz
  ·exact hs.blt jY hb
 ·refine⟨hf.ij,hf.tape,hf.output,hf.size,hf.cg,λb hb=>.inl (hf.z0 b hb),?_,?_,by show os.length<=bH.length;simp[bH];exact hf.len,?_⟩
  ·rintro b (hz|⟨o,cap,hb⟩)
   ·exact hf.z1 b hz
   ·exact .inr (hf.own b ⟨id,o,cap,jY,hb⟩)
  ·rintro b ⟨i,o,c',hi,hb⟩;exact hf.own b ⟨i,o,c',(bc i hi).1,hb⟩
  ·intro i hi hl;obtain⟨h1,x,x',hx,bF,hk⟩:=hf.gf i hi (bc i hl).1;have fY:Live bH i:=hl;obtain⟨o,cw,b9⟩:=fY;refine⟨h1,x,o,hx,cw,?_⟩;rw[fb]at cw;split at cw
   ·simp at cw;exact absurd cw.symm b9
   ·rw[bF]at cw;simp only[cB.injEq]at cw;subst cw;exact hk
end Go.Am
namespace Go.Am
variable {P:Program} {N n0:Nat} {σ:St}
inductive Gh where
 |map (eN:List (Value×Value))
 |iter (mb since:Nat) (seen:List Nat)
def Gh.At(w:World)(b:Nat):Gh->Prop
 |.map eN=>w.heap[b]?=some (.map (dz eN) eN.length)
 |.iter mb since seen=>w.heap[b]?=some (.mapIter (some mb) since seen.toArray since)
def Gh.At.heap{w w':World}{b:Nat}{g:Gh}(h:g.At w b)(e:w'.heap[b]?=w.heap[b]?):g.At w' b:=by
 cases g<;>exact e.trans h
def Gh.At.lt{w:World}{b:Nat}{g:Gh}(h:g.At w b):b<w.heap.size:=by
 cases g<;>exact(Array.getElem?_eq_some_iff.1 h).1
abbrev Mem:=Nat->Option Gh
def j9(μ:Mem)(b:Nat)(g:Gh):Mem:=λk=>if k=b then some g else μ k
def yC(μ:Mem)(b:Nat)(g:Gh):j9 μ b g b=some g:=by simp[j9]
def qa(μ:Mem){b c:Nat}(g:Gh)(h:c≠b):j9 μ b g c=μ c:=by simp[j9,h]
def vu:Mem:=λ_=>none
structure lX(μ:Mem)(os:List Ob)(γ0 γ:Cx):Prop where
 gh:∀ b g,μ b=some g->g.At γ.w b
 fresh:∀ b g,μ b=some g->γ0.w.heap.size<=b
 yD:∀ b g,μ b=some g->¬ γ.Z b
 tD:∀ b g,μ b=some g->¬ j4 os γ.blk b
def lX.nil(os:List Ob)(γ0 γ:Cx):lX vu os γ0 γ:=⟨by simp[vu],by simp[vu],by simp[vu],by simp[vu]⟩
def lX.cg{μ:Mem}{os os':List Ob}{γ0 γ ak:Cx}(h:lX μ os γ0 γ)(hf:Fr os γ os' ak):lX μ os' γ0 ak :=
 ⟨λb g hp=>(h.gh b g hp).heap (hf.cg _ (h.gh b g hp).lt (h.tD b g hp)),h.fresh,λb g hp hz=>by
  rcases hf.z1 _ hz with h1|h1|h1
  ·exact h.yD b g hp h1
  ·exact h.tD b g hp h1
  ·have:=(h.gh b g hp).lt;omega,λb g hp ho=>by
  rcases hf.own _ ho with h1|h1
  ·exact h.tD b g hp h1
  ·have:=(h.gh b g hp).lt;omega⟩
def lX.le{μ Jh:Mem}{os:List Ob}{γ0 γ:Cx}(h:lX μ os γ0 γ)(hl:∀ b g,Jh b=some g->μ b=some g):lX Jh os γ0 γ :=
 ⟨λb g hp=>h.gh b g (hl b g hp),λb g hp=>h.fresh b g (hl b g hp),λb g hp=>h.yD b g (hl b g hp),λb g hp=>h.tD b g (hl b g hp)⟩
def oT(N:Nat)(os:List Ob)(γ0:Cx)(σ:St)(μ:Mem)(a:Act)(w:World):Prop :=
 a.defers=[]/\a.tmps.size=N/\∃ γ,γ.w=w/\γ.tmps=a.tmps/\aK σ γ/\Fr os γ0 σ.aa γ/\lX μ σ.aa γ0 γ
variable {Q:Exit->St->Mem->Prop} {μ:Mem}
def tE(n0:Nat)(σ σ':St):Prop:=∀ (os:List Ob) (γ0 γ:Cx),os.length=n0->aK σ γ->Fr os γ0 σ.aa γ ->
 ∃ ak,ak.w=γ.w/\ak.tmps=γ.tmps/\aK σ' ak/\Fr os γ0 σ'.aa ak/\(∀ b,ak.Z b->γ.Z b\/j4 σ.aa γ.blk b)/\∀ b,j4 σ'.aa ak.blk b->j4 σ.aa γ.blk b
def tE.ax(l:List (Nat×AV))(os:List Ob)(ho:σ.aa=os)(h:Has σ.env l):tE n0 σ ⟨ax l,os⟩:=by
 subst ho;intro os γ0 γ _ hs hf;refine⟨γ,rfl,rfl,⟨λk=>?_,hs.c9,hs.inj,hs.nz,hs.eF,hs.gl⟩,hf,λ_ h=>.inl h,λ_ h=>h⟩;rcases x3 l k with h'|⟨p,hp,rfl,h'⟩
 ·show ah _ _ _ _ (Am.ax l k) _;rw[h'];exact .undef _
 ·show ah _ _ _ _ (Am.ax l p.1) _;rw[h',<- h.mem p hp];exact hs.ax p.1
theorem tE.se(ab:List Nat)(snap:Bool){l:List (Nat×AV)}{co:List Ob}(ho:jU (a9 σ.aa.length ab) σ.aa ab co)(h:lP (bd σ (kept ab co) (a9 σ.aa.length ab) snap) σ.env l)(cm:ab.Nodup:=by decide)(hn:n0<=ab.length:=by decide)(bZ:∀ i,i<n0->ab.getD i 0=i:=by decide):tE n0 σ ⟨Am.ax l,co⟩:=by
 intro os γ0 γ ye hs hf;obtain⟨h1,h2,h3⟩:=ho.spec;obtain⟨ak,a1,a2,a3,a4⟩:=hs.select ab snap co cm h1 h2 h3 (Am.ax l) γ.tmps (fun k=>by
  rcases x3 l k with h'|⟨p,hp,rfl,h'⟩
  ·exact .inl h'
  ·right;rw[h'];exact⟨_,h.mem p hp,hs.ax p.1⟩)
 obtain⟨b1,b2,b3,b4⟩:=a4;refine⟨ak,a1,a2,a3,hf.select (by omega) h1 (fun i hi=>bZ i (by omega)) a1 ⟨b1,b2,b3,b4⟩,b3,?_⟩;rintro b⟨i,o,c,hi,hb⟩;have aZ:=hi.lt;rw[b1 i aZ]at hb;exact⟨_,o,c,(b4 i hi).1,hb⟩
end Go.Am
namespace Go.Am
variable {P:Program} {N n0:Nat} {σ:St}
def iE(L:List (Int×Value)):List (Value×Value):=L.map λp=>(.int .i64 p.1,p.2)
def nM(x:Int)(v:Value):List (Int×Value)->List (Int×Value)
 |[]=>[(x,v)]
 |p::r=>if p.1=x then(x,v)::r else p::nM x v r
def Ji(x:Int):List (Int×Value)->Option Value
 |[]=>none
 |p::r=>if p.1=x then some p.2 else Ji x r
def run_checkKey{kt:TypeId}(hk:P.underlying kt=some (.int .i64))(e:Bool)(x:Int)(w:World):(Instr.checkKey e 10000 kt (.int .i64 x)).run P w=.ok () w:=by
 have h:∀ d:Nat,(Instr.checkKey e (d+1) kt (.int .i64 x)).run P w=.ok () w:=λd=>by simp[Instr.checkKey,run_underlying hk]
 exact h 9999
end Go.Am
namespace Go.Am
variable {P:Program} {N n0:Nat} {σ:St}
def aK.vv{γ:Cx}(h:aK σ γ){w':World}{b:Nat}(hz:¬ γ.Z b)(ho:¬ j4 σ.aa γ.blk b)(hk:∀ k,k≠b->k<γ.w.heap.size->w'.heap[k]?=γ.w.heap[k]?)(ay:γ.w.heap.size<=w'.heap.size):aK σ { γ with w:=w' }:=by
 have hR:∀ v cv,ah σ.aa γ.w γ.Z γ.blk v cv->ah σ.aa w' γ.Z γ.blk v cv:=λv cv hv =>
  hv.mono (λk BX=>⟨BX,hk k (λe=>hz (e▸BX)) (h.eF k BX)⟩) (λi x hx=>by
   by_cases bK:x=.gone
   ·subst bK;exact .inl hx
   ·exact .inr ⟨rfl,x,hx,Ob.fv bK⟩)
 refine⟨λk=>hR _ _ (h.ax k),λi o hi=>?_,h.inj,h.nz,λk aQ=>Af (h.eF k aQ) ay,λg=>hR _ _ (h.gl g)⟩;by_cases bK:o=.gone
 ·subst bK;trivial
 ·exact(h.c9 i o hi).mono hR rfl (λk x c hb=>hk k (λe=>ho ⟨i,x,c,⟨o,hi,bK⟩,e▸hb⟩) (h.blt ⟨o,hi,bK⟩ hb))
def Fr.vv{os:List Ob}{γ0 γ:Cx}(h:Fr os γ0 σ.aa γ){w':World}{b:Nat}(hb:γ0.w.heap.size<=b)(hk:∀ k,k≠b->k<γ.w.heap.size->w'.heap[k]?=γ.w.heap[k]?)(ay:γ.w.heap.size<=w'.heap.size)(h1:w'.os=γ.w.os)(h2:w'.tape=γ.w.tape)(h3:w'.output=γ.w.output):Fr os γ0 σ.aa { γ with w:=w' } :=
 ⟨h1.trans h.ij,h2.trans h.tape,h3.trans h.output,Nat.le_trans h.size ay,λk aQ ho=>(hk k z8 (Af aQ h.size)).trans (h.cg k aQ ho),h.z0,h.z1,h.own,h.len,h.gf⟩
def lX.vv{μ:Mem}{os:List Ob}{γ0 γ:Cx}(h:lX μ os γ0 γ){w':World}{b:Nat}{g:Gh}(hz:¬ γ.Z b)(ho:¬ j4 os γ.blk b)(hb:γ0.w.heap.size<=b)(hk:∀ k,k≠b->k<γ.w.heap.size->w'.heap[k]?=γ.w.heap[k]?)(hg:g.At w' b):lX (j9 μ b g) os γ0 { γ with w:=w' }:=by
 have one:∀ k g',j9 μ b g k=some g'->(k=b/\g'=g)\/(k≠b/\μ k=some g'):=λk g' h'=>by
  by_cases e:k=b
  ·subst e;rw[yC]at h';exact .inl ⟨rfl,by simpa using h'.symm⟩
  ·rw[qa μ g e]at h';exact .inr ⟨e,h'⟩
 refine⟨λk g' h'=>?_,λk g' h'=>?_,λk g' h'=>?_,λk g' h'=>?_⟩<;>rcases one k g' h' with⟨rfl,rfl⟩|⟨e,h2⟩
 ·exact hg
 ·exact(h.gh k g' h2).heap (hk k e (h.gh k g' h2).lt)
 ·exact hb
 ·exact h.fresh k g' h2
 ·exact hz
 ·exact h.yD k g' h2
 ·exact ho
 ·exact h.tD k g' h2
variable {μ:Mem}
def Px(P:Program)(t:TypeId):Prop:=∃ kt et,P.underlying t=some (.map kt et)/\P.underlying kt=some (.int .i64)
def BY(P:Program)(t:TypeId):Prop:=∃ kt et,P.underlying t=some (.map kt et)
def Py(P:Program)(t:TypeId)(z:Value):Prop:=∃ kt et,P.underlying t=some (.map kt et)/\P.underlying kt=some (.int .i64)/\∀ w:World,(zeroValue et).run P w=.ok z w
def Pz(P:Program)(o:Oper)(op:BinOp)(t:TypeId)(x y:AV)(σ:St)(μ:Mem)(K:St->Mem->Prop):Prop :=
 match x with
 |.lit (.map a)=>BY P t/\y=.lit (.map none)/\match op with|.eql=>K (σ.put o.dst (.lit (.bool a.isNone))) μ|.neq=>K (σ.put o.dst (.lit (.bool (!a.isNone)))) μ|_=>False
 |_=>aI P o σ λs=>K s μ
def PA(P:Program)(o:Oper)(args:List AV)(gM:List TypeId)(σ:St)(μ:Mem)(K:St->Mem->Prop):Prop :=
 match args with
 |[.lit (.map (some b))]=>∃ t eN,gM=[t]/\BY P t/\μ b=some (.map eN)/\K (σ.put o.dst (UX (eN.length:Nat))) μ
 |_=>aI P o σ λs=>K s μ
def Jj(P:Program)(o:Oper)(σ:St)(μ:Mem)(K:St->Mem->Prop):Prop :=
 match o.op with
 |.makeMap _ none=>∀ b,μ b=none->K (σ.put o.dst (.lit (.map (some b)))) (j9 μ b (.map []))
 |.lookup t x i false=>∃ n z,ev σ i=UX n/\Py P t z /\
   ((ev σ x=.lit (.map none)/\K (σ.put o.dst (.lit z)) μ)\/∃ b L,ev σ x=.lit (.map (some b))/\μ b=some (.map (iE L))/\K (σ.put o.dst (.lit ((Ji n L).getD z))) μ)
 |.mapUpdate t m k x=>∃ b n L v,Px P t/\ev σ m=.lit (.map (some b))/\ev σ k=UX n/\ev σ x=.lit v/\μ b=some (.map (iE L))/\K (σ.put o.dst .undef) (j9 μ b (.map (iE (nM n v L))))
 |.range t x=>∃ b eN,BY P t/\ev σ x=.lit (.map (some b))/\μ b=some (.map eN)/\∀ r,μ r=none->K (σ.put o.dst (.lit (.pointer (some ⟨r,0,none⟩)))) (j9 μ r (.iter b eN.length []))
 |.next x false=>∃ r b seen eN,ev σ x=.lit (.pointer (some ⟨r,0,none⟩))/\μ r=some (.iter b eN.length seen)/\μ b=some (.map eN) /\
   ((∀ j<eN.length,j∈seen)->K (σ.put o.dst (.bA [.lit (.bool false)])) μ) /\
   ∀ j p,eN[j]?=some p->j ∉ seen->K (σ.put o.dst (.bA [.lit (.bool true),.lit p.1,.lit p.2])) (j9 μ r (.iter b eN.length (seen++[j])))
 |.entry x=>∃ r b seen j eN p,ev σ x=.lit (.pointer (some ⟨r,0,none⟩))/\μ r=some (.iter b eN.length (seen++[j]))/\μ b=some (.map eN)/\eN[j]?=some p/\K (σ.put o.dst (.bA [.lit p.1,.lit p.2])) μ
 |.binOp op t x y _=>Pz P o op t (ev σ x) (ev σ y) σ μ K
 |.call ⟨.builtin .len,args,gM⟩=>PA P o (args.toList.map (ev σ)) gM.toList σ μ K
 |_=>aI P o σ λs=>K s μ
def oT.block{os:List Ob}{γ0:Cx}{a:Act}{w w':World}(h:oT N os γ0 σ μ a w){b:Nat}{g:Gh}(hb:(∃ g',μ b=some g')\/b=w.heap.size)(hk:∀ k,k≠b->k<w.heap.size->w'.heap[k]?=w.heap[k]?)(ay:w.heap.size<=w'.heap.size)(h1:w'.os=w.os)(h2:w'.tape=w.tape)(h3:w'.output=w.output)(hg:g.At w' b):oT N os γ0 σ (j9 μ b g) a w':=by
 obtain⟨dR,qb,γ,rfl,ha,hs,hf,hm⟩:=h;have bq:¬ γ.Z b/\¬ j4 σ.aa γ.blk b/\γ0.w.heap.size<=b:=by
  rcases hb with⟨g',aW⟩|rfl
  ·exact⟨hm.yD _ _ aW,hm.tD _ _ aW,hm.fresh _ _ aW⟩
  ·refine⟨λhz=>Nat.lt_irrefl _ (hs.eF _ hz),?_,hf.size⟩;rintro⟨i,o,c,hl,hb⟩;exact Nat.lt_irrefl _ (hs.blt hl hb)
 exact⟨dR,qb,{ γ with w:=w' },rfl,ha,hs.vv bq.1 bq.2.1 hk ay,hf.vv bq.2.2 hk ay h1 h2 h3,hm.vv bq.1 bq.2.1 bq.2.2 hk hg⟩
def oT.ev{os:List Ob}{γ0:Cx}{a:Act}{w:World}(h:oT N os γ0 σ μ a w){x:Operand}{v:Value}(hx:ev σ x=.lit v):a.eval x=v:=by
 obtain⟨_,_,γ,rfl,ha,hs,_⟩:=h;have:=kv hs ha x;rw[hx]at this;exact this.bw
def oT.at{os:List Ob}{γ0:Cx}{a:Act}{w:World}(h:oT N os γ0 σ μ a w){b:Nat}{g:Gh}(hb:μ b=some g):g.At w b:=by
 obtain⟨_,_,γ,rfl,ha,hs,_,hm⟩:=h;exact hm.gh _ _ hb
def oT.none{os:List Ob}{γ0:Cx}{a:Act}{w:World}(h:oT N os γ0 σ μ a w):μ w.heap.size=none:=by
 cases hb:μ w.heap.size with
 |none=>rfl
 |some g=>exact absurd (h.at hb).lt (Nat.lt_irrefl _)
def rM(P:Program)(o:Oper)(K:St->Mem->Prop)(b want:Bool)(σ:St)(μ:Mem):Prop:=(b=want->Jj P o σ μ K)/\(b≠want->K (σ.put o.dst (.lit (.tuple #[]))) μ)
def yE(P:Program)(ops:Array Oper):List Oper->(St->Mem->Prop)->St->Mem->Prop
 |[],K,σ,μ=>K σ μ
 |o::r,K,σ,μ =>
  match o.guard with
  |none=>Jj P o σ μ (yE P ops r K)
  |some (j,want) =>
   match (ops[j]?).bind (·.dst) with
   |none=>False
   |some d =>
    match σ.env d with
    |.lit (.bool b)=>rM P o (yE P ops r K) b want σ μ
    |.lit (.tuple vs)=>vs = #[]/\yE P ops r K (σ.put o.dst (.lit (.tuple #[]))) μ
    |_=>False
end Go.Am
namespace Go.Am
variable {P:Program} {N n0:Nat} {σ:St} {μ:Mem} {Q:Exit->St->Mem->Prop}
section
variable {ops:Array Oper} {o:Oper} {l:List Oper} {K:St->Mem->Prop}
instance:Head (yE P ops (o::l) K σ μ):=⟨trivial⟩
def PC{b want:Bool}(h1:b=true->rM P o K true want σ μ)(h2:b=false->rM P o K false want σ μ):rM P o K b want σ μ:=by
 cases b
 ·exact h2 rfl
 ·exact h1 rfl
instance {b want:Bool}:xA (rM P o K b want σ μ) b (rM P o K true want σ μ) (rM P o K false want σ μ):=⟨PC⟩
variable {dst:Option Tmp} {tt:TypeId} {p:String} {af:Array Edge} {g:Option (Nat×Bool)}
end
end Go.Am
namespace Go.Am
variable {P:Program} {N n0:Nat} {σ:St} {μ:Mem} {K:St->Mem->Prop} {dst:Option Tmp} {tt:TypeId} {p:String} {af:Array Edge} {g:Option (Nat×Bool)}
def tE.refl:tE n0 σ σ:=λos γ0 γ _ hs hf=>⟨γ,rfl,rfl,hs,hf,λ_ h=>.inl h,λ_ h=>h⟩
end Go.Am

