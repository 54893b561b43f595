import Derived.Test.YtodilglobhifaaaGreatDoorX11
import Derived.Laws.IdiomRangeMap
set_option linter.all false
set_option maxHeartbeats 0
set_option maxRecDepth 20000
open Nat renaming lt_of_lt_of_le→Dr
namespace Go.Am
variable {P:Program} {N n0:Nat} {σ:St}
def iE(L:List (Int×Value)):List (Value×Value):=L.map λp=>(.int .i64 p.1,p.2)
def qu(x:Int)(v:Value):List (Int×Value)->List (Int×Value)
 |[]=>[(x,v)]
 |p::r=>if p.1=x then(x,v)::r else p::qu x v r
def NT(x:Int):List (Int×Value)->Option Value
 |[]=>none
 |p::r=>if p.1=x then some p.2 else NT x r
def run_checkKey{kt:TypeId}(hk:P.underlying kt=some (.int .i64))(e:Bool)(x:Int)(w:World):(Instr.checkKey e 10000 kt (.int .i64 x)).run P w=.ok () w:=by
 have h:∀ d:Nat,(Instr.checkKey e (d+1) kt (.int .i64 x)).run P w=.ok () w:=λd=>by simp[Instr.checkKey,run_underlying hk]
 exact h 9999
end Go.Am
namespace Go.Am
variable {P:Program} {N n0:Nat} {σ:St}
def aZ.yR{γ:Cx}(h:aZ σ γ){w':World}{b:Nat}(hz:¬ γ.Z b)(ho:¬ lT σ.aa γ.blk b)(hk:∀ k,k≠b->k<γ.w.heap.size->w'.heap[k]?=γ.w.heap[k]?)(aE:γ.w.heap.size<=w'.heap.size):aZ σ { γ with w:=w' }:=by
 have hR:∀ v cv,aq σ.aa γ.w γ.Z γ.blk v cv->aq σ.aa w' γ.Z γ.blk v cv:=λv cv hv =>
  hv.mono (λk EV=>⟨EV,hk k (λe=>hz (e▸EV)) (h.fG k EV)⟩) (λi x hx=>by
   by_cases bX:x=.gone
   ·subst bX;exact .inl hx
   ·exact .inr ⟨rfl,x,hx,Ob.gV bX⟩)
 refine⟨λk=>hR _ _ (h.au k),λi o hi=>?_,h.inj,h.nz,λk aQ=>Dr (h.fG k aQ) aE,λg=>hR _ _ (h.gl g)⟩;by_cases bX:o=.gone
 ·subst bX;trivial
 ·exact(h.dL i o hi).mono hR rfl (λk x c hb=>hk k (λe=>ho ⟨i,x,c,⟨o,hi,bX⟩,e▸hb⟩) (h.blt ⟨o,hi,bX⟩ hb))
def Fr.yR{os:List Ob}{γ0 γ:Cx}(h:Fr os γ0 σ.aa γ){w':World}{b:Nat}(hb:γ0.w.heap.size<=b)(hk:∀ k,k≠b->k<γ.w.heap.size->w'.heap[k]?=γ.w.heap[k]?)(aE:γ.w.heap.size<=w'.heap.size)(h1:w'.os=γ.w.os)(h2:w'.tape=γ.w.tape)(h3:w'.output=γ.w.output):Fr os γ0 σ.aa { γ with w:=w' } :=
 ⟨h1.trans h.jT,h2.trans h.tape,h3.trans h.output,Nat.le_trans h.size aE,λk aQ ho=>(hk k Ay (Dr aQ h.size)).trans (h.cO k aQ ho),h.z0,h.z1,h.own,h.len,h.iH⟩
def ov.yR{μ:Mem}{os:List Ob}{γ0 γ:Cx}(h:ov μ os γ0 γ){w':World}{b:Nat}{g:Gh}(hz:¬ γ.Z b)(ho:¬ lT os γ.blk b)(hb:γ0.w.heap.size<=b)(hk:∀ k,k≠b->k<γ.w.heap.size->w'.heap[k]?=γ.w.heap[k]?)(hg:g.At w' b):ov (lZ μ b g) os γ0 { γ with w:=w' }:=by
 have one:∀ k g',lZ μ b g k=some g'->(k=b/\g'=g)\/(k≠b/\μ k=some g'):=λk g' h'=>by
  by_cases e:k=b
  ·subst e;rw[BJ]at h';exact .inl ⟨rfl,by simpa using h'.symm⟩
  ·rw[s9 μ g e]at h';exact .inr ⟨e,h'⟩
 refine⟨λk g' h'=>?_,λk g' h'=>?_,λk g' h'=>?_,λk g' h'=>?_⟩<;>rcases one k g' h' with⟨rfl,rfl⟩|⟨e,h2⟩
 ·exact hg
 ·exact(h.gh k g' h2).heap (hk k e (h.gh k g' h2).lt)
 ·exact hb
 ·exact h.fresh k g' h2
 ·exact hz
 ·exact h.BK k g' h2
 ·exact ho
 ·exact h.wF k g' h2
variable {μ:Mem}
def UH(P:Program)(t:TypeId):Prop:=∃ kt et,P.underlying t=some (.map kt et)/\P.underlying kt=some (.int .i64)
def EW(P:Program)(t:TypeId):Prop:=∃ kt et,P.underlying t=some (.map kt et)
def UI(P:Program)(t:TypeId)(z:Value):Prop:=∃ kt et,P.underlying t=some (.map kt et)/\P.underlying kt=some (.int .i64)/\∀ w:World,(zeroValue et).run P w=.ok z w
def UJ(P:Program)(o:Oper)(op:BinOp)(t:TypeId)(x y:AV)(σ:St)(μ:Mem)(K:St->Mem->Prop):Prop :=
 match x with
 |.lit (.map a)=>EW P t/\y=.lit (.map none)/\match op with|.eql=>K (σ.put o.dst (.lit (.bool a.isNone))) μ|.neq=>K (σ.put o.dst (.lit (.bool (!a.isNone)))) μ|_=>False
 |_=>aR P o σ λs=>K s μ
def UK(P:Program)(o:Oper)(args:List AV)(dV:List TypeId)(σ:St)(μ:Mem)(K:St->Mem->Prop):Prop :=
 match args with
 |[.lit (.map (some b))]=>∃ t gj,dV=[t]/\EW P t/\μ b=some (.map gj)/\K (σ.put o.dst (aah (gj.length:Nat))) μ
 |_=>aR P o σ λs=>K s μ
def NU(P:Program)(o:Oper)(σ:St)(μ:Mem)(K:St->Mem->Prop):Prop :=
 match o.op with
 |.makeMap _ none=>∀ b,μ b=none->K (σ.put o.dst (.lit (.map (some b)))) (lZ μ b (.map []))
 |.lookup t x i false=>∃ n z,ev σ i=aah n/\UI P t z /\
   ((ev σ x=.lit (.map none)/\K (σ.put o.dst (.lit z)) μ)\/∃ b L,ev σ x=.lit (.map (some b))/\μ b=some (.map (iE L))/\K (σ.put o.dst (.lit ((NT n L).getD z))) μ)
 |.mapUpdate t m k x=>∃ b n L v,UH P t/\ev σ m=.lit (.map (some b))/\ev σ k=aah n/\ev σ x=.lit v/\μ b=some (.map (iE L))/\K (σ.put o.dst .undef) (lZ μ b (.map (iE (qu n v L))))
 |.range t x=>∃ b gj,EW P t/\ev σ x=.lit (.map (some b))/\μ b=some (.map gj)/\∀ r,μ r=none->K (σ.put o.dst (.lit (.pointer (some ⟨r,0,none⟩)))) (lZ μ r (.iter b gj.length []))
 |.next x false=>∃ r b seen gj,ev σ x=.lit (.pointer (some ⟨r,0,none⟩))/\μ r=some (.iter b gj.length seen)/\μ b=some (.map gj) /\
   ((∀ j<gj.length,j∈seen)->K (σ.put o.dst (.bP [.lit (.bool false)])) μ) /\
   ∀ j p,gj[j]?=some p->j ∉ seen->K (σ.put o.dst (.bP [.lit (.bool true),.lit p.1,.lit p.2])) (lZ μ r (.iter b gj.length (seen++[j])))
 |.entry x=>∃ r b seen j gj p,ev σ x=.lit (.pointer (some ⟨r,0,none⟩))/\μ r=some (.iter b gj.length (seen++[j]))/\μ b=some (.map gj)/\gj[j]?=some p/\K (σ.put o.dst (.bP [.lit p.1,.lit p.2])) μ
 |.binOp op t x y _=>UJ P o op t (ev σ x) (ev σ y) σ μ K
 |.call ⟨.builtin .len,args,dV⟩=>UK P o (args.toList.map (ev σ)) dV.toList σ μ K
 |_=>aR P o σ λs=>K s μ
def rC.block{os:List Ob}{γ0:Cx}{a:Act}{w w':World}(h:rC N os γ0 σ μ a w){b:Nat}{g:Gh}(hb:(∃ g',μ b=some g')\/b=w.heap.size)(hk:∀ k,k≠b->k<w.heap.size->w'.heap[k]?=w.heap[k]?)(aE:w.heap.size<=w'.heap.size)(h1:w'.os=w.os)(h2:w'.tape=w.tape)(h3:w'.output=w.output)(hg:g.At w' b):rC N os γ0 σ (lZ μ b g) a w':=by
 obtain⟨e8,oz,γ,rfl,ha,hs,hf,hm⟩:=h;have bS:¬ γ.Z b/\¬ lT σ.aa γ.blk b/\γ0.w.heap.size<=b:=by
  rcases hb with⟨g',bp⟩|rfl
  ·exact⟨hm.BK _ _ bp,hm.wF _ _ bp,hm.fresh _ _ bp⟩
  ·refine⟨λhz=>Nat.lt_irrefl _ (hs.fG _ hz),?_,hf.size⟩;rintro⟨i,o,c,hl,hb⟩;exact Nat.lt_irrefl _ (hs.blt hl hb)
 exact⟨e8,oz,{ γ with w:=w' },rfl,ha,hs.yR bS.1 bS.2.1 hk aE,hf.yR bS.2.2 hk aE h1 h2 h3,hm.yR bS.1 bS.2.1 bS.2.2 hk hg⟩
def rC.ev{os:List Ob}{γ0:Cx}{a:Act}{w:World}(h:rC N os γ0 σ μ a w){x:Operand}{v:Value}(hx:ev σ x=.lit v):a.eval x=v:=by
 obtain⟨_,_,γ,rfl,ha,hs,_⟩:=h;have:=mz hs ha x;rw[hx]at this;exact this.bQ
def rC.at{os:List Ob}{γ0:Cx}{a:Act}{w:World}(h:rC N os γ0 σ μ a w){b:Nat}{g:Gh}(hb:μ b=some g):g.At w b:=by
 obtain⟨_,_,γ,rfl,ha,hs,_,hm⟩:=h;exact hm.gh _ _ hb
def rC.none{os:List Ob}{γ0:Cx}{a:Act}{w:World}(h:rC N os γ0 σ μ a w):μ w.heap.size=none:=by
 cases hb:μ w.heap.size with
 |none=>rfl
 |some g=>exact absurd (h.at hb).lt (Nat.lt_irrefl _)
def u4(P:Program)(o:Oper)(K:St->Mem->Prop)(b want:Bool)(σ:St)(μ:Mem):Prop:=(b=want->NU P o σ μ K)/\(b≠want->K (σ.put o.dst (.lit (.tuple #[]))) μ)
def BP(P:Program)(ops:Array Oper):List Oper->(St->Mem->Prop)->St->Mem->Prop
 |[],K,σ,μ=>K σ μ
 |o::r,K,σ,μ =>
  match o.guard with
  |none=>NU P o σ μ (BP P ops r K)
  |some (j,want) =>
   match (ops[j]?).bind (·.dst) with
   |none=>False
   |some d =>
    match σ.env d with
    |.lit (.bool b)=>u4 P o (BP P ops r K) b want σ μ
    |.lit (.tuple vs)=>vs = #[]/\BP P ops r K (σ.put o.dst (.lit (.tuple #[]))) μ
    |_=>False
end Go.Am
namespace Go.Am
variable {P:Program} {N n0:Nat} {σ:St} {μ:Mem} {Q:Exit->St->Mem->Prop}
section
variable {ops:Array Oper} {o:Oper} {l:List Oper} {K:St->Mem->Prop}
instance:Head (BP P ops (o::l) K σ μ):=⟨trivial⟩
def UL{b want:Bool}(h1:b=true->u4 P o K true want σ μ)(h2:b=false->u4 P o K false want σ μ):u4 P o K b want σ μ:=by
 cases b
 ·exact h2 rfl
 ·exact h1 rfl
instance {b want:Bool}:BH (u4 P o K b want σ μ) b (u4 P o K true want σ μ) (u4 P o K false want σ μ):=⟨UL⟩
variable {dst:Option Tmp} {tt:TypeId} {p:String} {af:Array Edge} {g:Option (Nat×Bool)}
end
end Go.Am
namespace Go.Am
variable {P:Program} {N n0:Nat} {σ:St} {μ:Mem} {K:St->Mem->Prop} {dst:Option Tmp} {tt:TypeId} {p:String} {af:Array Edge} {g:Option (Nat×Bool)}
def wG.refl:wG n0 σ σ:=λos γ0 γ _ hs hf=>⟨γ,rfl,rfl,hs,hf,λ_ h=>.inl h,λ_ h=>h⟩
end Go.Am

