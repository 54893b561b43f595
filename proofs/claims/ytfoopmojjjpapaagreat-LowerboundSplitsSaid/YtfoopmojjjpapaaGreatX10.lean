import Derived.Test.YtfoopmojjjpapaaGreatX08
set_option linter.all false
set_option maxHeartbeats 0
set_option maxRecDepth 20000
open List renaming range→bn,range'→mU,range'_succ→wV,range'_append→G6,mem_of_getElem?→hZ,getElem?_drop→oa,length_take→e9,getElem?_take_of_lt→G5,mem_cons→bu,not_mem_nil→iI
open Nat renaming one_mul→wX
open Array renaming length_toList→sU
open Bool renaming and_eq_true→bc
namespace Go.Am
variable {P:Program} {N n0:Nat} {σ:St} {Q:Exit->St->Prop}
def uX:Exit->Bool
 |.normal=>true
 |_=>false
def BL(id:Nat):Exit->Bool
 |.normal=>true
 |.exit j=>j==id
 |_=>false
def Iz{e:Exit}(h:uX e=false):e≠.normal:=by intro h2;subst h2;simp[uX]at h
def Nn{id:Nat}{e:Exit}(h:BL id e=false):e≠.normal/\e≠.exit id:=by
 constructor
 ·intro h2;subst h2;simp[BL]at h
 ·intro h2;subst h2;simp[BL]at h
theorem rk{id:Nat}{ops:Array Oper}{y:Code}(h:∀ K:St->Prop,(∀ s,W P N n0 y Q s->K s)->opsL P ops ops.toList K σ)(hd:fP N ops=true:=by decide):W P N n0 (.seq (.region id ops false) y) Q σ:=LV hd h
theorem Np{id:Nat}{ops:Array Oper}(h:∀ K:St->Prop,(∀ s,Q .normal s->K s)->opsL P ops ops.toList K σ)(hd:fP N ops=true:=by decide):W P N n0 (.region id ops false) Q σ:=afK hd h
theorem rd{id:Nat}{ops:Array Oper}{y:Code}(h:∀ K:St->Prop,(∀ s,W P N n0 y Q s->K s)->opsL P ops ops.toList K σ)(hm:P.follows .mixedOrders=true:=by rfl)(hd:fP N ops=true:=by decide)(ht:A9 ops=true:=by decide +kernel):W P N n0 (.seq (.region id ops true) y) Q σ:=afL hm hd ht h
theorem rde{id:Nat}{ops:Array Oper}(h:∀ K:St->Prop,(∀ s,Q .normal s->K s)->opsL P ops ops.toList K σ)(hm:P.follows .mixedOrders=true:=by rfl)(hd:fP N ops=true:=by decide)(ht:A9 ops=true:=by decide +kernel):W P N n0 (.region id ops true) Q σ:=afM hm hd ht h
theorem rb{id:Nat}{ops:Array Oper}{y:Code}(h:∀ K:St->Prop,(∀ s,W P N n0 y Q s->K s)->uI P ops ops.toList K σ)(hm:P.follows .mixedOrders=true:=by rfl)(hd:fP N ops=true:=by decide)(ht:Ib ops=true:=by decide +kernel):W P N n0 (.seq (.region id ops true) y) Q σ:=ag5 hm hd ht h
theorem Fv{id:Nat}{ops:Array Oper}(h:∀ K:St->Prop,(∀ s,Q .normal s->K s)->uI P ops ops.toList K σ)(hm:P.follows .mixedOrders=true:=by rfl)(hd:fP N ops=true:=by decide)(ht:Ib ops=true:=by decide +kernel):W P N n0 (.region id ops true) Q σ:=ag6 hm hd ht h
theorem ra{id:Nat}{ops:Array Oper}{y:Code}(h:∀ K:St->Prop,(∀ s,W P N n0 y Q s->K s)->uH P ops ops.toList K σ)(hm:P.follows .mixedOrders=true:=by rfl)(hd:fP N ops=true:=by decide)(ht:Ia ops=true:=by decide +kernel):W P N n0 (.seq (.region id ops true) y) Q σ:=ag2 hm hd ht h
theorem Fw{id:Nat}{ops:Array Oper}(h:∀ K:St->Prop,(∀ s,Q .normal s->K s)->uH P ops ops.toList K σ)(hm:P.follows .mixedOrders=true:=by rfl)(hd:fP N ops=true:=by decide)(ht:Ia ops=true:=by decide +kernel):W P N n0 (.region id ops true) Q σ:=ag3 hm hd ht h
def Wk{x y:Code}(h:∀ Q':Exit->St->Prop,(∀ s,W P N n0 y Q s->Q' .normal s)->(∀ e s,uX e=false->Q e s->Q' e s)->W P N n0 x Q' σ):W P N n0 (.seq x y) Q σ :=
 W_k λQ' h1 h2=>h Q' h1 λe s he=>h2 e s (Iz he)
def Wb{id:Nat}{c:Code}(h:∀ Q':Exit->St->Prop,(∀ s,Q .normal s->Q' .normal s)->(∀ s,Q .normal s->Q' (.exit id) s)->(∀ e s,BL id e=false->Q e s->Q' e s)->W P N n0 c Q' σ):W P N n0 (.block id c) Q σ :=
 afH λQ' h1 h2 h3=>h Q' h1 h2 λe s he=>h3 e s (Nn he).1 (Nn he).2
theorem Wc{c:Operand}{x y:Code}{t:Bool}(ht:t=true->W P N n0 x Q σ)(hf:t=false->W P N n0 y Q σ)(hc:ev σ c=.lit (.bool t):=by(simp only[Go.Am.ui,Go.Am.Lc,↓reduceIte,Nat.reduceEqDiff,Nat.reduceBEq];exact rfl)):W P N n0 (.cond c x y) Q σ:=S6 hc ht hf
def aQ{α:Type}{c:Code}(S:α->St)(I:α->Prop)(M:α->Nat)(x0:α)(hI:I x0)(h0:aD n0 σ (S x0))(round:∀ x,I x->∀ Q':Exit->St->Prop,(∀ s y,I y->M y<M x->aD n0 s (S y)->Q' .normal s)->(∀ e s,uX e=false->Q e s->Q' e s)->W P N n0 c Q' (S x)):W P N n0 (.loop c) Q σ :=
 afG S I M x0 hI h0 λx hx Q' h1 h2=>round x hx Q' h1 λe s he=>h2 e s (Iz he)
end Go.Am
namespace Go.Am
variable {P:Program} {N n0:Nat} {σ:St} {Q:Exit->St->Prop}
def aiu{K0:St->Prop}(n m:Nat){ops:Array Oper}(hd:fP N ops=true)(o o2:Oper)(ho:ops[n]?=some o)(dx:ops[n+1+m]?=some o2){os:List Ob}{γ0:Cx}{a:Act}{w:World}{R:Exit->Act->World->Prop}(az:gp N os γ0 σ a w)(aiv:∀ σ' a' w',K0 σ'->gp N os γ0 σ' a' w'->R .normal a' w')(h:opsL P ops (ops.toList.take n) (uG P o (opsL P ops ((ops.toList.drop (n+1)).take m) (uG P o2 (opsL P ops (ops.toList.drop (n+1+m+1)) K0)))) σ):
  wpOps P ops R (bn ops.size) a w:=by
 have rQ:n+1+m<ops.size:=(Array.getElem?_eq_some_iff.1 dx).1;have e:bn ops.size=mU 0 (ops.toList.take n).length++(n::(mU (n+1) ((ops.toList.drop (n+1)).take m).length++((n+1+m)::mU (n+1+m+1) (ops.toList.drop (n+1+m+1)).length))):=by
  rw[List.range_eq_range',<- wV];have h1:((ops.toList.drop (n+1)).take m).length=m:=Hj;have h2:(ops.toList.take n).length=n:=Hj;have h3:(ops.toList.drop (n+1+m+1)).length=ops.size-(n+1+m+1):=G9;rw[h1,h2,h3];have a1:=G6 (s:=n+1) (m:=m) (n:=ops.size-(n+1+m+1)+1) (step:=1);simp only[wX]at a1;rw[a1,<- wV];have a2:=G6 (s:=0) (m:=n) (n:=m+(ops.size-(n+1+m+1)+1)+1) (step:=1);simp only[Nat.zero_add,wX]at a2;rw[a2];congr 1;omega
 rw[e];refine zG _ a w ?_;refine s8 (oV hd) (K:=uG P o (opsL P ops ((ops.toList.drop (n+1)).take m) (uG P o2 (opsL P ops (ops.toList.drop (n+1+m+1)) K0)))) (λσ' a' w' hk c8=>?_) (ops.toList.take n) 0 σ a w (λk hk=>?_) h az
 ·show wpOps P ops _ _ a' w';rw[wpOps_cons];unfold wpOp;simp only[ho];have hw:Region.wanted o (yielded ops a'.tmps)=true:=by simp[Region.wanted,hk.1]
  rw[if_pos hw];left;refine H6 hk c8 (oV hd o (hZ (by simpa using ho))) (λσ2 a2 w2 bw xy=>?_);refine zG _ a2 w2 ?_;refine s8 (oV hd) (K:=uG P o2 (opsL P ops (ops.toList.drop (n+1+m+1)) K0)) (λσ' a' w' hk c8=>?_) ((ops.toList.drop (n+1)).take m) (n+1) σ2 a2 w2 (λk hk=>?_) bw xy
  ·show wpOps P ops _ _ a' w';rw[wpOps_cons];unfold wpOp;simp only[dx];have hw:Region.wanted o2 (yielded ops a'.tmps)=true:=by simp[Region.wanted,hk.1]
   rw[if_pos hw];left;refine H6 hk c8 (oV hd o2 (hZ (by simpa using dx))) (λσ2 a2 w2 bw xy=>?_);refine s8 (oV hd) (K:=K0) (λBx a3 w3 gK xz=>aiv Bx a3 w3 gK xz) (ops.toList.drop (n+1+m+1)) (n+1+m+1) σ2 a2 w2 (λk hk=>?_) bw xy;rw[oa];simp
  ·simp only[e9,List.length_drop,sU]at hk;rw[G5 Ey,oa];simp
 ·simp only[e9,sU]at hk;rw[G5 Ey];simp
def ahB(n m:Nat){id:Nat}{ops:Array Oper}(hd:fP N ops=true)(o o2:Oper)(ho:ops[n]?=some o)(dx:ops[n+1+m]?=some o2)(h:∀ K:St->Prop,(∀ s,Q .normal s->K s)->opsL P ops (ops.toList.take n) (uG P o (opsL P ops ((ops.toList.drop (n+1)).take m) (uG P o2 (opsL P ops (ops.toList.drop (n+1+m+1)) K)))) σ):W P N n0 (.region id ops false) Q σ:=by
 intro os γ0 a w hn az;refine wp_region ?_;exact aiu n m hd o o2 ho dx az (λBx a3 w3 gK xz=>⟨Bx,gK,xz⟩) (h _ (λ_ h=>h))
end Go.Am
namespace Go.Am
variable {P:Program} {N n0:Nat} {σ:St} {Q:Exit->St->Prop}
class Head (p:Prop):Prop where
 on:True
section
variable {ops:Array Oper} {o:Oper} {l:List Oper} {K:St->Prop}
instance:Head (opsL P ops (o::l) K σ):=⟨trivial⟩
instance {qs:List Nat}{t:PT}:Head (j8 P ops qs t K σ):=⟨trivial⟩
instance {qs:List Nat}{i:Nat}:Head (tw P ops qs i (o::l) K σ):=⟨trivial⟩
instance:Head (uH P ops (o::l) K σ):=⟨trivial⟩
instance:Head (uI P ops (o::l) K σ):=⟨trivial⟩
end
def gO{p:Prop}[Head p](h:p):p:=h
class IA (p:Prop) (b:outParam Bool) (A B:outParam Prop):Prop where
 sp:(b=true->A)->(b=false->B)->p
instance {o:Oper}{K:St->Prop}{b want:Bool}:IA (pP P o K b want σ) b (pP P o K true want σ) (pP P o K false want σ):=⟨af5⟩
instance {q:Bool}{o:Oper}{K:St->Prop}{b want:Bool}:IA (qM q P o K b want σ) b (qM q P o K true want σ) (qM q P o K false want σ):=⟨afE⟩
def gS{p:Prop}{b:Bool}{A B:Prop}[h:IA p b A B](h1:b=true->A)(h2:b=false->B):p:=h.sp h1 h2
def IB:Code->Option Exit
 |.skip=>some .normal
 |.label _=>some .normal
 |.exit id=>some (.exit id)
 |.ret=>some .ret
 |_=>none
def Wz{c:Code}{e:Exit}(hc:IB c=some e)(h:Q e σ):W P N n0 c Q σ:=by
 cases c<;>simp[IB]at hc;all_goals subst hc
 all_goals first|exact S5 h|exact af1 h|exact af2 h|exact af0 h
def IC(P:Program)(d:Bool)(ops:Array Oper):Bool:=!d||(P.follows .mixedOrders&&A9 ops)
theorem rr{id:Nat}{ops:Array Oper}{d:Bool}{y:Code}(h:∀ K:St->Prop,(∀ s,W P N n0 y Q s->K s)->opsL P ops ops.toList K σ)(ht:IC P d ops=true:=by decide +kernel)(hd:fP N ops=true:=by decide):W P N n0 (.seq (.region id ops d) y) Q σ:=by
 cases d
 ·exact rk h hd
 ·have h2:P.follows .mixedOrders=true/\A9 ops=true:=by simpa [IC] using ht
  exact rd h h2.1 hd h2.2
theorem wv{id:Nat}{ops:Array Oper}{d:Bool}(h:∀ K:St->Prop,(∀ s,Q .normal s->K s)->opsL P ops ops.toList K σ)(ht:IC P d ops=true:=by decide +kernel)(hd:fP N ops=true:=by decide):W P N n0 (.region id ops d) Q σ:=by
 cases d
 ·exact Np h hd
 ·have h2:P.follows .mixedOrders=true/\A9 ops=true:=by simpa [IC] using ht
  exact rde h h2.1 hd h2.2
class Fx (rows:List (List AV)) (sz:outParam Nat):Prop where
 wid:∀ row∈rows,row.length=sz
 cN:∀ row∈rows,∀ v∈row,(∃ x,v=AV.lit x)\/∃ s r,v=AV.tree s r
instance (xs:List Int):Fx (ints xs) 1:=⟨uw _,xn _⟩
instance (xs:List Bool):Fx (aV xs) 1:=⟨Lz _,SM _⟩
instance (xs:List (List Int)):Fx (eO xs) 1:=⟨SO _,SN _⟩
instance {α:Type}{enc:α->List AV}{sz:Nat}[Row enc sz](xs:List α):Fx (rowsOf enc xs) sz:=⟨iA _,mF _⟩
theorem a7.fz{kp:Nat->Prop}{ρ:Nat->Nat}{id sz len:Nat}{rows:List (List AV)}[h:Fx rows sz](ho:σ.aa[id]?=some (.arr sz rows))(hl:len=rows.length)(uh:¬ kp id:=by first|exact j7 (by decide)|decide):a7 σ kp ρ true (.tree sz rows) (.ref id sz 0 len):=a7.cN ho h.wid hl uh h.cN
theorem aD.se(aj:List Nat)(snap:Bool){l:List (Nat×AV)}{co:List Ob}(ho:qL (bE σ.aa.length aj) σ.aa aj co)(h:uu (a7 σ (kept aj co) (bE σ.aa.length aj) snap) σ.env l)(bG:aj.Nodup:=by decide)(hn:n0<=aj.length:=by decide)(bZ:∀ i,i<n0->aj.getD i 0=i:=by decide):aD n0 σ ⟨Am.ar l,co⟩:=aD.aj aj snap l co bG ho hn bZ h
theorem Nk(aj:List Nat)(snap:Bool){v res:AV}{bh:List Ob}(ho:qL (bE σ.aa.length aj) σ.aa aj bh)(h:a7 σ (kept aj bh) (bE σ.aa.length aj) snap res v)(bG:aj.Nodup:=by decide)(hn:n0<=aj.length:=by decide)(bZ:∀ i,i<n0->aj.getD i 0=i:=by decide):oU n0 σ v res bh:=iJ aj snap bG ho hn bZ h
end Go.Am
namespace Go.Am
def YM:dP []=.bC []:=rfl
def YN(a b:AV)(l:List AV):dP (a::b::l)=.bC (a::b::l):=rfl
end Go.Am
namespace Go.Am
variable {P:Program} {N n0:Nat} {σ:St}
inductive PF where
 |nil
 |take (i:Nat) (t:PF)
 |both (i:Nat) (t:PF) (j:Nat) (u:PF)
 |three (i:Nat) (t:PF) (j:Nat) (u:PF) (k:Nat) (v:PF)
 |four (i:Nat) (t:PF) (j:Nat) (u:PF) (k:Nat) (v:PF) (l:Nat) (w:PF)
def PF.ok(ops:Array Oper)(qs:List Nat):PF->Nat->Array Bool->Bool
 |.nil,n,aH=>n==0&&(Region.ready .any ops aH).isEmpty
 |.take _ _,0,_=>false
 |.take i t,n+1,aH=>Hz ops qs aH i (Lo ops i)&&t.ok ops qs n (aH.setIfInBounds i true)
 |.both _ _ _ _,0,_=>false
 |.both i t j u,n+1,aH=>(Region.ready .any ops aH==[i,j])&&t.ok ops qs n (aH.setIfInBounds i true)&&u.ok ops qs n (aH.setIfInBounds j true)
 |.three _ _ _ _ _ _,0,_=>false
 |.three i t j u k v,n+1,aH=>(Region.ready .any ops aH==[i,j,k])&&t.ok ops qs n (aH.setIfInBounds i true)&&u.ok ops qs n (aH.setIfInBounds j true)&&v.ok ops qs n (aH.setIfInBounds k true)
 |.four _ _ _ _ _ _ _ _,0,_=>false
 |.four i t j u k v l w,n+1,aH=>(Region.ready .any ops aH==[i,j,k,l])&&t.ok ops qs n (aH.setIfInBounds i true)&&u.ok ops qs n (aH.setIfInBounds j true)&&v.ok ops qs n (aH.setIfInBounds k true)&&w.ok ops qs n (aH.setIfInBounds l true)
def jY(P:Program)(ops:Array Oper)(qs:List Nat):PF->(St->Prop)->St->Prop
 |.nil,K,σ=>K σ
 |.take i t,K,σ=>cy P ops qs i (jY P ops qs t K) σ
 |.both i t j u,K,σ=>cy P ops qs i (jY P ops qs t K) σ/\cy P ops qs j (jY P ops qs u K) σ
 |.three i t j u k v,K,σ=>cy P ops qs i (jY P ops qs t K) σ/\cy P ops qs j (jY P ops qs u K) σ/\cy P ops qs k (jY P ops qs v K) σ
 |.four i t j u k v l w,K,σ=>cy P ops qs i (jY P ops qs t K) σ/\cy P ops qs j (jY P ops qs u K) σ/\cy P ops qs k (jY P ops qs v K) σ/\cy P ops qs l (jY P ops qs w K) σ
def wx{ops:Array Oper}{qs:List Nat}{K:St->Prop}:∀ (t:PF) (n:Nat) (aH:Array Bool) (σ:St),t.ok ops qs n aH=true->jY P ops qs t K σ->vO P ops qs K n aH σ
 |.nil,n,aH,σ,h,hp=>by
  simp only[PF.ok,bc,beq_iff_eq,List.isEmpty_iff]at h;obtain⟨rfl,h⟩:=h;exact⟨h,hp⟩
 |.take _ _,0,_,_,h,_=>by simp[PF.ok]at h
 |.take i t,n+1,aH,σ,h,hp=>by
  simp only[PF.ok,bc]at h;exact SH h.1 (oc (λs hs=>wx t n _ s h.2 hs) hp)
 |.both _ _ _ _,0,_,_,h,_=>by simp[PF.ok]at h
 |.both i t j u,n+1,aH,σ,h,hp=>by
  simp only[PF.ok,bc,beq_iff_eq]at h;obtain⟨⟨h1,h2⟩,h3⟩:=h;refine⟨λe=>by rw[h1]at e;simp at e,λk hk=>?_⟩;rw[h1]at hk;simp only[bu,iI,or_false]at hk;rcases hk with rfl|rfl
  ·exact oc (λs hs=>wx t n _ s h2 hs) hp.1
  ·exact oc (λs hs=>wx u n _ s h3 hs) hp.2
 |.three _ _ _ _ _ _,0,_,_,h,_=>by simp[PF.ok]at h
 |.three i t j u k v,n+1,aH,σ,h,hp=>by
  simp only[PF.ok,bc,beq_iff_eq]at h;obtain⟨⟨⟨h1,h2⟩,h3⟩,h4⟩:=h;refine⟨λe=>by rw[h1]at e;simp at e,λx hk=>?_⟩;rw[h1]at hk;simp only[bu,iI,or_false]at hk;rcases hk with rfl|rfl|rfl
  ·exact oc (λs hs=>wx t n _ s h2 hs) hp.1
  ·exact oc (λs hs=>wx u n _ s h3 hs) hp.2.1
  ·exact oc (λs hs=>wx v n _ s h4 hs) hp.2.2
 |.four _ _ _ _ _ _ _ _,0,_,_,h,_=>by simp[PF.ok]at h
 |.four i t j u k v l w,n+1,aH,σ,h,hp=>by
  simp only[PF.ok,bc,beq_iff_eq]at h;obtain⟨⟨⟨⟨h1,h2⟩,h3⟩,h4⟩,h5⟩:=h;refine⟨λe=>by rw[h1]at e;simp at e,λx hk=>?_⟩;rw[h1]at hk;simp only[bu,iI,or_false]at hk;rcases hk with rfl|rfl|rfl|rfl
  ·exact oc (λs hs=>wx t n _ s h2 hs) hp.1
  ·exact oc (λs hs=>wx u n _ s h3 hs) hp.2.1
  ·exact oc (λs hs=>wx v n _ s h4 hs) hp.2.2.1
  ·exact oc (λs hs=>wx w n _ s h5 hs) hp.2.2.2
def aiw{id:Nat}{ops:Array Oper}{Q:Exit->St->Prop}(qs:List Nat)(t:PF)(hm:P.follows .mixedOrders=true)(hd:fP N ops=true)(ht:t.ok ops qs ops.size (Array.replicate ops.size false)=true)(h:jY P ops qs t (Q .normal) σ):W P N n0 (.region id ops true) Q σ :=
 SF qs hm hd (wx t _ _ σ ht h)
section
variable {ops:Array Oper} {qs:List Nat} {K:St->Prop} {i j k l:Nat} {t u v w:PF}
def uY:jY P ops qs .nil K σ=K σ:=rfl
def wy:jY P ops qs (.take i t) K σ=cy P ops qs i (jY P ops qs t K) σ:=rfl
def wz:jY P ops qs (.both i t j u) K σ=(cy P ops qs i (jY P ops qs t K) σ/\cy P ops qs j (jY P ops qs u K) σ):=rfl
def wA:jY P ops qs (.three i t j u k v) K σ=(cy P ops qs i (jY P ops qs t K) σ/\cy P ops qs j (jY P ops qs u K) σ/\cy P ops qs k (jY P ops qs v K) σ):=rfl
def wB:jY P ops qs (.four i t j u k v l w) K σ=(cy P ops qs i (jY P ops qs t K) σ/\cy P ops qs j (jY P ops qs u K) σ/\cy P ops qs k (jY P ops qs v K) σ/\cy P ops qs l (jY P ops qs w K) σ):=rfl
end
end Go.Am

