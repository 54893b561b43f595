import Derived.Test.YtfoopmojjjpapaaGreatX12
set_option linter.all false
set_option maxHeartbeats 0
set_option maxRecDepth 20000
open List renaming getElem?_eq_some_iff→aY,getD_eq_getElem?_getD→ay,getElem?_append_left→fe,getElem?_append_right→iq,getElem?_set→bU,mem_or_eq_of_mem_set→sW,length_set→bJ,mem_of_getElem?→hZ
open Option renaming some→cH,bind_some→tX
open Nat renaming not_lt_zero→my
namespace Go.Am
variable {P:Program} {N n0:Nat} {σ:St} {μ:Mem} {Q:Exit->St->Mem->Prop}
theorem mr{id:Nat}{ops:Array Oper}{y:Code}(h:∀ K:St->Mem->Prop,(∀ s m,WM P N n0 y Q s m->K s m)->qY P ops ops.toList K σ μ)(hd:fP N ops=true:=by decide):WM P N n0 (.seq (.region id ops false) y) Q σ μ :=
 oG fun Q' h1 _=>YV hd (h _ h1)
theorem sv{id:Nat}{ops:Array Oper}(h:∀ K:St->Mem->Prop,(∀ s m,Q .normal s m->K s m)->qY P ops ops.toList K σ μ)(hd:fP N ops=true:=by decide):WM P N n0 (.region id ops false) Q σ μ :=
 YV hd (h _ fun _ _ h=>h)
theorem mc{c:Operand}{x y:Code}{t:Bool}(ht:t=true->WM P N n0 x Q σ μ)(hf:t=false->WM P N n0 y Q σ μ)(hc:ev σ c=.lit (.bool t):=by(simp only[Go.Am.ui,Go.Am.Lc,↓reduceIte,Nat.reduceEqDiff,Nat.reduceBEq];exact rfl)):WM P N n0 (.cond c x y) Q σ μ:=aiE hc ht hf
def ml{c y:Code}(h:∀ Q':Exit->St->Prop,(∀ s,WM P N n0 y Q s μ->Q' .normal s)->(∀ e s,uX e=false->Q e s μ->Q' e s)->W P N σ.aa.length c Q' σ):WM P N n0 (.seq c y) Q σ μ :=
 oG λQ' h1 h2=>Nr (h (λe s=>Q' e s μ) (λs=>h1 s μ) (λe s=>h2 e s μ))
section
variable {ops:Array Oper} {o:Oper} {l:List Oper} {K:St->Mem->Prop}
instance:Head (qY P ops (o::l) K σ μ):=⟨trivial⟩
def aiF{b want:Bool}(h1:b=true->qc P o K true want σ μ)(h2:b=false->qc P o K false want σ μ):qc P o K b want σ μ:=by
 cases b
 ·exact h2 rfl
 ·exact h1 rfl
instance {b want:Bool}:IA (qc P o K b want σ μ) b (qc P o K true want σ μ) (qc P o K false want σ μ):=⟨aiF⟩
def YW:qc P o K true true σ μ=e7 P o σ μ K:=by simp[qc]
def YX:qc P o K false false σ μ=e7 P o σ μ K:=by simp[qc]
def YY:qc P o K true false σ μ=K (σ.put o.dst (.lit (.tuple #[]))) μ:=by simp[qc]
def YZ:qc P o K false true σ μ=K (σ.put o.dst (.lit (.tuple #[]))) μ:=by simp[qc]
def Y1:qY P ops [] K σ μ=K σ μ:=rfl
variable {dst:Option Tmp} {tt:TypeId} {p:String} {af:Array Edge} {g:Option (Nat×Bool)}
def Y2(x:Operand):e7 P ⟨dst,.move x,tt,p,af,g⟩ σ μ K=aL P ⟨dst,.move x,tt,p,af,g⟩ σ (λs=>K s μ):=rfl
def Y3(x:Operand):e7 P ⟨dst,.assign x,tt,p,af,g⟩ σ μ K=aL P ⟨dst,.assign x,tt,p,af,g⟩ σ (λs=>K s μ):=rfl
def Y4(x y z:Operand):e7 P ⟨dst,.pick x y z,tt,p,af,g⟩ σ μ K=aL P ⟨dst,.pick x y z,tt,p,af,g⟩ σ (λs=>K s μ):=rfl
def Y5(e:TypeId):e7 P ⟨dst,.alloc e,tt,p,af,g⟩ σ μ K=aL P ⟨dst,.alloc e,tt,p,af,g⟩ σ (λs=>K s μ):=rfl
def Y6(e:TypeId)(x:Operand):e7 P ⟨dst,.box e x,tt,p,af,g⟩ σ μ K=aL P ⟨dst,.box e x,tt,p,af,g⟩ σ (λs=>K s μ):=rfl
def Y7(t:TypeId)(l:Array (Nat×Operand)):e7 P ⟨dst,.build t l,tt,p,af,g⟩ σ μ K=aL P ⟨dst,.build t l,tt,p,af,g⟩ σ (λs=>K s μ):=rfl
def Y8(t:TypeId)(n:Nat)(l:Array (Nat×Operand)):e7 P ⟨dst,.buildSlice t n l,tt,p,af,g⟩ σ μ K=aL P ⟨dst,.buildSlice t n l,tt,p,af,g⟩ σ (λs=>K s μ):=rfl
def Y9(t:TypeId)(x:Operand):e7 P ⟨dst,.load t x,tt,p,af,g⟩ σ μ K=aL P ⟨dst,.load t x,tt,p,af,g⟩ σ (λs=>K s μ):=rfl
def Y'(t:TypeId)(x y:Operand):e7 P ⟨dst,.store t x y,tt,p,af,g⟩ σ μ K=aL P ⟨dst,.store t x y,tt,p,af,g⟩ σ (λs=>K s μ):=rfl
def Za(u:UnOp)(t:TypeId)(x:Operand):e7 P ⟨dst,.unOp u t x,tt,p,af,g⟩ σ μ K=aL P ⟨dst,.unOp u t x,tt,p,af,g⟩ σ (λs=>K s μ):=rfl
def Zb(f:Fn)(x y:Array Operand):e7 P ⟨dst,.makeFunc f x y,tt,p,af,g⟩ σ μ K=aL P ⟨dst,.makeFunc f x y,tt,p,af,g⟩ σ (λs=>K s μ):=rfl
def Zc(t:TypeId)(x y:Operand):e7 P ⟨dst,.makeSlice t x y,tt,p,af,g⟩ σ μ K=aL P ⟨dst,.makeSlice t x y,tt,p,af,g⟩ σ (λs=>K s μ):=rfl
def Zd(t:TypeId)(x:Operand)(lo hi mx:Option Operand):e7 P ⟨dst,.slice t x lo hi mx,tt,p,af,g⟩ σ μ K=aL P ⟨dst,.slice t x lo hi mx,tt,p,af,g⟩ σ (λs=>K s μ):=rfl
def Ze(t:TypeId)(x:Operand)(n:Nat):e7 P ⟨dst,.field t x n,tt,p,af,g⟩ σ μ K=aL P ⟨dst,.field t x n,tt,p,af,g⟩ σ (λs=>K s μ):=rfl
def Zf(t:TypeId)(x:Operand)(n:Nat):e7 P ⟨dst,.fieldAddr t x n,tt,p,af,g⟩ σ μ K=aL P ⟨dst,.fieldAddr t x n,tt,p,af,g⟩ σ (λs=>K s μ):=rfl
def Zg(t:TypeId)(x y:Operand):e7 P ⟨dst,.indexAddr t x y,tt,p,af,g⟩ σ μ K=aL P ⟨dst,.indexAddr t x y,tt,p,af,g⟩ σ (λs=>K s μ):=rfl
def Zh(x:Operand):e7 P ⟨dst,.nilCheck x,tt,p,af,g⟩ σ μ K=aL P ⟨dst,.nilCheck x,tt,p,af,g⟩ σ (λs=>K s μ):=rfl
def Zi(x:Operand)(n:Nat):e7 P ⟨dst,.extract x n,tt,p,af,g⟩ σ μ K=aL P ⟨dst,.extract x n,tt,p,af,g⟩ σ (λs=>K s μ):=rfl
def Zj(s d:TypeId)(x:Operand):e7 P ⟨dst,.convert s d x,tt,p,af,g⟩ σ μ K=aL P ⟨dst,.convert s d x,tt,p,af,g⟩ σ (λs=>K s μ):=rfl
def Zk(f:Operand)(args:Array Operand)(cI:Array TypeId):e7 P ⟨dst,.call ⟨.value f,args,cI⟩,tt,p,af,g⟩ σ μ K=aL P ⟨dst,.call ⟨.value f,args,cI⟩,tt,p,af,g⟩ σ (λs=>K s μ):=rfl
def Zl(args:Array Operand)(cI:Array TypeId):e7 P ⟨dst,.call ⟨.builtin .append,args,cI⟩,tt,p,af,g⟩ σ μ K=aL P ⟨dst,.call ⟨.builtin .append,args,cI⟩,tt,p,af,g⟩ σ (λs=>K s μ):=rfl
def Zm(args:Array Operand)(cI:Array TypeId):e7 P ⟨dst,.call ⟨.builtin .min,args,cI⟩,tt,p,af,g⟩ σ μ K=aL P ⟨dst,.call ⟨.builtin .min,args,cI⟩,tt,p,af,g⟩ σ (λs=>K s μ):=rfl
def Zn(args:Array Operand)(cI:Array TypeId):e7 P ⟨dst,.call ⟨.builtin .max,args,cI⟩,tt,p,af,g⟩ σ μ K=aL P ⟨dst,.call ⟨.builtin .max,args,cI⟩,tt,p,af,g⟩ σ (λs=>K s μ):=rfl
def Zo(args:Array Operand)(cI:Array TypeId):e7 P ⟨dst,.call ⟨.builtin .copy,args,cI⟩,tt,p,af,g⟩ σ μ K=aL P ⟨dst,.call ⟨.builtin .copy,args,cI⟩,tt,p,af,g⟩ σ (λs=>K s μ):=rfl
def Zp(args:Array Operand)(cI:Array TypeId):e7 P ⟨dst,.call ⟨.builtin .len,args,cI⟩,tt,p,af,g⟩ σ μ K=Ad P ⟨dst,.call ⟨.builtin .len,args,cI⟩,tt,p,af,g⟩ (args.toList.map (ev σ)) cI.toList σ μ K:=rfl
def Zq(op:BinOp)(t:TypeId)(x y:Operand)(yt:TypeId):e7 P ⟨dst,.binOp op t x y yt,tt,p,af,g⟩ σ μ K=uZ P ⟨dst,.binOp op t x y yt,tt,p,af,g⟩ op t (ev σ x) (ev σ y) σ μ K:=rfl
def Zr(k:IntKind)(n:Int)(op:BinOp)(t:TypeId)(y:AV):uZ P o op t (.lit (.int k n)) y σ μ K=aL P o σ (λs=>K s μ):=rfl
def Zs(b:Bool)(op:BinOp)(t:TypeId)(y:AV):uZ P o op t (.lit (.bool b)) y σ μ K=aL P o σ (λs=>K s μ):=rfl
def Zt(a:Option Addr)(n c:Nat)(op:BinOp)(t:TypeId)(y:AV):uZ P o op t (.lit (.slice a n c)) y σ μ K=aL P o σ (λs=>K s μ):=rfl
def Zu(s:Nat)(r:List (List AV))(op:BinOp)(t:TypeId)(y:AV):uZ P o op t (.tree s r) y σ μ K=aL P o σ (λs=>K s μ):=rfl
def Zv(l:List AV)(op:BinOp)(t:TypeId)(y:AV):uZ P o op t (.agg l) y σ μ K=aL P o σ (λs=>K s μ):=rfl
def Zw(a b c d:Nat)(op:BinOp)(t:TypeId)(y:AV):uZ P o op t (.ref a b c d) y σ μ K=aL P o σ (λs=>K s μ):=rfl
def Zx(a:Option Nat)(t:TypeId)(y:AV):uZ P o .eql t (.lit (.map a)) y σ μ K=(u3 P t/\y=.lit (.map none)/\K (σ.put o.dst (.lit (.bool a.isNone))) μ):=rfl
def Zy(a:Option Nat)(t:TypeId)(y:AV):uZ P o .neq t (.lit (.map a)) y σ μ K=(u3 P t/\y=.lit (.map none)/\K (σ.put o.dst (.lit (.bool (!a.isNone)))) μ):=rfl
def Zz(s:Nat)(r:List (List AV))(t:List TypeId):Ad P o [.tree s r] t σ μ K=aL P o σ (λs=>K s μ):=rfl
def ZA(a b c d:Nat)(t:List TypeId):Ad P o [.ref a b c d] t σ μ K=aL P o σ (λs=>K s μ):=rfl
def ZB(a:Option Addr)(n c:Nat)(t:List TypeId):Ad P o [.lit (.slice a n c)] t σ μ K=aL P o σ (λs=>K s μ):=rfl
def ZC(b:Nat)(t:List TypeId):Ad P o [.lit (.map (some b))] t σ μ K =∃t1 ents,t=[t1]/\u3 P t1/\μ b=some (.map ents)/\K (σ.put o.dst (QM (ents.length:Nat))) μ:=rfl
def ZD:qY P ops (o::l) K σ μ=(match o.guard with|none=>e7 P o σ μ (qY P ops l K)|some (j,want)=>match (ops[j]?).bind (·.dst) with|none=>False|some d=>match σ.env d with|.lit (.bool b)=>qc P o (qY P ops l K) b want σ μ|.lit (.tuple vs)=>vs = #[]/\qY P ops l K (σ.put o.dst (.lit (.tuple #[]))) μ|_=>False):=by rw[qY]<;>rfl
def ZE(a:Option Nat):eS (.map a)=.lit (.map a):=rfl
end
def Mc:=aaP @ZE @Y2 @Y3 @Y4 @Y5 @Y6 @Y7 (aaP @Y8 @Y9 @Y' @Za @Zb @Zc @Zd (aaP @Ze @Zf @Zg @Zh @Zi @Zj @Zk (aaP @Zl @Zm @Zn @Zo @Zp @Zq @Zr (aaP @Zs @Zt @Zu @Zv @Zw @Zx @Zy (aaP @Zz @ZA @ZB @ZC @ZD @Y1 @YW (QZ @YX @YY @YZ))))))
end Go.Am
namespace Go.Am
variable {P:Program} {N n0:Nat} {σ:St} {μ:Mem} {K:St->Mem->Prop} {dst:Option Tmp} {tt:TypeId} {p:String} {af:Array Edge} {g:Option (Nat×Bool)}
def ZF{t:TypeId}(h:∀ b,μ b=none->K (σ.put dst (.lit (.map (some b)))) (iQ μ b (.map []))):e7 P ⟨dst,.makeMap t none,tt,p,af,g⟩ σ μ K:=h
def FA{t:TypeId}{x i:Operand}{b:Nat}{n:Int}{z:Value}(hx:ev σ x=.lit (.map (some b)))(hi:ev σ i=QM n)(hz:IE P t z){L:List (Int×Value)}(hb:μ b=some (.map (iE L)))(hK:K (σ.put dst (.lit ((oH n L).getD z))) μ):e7 P ⟨dst,.lookup t x i false,tt,p,af,g⟩ σ μ K:=⟨n,z,hi,hz,.inr ⟨b,L,hx,hb,hK⟩⟩
def Ns{t:TypeId}{m k x:Operand}{b:Nat}{n:Int}{v:Value}(hm:ev σ m=.lit (.map (some b)))(hi:ev σ k=QM n)(hx:ev σ x=.lit v)(hk:IF P t){L:List (Int×Value)}(hb:μ b=some (.map (iE L)))(hK:K (σ.put dst .undef) (iQ μ b (.map (iE (kZ n v L))))):e7 P ⟨dst,.mapUpdate t m k x,tt,p,af,g⟩ σ μ K:=⟨b,n,L,v,hk,hm,hi,hx,hb,hK⟩
def aiG{t:TypeId}{x:Operand}{b:Nat}(hx:ev σ x=.lit (.map (some b)))(hk:u3 P t){ents:List (Value×Value)}(hb:μ b=some (.map ents))(hK:∀ r,μ r=none->K (σ.put dst (.lit (.pointer (some ⟨r,0,none⟩)))) (iQ μ r (.iter b ents.length []))):e7 P ⟨dst,.range t x,tt,p,af,g⟩ σ μ K:=.inl ⟨b,ents,hk,hx,hb,hK⟩
def aiH{t:TypeId}{x:Operand}{b i ag:Nat}{L:List (List Int×AV)}(hx:ev σ x=.dD i)(hi:σ.aa[i]?=some (.mp ag L))(hk:u3 P t)(hb:μ b=some (.jl i))(hK:∀ r,μ r=none->K (σ.put dst (.lit (.pointer (some ⟨r,0,none⟩)))) (iQ μ r (.iter b L.length []))):e7 P ⟨dst,.range t x,tt,p,af,g⟩ σ μ K:=.inr ⟨b,i,ag,L,hk,hx,hi,hb,hK⟩
def aiI{x:Operand}{r b:Nat}{seen:List Nat}{ents:List (Value×Value)}(hx:ev σ x=.lit (.pointer (some ⟨r,0,none⟩)))(hr:μ r=some (.iter b ents.length seen))(hb:μ b=some (.map ents))(h1:(∀ j<ents.length,j∈seen)->K (σ.put dst (.bC [.lit (.bool false)])) μ)(h2:∀ j p,ents[j]?=some p->j ∉ seen->K (σ.put dst (.bC [.lit (.bool true),.lit p.1,.lit p.2])) (iQ μ r (.iter b ents.length (seen++[j])))):e7 P ⟨dst,.next x false,tt,p,af,g⟩ σ μ K:=.inl ⟨r,b,seen,ents,hx,hr,hb,h1,h2⟩
def aiJ{x:Operand}{r b i ag:Nat}{seen:List Nat}{L:List (List Int×AV)}(hx:ev σ x=.lit (.pointer (some ⟨r,0,none⟩)))(hr:μ r=some (.iter b L.length seen))(hi:σ.aa[i]?=some (.mp ag L))(hb:μ b=some (.jl i))(h1:(∀ j<L.length,j∈seen)->K (σ.put dst (.bC [.lit (.bool false)])) μ)(h2:∀ j q,L[j]?=some q->j ∉ seen->K (σ.put dst (.bC [.lit (.bool true),kA ag q.1,q.2])) (iQ μ r (.iter b L.length (seen++[j])))):e7 P ⟨dst,.next x false,tt,p,af,g⟩ σ μ K:=.inr ⟨r,b,i,ag,L,seen,hx,hr,hb,hi,h1,h2⟩
def aiK{x:Operand}{r b i ag j:Nat}{seen:List Nat}{L:List (List Int×AV)}{q:List Int×AV}(hx:ev σ x=.lit (.pointer (some ⟨r,0,none⟩)))(hr:μ r=some (.iter b L.length (seen++[j])))(hi:σ.aa[i]?=some (.mp ag L))(hb:μ b=some (.jl i))(hq:L[j]?=some q)(hK:K (σ.put dst (.bC [kA ag q.1,q.2])) μ):e7 P ⟨dst,.entry x,tt,p,af,g⟩ σ μ K:=.inr ⟨r,b,i,ag,L,seen,j,q,hx,hr,hb,hi,hq,hK⟩
def aiL{x:Operand}{r b j:Nat}{seen:List Nat}{ents:List (Value×Value)}{q:Value×Value}(hx:ev σ x=.lit (.pointer (some ⟨r,0,none⟩)))(hr:μ r=some (.iter b ents.length (seen++[j])))(hb:μ b=some (.map ents))(hp:ents[j]?=some q)(hK:K (σ.put dst (.bC [.lit q.1,.lit q.2])) μ):e7 P ⟨dst,.entry x,tt,p,af,g⟩ σ μ K:=.inl ⟨r,b,seen,j,ents,q,hx,hr,hb,hp,hK⟩
def l8.refl:l8 n0 σ σ:=λos γ0 γ _ hs hf=>⟨γ,rfl,rfl,hs,hf,λ_ h=>.inl h,λ_ h=>h⟩
end Go.Am
namespace Go.Am
variable {P:Program} {N n0:Nat} {σ:St}
def sw{f:FuncId}{args:List AV}{dst:Option Tmp}{K:St->Prop}{iV:AV->List Ob->Prop}(h:dv P f args σ.aa iV)(hK:∀ res bh,iV res bh->σ.aa.length<=bh.length/\K ((⟨σ.env,bh⟩:St).put dst res)):kd P f args dst K σ:=by
 refine⟨List.range σ.aa.length,false,args,σ.aa,iV,h,⟨List.nodup_range,G9,?_,rfl,?_⟩,λres bh hp=>⟨G9,?_⟩⟩
 ·intro j o hj;have aX:=(aY.1 hj).1;rw[zC,EH];simpa [ay,List.getElem?_range aX] using hj
 ·intro j c d hc hd;rw[hc]at hd;simp only[cH.injEq]at hd;subst hd;exact .eq (by rw[zC,zD])
 ·obtain⟨hl,hK⟩:=hK res bh hp;rw[zC,zD];have:bh.map (bO (λj=>j))=bh:=by
   have h:bO (λj=>j)=id:=by funext o;exact EH o
   simp[h]
  rw[this,SJ _ _ hl];exact hK
def IG{Q:Exit->St->Prop}(n:Nat){id:Nat}{ops:Array Oper}(hd:fP N ops=true)(h:∀ K K1:St->Prop,(∀ s,Q .normal s->K s)->(∀ s s1,aD n0 s s1->opsL P ops (ops.toList.drop n) K s1->K1 s)->opsL P ops (ops.toList.take n) K1 σ):W P N n0 (.region id ops false) Q σ:=by
 intro os γ0 a w hn az;refine wp_region ?_;exact afr (oV hd) hn (K:=Q .normal) (K1:=λs=>∃ s1,aD n0 s s1/\opsL P ops (ops.toList.drop n) (Q .normal) s1) (λσ' a' w' hK c8=>⟨σ',hK,c8⟩) n (λs h=>h) σ a w (h _ _ (λ_ h=>h) (λs s1 h1 h2=>⟨s1,h1,h2⟩)) az
def Holds.MH{f:FuncId}{sz:Nat}{pre post:List AV}{aa bh:List Ob}{res:AV}(h:Holds P f (pre++.tree sz []::post) aa res bh):Holds P f (pre++.lit (.slice none 0 0)::post) aa res bh:=by
 refine⟨h.1,λγ aO hs=>h.2 γ (by simpa using aO) ⟨λk=>?_,hs.ec,hs.inj,hs.nz,hs.gV,hs.gl⟩⟩;have:=hs.ar k;dsimp only at this ⊢;by_cases hk:k=pre.length
 ·subst hk;have e1:(pre++AV.lit (.slice none 0 0)::post).getD pre.length .undef=.lit (.slice none 0 0):=G9;have e2:(pre++AV.tree sz []::post).getD pre.length .undef=.tree sz []:=G9;rw[e1]at this;rw[e2,this.cO];exact .cN _ _ (.nil _ _ _)
 ·have e:(pre++AV.tree sz []::post).getD k .undef=(pre++AV.lit (.slice none 0 0)::post).getD k .undef:=by
   simp only[ay];congr 1;rcases Nat.lt_or_ge k pre.length with h1|h1
   ·rw[fe h1,fe h1]
   ·rw[iq h1,iq h1,show k-pre.length=(k-pre.length-1)+1 by omega];rfl
  rw[e];exact this
end Go.Am
namespace Go.Am
variable {P:Program} {N n0:Nat} {σ:St} {Q:Exit->St->Prop}
def aD.IH(a id r0 c sz II:Nat){R:List (List AV)}{cells:List AV}{rows:List (List AV)}(ho:σ.aa[id]?=some (.arr II R))(bK:R[r0]?=some cells)(ha:σ.aa[a]?=some (.arr sz rows))(hc:cells[c]?=some (.ref a sz 0 rows.length))(By:a≠id)(hw:∀ row∈rows,row.length=sz)(xe:∀ row∈rows,∀ v∈row,(∃ x,v=.lit x)\/∃ s r,v=.tree s r):aD n0 σ ⟨σ.env,(σ.aa.set a .gone).set id (.arr II (R.set r0 (cells.set c (.tree sz rows))))⟩:=by
 intro os γ0 γ _ hs hf;have Bz:id<σ.aa.length:=(aY.1 ho).1;have nh:a<σ.aa.length:=(aY.1 ha).1
 let aC:Cx:={ γ with Z:=λb=>γ.Z b\/∃ o cap,γ.blk a=some (b,o,cap) }
 let os2:=(σ.aa.set a .gone).set id (.arr II (R.set r0 (cells.set c (.tree sz rows))))
 have jF:∀ i,os2[i]?=if i=id then some (.arr II (R.set r0 (cells.set c (.tree sz rows)))) else if i=a then some .gone else σ.aa[i]?:=by
  intro i;show((σ.aa.set a .gone).set id _)[i]?=_;rw[bU,bU];by_cases h1:i=id
  ·subst h1;simp[Bz]
  ·by_cases h2:i=a
   ·subst h2;simp[Ne.symm h1,h1,nh]
   ·simp[Ne.symm h1,Ne.symm h2,h1,h2]
 have hR:∀ v cv,aw σ.aa γ.w γ.Z γ.blk v cv->aw os2 aC.w aC.Z aC.blk v cv:=λv cv hv =>
  hv.mono (λb hb=>⟨.inl hb,rfl⟩) (λi o hi=>by
   rw[jF];by_cases h1:i=id
   ·subst h1;rw[ho]at hi;simp only[cH.injEq]at hi;subst hi;right;exact⟨rfl,_,by rw[if_pos rfl],by simp[Ob.ew]⟩
   ·rw[if_neg h1];by_cases h2:i=a
    ·left;rw[if_pos h2]
    ·rw[if_neg h2];by_cases hg:o=.gone
     ·subst hg;exact .inl hi
     ·exact .inr ⟨rfl,o,hi,Ob.jS hg⟩)
 have bW:∀ i,Live os2 i->Live σ.aa i/\i≠a:=by
  rintro i⟨o,hi,hg⟩;rw[jF]at hi;split at hi
  ·rename_i h1;subst h1;exact⟨⟨_,ho,G9⟩,Ne.symm By⟩
  ·split at hi
   ·simp at hi;exact absurd hi.symm hg
   ·rename_i h2;exact⟨⟨o,hi,hg⟩,h2⟩
 have pU:Live σ.aa a:=⟨_,ha,G9⟩;refine⟨aC,rfl,rfl,⟨λk=>hR _ _ (hs.ar k),?_,λi j b o c o' c' hi hj=>hs.inj i j b o c o' c' (bW i hi).1 (bW j hj).1,?_,?_,λg=>zK (hs.gl g) λb hb=>⟨.inl hb,rfl⟩⟩,?_⟩
 ·intro i o hi;have au:os2[i]?=some o:=hi;rw[jF]at au;split at au
  ·rename_i h1;subst h1;simp only[cH.injEq]at au;subst au;obtain⟨h0,hr,bS⟩:=hs.ec _ _ ho;have qQ:r0<R.length:=(aY.1 bK).1;refine⟨h0,λrow u4=>?_,?_⟩
   ·rcases sW u4 with h|h
    ·exact hr row h
    ·subst h;rw[bJ];exact hr cells (hZ bK)
   ·rcases bS with⟨h1,h2⟩|⟨b,o,cap,cur,t,h1,h2,h3,h4,h5,h6⟩
    ·exact absurd (show r0<0 by rw[h2]at qQ;exact qQ) (my _)
    ·refine .inr ⟨b,o,cap,cur,t,h1,h2,h3,by rw[bJ];exact h4,h5,λr k v hv=>?_⟩;unfold cellAt at hv;rw[bU]at hv;by_cases e:r0=r
     ·subst e;rw[if_pos rfl,if_pos qQ,tX,bU]at hv;split at hv
      ·rename_i e;subst e;split at hv
       ·simp only[cH.injEq]at hv;subst hv;have eG:cX σ (λx=>x≠a) (.tree sz rows) (.ref a sz 0 rows.length):=cX.flat ha hw rfl G9 xe;exact .cN _ _ (eG.Ba hs (γc:=aC) (λb hb=>.inl hb) rfl (λx b o cap bZ _ hb=>.inr ⟨o,cap,by rw[show a=x by simpa using(Decidable.not_not.1 bZ).symm];exact hb⟩) _ (h6 r0 c _ (by unfold cellAt;rw[bK];exact hc)))
       ·simp at hv
      ·exact hR _ _ (h6 r0 k v (by unfold cellAt;rw[bK];exact hv))
     ·rw[if_neg e]at hv;exact hR _ _ (h6 r k v hv)
  ·split at au
   ·simp only[cH.injEq]at au;subst au;trivial
   ·by_cases hg:o=.gone
    ·subst hg;trivial
    ·exact(hs.ec i o au).mono hR rfl (λ_ _ _ _=>rfl)
 ·rintro b ⟨i,o,c',hi,hb⟩ (hz|⟨o',cap,ba⟩)
  ·exact hs.nz b ⟨i,o,c',(bW i hi).1,hb⟩ hz
  ·exact(bW i hi).2 (hs.inj i a b o c' o' cap (bW i hi).1 pU hb ba)
 ·rintro b (hz|⟨o,cap,hb⟩)
  ·exact hs.gV b hz
  ·exact hs.blt pU hb
 ·refine⟨hf.lS,hf.tape,hf.output,hf.size,hf.eA,λb hb=>.inl (hf.z0 b hb),?_,?_,by show os.length<=os2.length;simp[os2];exact hf.len,?_,hf.drawn⟩
  ·rintro b (hz|⟨o,cap,hb⟩)
   ·exact hf.z1 b hz
   ·exact .inr (hf.own b ⟨a,o,cap,pU,hb⟩)
  ·rintro b ⟨i,o,c',hi,hb⟩;exact hf.own b ⟨i,o,c',(bW i hi).1,hb⟩
  ·intro i hi hl;obtain⟨h1,x,x',hx,cf,hk⟩:=hf.eK i hi (bW i hl).1;have EY:=(bW i hl).2;have kx:Live os2 i:=hl;obtain⟨o,dx,pI⟩:=kx;refine⟨h1,x,o,hx,dx,?_⟩;rw[jF]at dx;split at dx
   ·rename_i e;subst e;rw[ho]at cf;simp only[cH.injEq]at cf dx;subst cf;subst dx;refine Ob.H5 hk (by simp[Ob.ew])
   ·rw[cf]at dx;simp only[cH.injEq]at dx;subst dx;exact hk
end Go.Am
namespace Go.Am
variable {P:Program} {N n0:Nat} {σ:St} {Q:Exit->St->Prop}
def bz.aiM{σ:St}{γ:Cx}(h:bz σ γ){id sz:Nat}{R R':List (List AV)}(ho:σ.aa[id]?=some (.arr sz R))(hl:R'.length=R.length)(hw:∀ row∈R',row.length=sz)(cE:R≠[])(hc:∀ (r c:Nat) v',cellAt R' r c=some v'->∃ v,cellAt R r c=some v/\∀ cv,aw σ.aa γ.w γ.Z γ.blk v cv->aw σ.aa γ.w γ.Z γ.blk v' cv):bz ⟨σ.env,σ.aa.set id (.arr sz R')⟩ γ:=by
 obtain⟨h0,hr,bS⟩:=h.ec id _ ho;rcases bS with⟨_,h2⟩|⟨b,o,cap,cur,t,h1,h2,h3,h4,h5,h6⟩
 ·exact absurd h2 cE
 ·have:=h.write (ob':=.arr sz R') ho G9 ⟨rfl,hl.symm⟩ h1 (w':=γ.w) h2 (λ_ _=>rfl) rfl ⟨h0,hw,h3,by rw[hl];exact h4,h5,λr c v' hv=>by
   obtain⟨v,pf,zN⟩:=hc r c v' hv;exact zN _ (h6 r c v pf)⟩
  exact this
def Fr.aiN(os:List Ob)(γ:Cx){id:Nat}{o o':Ob}(ho:os[id]?=some o)(gH:o.ew o'):Fr os γ (os.set id o') γ where
 lS:=rfl
 tape:=rfl
 output:=rfl
 size:=Nat.le_refl _
 eA:=λ_ _ _=>rfl
 z0:=λ_ h=>h
 z1:=λ_ h=>.inl h
 own:=by
  rintro b⟨i,p,c,⟨x,hx,fi⟩,hb⟩;rw[bU]at hx;split at hx
  ·rename_i e;subst e;exact .inl ⟨id,p,c,⟨_,ho,(Ob.Tk gH).1⟩,hb⟩
  ·exact .inl ⟨i,p,c,⟨x,hx,fi⟩,hb⟩
 len:=G9
 eK:=by
  rintro i hi⟨x,hx,fi⟩;have hx0:=hx;rw[bU]at hx;split at hx
  ·rename_i e;subst e;exact⟨rfl,o,o',ho,by rw[bU];simp[hi],gH⟩
  ·exact⟨rfl,x,x,hx,hx0,Ob.jS fi⟩
def ZG(v v':AV):Prop:=v'=v\/(v=.lit (.slice none 0 0)/\∃ s,v'=.tree s [])
def DA:List AV->List AV->Prop
 |[],[]=>True
 |c::cs,d::ds=>ZG c d/\DA cs ds
 |_,_=>False
def DA.get:∀ {cs ds:List AV},DA cs ds->cs.length=ds.length/\∀ (j:Nat) d,ds[j]?=some d->∃ c,cs[j]?=some c/\ZG c d
 |[],[],_=>⟨rfl,G9⟩
 |c::cs,d::ds,h=>by
  obtain⟨a,b⟩:=DA.get h.2;refine⟨by simp[a],λj d' hd=>?_⟩;cases j with
  |zero=>simp at hd;subst hd;exact⟨c,rfl,h.1⟩
  |succ j=>exact b j d' (by simpa using hd)
 |[],_::_,h=>h.elim
 |_::_,[],h=>h.elim
def aD.IJ(id r0 sz:Nat){R:List (List AV)}{cells cells':List AV}(ho:σ.aa[id]?=some (.arr sz R))(bK:R[r0]?=some cells)(hc:DA cells cells'):aD n0 σ ⟨σ.env,σ.aa.set id (.arr sz (R.set r0 cells'))⟩:=by
 intro os γ0 γ _ hs hf;obtain⟨hl,hg⟩:=hc.get;have qQ:r0<R.length:=(aY.1 bK).1;have yO:=(hs.ec id _ ho).2.1;refine⟨γ,rfl,rfl,hs.aiM ho G9 (λrow u4=>?_) (λe=>by rw[e]at qQ;exact absurd qQ (my _)) (λr c v' hv=>?_),hf.trans (Fr.aiN _ _ ho ⟨rfl,G9⟩)⟩
 ·rcases sW u4 with h|h
  ·exact yO row h
  ·subst h;rw[<- hl];exact yO cells (hZ bK)
 ·unfold cellAt at hv;rw[bU]at hv;by_cases e:r0=r
  ·subst e;rw[if_pos rfl,if_pos qQ,tX]at hv;obtain⟨v,h1,h2⟩:=hg c v' hv;refine⟨v,by unfold cellAt;rw[bK];exact h1,λcv hr=>?_⟩;rcases h2 with rfl|⟨rfl,s,rfl⟩
   ·exact hr
   ·rw[hr.cO];exact .cN _ _ (.nil _ _ _)
  ·rw[if_neg e]at hv;exact⟨v',hv,λcv hr=>hr⟩
end Go.Am

