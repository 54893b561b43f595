import Derived.Test.YtodilglobhifaaaGreatDoorX12
set_option linter.all false
set_option maxHeartbeats 0
set_option maxRecDepth 20000
open Array renaming getD_eq_getD_getElem?→dJ,length_toList→oV,getElem?_eq_some_iff→lT
open List renaming range→bp,range'→jN,range_eq_range'→sx,range'_succ→sy,range'_append→ER,mem_of_getElem?→fq,getElem?_drop→kE,length_take→fE,getElem?_take_of_lt→Bw
open Nat renaming zero_add→gw,one_mul→sA
namespace Go.Am
variable {P:Program} {N n0:Nat} {σ:St} {Q:Exit->St->Prop}
def D8(P:Program)(o:Oper)(K:St->Prop)(σ:St):Prop :=
 match o.op with
 |.call { callee:=.value f,args,.. } =>
  match ev σ f with
  |.fn g bg=>jS P g (args.toList.map (ev σ)++bg) o.dst K σ
  |_=>False
 |_=>False
def ace{os:List Ob}{γ0:Cx}{o:Oper}{K:St->Prop}(h:D8 P o K σ){a:Act}{w:World}(az:eH N os γ0 σ a w)(hd:∀ d,o.dst=some d->d<N){Q:Exit->Act->World->Prop}{next:Act->World->Prop}(hn:∀ σ' a' w',K σ'->eH N os γ0 σ' a' w'->next a' w'):o.wp P a w next Q:=by
 obtain⟨eI,aH,γ,rfl,ha,hs,hf⟩:=az;have oc:∀ d,o.dst=some d->d<a.tmps.size:=λd h=>by rw[aH];exact hd d h
 unfold D8 at h;split at h
 ·rename_i f args dv dH;split at h
  ·rename_i g bg he;have dC:=mV hs ha f;rw[he]at dC;obtain⟨aR,aV,kO,l6⟩:=dC.FM;have kj:∀ (j:Nat) d,(args.toList.map (ev σ)++bg)[j]?=some d->au σ.aa γ.w γ.Z γ.blk d (((args.map a.eval)++aR).getD j Go.undef):=by
    intro j d hj;simp only[dJ];rcases Nat.lt_or_ge j args.size with bq|jT
    ·rw[List.getElem?_append_left (by simpa using bq)]at hj;rw[Array.getElem?_append_left (by simpa using bq)];simp only[List.getElem?_map,Array.getElem?_toList,Array.getElem?_map]at hj ⊢;cases hx:args[j]? with
     |none=>simp[hx]at hj
     |some y=>simp[hx]at hj ⊢;subst hj;exact mV hs ha y
    ·rw[List.getElem?_append_right (by simpa using jT)]at hj;rw[Array.getElem?_append_right (by simpa using jT)];simp only[List.length_map,oV,Array.size_map]at hj ⊢;have:=l6 _ d hj;simpa [dJ] using this
   unfold jS at h;have fX:=FN hs (argv:=(args.map a.eval)++aR) (by simp[kO]) kj h;obtain⟨ae,snap,dF,bA,fA,⟨⟨fn,hfn,mT,qg⟩,_⟩,_⟩:=h;unfold Oper.wp;have hr:(execOp a.eval o).run P γ.w=.ok (.enter g ((args.map a.eval)++aR)) γ.w:=by
    have ll : ¬ fn.name = "runtime.NumGoroutine" := by simpa using mT
    have kk:¬ fn.body=none:=by intro e;rw[e]at qg;simp at qg
    simp[execOp,dH,resolve,aV,Deferred.ofValue,invoke,callFunc,hfn,ll,kk]
   rw[hr];show Calls P g _ _ _;refine fX.mono ?_;rintro e w'⟨cv,v,σ',ay,rfl,rfl,fJ,gM,dU,hv,hK,sX⟩;refine hn _ _ _ hK ⟨by rw[put_defers];exact eI,by rw[nG];exact aH,{ ay with tmps:=(a.put o.dst cv).tmps },rfl,rfl,mW gM (by rw[fJ,ha]) oc hv,?_⟩;rw[l7];exact(hf.trans dU).put _
  ·exact h.elim
 ·exact h.elim
def ID(P:Program)(o:Oper)(d:Tmp)(want:Bool)(K:St->Prop)(σ:St):Prop :=
 ∃ b,σ.env d=.lit (.bool b)/\(b=want->D8 P o K σ)/\(b≠want->K (σ.put o.dst (.lit (.tuple #[]))))
def acf(n:Nat){id:Nat}{ops:Array Oper}(hd:dY N ops=true)(o:Oper)(ho:ops[n]?=some o)(j:Nat)(want:Bool)(d:Tmp)(hg:o.guard=some (j,want))(dR:(ops[j]?).bind (·.dst)=some d)(h:∀ K:St->Prop,(∀ s,Q .normal s->K s)->opsL P ops (ops.toList.take n) (ID P o d want (opsL P ops (ops.toList.drop (n+1)) K)) σ):W P N n0 (.region id ops false) Q σ:=by
 intro os γ0 a w hn az;refine wp_region ?_;have fR:n<ops.size:=(lT.1 ho).1;have e:bp ops.size=jN 0 (ops.toList.take n).length++(n::jN (n+1) (ops.toList.drop (n+1)).length):=by
  rw[sx,<- sy];have:=ER (s:=0) (m:=n) (n:=(ops.toList.drop (n+1)).length+1) (step:=1);simp only[gw,sA]at this;rw[show(ops.toList.take n).length=n by simp;omega,this];congr 1;simp;omega
 have bP:o∈ops.toList:=fq (by simpa using ho);rw[e];refine uu _ a w ?_;refine nC (kL hd) (K:=ID P o d want (opsL P ops (ops.toList.drop (n+1)) (Q .normal))) (λσ' a' w' hk cr=>?_) (ops.toList.take n) 0 σ a w (λk hk=>?_) (h _ (λ_ h=>h)) az
 ·show wpOps P ops _ _ a' w';rw[wpOps_cons];unfold wpOp;simp only[ho];have vv:∀ σ2 a2 w2,opsL P ops (ops.toList.drop (n+1)) (Q .normal) σ2->eH N os γ0 σ2 a2 w2->wpOps P ops (λe a w=>∃ σ,Q e σ/\eH N os γ0 σ a w) (jN (n+1) (ops.toList.drop (n+1)).length) a2 w2:=λσ2 a2 w2 bd vA=>by
   refine nC (kL hd) (K:=Q .normal) (λsT a3 w3 iW sU=>⟨sT,iW,sU⟩) (ops.toList.drop (n+1)) (n+1) σ2 a2 w2 (λk hk=>?_) bd vA;rw[kE];simp
  obtain⟨b,he,h1,h2⟩:=hk;have acg:=cr;obtain⟨eI,aH,γ,rfl,ha,hs,hf⟩:=cr;have ic:=hs.ao d;rw[he,ha]at ic;have hv:=ic.bX;have hy:yielded ops a'.tmps j=some b:=by
   unfold yielded;rw[dR];have:a'.tmps[d]?=some (.bool b):=by
    rw[dJ]at hv;cases hx:a'.tmps[d]? with
    |none=>rw[hx]at hv;simp[Go.undef]at hv
    |some y=>rw[hx]at hv;simp at hv;rw[hv]
   simp[this]
  by_cases eV:b=want
  ·have hw:Region.wanted o (yielded ops a'.tmps)=true:=by simp[Region.wanted,hg,hy,eV]
   rw[if_pos hw];left;exact ace (h1 eV) acg (kL hd o bP) vv
  ·have hw:Region.wanted o (yielded ops a'.tmps)=false:=by simp[Region.wanted,hg,hy,eV]
   rw[if_neg (by rw[hw];simp)];refine vv _ _ _ (h2 eV) ⟨by rw[put_defers];exact eI,by rw[nG];exact aH,{ γ with tmps:=(a'.put o.dst Go.undef).tmps },rfl,rfl,mW hs ha (λd h=>by rw[aH];exact kL hd o bP d h) (.lit _),?_⟩;rw[l7];exact hf.put _
 ·simp only[fE,oV]at hk;rw[Bw Bv];simp
end Go.Am
namespace Go.Am
variable {P:Program} {N n0:Nat} {σ:St} {Q:Exit->St->Prop}
def D9(P:Program)(o:Oper)(K:St->Prop)(σ:St):Prop :=
 o.guard=none /\
 match o.op with
 |.binOp .eql t x y _=>((ty P t).kind=1/\ev σ y=.lit (.slice none 0 0))/\∃ id sz off len cg rows,ev σ x=.ref id sz off len/\0<len/\σ.aa[id]?=some (.arr cg rows)/\K (σ.put o.dst (.lit (.bool false)))
 |_=>False
def ach{os:List Ob}{γ0:Cx}{o:Oper}{K:St->Prop}(h:D9 P o K σ){a:Act}{w:World}(az:eH N os γ0 σ a w)(hd:∀ d,o.dst=some d->d<N){Q:Exit->Act->World->Prop}{next:Act->World->Prop}(hn:∀ σ' a' w',K σ'->eH N os γ0 σ' a' w'->next a' w'):o.wp P a w next Q:=by
 obtain⟨eI,aH,γ,rfl,ha,hs,hf⟩:=az;have oc:∀ d,o.dst=some d->d<a.tmps.size:=λd h=>by rw[aH];exact hd d h
 obtain⟨_,h⟩:=h;split at h
 ·rename_i t x y u dH;obtain⟨⟨ht,hy⟩,id,sz,off,len,cg,rows,hx,hlen,a9,hK⟩:=h;have h1:=mV hs ha x;have h2:=mV hs ha y;rw[hx]at h1;rw[hy]at h2;have CV:=h2.bX;obtain⟨ad,n,c,jt⟩:∃ad n c,a.eval x=.slice (some ad) n c:=by
   generalize a.eval x=cv at h1;cases h1 with
   |bV _ _ h=>cases h
   |iY _ _ _ _ _ h=>rw[a9]at h;cases h
   |ref=>exact⟨_,_,_,rfl⟩
   |jU=>omega
   |kn=>omega
  have hr:(execOp a.eval o).run P γ.w=.ok (.value (.bool false)) γ.w:=by
   have:=Pv γ.w t ad n c (pw ht);simp[execOp,dH,jt,CV,eqGuard,this]
  obtain⟨n,x,w',σ',ay,hr,fR,hK,gM,dU,ox,fJ⟩:=cH (o:=o) hs ha oc (.lit (.bool false)) hK hr;unfold Oper.wp;rw[hr];have cr:eH N os γ0 σ' (a.put o.dst x) w':=⟨by rw[put_defers];exact eI,by rw[nG];exact aH,ay,ox,fJ,gM,hf.trans dU⟩;rcases fR with rfl|⟨rfl,rfl⟩
  ·exact hn _ _ _ hK cr
  ·exact hn _ _ _ hK cr
 ·exact h.elim
def aci(n:Nat){id:Nat}{ops:Array Oper}(hd:dY N ops=true)(o:Oper)(ho:ops[n]?=some o)(h:∀ K:St->Prop,(∀ s,Q .normal s->K s)->opsL P ops (ops.toList.take n) (D9 P o (opsL P ops (ops.toList.drop (n+1)) K)) σ):W P N n0 (.region id ops false) Q σ:=by
 intro os γ0 a w hn az;refine wp_region ?_;have fR:n<ops.size:=(lT.1 ho).1;have e:bp ops.size=jN 0 (ops.toList.take n).length++(n::jN (n+1) (ops.toList.drop (n+1)).length):=by
  rw[sx,<- sy];have:=ER (s:=0) (m:=n) (n:=(ops.toList.drop (n+1)).length+1) (step:=1);simp only[gw,sA]at this;rw[show(ops.toList.take n).length=n by simp;omega,this];congr 1;simp;omega
 rw[e];refine uu _ a w ?_;refine nC (kL hd) (K:=D9 P o (opsL P ops (ops.toList.drop (n+1)) (Q .normal))) (λσ' a' w' hk cr=>?_) (ops.toList.take n) 0 σ a w (λk hk=>?_) (h _ (λ_ h=>h)) az
 ·show wpOps P ops _ _ a' w';rw[wpOps_cons];unfold wpOp;simp only[ho];have hw:Region.wanted o (yielded ops a'.tmps)=true:=by simp[Region.wanted,hk.1]
  rw[if_pos hw];left;refine ach hk cr (kL hd o (fq (by simpa using ho))) (λσ2 a2 w2 bd vA=>?_);refine nC (kL hd) (K:=Q .normal) (λsT a3 w3 iW sU=>⟨sT,iW,sU⟩) (ops.toList.drop (n+1)) (n+1) σ2 a2 w2 (λk hk=>?_) bd vA;rw[kE];simp
 ·simp only[fE,oV]at hk;rw[Bw Bv];simp
end Go.Am

