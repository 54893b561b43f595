import Derived.WalkKit
import Derived.ProofKit
import Derived.OpenShut
import Derived.JoinedCond
import Derived.Carry
import Derived.Test.YtodilglobhifaaaGreatDoorX07
set_option linter.all false
set_option maxHeartbeats 0
set_option maxRecDepth 20000
open List renaming getElem?_map→cm,getElem?_eq_getElem→aT,mem_iff_getElem→n6,getElem?_eq_some_iff→aN,getD_eq_getElem?_getD→ax
open Nat renaming zero_le→aS,lt_or_ge→dr
open Go.ChangeShapes Go.WideShapes Go.ChangeAt Go.RowKit
namespace Go.Am
variable {P:Program} {H:Type} {enc:TypeId×Value->H}
def qF(W:World):Nat->Prop:=λb=>b<W.heap.size
structure tE(W W':World):Prop where
 os:W'.os=W.os
 tape:W'.tape=W.tape
 output:W'.output=W.output
 size:W.heap.size<=W'.heap.size
 block:∀ b,b<W.heap.size->W'.heap[b]?=W.heap[b]?
def tE.below{W W':World}(h:tE W W'):Below W.heap.size W W':=⟨h.os,h.tape,h.output,h.size,h.block⟩
def BW(W:World):Prop:=∀ g cs,zd.lookup g=some cs->g<W.heap.size/\∀ j x,cs[j]?=some x->W.cell? ⟨g,0+j,none⟩=some x
def BW.rel{W:World}(h:BW W){blk:fi}(g:Nat):au [] W (qF W) blk (sM g) (.pointer (some ⟨g,0,none⟩)):=by
 unfold sM;cases hl:zd.lookup g with
 |none=>exact .undef _
 |some cs =>
  obtain⟨h1,h2⟩:=h g cs hl;refine .bU _ g 0 (λj=>(cs[j]?).getD Go.undef) h1 (λj x hx=>?_) (λj x hx=>?_);all_goals
   rw[cm,Option.map_eq_some_iff]at hx;obtain⟨y,hy,rfl⟩:=hx;rw[hy]
  ·exact h2 j y hy
  ·exact .lit y
def SD(hl:laidOutB P=true){W W':World}(hq:tE W W'){sp:Nat->Bool}:∀ {ts:List TypeId} {vs:List Value} {ds:List (DataW H)} {ps:List MemPlace},(∀ t∈ts,P.readableRec t=true/\t<P.types.size) ->
  DataW.TrodAll enc P W 0 (λ_=>true) true ts vs ds ps->(∀ p∈ps,p.block<W.heap.size)->(∀ p∈ps,sp p.block=true)->DataW.TrodAll enc P W' 0 sp true ts vs ds ps
 |[],vs,ds,ps,_,h,_,_=>by
  cases vs<;>cases ds<;>first|exact h|exact h.elim
 |t::ts,[],ds,ps,_,h,_,_=>by cases ds<;>exact h.elim
 |t::ts,v::vs,[],ps,_,h,_,_=>h.elim
 |t::ts,v::vs,d::ds,ps,ht,⟨p,q,h1,h2,e⟩,bq,oI=>by
  subst e;obtain⟨a,b⟩:=ht t Jy;exact⟨p,q,WideElems.Trod_stays hl a b h1 (λx hx=>hq.below.same (bq x (by simp[hx]))) (λx hx=>oI x (by simp[hx])),
   SD hl hq (λt' fJ=>ht t' (by simp[fJ])) h2 (λx hx=>bq x (by simp[hx])) (λx hx=>oI x (by simp[hx])),rfl⟩
def tE.keptBut{W W':World}(h:tE W W')(may:MemPlace->Prop):W.keptBut W' may:=by
 refine⟨h.os,h.output,λi hi=>?_⟩;rw[h.block i hi];cases W.heap[i]? with
 |none=>rfl
 |some o=>cases o with
  |cells c t fr=>exact⟨rfl,rfl,rfl,λ_ _=>rfl⟩
  |map es clock=>exact .inr ⟨rfl,rfl⟩
  |_=>rfl
def tE.frozen{W W':World}(h:tE W W')(a:Addr)(ha:a.block<W.heap.size):W'.frozen? a=W.frozen? a:=by
 simp[World.frozen?,h.block _ ha]
def aeH{f:Func}{s:ChangeSpec}{apart fresh handsOn again:Bool}{W W':World}{args:Array Value}{ds gs:List (DataW H)}{before:List MemPlace}(hl:laidOutB P=true)(hW:DataW.Whole enc P f.params.toList s.vars apart W args.toList ds gs before)(hv:s.vars=[])(lI:(f.params.toList.all λt=>P.readableRec t&&decide (t<P.types.size))=true)(hq:tE W W'){t:TypeId}(hr:f.resultTypes = #[t])(hb:P.underlying t=some .bool)(lB:(s.fn H (ds++gs)).results=[.lit (.bool true)])(oy:(s.fn H (ds++gs)).args=ds)(hs3:(s.fn H (ds++gs)).vars=[]):
  s.post enc P f apart fresh handsOn again W args (.bool true) W':=by
 have bq:=hW.lt;have SE:=hW;obtain⟨p,q,hA,hV,rfl,ux,cp⟩:=hW;rw[hv]at hV;obtain⟨rfl,rfl⟩:=trodVars_none hV;rw[List.append_nil]at bq ux cp SE;have aq:∀ (b:Nat) (sp:Nat->Bool) (hd:Bool),DataW.TrodAll enc P W' b sp hd f.resultTypes.toList ((Value.bool true).resultList f.resultTypes.size) [.lit (.bool true)] []:=λb sp hd=>by
  rw[hr];exact trodAll_mk1 (shut_bool hb true)
 have kj:∀ sp:Nat->Bool,(∀ x∈p,sp x.block=true)->DataW.TrodAll enc P W' 0 sp true f.params.toList args.toList ds p:=λsp oI =>
  SD hl hq (λt ht=>by have:=List.all_eq_true.1 lI t ht;simpa using this) hA (λx hx=>bq x hx) oI
 have hold:∀ x∈p,(λb=>decide (b<W.heap.size)) x.block=true:=λx hx=>by simpa using bq x hx
 refine⟨ds,[],p,[],p,[],SE,?_,?_,?_,hq.keptBut _,λ_=>⟨?_,?_⟩⟩
 ·rw[lB];exact aq _ _ _
 ·rw[oy];exact kj _ hold
 ·rw[hs3,hv];exact rfl
 ·intro j t' r hj nJ;rw[hr]at hj nJ
  match j,hj,nJ with
  |0,hj,nJ =>
   simp[Value.resultList]at hj nJ;subst hj;subst nJ;exact okWide_bool_mk hb true
 ·refine⟨.lit (.bool true)::ds,[],p,⟨[]++p,[],trodAll_append (kj _ (λ_ _=>rfl)) (aq _ _ _),by rw[hv];exact rfl,Jy,?_,?_⟩,λx hx _=>hx⟩
  ·intro b off hp;rw[hq.frozen _ (bq _ hp)];exact ux b off hp
  ·exact cp
def aae{α:Type}(ea:α->List AV)(R:α->Prop){W:World}{sp:Nat->Bool}{base:Nat}{t e:TypeId}(ht:P.underlying t=some (.slice e))(sz:Nat)(hc:P.cellsOf e=sz)(aH:0<sz)(aaf:∀ fuel cs x,DataW.trod enc P W base sp true fuel e cs=some x->cs.length=sz->∃ a,R a/\(ea a).length=sz/\∀ (c:Nat) y,(ea a)[c]?=some y->fK W (qF W) y (cs.getD c Go.undef)){fuel:Nat}{cs:List Value}{x:DataW H×List MemPlace}(h:DataW.trod enc P W base sp true fuel t cs=some x):
  ∃ (as:List α) (v:Value),cs=[v]/\(∀ a∈as,R a)/\as.length<=maxLen/\fK W (qF W) (.tree sz (as.map ea)) v:=by
 rcases DataW.trod_slice ht h with⟨rfl,_⟩|⟨a,len,cap,elems,rest,n,_,rfl,_,hb,eK,hm,hlen,aw,_,_⟩
 ·exact⟨[],_,rfl,Jy,aS _,.nil _ _ _⟩
 ·have key:∀ i:Fin len,∃ (a1:α) (ci:List Value),R a1/\(ea a1).length=sz/\ci.length=sz/\(∀ j,j<sz->W.cell? ((a.add (i*sz)).add j)=ci[j]?)/\∀ (c:Nat) y,(ea a1)[c]?=some y->fK W (qF W) y (ci.getD c Go.undef):=by
   intro i;have hi:=aw i i.2;rw[hc,aT (by rw[hlen];exact i.2)]at hi;cases kO:W.cells? base (a.add (↑i*sz)) sz with
   |none=>rw[kO]at hi;simp at hi
   |some ci =>
    rw[kO]at hi;obtain⟨_,cz,bC⟩:=World.cells?_some kO;obtain⟨a1,h1,h2,h3⟩:=aaf n ci _ hi cz;exact⟨a1,ci,h1,h2,cz,bC,h3⟩
  by_cases h0:len=0
  ·subst h0;exact⟨[],_,rfl,Jy,aS _,.nil _ _ _⟩
  ·obtain⟨b,off,spot⟩:=a;have aag:spot=none/\b<W.heap.size:=by
    obtain⟨a1,ci,_,_,h3,h4,_⟩:=key ⟨0,Bv⟩;have:=h4 0 aH;rw[aT Bv]at this;have e:(Addr.add (Addr.add ⟨b,off,spot⟩ (0*sz)) 0)=⟨b,off,spot⟩:=by simp[Addr.add]
    rw[e]at this;refine⟨World.cell?_spot this,?_⟩;simp only[World.cell?]at this;rcases dr b W.heap.size with h|h
    ·exact h
    ·simp[Array.getElem?_eq_none h]at this
   obtain⟨rfl,Ga⟩:=aag
   let as:List α:=List.ofFn λi:Fin len=>(key i).choose
   have yf:as.length=len:=by simp[as]
   have DI:∀ r,(hr:r<len)->∃ ci:List Value,R (as[r]'(by rw[yf];exact hr))/\(ea (as[r]'(by rw[yf];exact hr))).length=sz/\ci.length=sz/\(∀ j,j<sz->W.cell? ⟨b,off+(r*sz+j),none⟩=ci[j]?)/\∀ (c:Nat) y,(ea (as[r]'(by rw[yf];exact hr)))[c]?=some y->fK W (qF W) y (ci.getD c Go.undef):=by
    intro r hr;have e:as[r]'(by rw[yf];exact hr)=(key ⟨r,hr⟩).choose:=by simp[as]
    obtain⟨ci,h1,h2,h3,h4,h5⟩:=(key ⟨r,hr⟩).choose_spec;refine⟨ci,by rw[e];exact h1,by rw[e];exact h2,h3,λj hj=>?_,by rw[e];exact h5⟩;have:=h4 j hj;rw[add_plain,add_plain]at this;rw[<- this];congr 2;show off+(r*sz+j)=off+r*sz+j;omega
   have rG:∀ r c y,cellAt (as.map ea) r c=some y->∃ hr:r<as.length,(ea as[r])[c]?=some y:=by
    intro r c y hy;simp only[cellAt,cm]at hy;rcases dr r as.length with hr|hr
    ·rw[aT hr]at hy;exact⟨hr,by simpa using hy⟩
    ·rw[List.getElem?_eq_none hr]at hy;simp at hy
   refine⟨as,_,rfl,?_,Bv,?_⟩
   ·intro a1 ha;obtain⟨r,hr,rfl⟩:=n6.1 ha;exact(DI r Bv).choose_spec.1
   ·have e:(.slice (some ⟨b,off,none⟩) len cap:Value)=.slice (some ⟨b,off,none⟩) (as.map ea).length cap:=by simp[yf]
    rw[e];refine .tree sz _ b off cap (λr c=>(W.cell? ⟨b,off+(r*sz+c),none⟩).getD Go.undef) Ga ?_ (by simp[yf];omega) ?_ ?_
    ·intro row bf;simp only[List.mem_map]at bf;obtain⟨a1,ha,rfl⟩:=bf;obtain⟨r,hr,rfl⟩:=n6.1 ha;exact(DI r Bv).choose_spec.2.1
    ·intro r c y hy;obtain⟨hr,hy⟩:=rG r c y hy;obtain⟨ci,h1,h2,h3,h4,h5⟩:=DI r Bv;have kO:c<sz:=by rw[<- h2];exact(aN.1 hy).1
     rw[h4 c kO,aT Bv];rfl
    ·intro r c y hy;obtain⟨hr,hy⟩:=rG r c y hy;obtain⟨ci,h1,h2,h3,h4,h5⟩:=DI r Bv;have kO:c<sz:=by rw[<- h2];exact(aN.1 hy).1
     rw[h4 c kO,<- ax];exact h5 c y hy
def wf_i64{n:Int}(h:(Lit.int .i64 n).wf=true): -9223372036854775808<=n/\n<=9223372036854775807:=by
 simp only[Lit.wf,Bool.and_eq_true,decide_eq_true_eq]at h;exact h
section
variable {W:World} {sp:Nat->Bool} {base:Nat} {fuel:Nat} {cs:List Value} {x:DataW H×List MemPlace}
def SF(n:Int):Prop:=-9223372036854775808<=n/\n<=9223372036854775807
def aeI{t e:TypeId}(ht:P.underlying t=some (.slice e))(he:P.underlying e=some (.int .i64))(hc:P.cellsOf e=1)(h:DataW.trod enc P W base sp true fuel t cs=some x):
  ∃ (xs:List Int) (v:Value),cs=[v]/\(∀ n∈xs,SF n)/\xs.length<=maxLen/\fK W (qF W) (.tree 1 (ints xs)) v:=by
 refine aae (λn=>[AV.lit (.int .i64 n)]) SF ht 1 hc aac (λfuel cs x h hl=>?_) h;obtain⟨n,rfl,_,hw⟩:=DataW.trod_int he h;refine⟨n,wf_i64 hw,rfl,λc y hy=>?_⟩
 match c,hy with
 |0,hy=>simp at hy;subst hy;exact .lit _
end
def Trod.slice{W:World}{sp:Nat->Bool}{t e:TypeId}{r:Reach}{b0:Nat}{v:Value}{d:DataW H}{ps:List MemPlace}(ht:P.underlying t=some (.slice e))(hval:Value.okWide P W r b0 t v)(h:DataW.Trod enc P W 0 sp true t v d ps):
  ∃ fuel,DataW.trod enc P W 0 sp true fuel t [v]=some (d,ps):=by
 obtain⟨a,l,c,rfl⟩:=okWide_slice ht hval;obtain⟨fuel,hf⟩:=h;exact⟨fuel,by simpa [Value.cells] using hf⟩
end Go.Am
namespace Go.Am
variable {P:Program} {H:Type} {enc:TypeId×Value->H} {W:World} {sp:Nat->Bool} {base:Nat}
def HQ(W:World)(cells:List AV)(cs:List Value):Prop:=cells.length=cs.length/\∀ (c:Nat) y,cells[c]?=some y->fK W (qF W) y (cs.getD c Go.undef)
end Go.Am
namespace Go.Am
variable {P:Program} {H:Type} {enc:TypeId×Value->H} {W:World} {sp:Nat->Bool} {base:Nat}
def aah(W:World)(v:AV)(cv:Value):Prop:=fK W (qF W) v cv\/∃ cs aR,v=.agg cs/\cv=.agg aR/\HQ W cs aR.toList
theorem aeJ{f:FuncId}{yg:List AV}{W:World}{args:Array Value}{r:Value}(h:ak P f yg [] (.lit r) [])(hl:args.size=yg.length)(ht:∀ (j:Nat) v,yg[j]?=some v->aah W v (args.getD j Go.undef))(hg:BW W:=by intro _ _ h;cases h):
  Calls P f args W fun e W'=>e=.returned r/\tE W W':=by
 let γ:Cx:={ w:=W,tmps:=args,Z:=qF W,blk:=fun _=>none }
 have hs:ba ⟨fun k=>yg.getD k .undef,[]⟩ γ:=by
  refine⟨fun k=>?_,fun i o ho=>by simp at ho,fun i j b o c o' c' hi=>?_,fun b ⟨i,o,c,hi,_⟩=>?_,fun b hb=>hb,fun g=>hg.rel g⟩
  ·show au [] W (qF W) _ (yg.getD k .undef) (args.getD k Go.undef);cases hk:yg[k]? with
   |none=>rw[List.getD_eq_getElem?_getD,hk];exact .undef _
   |some v =>
    rw[List.getD_eq_getElem?_getD,hk];rcases ht k v hk with h1|⟨cs,aR,rfl,h2,h3,h4⟩
    ·exact .bV _ _ h1
    ·rw[h2];refine .agg _ _ (by simpa using h3.symm) (fun j x hx=>.bV _ _ ?_);have:=h4 j x hx;simpa [Array.getD_eq_getD_getElem?,List.getD_eq_getElem?_getD] using this
  ·obtain⟨o,ho,_⟩:=hi;simp at ho
  ·obtain⟨o,ho,_⟩:=hi;simp at ho
 refine(h.2 γ hl hs).mono ?_;rintro e w'⟨cv,ay,rfl,rfl,Ge,gM,hf⟩;have h0:=gM.ao 0;rw[Ge]at h0;have e0:cv=r:=by
  have:=h0.bX;simpa using this
 subst e0;refine⟨rfl,hf.kl,hf.tape,hf.output,hf.size,fun b hb=>hf.cW b hb (fun ⟨i,o,c,hi,_⟩=>?_)⟩;obtain⟨o,ho,_⟩:=hi;simp at ho
def HQ.cell{cells:List AV}{cs:List Value}{o n j:Nat}{v:AV}(h:HQ W cells ((cs.drop o).take n))(hv:cells[j]?=some v):fK W (qF W) v (cs.getD (o+j) Go.undef):=by
 have h2:=h.2 j v hv;have hl:j<((cs.drop o).take n).length:=by rw[<- h.1];exact(aN.1 hv).1
 have hn:j<n:=by simp at hl;omega
 rwa [ax,List.getElem?_take_of_lt hn,List.getElem?_drop,<- ax]at h2
end Go.Am

