import Derived.WalkKit
import Derived.ProofKit
import Derived.OpenShut
import Derived.JoinedCond
import Derived.Carry
import Derived.Test.YtfoopmojjjpapaaGreatX08
set_option linter.all false
set_option maxHeartbeats 0
set_option maxRecDepth 20000
open List renaming getElem?_map→bY,getElem?_eq_getElem→bS,mem_iff_getElem→wD,getElem?_eq_some_iff→aT,getD_eq_getElem?_getD→az
open Nat renaming zero_le→aS,lt_or_ge→dw
open Go.ChangeShapes Go.WideShapes Go.ChangeAt Go.RowKit
namespace Go.Am
variable {P:Program} {H:Type} {enc:TypeId×Value->H}
def tR(W:World):Nat->Prop:=λb=>b<W.heap.size
structure Quiet(W W':World):Prop where
 os:W'.os=W.os
 tape:W'.tape=W.tape
 output:W'.output=W.output
 size:W.heap.size<=W'.heap.size
 block:∀ b,b<W.heap.size->W'.heap[b]?=W.heap[b]?
def Quiet.below{W W':World}(h:Quiet W W'):Below W.heap.size W W':=⟨h.os,h.tape,h.output,h.size,h.block⟩
def Js(W:World):Prop:=∀ g cs,Fz.lookup g=some cs->g<W.heap.size/\∀ j x,cs[j]?=some x->W.cell? ⟨g,0+j,none⟩=some x
def Js.rel{W:World}(h:Js W){blk:gd}(g:Nat):aw [] W (tR W) blk (y9 g) (.pointer (some ⟨g,0,none⟩)):=by
 unfold y9;cases hl:Fz.lookup g with
 |none=>exact .undef _
 |some cs =>
  obtain⟨h1,h2⟩:=h g cs hl;refine .cj _ g 0 (λj=>(cs[j]?).getD Go.undef) h1 (λj x hx=>?_) (λj x hx=>?_);all_goals
   rw[bY,Option.map_eq_some_iff]at hx;obtain⟨y,hy,rfl⟩:=hx;rw[hy]
  ·exact h2 j y hy
  ·exact .lit y
def O'(hl:laidOutB P=true){W W':World}(hq:Quiet W W'){sp:Nat->Bool}:∀ {ts:List TypeId} {vs:List Value} {ds:List (DataW H)} {ps:List MemPlace},(∀ t∈ts,P.readableRec t=true/\t<P.types.size) ->
  DataW.TrodAll enc P W 0 (λ_=>true) true ts vs ds ps->(∀ p∈ps,p.block<W.heap.size)->(∀ p∈ps,sp p.block=true)->DataW.TrodAll enc P W' 0 sp true ts vs ds ps
 |[],vs,ds,ps,_,h,_,_=>by
  cases vs<;>cases ds<;>first|exact h|exact h.elim
 |t::ts,[],ds,ps,_,h,_,_=>by cases ds<;>exact h.elim
 |t::ts,v::vs,[],ps,_,h,_,_=>h.elim
 |t::ts,v::vs,d::ds,ps,ht,⟨p,q,h1,h2,e⟩,ba,FA=>by
  subst e;obtain⟨a,b⟩:=ht t Fl;exact⟨p,q,WideElems.Trod_stays hl a b h1 (λx hx=>hq.below.same (ba x (by simp[hx]))) (λx hx=>FA x (by simp[hx])),
   O' hl hq (λt' jP=>ht t' (by simp[jP])) h2 (λx hx=>ba x (by simp[hx])) (λx hx=>FA x (by simp[hx])),rfl⟩
def Quiet.keptBut{W W':World}(h:Quiet W W')(may:MemPlace->Prop):W.keptBut W' may:=by
 refine⟨h.os,h.output,λi hi=>?_⟩;rw[h.block i hi];cases W.heap[i]? with
 |none=>rfl
 |some o=>cases o with
  |cells c t fr=>exact⟨rfl,rfl,rfl,λ_ _=>rfl⟩
  |map es clock=>exact .inr ⟨rfl,rfl⟩
  |_=>rfl
def Quiet.frozen{W W':World}(h:Quiet W W')(a:Addr)(ha:a.block<W.heap.size):W'.frozen? a=W.frozen? a:=by
 simp[World.frozen?,h.block _ ha]
def ani{f:Func}{s:ChangeSpec}{apart fresh handsOn again:Bool}{W W':World}{args:Array Value}{ds gs:List (DataW H)}{before:List MemPlace}(hl:laidOutB P=true)(hW:DataW.Whole enc P f.params.toList s.vars apart W args.toList ds gs before)(hv:s.vars=[])(fP:(f.params.toList.all λt=>P.readableRec t&&decide (t<P.types.size))=true)(hq:Quiet W W'){t:TypeId}(hr:f.resultTypes = #[t])(hb:P.underlying t=some .bool)(ka:(s.fn H (ds++gs)).results=[.lit (.bool true)])(mg:(s.fn H (ds++gs)).args=ds)(hs3:(s.fn H (ds++gs)).vars=[]):
  s.post enc P f apart fresh handsOn again W args (.bool true) W':=by
 have ba:=hW.lt;have Pa:=hW;obtain⟨p,q,hA,hV,rfl,u9,bT⟩:=hW;rw[hv]at hV;obtain⟨rfl,rfl⟩:=trodVars_none hV;rw[List.append_nil]at ba u9 bT Pa;have au:∀ (b:Nat) (sp:Nat->Bool) (hd:Bool),DataW.TrodAll enc P W' b sp hd f.resultTypes.toList ((Value.bool true).resultList f.resultTypes.size) [.lit (.bool true)] []:=λb sp hd=>by
  rw[hr];exact trodAll_mk1 (shut_bool hb true)
 have nt:∀ sp:Nat->Bool,(∀ x∈p,sp x.block=true)->DataW.TrodAll enc P W' 0 sp true f.params.toList args.toList ds p:=λsp FA =>
  O' hl hq (λt ht=>by have:=List.all_eq_true.1 fP t ht;simpa using this) hA (λx hx=>ba x hx) FA
 have hold:∀ x∈p,(λb=>decide (b<W.heap.size)) x.block=true:=λx hx=>by simpa using ba x hx
 refine⟨ds,[],p,[],p,[],Pa,?_,?_,?_,hq.keptBut _,λ_=>⟨?_,?_⟩⟩
 ·rw[ka];exact au _ _ _
 ·rw[mg];exact nt _ hold
 ·rw[hs3,hv];exact rfl
 ·intro j t' r hj vb;rw[hr]at hj vb
  match j,hj,vb with
  |0,hj,vb =>
   simp[Value.resultList]at hj vb;subst hj;subst vb;exact okWide_bool_mk hb true
 ·refine⟨.lit (.bool true)::ds,[],p,⟨[]++p,[],trodAll_append (nt _ (λ_ _=>rfl)) (au _ _ _),by rw[hv];exact rfl,Fl,?_,?_⟩,λx hx _=>hx⟩
  ·intro b off hp;rw[hq.frozen _ (ba _ hp)];exact u9 b off hp
  ·exact bT
def adD{α:Type}(ea:α->List AV)(R:α->Prop){W:World}{sp:Nat->Bool}{base:Nat}{t e:TypeId}(ht:P.underlying t=some (.slice e))(sz:Nat)(hc:P.cellsOf e=sz)(aO:0<sz)(adE:∀ fuel cs x,DataW.trod enc P W base sp true fuel e cs=some x->cs.length=sz->∃ a,R a/\(ea a).length=sz/\∀ (c:Nat) y,(ea a)[c]?=some y->iu W (tR W) y (cs.getD c Go.undef)){fuel:Nat}{cs:List Value}{x:DataW H×List MemPlace}(h:DataW.trod enc P W base sp true fuel t cs=some x):
  ∃ (as:List α) (v:Value),cs=[v]/\(∀ a∈as,R a)/\as.length<=maxLen/\iu W (tR W) (.tree sz (as.map ea)) v:=by
 rcases DataW.trod_slice ht h with⟨rfl,_⟩|⟨a,len,cap,elems,rest,n,_,rfl,_,hb,jC,hm,hlen,ax,_,_⟩
 ·exact⟨[],_,rfl,Fl,aS _,.nil _ _ _⟩
 ·have key:∀ i:Fin len,∃ (a1:α) (ci:List Value),R a1/\(ea a1).length=sz/\ci.length=sz/\(∀ j,j<sz->W.cell? ((a.add (i*sz)).add j)=ci[j]?)/\∀ (c:Nat) y,(ea a1)[c]?=some y->iu W (tR W) y (ci.getD c Go.undef):=by
   intro i;have hi:=ax i i.2;rw[hc,bS (by rw[hlen];exact i.2)]at hi;cases jD:W.cells? base (a.add (↑i*sz)) sz with
   |none=>rw[jD]at hi;simp at hi
   |some ci =>
    rw[jD]at hi;obtain⟨_,bz,bf⟩:=World.cells?_some jD;obtain⟨a1,h1,h2,h3⟩:=adE n ci _ hi bz;exact⟨a1,ci,h1,h2,bz,bf,h3⟩
  by_cases h0:len=0
  ·subst h0;exact⟨[],_,rfl,Fl,aS _,.nil _ _ _⟩
  ·obtain⟨b,off,spot⟩:=a;have adF:spot=none/\b<W.heap.size:=by
    obtain⟨a1,ci,_,_,h3,h4,_⟩:=key ⟨0,CZ⟩;have:=h4 0 aO;rw[bS CZ]at this;have e:(Addr.add (Addr.add ⟨b,off,spot⟩ (0*sz)) 0)=⟨b,off,spot⟩:=by simp[Addr.add]
    rw[e]at this;refine⟨World.cell?_spot this,?_⟩;simp only[World.cell?]at this;rcases dw b W.heap.size with h|h
    ·exact h
    ·simp[Array.getElem?_eq_none h]at this
   obtain⟨rfl,Jt⟩:=adF
   let as:List α:=List.ofFn λi:Fin len=>(key i).choose
   have AZ:as.length=len:=by simp[as]
   have FB:∀ r,(hr:r<len)->∃ ci:List Value,R (as[r]'(by rw[AZ];exact hr))/\(ea (as[r]'(by rw[AZ];exact hr))).length=sz/\ci.length=sz/\(∀ j,j<sz->W.cell? ⟨b,off+(r*sz+j),none⟩=ci[j]?)/\∀ (c:Nat) y,(ea (as[r]'(by rw[AZ];exact hr)))[c]?=some y->iu W (tR W) y (ci.getD c Go.undef):=by
    intro r hr;have e:as[r]'(by rw[AZ];exact hr)=(key ⟨r,hr⟩).choose:=by simp[as]
    obtain⟨ci,h1,h2,h3,h4,h5⟩:=(key ⟨r,hr⟩).choose_spec;refine⟨ci,by rw[e];exact h1,by rw[e];exact h2,h3,λj hj=>?_,by rw[e];exact h5⟩;have:=h4 j hj;rw[add_plain,add_plain]at this;rw[<- this];congr 2;show off+(r*sz+j)=off+r*sz+j;omega
   have vc:∀ r c y,cellAt (as.map ea) r c=some y->∃ hr:r<as.length,(ea as[r])[c]?=some y:=by
    intro r c y hy;simp only[cellAt,bY]at hy;rcases dw r as.length with hr|hr
    ·rw[bS hr]at hy;exact⟨hr,by simpa using hy⟩
    ·rw[List.getElem?_eq_none hr]at hy;simp at hy
   refine⟨as,_,rfl,?_,CZ,?_⟩
   ·intro a1 ha;obtain⟨r,hr,rfl⟩:=wD.1 ha;exact(FB r CZ).choose_spec.1
   ·have e:(.slice (some ⟨b,off,none⟩) len cap:Value)=.slice (some ⟨b,off,none⟩) (as.map ea).length cap:=by simp[AZ]
    rw[e];refine .tree sz _ b off cap (λr c=>(W.cell? ⟨b,off+(r*sz+c),none⟩).getD Go.undef) Jt ?_ (by simp[AZ];omega) ?_ ?_
    ·intro row bR;simp only[List.mem_map]at bR;obtain⟨a1,ha,rfl⟩:=bR;obtain⟨r,hr,rfl⟩:=wD.1 ha;exact(FB r CZ).choose_spec.2.1
    ·intro r c y hy;obtain⟨hr,hy⟩:=vc r c y hy;obtain⟨ci,h1,h2,h3,h4,h5⟩:=FB r CZ;have jD:c<sz:=by rw[<- h2];exact(aT.1 hy).1
     rw[h4 c jD,bS CZ];rfl
    ·intro r c y hy;obtain⟨hr,hy⟩:=vc r c y hy;obtain⟨ci,h1,h2,h3,h4,h5⟩:=FB r CZ;have jD:c<sz:=by rw[<- h2];exact(aT.1 hy).1
     rw[h4 c jD,<- az];exact h5 c y hy
def wf_i64{n:Int}(h:(Lit.int .i64 n).wf=true): -9223372036854775808<=n/\n<=9223372036854775807:=by
 simp only[Lit.wf,Bool.and_eq_true,decide_eq_true_eq]at h;exact h
section
variable {W:World} {sp:Nat->Bool} {base:Nat} {fuel:Nat} {cs:List Value} {x:DataW H×List MemPlace}
def Pb(n:Int):Prop:=-9223372036854775808<=n/\n<=9223372036854775807
def anj{t e:TypeId}(ht:P.underlying t=some (.slice e))(he:P.underlying e=some (.int .i64))(hc:P.cellsOf e=1)(h:DataW.trod enc P W base sp true fuel t cs=some x):
  ∃ (xs:List Int) (v:Value),cs=[v]/\(∀ n∈xs,Pb n)/\xs.length<=maxLen/\iu W (tR W) (.tree 1 (ints xs)) v:=by
 refine adD (λn=>[AV.lit (.int .i64 n)]) Pb ht 1 hc Fs (λfuel cs x h hl=>?_) h;obtain⟨n,rfl,_,hw⟩:=DataW.trod_int he h;refine⟨n,wf_i64 hw,rfl,λc y hy=>?_⟩
 match c,hy with
 |0,hy=>simp at hy;subst hy;exact .lit _
end
def Trod.slice{W:World}{sp:Nat->Bool}{t e:TypeId}{r:Reach}{b0:Nat}{v:Value}{d:DataW H}{ps:List MemPlace}(ht:P.underlying t=some (.slice e))(hval:Value.okWide P W r b0 t v)(h:DataW.Trod enc P W 0 sp true t v d ps):
  ∃ fuel,DataW.trod enc P W 0 sp true fuel t [v]=some (d,ps):=by
 obtain⟨a,l,c,rfl⟩:=okWide_slice ht hval;obtain⟨fuel,hf⟩:=h;exact⟨fuel,by simpa [Value.cells] using hf⟩
end Go.Am
namespace Go.Am
variable {P:Program} {H:Type} {enc:TypeId×Value->H} {W:World} {sp:Nat->Bool} {base:Nat}
def Ju(W:World)(cells:List AV)(cs:List Value):Prop:=cells.length=cs.length/\∀ (c:Nat) y,cells[c]?=some y->iu W (tR W) y (cs.getD c Go.undef)
end Go.Am
namespace Go.Am
variable {P:Program} {H:Type} {enc:TypeId×Value->H} {W:World} {sp:Nat->Bool} {base:Nat}
def adG(W:World)(v:AV)(cv:Value):Prop:=iu W (tR W) v cv\/∃ cs bg,v=.agg cs/\cv=.agg bg/\Ju W cs bg.toList
theorem ank{f:FuncId}{A2:List AV}{W:World}{args:Array Value}{r:Value}(h:Holds P f A2 [] (.lit r) [])(hl:args.size=A2.length)(ht:∀ (j:Nat) v,A2[j]?=some v->adG W v (args.getD j Go.undef))(hg:Js W:=by intro _ _ h;cases h):
  Calls P f args W fun e W'=>e=.returned r/\Quiet W W':=by
 let γ:Cx:={ w:=W,tmps:=args,Z:=tR W,blk:=fun _=>none }
 have hs:bk ⟨fun k=>A2.getD k .undef,[]⟩ γ:=by
  refine⟨fun k=>?_,fun i o ho=>by simp at ho,fun i j b o c o' c' hi=>?_,fun b ⟨i,o,c,hi,_⟩=>?_,fun b hb=>hb,fun g=>hg.rel g⟩
  ·show aw [] W (tR W) _ (A2.getD k .undef) (args.getD k Go.undef);cases hk:A2[k]? with
   |none=>rw[List.getD_eq_getElem?_getD,hk];exact .undef _
   |some v =>
    rw[List.getD_eq_getElem?_getD,hk];rcases ht k v hk with h1|⟨cs,bg,rfl,h2,h3,h4⟩
    ·exact .cJ _ _ h1
    ·rw[h2];refine .agg _ _ (by simpa using h3.symm) (fun j x hx=>.cJ _ _ ?_);have:=h4 j x hx;simpa [Array.getD_eq_getD_getElem?,List.getD_eq_getElem?_getD] using this
  ·obtain⟨o,ho,_⟩:=hi;simp at ho
  ·obtain⟨o,ho,_⟩:=hi;simp at ho
 refine(h.2 γ hl hs).mono ?_;rintro e w'⟨cv,aB,rfl,rfl,Jv,iK,hf⟩;have h0:=iK.ar 0;rw[Jv]at h0;have e0:cv=r:=by
  have:=h0.cz;simpa using this
 subst e0;refine⟨rfl,hf.kM,hf.tape,hf.output,hf.size,fun b hb=>hf.dS b hb (fun ⟨i,o,c,hi,_⟩=>?_)⟩;obtain⟨o,ho,_⟩:=hi;simp at ho
def Ju.cell{cells:List AV}{cs:List Value}{o n j:Nat}{v:AV}(h:Ju W cells ((cs.drop o).take n))(hv:cells[j]?=some v):iu W (tR W) v (cs.getD (o+j) Go.undef):=by
 have h2:=h.2 j v hv;have hl:j<((cs.drop o).take n).length:=by rw[<- h.1];exact(aT.1 hv).1
 have hn:j<n:=by simp at hl;omega
 rwa [az,List.getElem?_take_of_lt hn,List.getElem?_drop,<- az]at h2
end Go.Am

