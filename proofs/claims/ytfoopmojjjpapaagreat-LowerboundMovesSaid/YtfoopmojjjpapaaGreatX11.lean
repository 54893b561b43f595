import Derived.WalkKit
import Derived.ProofKit
import Derived.OpenShut
import Derived.JoinedCond
import Derived.Carry
import Derived.Test.YtfoopmojjjpapaaGreatX10
set_option linter.all false
set_option maxHeartbeats 0
set_option maxRecDepth 20000
open List renaming getElem?_map→b9,getElem?_eq_getElem→bT,mem_iff_getElem→wy,getElem?_eq_some_iff→aR,getD_eq_getElem?_getD→aB
open Nat renaming zero_le→aT,lt_or_ge→dE
open Go.ChangeShapes Go.WideShapes Go.ChangeAt Go.RowKit
namespace Go.Am
variable {P:Program} {H:Type} {enc:TypeId×Value->H}
def qY(W:World):Nat->Prop:=λb=>b<W.heap.size
structure Quiet(W W':World):Prop where
 os:W'.os=W.os
 tape:W'.tape=W.tape
 output:W'.output=W.output
 size:W.heap.size<=W'.heap.size
 block:∀ b,b<W.heap.size->W'.heap[b]?=W.heap[b]?
def Quiet.below{W W':World}(h:Quiet W W'):Below W.heap.size W W':=⟨h.os,h.tape,h.output,h.size,h.block⟩
def IG(W:World):Prop:=∀ g cs,E7.lookup g=some cs->g<W.heap.size/\∀ j x,cs[j]?=some x->W.cell? ⟨g,0+j,none⟩=some x
def IG.rel{W:World}(h:IG W){blk:fX}(g:Nat):aw [] W (qY W) blk (yZ g) (.pointer (some ⟨g,0,none⟩)):=by
 unfold yZ;cases hl:E7.lookup g with
 |none=>exact .undef _
 |some cs =>
  obtain⟨h1,h2⟩:=h g cs hl;refine .cd _ g 0 (λj=>(cs[j]?).getD Go.undef) h1 (λj x hx=>?_) (λj x hx=>?_);all_goals
   rw[b9,Option.map_eq_some_iff]at hx;obtain⟨y,hy,rfl⟩:=hx;rw[hy]
  ·exact h2 j y hy
  ·exact .lit y
def N9(hl:laidOutB P=true){W W':World}(hq:Quiet W W'){sp:Nat->Bool}:∀ {ts:List TypeId} {vs:List Value} {ds:List (DataW H)} {ps:List MemPlace},(∀ t∈ts,P.readableRec t=true/\t<P.types.size) ->
  DataW.TrodAll enc P W 0 (λ_=>true) true ts vs ds ps->(∀ p∈ps,p.block<W.heap.size)->(∀ p∈ps,sp p.block=true)->DataW.TrodAll enc P W' 0 sp true ts vs ds ps
 |[],vs,ds,ps,_,h,_,_=>by
  cases vs<;>cases ds<;>first|exact h|exact h.elim
 |t::ts,[],ds,ps,_,h,_,_=>by cases ds<;>exact h.elim
 |t::ts,v::vs,[],ps,_,h,_,_=>h.elim
 |t::ts,v::vs,d::ds,ps,ht,⟨p,q,h1,h2,e⟩,a6,E8=>by
  subst e;obtain⟨a,b⟩:=ht t Iy;exact⟨p,q,WideElems.Trod_stays hl a b h1 (λx hx=>hq.below.same (a6 x (by simp[hx]))) (λx hx=>E8 x (by simp[hx])),
   N9 hl hq (λt' jG=>ht t' (by simp[jG])) h2 (λx hx=>a6 x (by simp[hx])) (λx hx=>E8 x (by simp[hx])),rfl⟩
def Quiet.keptBut{W W':World}(h:Quiet W W')(may:MemPlace->Prop):W.keptBut W' may:=by
 refine⟨h.os,h.output,λi hi=>?_⟩;rw[h.block i hi];cases W.heap[i]? with
 |none=>rfl
 |some o=>cases o with
  |cells c t fr=>exact⟨rfl,rfl,rfl,λ_ _=>rfl⟩
  |map es clock=>exact .inr ⟨rfl,rfl⟩
  |_=>rfl
def Quiet.frozen{W W':World}(h:Quiet W W')(a:Addr)(ha:a.block<W.heap.size):W'.frozen? a=W.frozen? a:=by
 simp[World.frozen?,h.block _ ha]
def alM{f:Func}{s:ChangeSpec}{apart fresh handsOn again:Bool}{W W':World}{args:Array Value}{ds gs:List (DataW H)}{before:List MemPlace}(hl:laidOutB P=true)(hW:DataW.Whole enc P f.params.toList s.vars apart W args.toList ds gs before)(hv:s.vars=[])(e9:(f.params.toList.all λt=>P.readableRec t&&decide (t<P.types.size))=true)(hq:Quiet W W'){t:TypeId}(hr:f.resultTypes = #[t])(hb:P.underlying t=some .bool)(jH:(s.fn H (ds++gs)).results=[.lit (.bool true)])(kZ:(s.fn H (ds++gs)).args=ds)(hs3:(s.fn H (ds++gs)).vars=[]):
  s.post enc P f apart fresh handsOn again W args (.bool true) W':=by
 have a6:=hW.lt;have N':=hW;obtain⟨p,q,hA,hV,rfl,u9,bU⟩:=hW;rw[hv]at hV;obtain⟨rfl,rfl⟩:=trodVars_none hV;rw[List.append_nil]at a6 u9 bU N';have au:∀ (b:Nat) (sp:Nat->Bool) (hd:Bool),DataW.TrodAll enc P W' b sp hd f.resultTypes.toList ((Value.bool true).resultList f.resultTypes.size) [.lit (.bool true)] []:=λb sp hd=>by
  rw[hr];exact trodAll_mk1 (shut_bool hb true)
 have nv:∀ sp:Nat->Bool,(∀ x∈p,sp x.block=true)->DataW.TrodAll enc P W' 0 sp true f.params.toList args.toList ds p:=λsp E8 =>
  N9 hl hq (λt ht=>by have:=List.all_eq_true.1 e9 t ht;simpa using this) hA (λx hx=>a6 x hx) E8
 have hold:∀ x∈p,(λb=>decide (b<W.heap.size)) x.block=true:=λx hx=>by simpa using a6 x hx
 refine⟨ds,[],p,[],p,[],N',?_,?_,?_,hq.keptBut _,λ_=>⟨?_,?_⟩⟩
 ·rw[jH];exact au _ _ _
 ·rw[kZ];exact nv _ hold
 ·rw[hs3,hv];exact rfl
 ·intro j t' r hj vb;rw[hr]at hj vb
  match j,hj,vb with
  |0,hj,vb =>
   simp[Value.resultList]at hj vb;subst hj;subst vb;exact okWide_bool_mk hb true
 ·refine⟨.lit (.bool true)::ds,[],p,⟨[]++p,[],trodAll_append (nv _ (λ_ _=>rfl)) (au _ _ _),by rw[hv];exact rfl,Iy,?_,?_⟩,λx hx _=>hx⟩
  ·intro b off hp;rw[hq.frozen _ (a6 _ hp)];exact u9 b off hp
  ·exact bU
def IH{α:Type}(ea:α->List AV)(R:α->Prop){W:World}{sp:Nat->Bool}{base:Nat}{t e:TypeId}(ht:P.underlying t=some (.slice e))(sz:Nat)(hc:P.cellsOf e=sz)(aN:0<sz)(aca:∀ fuel cs x,DataW.trod enc P W base sp true fuel e cs=some x->cs.length=sz->∃ a,R a/\(ea a).length=sz/\∀ (c:Nat) y,(ea a)[c]?=some y->gx W (qY W) y (cs.getD c Go.undef)){fuel:Nat}{cs:List Value}{x:DataW H×List MemPlace}(h:DataW.trod enc P W base sp true fuel t cs=some x):
  ∃ (as:List α) (v:Value),cs=[v]/\(∀ a∈as,R a)/\as.length<=maxLen/\gx W (qY W) (.tree sz (as.map ea)) v:=by
 rcases DataW.trod_slice ht h with⟨rfl,_⟩|⟨a,len,cap,elems,rest,n,_,rfl,_,hb,jt,hm,hlen,ar,_,_⟩
 ·exact⟨[],_,rfl,Iy,aT _,.nil _ _ _⟩
 ·have key:∀ i:Fin len,∃ (a1:α) (ci:List Value),R a1/\(ea a1).length=sz/\ci.length=sz/\(∀ j,j<sz->W.cell? ((a.add (i*sz)).add j)=ci[j]?)/\∀ (c:Nat) y,(ea a1)[c]?=some y->gx W (qY W) y (ci.getD c Go.undef):=by
   intro i;have hi:=ar i i.2;rw[hc,bT (by rw[hlen];exact i.2)]at hi;cases iI:W.cells? base (a.add (↑i*sz)) sz with
   |none=>rw[iI]at hi;simp at hi
   |some ci =>
    rw[iI]at hi;obtain⟨_,bG,bc⟩:=World.cells?_some iI;obtain⟨a1,h1,h2,h3⟩:=aca n ci _ hi bG;exact⟨a1,ci,h1,h2,bG,bc,h3⟩
  by_cases h0:len=0
  ·subst h0;exact⟨[],_,rfl,Iy,aT _,.nil _ _ _⟩
  ·obtain⟨b,off,spot⟩:=a;have acb:spot=none/\b<W.heap.size:=by
    obtain⟨a1,ci,_,_,h3,h4,_⟩:=key ⟨0,Ix⟩;have:=h4 0 aN;rw[bT Ix]at this;have e:(Addr.add (Addr.add ⟨b,off,spot⟩ (0*sz)) 0)=⟨b,off,spot⟩:=by simp[Addr.add]
    rw[e]at this;refine⟨World.cell?_spot this,?_⟩;simp only[World.cell?]at this;rcases dE b W.heap.size with h|h
    ·exact h
    ·simp[Array.getElem?_eq_none h]at this
   obtain⟨rfl,II⟩:=acb
   let as:List α:=List.ofFn λi:Fin len=>(key i).choose
   have AT:as.length=len:=by simp[as]
   have E9:∀ r,(hr:r<len)->∃ ci:List Value,R (as[r]'(by rw[AT];exact hr))/\(ea (as[r]'(by rw[AT];exact hr))).length=sz/\ci.length=sz/\(∀ j,j<sz->W.cell? ⟨b,off+(r*sz+j),none⟩=ci[j]?)/\∀ (c:Nat) y,(ea (as[r]'(by rw[AT];exact hr)))[c]?=some y->gx W (qY W) y (ci.getD c Go.undef):=by
    intro r hr;have e:as[r]'(by rw[AT];exact hr)=(key ⟨r,hr⟩).choose:=by simp[as]
    obtain⟨ci,h1,h2,h3,h4,h5⟩:=(key ⟨r,hr⟩).choose_spec;refine⟨ci,by rw[e];exact h1,by rw[e];exact h2,h3,λj hj=>?_,by rw[e];exact h5⟩;have:=h4 j hj;rw[add_plain,add_plain]at this;rw[<- this];congr 2;show off+(r*sz+j)=off+r*sz+j;omega
   have vc:∀ r c y,cellAt (as.map ea) r c=some y->∃ hr:r<as.length,(ea as[r])[c]?=some y:=by
    intro r c y hy;simp only[cellAt,b9]at hy;rcases dE r as.length with hr|hr
    ·rw[bT hr]at hy;exact⟨hr,by simpa using hy⟩
    ·rw[List.getElem?_eq_none hr]at hy;simp at hy
   refine⟨as,_,rfl,?_,Ix,?_⟩
   ·intro a1 ha;obtain⟨r,hr,rfl⟩:=wy.1 ha;exact(E9 r Ix).choose_spec.1
   ·have e:(.slice (some ⟨b,off,none⟩) len cap:Value)=.slice (some ⟨b,off,none⟩) (as.map ea).length cap:=by simp[AT]
    rw[e];refine .tree sz _ b off cap (λr c=>(W.cell? ⟨b,off+(r*sz+c),none⟩).getD Go.undef) II ?_ (by simp[AT];omega) ?_ ?_
    ·intro row bN;simp only[List.mem_map]at bN;obtain⟨a1,ha,rfl⟩:=bN;obtain⟨r,hr,rfl⟩:=wy.1 ha;exact(E9 r Ix).choose_spec.2.1
    ·intro r c y hy;obtain⟨hr,hy⟩:=vc r c y hy;obtain⟨ci,h1,h2,h3,h4,h5⟩:=E9 r Ix;have iI:c<sz:=by rw[<- h2];exact(aR.1 hy).1
     rw[h4 c iI,bT Ix];rfl
    ·intro r c y hy;obtain⟨hr,hy⟩:=vc r c y hy;obtain⟨ci,h1,h2,h3,h4,h5⟩:=E9 r Ix;have iI:c<sz:=by rw[<- h2];exact(aR.1 hy).1
     rw[h4 c iI,<- aB];exact h5 c y hy
def wf_i64{n:Int}(h:(Lit.int .i64 n).wf=true): -9223372036854775808<=n/\n<=9223372036854775807:=by
 simp only[Lit.wf,Bool.and_eq_true,decide_eq_true_eq]at h;exact h
section
variable {W:World} {sp:Nat->Bool} {base:Nat} {fuel:Nat} {cs:List Value} {x:DataW H×List MemPlace}
def Oa(n:Int):Prop:=-9223372036854775808<=n/\n<=9223372036854775807
def alN{t e:TypeId}(ht:P.underlying t=some (.slice e))(he:P.underlying e=some (.int .i64))(hc:P.cellsOf e=1)(h:DataW.trod enc P W base sp true fuel t cs=some x):
  ∃ (xs:List Int) (v:Value),cs=[v]/\(∀ n∈xs,Oa n)/\xs.length<=maxLen/\gx W (qY W) (.tree 1 (ints xs)) v:=by
 refine IH (λn=>[AV.lit (.int .i64 n)]) Oa ht 1 hc NI (λfuel cs x h hl=>?_) h;obtain⟨n,rfl,_,hw⟩:=DataW.trod_int he h;refine⟨n,wf_i64 hw,rfl,λc y hy=>?_⟩
 match c,hy with
 |0,hy=>simp at hy;subst hy;exact .lit _
def acd{t e:TypeId}(ht:P.underlying t=some (.slice e))(he:P.underlying e=some .bool)(hc:P.cellsOf e=1)(h:DataW.trod enc P W base sp true fuel t cs=some x):
  ∃ (xs:List Bool) (v:Value),cs=[v]/\(∀ n∈xs,True)/\xs.length<=maxLen/\gx W (qY W) (.tree 1 (bm xs)) v:=by
 refine IH (λn=>[AV.lit (.bool n)]) (λ_=>True) ht 1 hc NI (λfuel cs x h hl=>?_) h;obtain⟨n,rfl,_⟩:=DataW.trod_bool he h;refine⟨n,trivial,rfl,λc y hy=>?_⟩
 match c,hy with
 |0,hy=>simp at hy;subst hy;exact .lit _
end
def Trod.slice{W:World}{sp:Nat->Bool}{t e:TypeId}{r:Reach}{b0:Nat}{v:Value}{d:DataW H}{ps:List MemPlace}(ht:P.underlying t=some (.slice e))(hval:Value.okWide P W r b0 t v)(h:DataW.Trod enc P W 0 sp true t v d ps):
  ∃ fuel,DataW.trod enc P W 0 sp true fuel t [v]=some (d,ps):=by
 obtain⟨a,l,c,rfl⟩:=okWide_slice ht hval;obtain⟨fuel,hf⟩:=h;exact⟨fuel,by simpa [Value.cells] using hf⟩
end Go.Am
namespace Go.Am
variable {P:Program} {H:Type} {enc:TypeId×Value->H} {W:World} {sp:Nat->Bool} {base:Nat}
def IJ(W:World)(cells:List AV)(cs:List Value):Prop:=cells.length=cs.length/\∀ (c:Nat) y,cells[c]?=some y->gx W (qY W) y (cs.getD c Go.undef)
end Go.Am
namespace Go.Am
variable {P:Program} {H:Type} {enc:TypeId×Value->H} {W:World} {sp:Nat->Bool} {base:Nat}
def ace(W:World)(v:AV)(cv:Value):Prop:=gx W (qY W) v cv\/∃ cs a7,v=.agg cs/\cv=.agg a7/\IJ W cs a7.toList
theorem alO{f:FuncId}{AU:List AV}{W:World}{args:Array Value}{r:Value}(h:Holds P f AU [] (.lit r) [])(hl:args.size=AU.length)(ht:∀ (j:Nat) v,AU[j]?=some v->ace W v (args.getD j Go.undef))(hg:IG W:=by intro _ _ h;cases h):
  Calls P f args W fun e W'=>e=.returned r/\Quiet W W':=by
 let γ:Cx:={ w:=W,tmps:=args,Z:=qY W,blk:=fun _=>none }
 have hs:bg ⟨fun k=>AU.getD k .undef,[]⟩ γ:=by
  refine⟨fun k=>?_,fun i o ho=>by simp at ho,fun i j b o c o' c' hi=>?_,fun b ⟨i,o,c,hi,_⟩=>?_,fun b hb=>hb,fun g=>hg.rel g⟩
  ·show aw [] W (qY W) _ (AU.getD k .undef) (args.getD k Go.undef);cases hk:AU[k]? with
   |none=>rw[List.getD_eq_getElem?_getD,hk];exact .undef _
   |some v =>
    rw[List.getD_eq_getElem?_getD,hk];rcases ht k v hk with h1|⟨cs,a7,rfl,h2,h3,h4⟩
    ·exact .cG _ _ h1
    ·rw[h2];refine .agg _ _ (by simpa using h3.symm) (fun j x hx=>.cG _ _ ?_);have:=h4 j x hx;simpa [Array.getD_eq_getD_getElem?,List.getD_eq_getElem?_getD] using this
  ·obtain⟨o,ho,_⟩:=hi;simp at ho
  ·obtain⟨o,ho,_⟩:=hi;simp at ho
 refine(h.2 γ hl hs).mono ?_;rintro e w'⟨cv,az,rfl,rfl,IK,iw,hf⟩;have h0:=iw.an 0;rw[IK]at h0;have e0:cv=r:=by
  have:=h0.cz;simpa using this
 subst e0;refine⟨rfl,hf.kJ,hf.tape,hf.output,hf.size,fun b hb=>hf.dV b hb (fun ⟨i,o,c,hi,_⟩=>?_)⟩;obtain⟨o,ho,_⟩:=hi;simp at ho
def IJ.cell{cells:List AV}{cs:List Value}{o n j:Nat}{v:AV}(h:IJ W cells ((cs.drop o).take n))(hv:cells[j]?=some v):gx W (qY W) v (cs.getD (o+j) Go.undef):=by
 have h2:=h.2 j v hv;have hl:j<((cs.drop o).take n).length:=by rw[<- h.1];exact(aR.1 hv).1
 have hn:j<n:=by simp at hl;omega
 rwa [aB,List.getElem?_take_of_lt hn,List.getElem?_drop,<- aB]at h2
end Go.Am

