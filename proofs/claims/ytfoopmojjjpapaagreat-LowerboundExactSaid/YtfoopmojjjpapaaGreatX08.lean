import Derived.WalkKit
import Derived.ProofKit
import Derived.OpenShut
import Derived.JoinedCond
import Derived.Carry
import Derived.Test.YtfoopmojjjpapaaGreatX07
set_option linter.all false
set_option maxHeartbeats 0
set_option maxRecDepth 20000
open List renaming getElem?_map→bV,getElem?_eq_getElem→bq,mem_iff_getElem→wg,getElem?_eq_some_iff→aR,getD_eq_getElem?_getD→ax
open Nat renaming zero_le→aW,lt_or_ge→du
open Go.ChangeShapes Go.WideShapes Go.ChangeAt Go.RowKit
namespace Go.Am
variable {P:Program} {H:Type} {enc:TypeId×Value->H}
def tW(W:World):Nat->Prop:=λb=>b<W.heap.size
structure Quiet(W W':World):Prop where
 os:W'.os=W.os
 tape:W'.tape=W.tape
 output:W'.output=W.output
 size:W.heap.size<=W'.heap.size
 block:∀ b,b<W.heap.size->W'.heap[b]?=W.heap[b]?
def Quiet.below{W W':World}(h:Quiet W W'):Below W.heap.size W W':=⟨h.os,h.tape,h.output,h.size,h.block⟩
def I0(W:World):Prop:=∀ g cs,E5.lookup g=some cs->g<W.heap.size/\∀ j x,cs[j]?=some x->W.cell? ⟨g,0+j,none⟩=some x
def I0.rel{W:World}(h:I0 W){blk:fR}(g:Nat):aw [] W (tW W) blk (zf g) (.pointer (some ⟨g,0,none⟩)):=by
 unfold zf;cases hl:E5.lookup g with
 |none=>exact .undef _
 |some cs =>
  obtain⟨h1,h2⟩:=h g cs hl;refine .bY _ g 0 (λj=>(cs[j]?).getD Go.undef) h1 (λj x hx=>?_) (λj x hx=>?_);all_goals
   rw[bV,Option.map_eq_some_iff]at hx;obtain⟨y,hy,rfl⟩:=hx;rw[hy]
  ·exact h2 j y hy
  ·exact .lit y
def Oz(hl:laidOutB P=true){W W':World}(hq:Quiet W W'){sp:Nat->Bool}:∀ {ts:List TypeId} {vs:List Value} {ds:List (DataW H)} {ps:List MemPlace},(∀ t∈ts,P.readableRec t=true/\t<P.types.size) ->
  DataW.TrodAll enc P W 0 (λ_=>true) true ts vs ds ps->(∀ p∈ps,p.block<W.heap.size)->(∀ p∈ps,sp p.block=true)->DataW.TrodAll enc P W' 0 sp true ts vs ds ps
 |[],vs,ds,ps,_,h,_,_=>by
  cases vs<;>cases ds<;>first|exact h|exact h.elim
 |t::ts,[],ds,ps,_,h,_,_=>by cases ds<;>exact h.elim
 |t::ts,v::vs,[],ps,_,h,_,_=>h.elim
 |t::ts,v::vs,d::ds,ps,ht,⟨p,q,h1,h2,e⟩,aS,p'=>by
  subst e;obtain⟨a,b⟩:=ht t IM;exact⟨p,q,WideElems.Trod_stays hl a b h1 (λx hx=>hq.below.same (aS x (by simp[hx]))) (λx hx=>p' x (by simp[hx])),
   Oz hl hq (λt' jM=>ht t' (by simp[jM])) h2 (λx hx=>aS x (by simp[hx])) (λx hx=>p' x (by simp[hx])),rfl⟩
def Quiet.keptBut{W W':World}(h:Quiet W W')(may:MemPlace->Prop):W.keptBut W' may:=by
 refine⟨h.os,h.output,λi hi=>?_⟩;rw[h.block i hi];cases W.heap[i]? with
 |none=>rfl
 |some o=>cases o with
  |cells c t fr=>exact⟨rfl,rfl,rfl,λ_ _=>rfl⟩
  |map es clock=>exact .inr ⟨rfl,rfl⟩
  |_=>rfl
def Quiet.frozen{W W':World}(h:Quiet W W')(a:Addr)(ha:a.block<W.heap.size):W'.frozen? a=W.frozen? a:=by
 simp[World.frozen?,h.block _ ha]
def amk{f:Func}{s:ChangeSpec}{apart fresh handsOn again:Bool}{W W':World}{args:Array Value}{ds gs:List (DataW H)}{before:List MemPlace}(hl:laidOutB P=true)(hW:DataW.Whole enc P f.params.toList s.vars apart W args.toList ds gs before)(hv:s.vars=[])(eM:(f.params.toList.all λt=>P.readableRec t&&decide (t<P.types.size))=true)(hq:Quiet W W'){t:TypeId}(hr:f.resultTypes = #[t])(hb:P.underlying t=some .bool)(jx:(s.fn H (ds++gs)).results=[.lit (.bool true)])(j3:(s.fn H (ds++gs)).args=ds)(hs3:(s.fn H (ds++gs)).vars=[]):
  s.post enc P f apart fresh handsOn again W args (.bool true) W':=by
 have aS:=hW.lt;have OA:=hW;obtain⟨p,q,hA,hV,rfl,u3,bx⟩:=hW;rw[hv]at hV;obtain⟨rfl,rfl⟩:=trodVars_none hV;rw[List.append_nil]at aS u3 bx OA;have an:∀ (b:Nat) (sp:Nat->Bool) (hd:Bool),DataW.TrodAll enc P W' b sp hd f.resultTypes.toList ((Value.bool true).resultList f.resultTypes.size) [.lit (.bool true)] []:=λb sp hd=>by
  rw[hr];exact trodAll_mk1 (shut_bool hb true)
 have nB:∀ sp:Nat->Bool,(∀ x∈p,sp x.block=true)->DataW.TrodAll enc P W' 0 sp true f.params.toList args.toList ds p:=λsp p' =>
  Oz hl hq (λt ht=>by have:=List.all_eq_true.1 eM t ht;simpa using this) hA (λx hx=>aS x hx) p'
 have hold:∀ x∈p,(λb=>decide (b<W.heap.size)) x.block=true:=λx hx=>by simpa using aS x hx
 refine⟨ds,[],p,[],p,[],OA,?_,?_,?_,hq.keptBut _,λ_=>⟨?_,?_⟩⟩
 ·rw[jx];exact an _ _ _
 ·rw[j3];exact nB _ hold
 ·rw[hs3,hv];exact rfl
 ·intro j t' r hj u4;rw[hr]at hj u4
  match j,hj,u4 with
  |0,hj,u4 =>
   simp[Value.resultList]at hj u4;subst hj;subst u4;exact okWide_bool_mk hb true
 ·refine⟨.lit (.bool true)::ds,[],p,⟨[]++p,[],trodAll_append (nB _ (λ_ _=>rfl)) (an _ _ _),by rw[hv];exact rfl,IM,?_,?_⟩,λx hx _=>hx⟩
  ·intro b off hp;rw[hq.frozen _ (aS _ hp)];exact u3 b off hp
  ·exact bx
def acd{α:Type}(ea:α->List AV)(R:α->Prop){W:World}{sp:Nat->Bool}{base:Nat}{t e:TypeId}(ht:P.underlying t=some (.slice e))(sz:Nat)(hc:P.cellsOf e=sz)(aJ:0<sz)(ace:∀ fuel cs x,DataW.trod enc P W base sp true fuel e cs=some x->cs.length=sz->∃ a,R a/\(ea a).length=sz/\∀ (c:Nat) y,(ea a)[c]?=some y->hJ W (tW W) y (cs.getD c Go.undef)){fuel:Nat}{cs:List Value}{x:DataW H×List MemPlace}(h:DataW.trod enc P W base sp true fuel t cs=some x):
  ∃ (as:List α) (v:Value),cs=[v]/\(∀ a∈as,R a)/\as.length<=maxLen/\hJ W (tW W) (.tree sz (as.map ea)) v:=by
 rcases DataW.trod_slice ht h with⟨rfl,_⟩|⟨a,len,cap,elems,rest,n,_,rfl,_,hb,jy,hm,hlen,au,_,_⟩
 ·exact⟨[],_,rfl,IM,aW _,.nil _ _ _⟩
 ·have key:∀ i:Fin len,∃ (a1:α) (ci:List Value),R a1/\(ea a1).length=sz/\ci.length=sz/\(∀ j,j<sz->W.cell? ((a.add (i*sz)).add j)=ci[j]?)/\∀ (c:Nat) y,(ea a1)[c]?=some y->hJ W (tW W) y (ci.getD c Go.undef):=by
   intro i;have hi:=au i i.2;rw[hc,bq (by rw[hlen];exact i.2)]at hi;cases gG:W.cells? base (a.add (↑i*sz)) sz with
   |none=>rw[gG]at hi;simp at hi
   |some ci =>
    rw[gG]at hi;obtain⟨_,bn,bc⟩:=World.cells?_some gG;obtain⟨a1,h1,h2,h3⟩:=ace n ci _ hi bn;exact⟨a1,ci,h1,h2,bn,bc,h3⟩
  by_cases h0:len=0
  ·subst h0;exact⟨[],_,rfl,IM,aW _,.nil _ _ _⟩
  ·obtain⟨b,off,spot⟩:=a;have acf:spot=none/\b<W.heap.size:=by
    obtain⟨a1,ci,_,_,h3,h4,_⟩:=key ⟨0,AT⟩;have:=h4 0 aJ;rw[bq AT]at this;have e:(Addr.add (Addr.add ⟨b,off,spot⟩ (0*sz)) 0)=⟨b,off,spot⟩:=by simp[Addr.add]
    rw[e]at this;refine⟨World.cell?_spot this,?_⟩;simp only[World.cell?]at this;rcases du b W.heap.size with h|h
    ·exact h
    ·simp[Array.getElem?_eq_none h]at this
   obtain⟨rfl,I1⟩:=acf
   let as:List α:=List.ofFn λi:Fin len=>(key i).choose
   have AX:as.length=len:=by simp[as]
   have E6:∀ r,(hr:r<len)->∃ ci:List Value,R (as[r]'(by rw[AX];exact hr))/\(ea (as[r]'(by rw[AX];exact hr))).length=sz/\ci.length=sz/\(∀ j,j<sz->W.cell? ⟨b,off+(r*sz+j),none⟩=ci[j]?)/\∀ (c:Nat) y,(ea (as[r]'(by rw[AX];exact hr)))[c]?=some y->hJ W (tW W) y (ci.getD c Go.undef):=by
    intro r hr;have e:as[r]'(by rw[AX];exact hr)=(key ⟨r,hr⟩).choose:=by simp[as]
    obtain⟨ci,h1,h2,h3,h4,h5⟩:=(key ⟨r,hr⟩).choose_spec;refine⟨ci,by rw[e];exact h1,by rw[e];exact h2,h3,λj hj=>?_,by rw[e];exact h5⟩;have:=h4 j hj;rw[add_plain,add_plain]at this;rw[<- this];congr 2;show off+(r*sz+j)=off+r*sz+j;omega
   have ri:∀ r c y,cellAt (as.map ea) r c=some y->∃ hr:r<as.length,(ea as[r])[c]?=some y:=by
    intro r c y hy;simp only[cellAt,bV]at hy;rcases du r as.length with hr|hr
    ·rw[bq hr]at hy;exact⟨hr,by simpa using hy⟩
    ·rw[List.getElem?_eq_none hr]at hy;simp at hy
   refine⟨as,_,rfl,?_,AT,?_⟩
   ·intro a1 ha;obtain⟨r,hr,rfl⟩:=wg.1 ha;exact(E6 r AT).choose_spec.1
   ·have e:(.slice (some ⟨b,off,none⟩) len cap:Value)=.slice (some ⟨b,off,none⟩) (as.map ea).length cap:=by simp[AX]
    rw[e];refine .tree sz _ b off cap (λr c=>(W.cell? ⟨b,off+(r*sz+c),none⟩).getD Go.undef) I1 ?_ (by simp[AX];omega) ?_ ?_
    ·intro row bE;simp only[List.mem_map]at bE;obtain⟨a1,ha,rfl⟩:=bE;obtain⟨r,hr,rfl⟩:=wg.1 ha;exact(E6 r AT).choose_spec.2.1
    ·intro r c y hy;obtain⟨hr,hy⟩:=ri r c y hy;obtain⟨ci,h1,h2,h3,h4,h5⟩:=E6 r AT;have gG:c<sz:=by rw[<- h2];exact(aR.1 hy).1
     rw[h4 c gG,bq AT];rfl
    ·intro r c y hy;obtain⟨hr,hy⟩:=ri r c y hy;obtain⟨ci,h1,h2,h3,h4,h5⟩:=E6 r AT;have gG:c<sz:=by rw[<- h2];exact(aR.1 hy).1
     rw[h4 c gG,<- ax];exact h5 c y hy
def wf_i64{n:Int}(h:(Lit.int .i64 n).wf=true): -9223372036854775808<=n/\n<=9223372036854775807:=by
 simp only[Lit.wf,Bool.and_eq_true,decide_eq_true_eq]at h;exact h
section
variable {W:World} {sp:Nat->Bool} {base:Nat} {fuel:Nat} {cs:List Value} {x:DataW H×List MemPlace}
def OB(n:Int):Prop:=-9223372036854775808<=n/\n<=9223372036854775807
def aml{t e:TypeId}(ht:P.underlying t=some (.slice e))(he:P.underlying e=some (.int .i64))(hc:P.cellsOf e=1)(h:DataW.trod enc P W base sp true fuel t cs=some x):
  ∃ (xs:List Int) (v:Value),cs=[v]/\(∀ n∈xs,OB n)/\xs.length<=maxLen/\hJ W (tW W) (.tree 1 (ints xs)) v:=by
 refine acd (λn=>[AV.lit (.int .i64 n)]) OB ht 1 hc IP (λfuel cs x h hl=>?_) h;obtain⟨n,rfl,_,hw⟩:=DataW.trod_int he h;refine⟨n,wf_i64 hw,rfl,λc y hy=>?_⟩
 match c,hy with
 |0,hy=>simp at hy;subst hy;exact .lit _
end
def Trod.slice{W:World}{sp:Nat->Bool}{t e:TypeId}{r:Reach}{b0:Nat}{v:Value}{d:DataW H}{ps:List MemPlace}(ht:P.underlying t=some (.slice e))(hval:Value.okWide P W r b0 t v)(h:DataW.Trod enc P W 0 sp true t v d ps):
  ∃ fuel,DataW.trod enc P W 0 sp true fuel t [v]=some (d,ps):=by
 obtain⟨a,l,c,rfl⟩:=okWide_slice ht hval;obtain⟨fuel,hf⟩:=h;exact⟨fuel,by simpa [Value.cells] using hf⟩
end Go.Am
namespace Go.Am
variable {P:Program} {H:Type} {enc:TypeId×Value->H} {W:World} {sp:Nat->Bool} {base:Nat}
def I2(W:World)(cells:List AV)(cs:List Value):Prop:=cells.length=cs.length/\∀ (c:Nat) y,cells[c]?=some y->hJ W (tW W) y (cs.getD c Go.undef)
end Go.Am
namespace Go.Am
variable {P:Program} {H:Type} {enc:TypeId×Value->H} {W:World} {sp:Nat->Bool} {base:Nat}
def acg(W:World)(v:AV)(cv:Value):Prop:=hJ W (tW W) v cv\/∃ cs bd,v=.agg cs/\cv=.agg bd/\I2 W cs bd.toList
theorem amm{f:FuncId}{AY:List AV}{W:World}{args:Array Value}{r:Value}(h:Holds P f AY [] (.lit r) [])(hl:args.size=AY.length)(ht:∀ (j:Nat) v,AY[j]?=some v->acg W v (args.getD j Go.undef))(hg:I0 W:=by intro _ _ h;cases h):
  Calls P f args W fun e W'=>e=.returned r/\Quiet W W':=by
 let γ:Cx:={ w:=W,tmps:=args,Z:=tW W,blk:=fun _=>none }
 have hs:bh ⟨fun k=>AY.getD k .undef,[]⟩ γ:=by
  refine⟨fun k=>?_,fun i o ho=>by simp at ho,fun i j b o c o' c' hi=>?_,fun b ⟨i,o,c,hi,_⟩=>?_,fun b hb=>hb,fun g=>hg.rel g⟩
  ·show aw [] W (tW W) _ (AY.getD k .undef) (args.getD k Go.undef);cases hk:AY[k]? with
   |none=>rw[List.getD_eq_getElem?_getD,hk];exact .undef _
   |some v =>
    rw[List.getD_eq_getElem?_getD,hk];rcases ht k v hk with h1|⟨cs,bd,rfl,h2,h3,h4⟩
    ·exact .cC _ _ h1
    ·rw[h2];refine .agg _ _ (by simpa using h3.symm) (fun j x hx=>.cC _ _ ?_);have:=h4 j x hx;simpa [Array.getD_eq_getD_getElem?,List.getD_eq_getElem?_getD] using this
  ·obtain⟨o,ho,_⟩:=hi;simp at ho
  ·obtain⟨o,ho,_⟩:=hi;simp at ho
 refine(h.2 γ hl hs).mono ?_;rintro e w'⟨cv,az,rfl,rfl,I3,iz,hf⟩;have h0:=iz.ao 0;rw[I3]at h0;have e0:cv=r:=by
  have:=h0.cD;simpa using this
 subst e0;refine⟨rfl,hf.kD,hf.tape,hf.output,hf.size,fun b hb=>hf.dN b hb (fun ⟨i,o,c,hi,_⟩=>?_)⟩;obtain⟨o,ho,_⟩:=hi;simp at ho
def I2.cell{cells:List AV}{cs:List Value}{o n j:Nat}{v:AV}(h:I2 W cells ((cs.drop o).take n))(hv:cells[j]?=some v):hJ W (tW W) v (cs.getD (o+j) Go.undef):=by
 have h2:=h.2 j v hv;have hl:j<((cs.drop o).take n).length:=by rw[<- h.1];exact(aR.1 hv).1
 have hn:j<n:=by simp at hl;omega
 rwa [ax,List.getElem?_take_of_lt hn,List.getElem?_drop,<- ax]at h2
end Go.Am

