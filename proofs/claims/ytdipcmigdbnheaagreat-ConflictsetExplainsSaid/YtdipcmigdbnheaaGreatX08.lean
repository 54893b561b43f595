import Derived.WalkKit
import Derived.ProofKit
import Derived.OpenShut
import Derived.JoinedCond
import Derived.Carry
import Derived.Test.YtdipcmigdbnheaaGreatX06
set_option linter.all false
set_option maxHeartbeats 0
set_option maxRecDepth 20000
open Nat renaming zero_le→aI,lt_or_ge→fK
open List renaming getElem?_eq_getElem→bK,mem_iff_getElem→uz,getElem?_eq_some_iff→a8,getD_eq_getElem?_getD→aA,mapIdx_cons→J3,all_cons→Dp
open Bool renaming and_eq_true→bw
open Option renaming map_some→fl,some→dI
open Go.ChangeShapes Go.WideShapes Go.ChangeAt Go.RowKit
namespace Go.Am
variable {P:Program} {H:Type} {enc:TypeId×Value->H}
def vY(W:World):Nat->Prop:=λb=>b<W.heap.size
structure xo(W W':World):Prop where
 os:W'.os=W.os
 tape:W'.tape=W.tape
 output:W'.output=W.output
 size:W.heap.size<=W'.heap.size
 block:∀ b,b<W.heap.size->W'.heap[b]?=W.heap[b]?
def xo.below{W W':World}(h:xo W W'):Below W.heap.size W W':=⟨h.os,h.tape,h.output,h.size,h.block⟩
def PJ(hl:laidOutB P=true){W W':World}(hq:xo W W'){sp:Nat->Bool}:∀ {ts:List TypeId} {vs:List Value} {ds:List (DataW H)} {ps:List MemPlace},(∀ t∈ts,P.readableRec t=true/\t<P.types.size) ->
  DataW.TrodAll enc P W 0 (λ_=>true) true ts vs ds ps->(∀ p∈ps,p.block<W.heap.size)->(∀ p∈ps,sp p.block=true)->DataW.TrodAll enc P W' 0 sp true ts vs ds ps
 |[],vs,ds,ps,_,h,_,_=>by
  cases vs<;>cases ds<;>first|exact h|exact h.elim
 |t::ts,[],ds,ps,_,h,_,_=>by cases ds<;>exact h.elim
 |t::ts,v::vs,[],ps,_,h,_,_=>h.elim
 |t::ts,v::vs,d::ds,ps,ht,⟨p,q,h1,h2,e⟩,br,z'=>by
  subst e;obtain⟨a,b⟩:=ht t GF;exact⟨p,q,WideElems.Trod_stays hl a b h1 (λx hx=>hq.below.same (br x (by simp[hx]))) (λx hx=>z' x (by simp[hx])),
   PJ hl hq (λt' lH=>ht t' (by simp[lH])) h2 (λx hx=>br x (by simp[hx])) (λx hx=>z' x (by simp[hx])),rfl⟩
def xo.keptBut{W W':World}(h:xo W W')(may:MemPlace->Prop):W.keptBut W' may:=by
 refine⟨h.os,h.output,λi hi=>?_⟩;rw[h.block i hi];cases W.heap[i]? with
 |none=>rfl
 |some o=>cases o with
  |cells c t fr=>exact⟨rfl,rfl,rfl,λ_ _=>rfl⟩
  |map es clock=>exact .inr ⟨rfl,rfl⟩
  |_=>rfl
def xo.frozen{W W':World}(h:xo W W')(a:Addr)(ha:a.block<W.heap.size):W'.frozen? a=W.frozen? a:=by
 simp[World.frozen?,h.block _ ha]
def anp{f:Func}{s:ChangeSpec}{apart fresh handsOn again:Bool}{W W':World}{args:Array Value}{ds gs:List (DataW H)}{before:List MemPlace}(hl:laidOutB P=true)(hW:DataW.Whole enc P f.params.toList s.vars apart W args.toList ds gs before)(hv:s.vars=[])(cN:(f.params.toList.all λt=>P.readableRec t&&decide (t<P.types.size))=true)(hq:xo W W'){t:TypeId}(hr:f.resultTypes = #[t])(hb:P.underlying t=some .bool)(jS:(s.fn H (ds++gs)).results=[.lit (.bool true)])(jC:(s.fn H (ds++gs)).args=ds)(hs3:(s.fn H (ds++gs)).vars=[]):
  s.post enc P f apart fresh handsOn again W args (.bool true) W':=by
 have br:=hW.lt;have PL:=hW;obtain⟨p,q,hA,hV,rfl,mK,bX⟩:=hW;rw[hv]at hV;obtain⟨rfl,rfl⟩:=trodVars_none hV;rw[List.append_nil]at br mK bX PL;have ak:∀ (b:Nat) (sp:Nat->Bool) (hd:Bool),DataW.TrodAll enc P W' b sp hd f.resultTypes.toList ((Value.bool true).resultList f.resultTypes.size) [.lit (.bool true)] []:=λb sp hd=>by
  rw[hr];exact trodAll_mk1 (shut_bool hb true)
 have oX:∀ sp:Nat->Bool,(∀ x∈p,sp x.block=true)->DataW.TrodAll enc P W' 0 sp true f.params.toList args.toList ds p:=λsp z' =>
  PJ hl hq (λt ht=>by have:=List.all_eq_true.1 cN t ht;simpa using this) hA (λx hx=>br x hx) z'
 have hold:∀ x∈p,(λb=>decide (b<W.heap.size)) x.block=true:=λx hx=>by simpa using br x hx
 refine⟨ds,[],p,[],p,[],PL,?_,?_,?_,hq.keptBut _,λ_=>⟨?_,?_⟩⟩
 ·rw[jS];exact ak _ _ _
 ·rw[jC];exact oX _ hold
 ·rw[hs3,hv];exact rfl
 ·intro j t' r hj uF;rw[hr]at hj uF
  match j,hj,uF with
  |0,hj,uF =>
   simp[Value.resultList]at hj uF;subst hj;subst uF;exact okWide_bool_mk hb true
 ·refine⟨.lit (.bool true)::ds,[],p,⟨[]++p,[],trodAll_append (oX _ (λ_ _=>rfl)) (ak _ _ _),by rw[hv];exact rfl,GF,?_,?_⟩,λx hx _=>hx⟩
  ·intro b off hp;rw[hq.frozen _ (br _ hp)];exact mK b off hp
  ·exact bX
def adt{α:Type}(ea:α->List AV)(R:α->Prop){W:World}{sp:Nat->Bool}{base:Nat}{t e:TypeId}(ht:P.underlying t=some (.slice e))(sz:Nat)(hc:P.cellsOf e=sz)(bx:0<sz)(adu:∀ fuel cs x,DataW.trod enc P W base sp true fuel e cs=some x->cs.length=sz->∃ a,R a/\(ea a).length=sz/\∀ (c:Nat) y,(ea a)[c]?=some y->jf W (vY W) y (cs.getD c Go.undef)){fuel:Nat}{cs:List Value}{x:DataW H×List MemPlace}(h:DataW.trod enc P W base sp true fuel t cs=some x):
  ∃ (as:List α) (v:Value),cs=[v]/\(∀ a∈as,R a)/\as.length<=maxLen/\jf W (vY W) (.tree sz (as.map ea)) v:=by
 rcases DataW.trod_slice ht h with⟨rfl,_⟩|⟨a,len,cap,elems,rest,n,_,rfl,_,hb,lh,hm,hlen,ar,_,_⟩
 ·exact⟨[],_,rfl,GF,aI _,.nil _ _ _⟩
 ·have key:∀ i:Fin len,∃ (a1:α) (ci:List Value),R a1/\(ea a1).length=sz/\ci.length=sz/\(∀ j,j<sz->W.cell? ((a.add (i*sz)).add j)=ci[j]?)/\∀ (c:Nat) y,(ea a1)[c]?=some y->jf W (vY W) y (ci.getD c Go.undef):=by
   intro i;have hi:=ar i i.2;rw[hc,bK (by rw[hlen];exact i.2)]at hi;cases iu:W.cells? base (a.add (↑i*sz)) sz with
   |none=>rw[iu]at hi;simp at hi
   |some ci =>
    rw[iu]at hi;obtain⟨_,cm,aR⟩:=World.cells?_some iu;obtain⟨a1,h1,h2,h3⟩:=adu n ci _ hi cm;exact⟨a1,ci,h1,h2,cm,aR,h3⟩
  by_cases h0:len=0
  ·subst h0;exact⟨[],_,rfl,GF,aI _,.nil _ _ _⟩
  ·obtain⟨b,off,spot⟩:=a;have adv:spot=none/\b<W.heap.size:=by
    obtain⟨a1,ci,_,_,h3,h4,_⟩:=key ⟨0,GC⟩;have:=h4 0 bx;rw[bK GC]at this;have e:(Addr.add (Addr.add ⟨b,off,spot⟩ (0*sz)) 0)=⟨b,off,spot⟩:=by simp[Addr.add]
    rw[e]at this;refine⟨World.cell?_spot this,?_⟩;simp only[World.cell?]at this;rcases fK b W.heap.size with h|h
    ·exact h
    ·simp[Array.getElem?_eq_none h]at this
   obtain⟨rfl,Kl⟩:=adv
   let as:List α:=List.ofFn λi:Fin len=>(key i).choose
   have BN:as.length=len:=by simp[as]
   have GU:∀ r,(hr:r<len)->∃ ci:List Value,R (as[r]'(by rw[BN];exact hr))/\(ea (as[r]'(by rw[BN];exact hr))).length=sz/\ci.length=sz/\(∀ j,j<sz->W.cell? ⟨b,off+(r*sz+j),none⟩=ci[j]?)/\∀ (c:Nat) y,(ea (as[r]'(by rw[BN];exact hr)))[c]?=some y->jf W (vY W) y (ci.getD c Go.undef):=by
    intro r hr;have e:as[r]'(by rw[BN];exact hr)=(key ⟨r,hr⟩).choose:=by simp[as]
    obtain⟨ci,h1,h2,h3,h4,h5⟩:=(key ⟨r,hr⟩).choose_spec;refine⟨ci,by rw[e];exact h1,by rw[e];exact h2,h3,λj hj=>?_,by rw[e];exact h5⟩;have:=h4 j hj;rw[add_plain,add_plain]at this;rw[<- this];congr 2;show off+(r*sz+j)=off+r*sz+j;omega
   have qm:∀ r c y,cellAt (as.map ea) r c=some y->∃ hr:r<as.length,(ea as[r])[c]?=some y:=by
    intro r c y hy;simp only[cellAt,List.getElem?_map]at hy;rcases fK r as.length with hr|hr
    ·rw[bK hr]at hy;exact⟨hr,by simpa using hy⟩
    ·rw[List.getElem?_eq_none hr]at hy;simp at hy
   refine⟨as,_,rfl,?_,GC,?_⟩
   ·intro a1 ha;obtain⟨r,hr,rfl⟩:=uz.1 ha;exact(GU r GC).choose_spec.1
   ·have e:(.slice (some ⟨b,off,none⟩) len cap:Value)=.slice (some ⟨b,off,none⟩) (as.map ea).length cap:=by simp[BN]
    rw[e];refine .tree sz _ b off cap (λr c=>(W.cell? ⟨b,off+(r*sz+c),none⟩).getD Go.undef) Kl ?_ (by simp[BN];omega) ?_ ?_
    ·intro row bq;simp only[List.mem_map]at bq;obtain⟨a1,ha,rfl⟩:=bq;obtain⟨r,hr,rfl⟩:=uz.1 ha;exact(GU r GC).choose_spec.2.1
    ·intro r c y hy;obtain⟨hr,hy⟩:=qm r c y hy;obtain⟨ci,h1,h2,h3,h4,h5⟩:=GU r GC;have iu:c<sz:=by rw[<- h2];exact(a8.1 hy).1
     rw[h4 c iu,bK GC];rfl
    ·intro r c y hy;obtain⟨hr,hy⟩:=qm r c y hy;obtain⟨ci,h1,h2,h3,h4,h5⟩:=GU r GC;have iu:c<sz:=by rw[<- h2];exact(a8.1 hy).1
     rw[h4 c iu,<- aA];exact h5 c y hy
def wf_i64{n:Int}(h:(Lit.int .i64 n).wf=true): -9223372036854775808<=n/\n<=9223372036854775807:=by
 simp only[Lit.wf,bw,decide_eq_true_eq]at h;exact h
section
variable {W:World} {sp:Nat->Bool} {base:Nat} {fuel:Nat} {cs:List Value} {x:DataW H×List MemPlace}
def PN(n:Int):Prop:=-9223372036854775808<=n/\n<=9223372036854775807
def anq{t e:TypeId}(ht:P.underlying t=some (.slice e))(he:P.underlying e=some (.int .i64))(hc:P.cellsOf e=1)(h:DataW.trod enc P W base sp true fuel t cs=some x):
  ∃ (xs:List Int) (v:Value),cs=[v]/\(∀ n∈xs,PN n)/\xs.length<=maxLen/\jf W (vY W) (.tree 1 (ints xs)) v:=by
 refine adt (λn=>[AV.lit (.int .i64 n)]) PN ht 1 hc Px (λfuel cs x h hl=>?_) h;obtain⟨n,rfl,_,hw⟩:=DataW.trod_int he h;refine⟨n,wf_i64 hw,rfl,λc y hy=>?_⟩
 match c,hy with
 |0,hy=>simp at hy;subst hy;exact .lit _
end
def Trod.slice{W:World}{sp:Nat->Bool}{t e:TypeId}{r:Reach}{b0:Nat}{v:Value}{d:DataW H}{ps:List MemPlace}(ht:P.underlying t=some (.slice e))(hval:Value.okWide P W r b0 t v)(h:DataW.Trod enc P W 0 sp true t v d ps):
  ∃ fuel,DataW.trod enc P W 0 sp true fuel t [v]=some (d,ps):=by
 obtain⟨a,l,c,rfl⟩:=okWide_slice ht hval;obtain⟨fuel,hf⟩:=h;exact⟨fuel,by simpa [Value.cells] using hf⟩
end Go.Am
namespace Go.Am
variable {P:Program} {H:Type} {enc:TypeId×Value->H} {W:World} {sp:Nat->Bool} {base:Nat}
def Km(W:World)(cells:List AV)(cs:List Value):Prop:=cells.length=cs.length/\∀ (c:Nat) y,cells[c]?=some y->jf W (vY W) y (cs.getD c Go.undef)
end Go.Am
namespace Go.Am
variable {P:Program} {H:Type} {enc:TypeId×Value->H} {W:World} {sp:Nat->Bool} {base:Nat}
def adw(W:World)(v:AV)(cv:Value):Prop:=jf W (vY W) v cv\/∃ cs bG,v=.agg cs/\cv=.agg bG/\Km W cs bG.toList
def anr{f:FuncId}{BO:List AV}{W:World}{args:Array Value}{r:Value}(h:ao P f BO [] (.lit r) [])(hl:args.size=BO.length)(ht:∀ (j:Nat) v,BO[j]?=some v->adw W v (args.getD j Go.undef)):
  Calls P f args W λe W'=>e=.returned r/\xo W W':=by
 let γ:Cx:={ w:=W,tmps:=args,Z:=vY W,blk:=λ_=>none }
 have hs:bS ⟨λk=>BO.getD k .undef,[]⟩ γ:=by
  refine⟨λk=>?_,λi o ho=>by simp at ho,λi j b o c o' c' hi=>?_,λb ⟨i,o,c,hi,_⟩=>?_,λb hb=>hb⟩
  ·show aC [] W (vY W) _ (BO.getD k .undef) (args.getD k Go.undef);cases hk:BO[k]? with
   |none=>rw[aA,hk];exact .undef _
   |some v =>
    rw[aA,hk];rcases ht k v hk with h1|⟨cs,bG,rfl,h2,h3,h4⟩
    ·exact .cC _ _ h1
    ·rw[h2];refine .agg _ _ (by simpa using h3.symm) (λj x hx=>.cC _ _ ?_);have:=h4 j x hx;simpa [Array.getD_eq_getD_getElem?,aA] using this
  ·obtain⟨o,ho,_⟩:=hi;simp at ho
  ·obtain⟨o,ho,_⟩:=hi;simp at ho
 refine(h.2 γ hl hs).mono ?_;rintro e w'⟨cv,aO,rfl,rfl,yM,jg,hf⟩;have h0:=jg.aw 0;rw[yM]at h0;have e0:cv=r:=by
  have:=h0.dz;simpa using this
 subst e0;refine⟨rfl,hf.oh,hf.tape,hf.output,hf.size,λb hb=>hf.az b hb (λ⟨i,o,c,hi,_⟩=>?_)⟩;obtain⟨o,ho,_⟩:=hi;simp at ho
def Km.cell{cells:List AV}{cs:List Value}{o n j:Nat}{v:AV}(h:Km W cells ((cs.drop o).take n))(hv:cells[j]?=some v):jf W (vY W) v (cs.getD (o+j) Go.undef):=by
 have h2:=h.2 j v hv;have hl:j<((cs.drop o).take n).length:=by rw[<- h.1];exact(a8.1 hv).1
 have hn:j<n:=by simp at hl;omega
 rwa [aA,List.getElem?_take_of_lt hn,List.getElem?_drop,<- aA]at h2
end Go.Am
namespace Go.Am
variable {P:Program} {N n0:Nat} {σ:St} {Q:Exit->St->Prop}
def PO(v v':AV):Prop:=v'=v\/(v=.lit (.slice none 0 0)/\∃ s,v'=.tree s [])
def GV:List AV->List AV->Prop
 |[],[]=>True
 |c::cs,d::ds=>PO c d/\GV cs ds
 |_,_=>False
def GV.get:∀ {cs ds:List AV},GV cs ds->cs.length=ds.length/\∀ (j:Nat) d,ds[j]?=some d->∃ c,cs[j]?=some c/\PO c d
 |[],[],_=>⟨rfl,GF⟩
 |c::cs,d::ds,h=>by
  obtain⟨a,b⟩:=GV.get h.2;refine⟨by simp[a],λj d' hd=>?_⟩;cases j with
  |zero=>simp at hd;subst hd;exact⟨c,rfl,h.1⟩
  |succ j=>exact b j d' (by simpa using hd)
 |[],_::_,h=>h.elim
 |_::_,[],h=>h.elim
end Go.Am
namespace Go.Am
variable {P:Program} {N n0:Nat} {σ:St} {Q:Exit->St->Prop}
end Go.Am
namespace Go.Am
def ao.adx{P:Program}{f:FuncId}{args:List AV}{aa bI PQ:List Ob}{res PR:AV}(h:ao P f args aa res bI)(ht:aF aa.length ⟨λk=>[res].getD k .undef,bI⟩ ⟨λk=>[PR].getD k .undef,PQ⟩):ao P f args aa PR PQ:=by
 obtain⟨hc,h⟩:=h;refine⟨hc,λγ jS jC=>Calls.mono (h γ jS jC) ?_⟩;rintro e w'⟨cv,aO,h1,h2,h3,h4,h5⟩;obtain⟨DC,a1,a2,a3,a4⟩:=ht aa γ aO rfl h4 h5;exact⟨cv,DC,h1,a1.trans h2,a2.trans h3,a3,a4⟩
def aF.ady{n0:Nat}{v v':AV}{os:List Ob}(h:∀ (w:World) (Z:Nat->Prop) (blk:iG) (cv:Value),aC os w Z blk v cv->aC os w Z blk v' cv):aF n0 ⟨λk=>[v].getD k .undef,os⟩ ⟨λk=>[v'].getD k .undef,os⟩:=by
 intro os0 γ0 γ _ hs hf;refine⟨γ,rfl,rfl,⟨λk=>?_,hs.fL,hs.inj,hs.nz,hs.jh⟩,hf⟩;have:=hs.aw k;cases k with
 |zero=>exact h _ _ _ _ this
 |succ k=>exact this
def aC.Kn{os:List Ob}{w:World}{Z:Nat->Prop}{blk:iG}{a b c:AV}{cv:Value}(h:aC os w Z blk (.bJ [a,b,c]) cv):aC os w Z blk (.bJ [a,.undef,c]) cv:=by
 cases h with
 |cC _ _ h=>cases h
 |bJ _ bG hs h =>
  refine .bJ _ bG hs λj x hx=>?_
  match j,hx with
  |0,hx=>exact h 0 x hx
  |1,hx=>cases hx;exact .undef _
  |2,hx=>exact h 2 x hx
def ao.Kn{P:Program}{f:FuncId}{args:List AV}{aa bI:List Ob}{a b c:AV}(h:ao P f args aa (.bJ [a,b,c]) bI):ao P f args aa (.bJ [a,.undef,c]) bI:=h.adx (aF.ady λ_ _ _ _ h=>h.Kn)
end Go.Am
namespace Go.Am
variable {P:Program} {N n0:Nat} {σ:St}
def Ko(ag:Nat)(f:Nat->Value)(p:List Int×AV)(r:List (List Int×AV)):eD ag f (p::r)=(kV ag p.1,f 0)::eD ag (λj=>f (j+1)) r:=by
 unfold eD;simp[J3]
def PS(x:Int):∀ (L:List (List Int×AV)) (f:Nat->Value) (g:Nat->Nat) (i:Nat),(∀ p∈L,p.1.length=1) ->
  Instr.findNow (.int .i64) (.int .i64 x) ((eD 0 f L).mapIdx λj p=>(⟨p.1,p.2,g j⟩:MapEntry)) i=some ((kM [x] L i).map λq=>(q,f (q-i)))
 |[],_,_,_,_=>rfl
 |p::r,f,g,i,h=>by
  have hp:=h p GF;obtain⟨l,v⟩:=p;obtain⟨y,rfl⟩:∃y,l=[y]:=List.length_eq_one_iff.1 hp;rw[Ko];simp only[J3,Instr.findNow,kV,if_true,List.headD_cons,Instr.sameNow,kM];by_cases oY:y=x
  ·subst oY;simp
  ·rw[if_neg (λe=>oY (by simpa using e))];have:(x==y)=false:=by simpa using λe=>oY e.symm
   rw[this];have ih:=PS x r (λj=>f (j+1)) (λj=>g (j+1)) (i+1) (λq hq=>h q (by simp[hq]));simp only[ih];cases hf:kM [x] r (i+1) with
   |none=>rfl
   |some q =>
    have:=(Aa hf).1;simp only[fl];rw[show q-(i+1)+1=q-i by omega]
def me.int{t kt et:TypeId}(h1:P.underlying t=some (.map kt et))(h2:P.underlying kt=some (.int .i64)):me P t 0:=by
 refine⟨kt,et,h1,λl hl=>?_⟩;obtain⟨x,rfl⟩:∃x,l=[x]:=List.length_eq_one_iff.1 hl;refine⟨λe w=>?_,λw=>?_,λf L w hL=>?_⟩
 ·exact run_checkKey h2 e x w
 ·have DD:Instr.sameBits 10000 (.int .i64 x) (.int .i64 x)=true:=by simp[Instr.sameBits]
  show(Instr.keyThatStays (.int .i64 x) (.int .i64 x)).run P w=_;simp[Instr.keyThatStays,DD,kV]
 ·have h:=PS x L f id 0 hL;simp only[id]at h;show(Instr.findKey kt (.int .i64 x) (dT (eD 0 f L)).toList).run P w=_;simp[Instr.findKey,run_underlying h2,uG,h]
end Go.Am
namespace Go.Am
variable {P:Program} {N n0:Nat} {σ:St}
def DE{n:Nat}(hn:n≠0)(l:List Int):kV n l=.agg (l.map (Value.int .i64)).toArray:=by unfold kV;rw[if_neg hn]
def adz{t:TypeId}{n:Nat}(h:vZ P t n)(hn:n≠0)(w:World){as bs:List Int}(ha:as.length=n)(hb:bs.length=n):(Op.equal t (kV n as) (kV n bs)).run P w=.ok (decide (as=bs)) w:=by
 rw[DE hn,DE hn];exact h w as bs ha hb
def PU{t:TypeId}{n:Nat}(h:vZ P t n)(hn:n≠0){l:List Int}(hl:l.length=n)(w:World):∀ (L:List (List Int×AV)) (f:Nat->Value) (g:Nat->Nat) (i:Nat),(∀ p∈L,p.1.length=n) ->
  (Instr.findAsking t (kV n l) ((eD n f L).mapIdx λj p=>(⟨p.1,p.2,g j⟩:MapEntry)) i).run P w=.ok ((kM l L i).map λq=>(q,f (q-i))) w
 |[],_,_,_,_=>rfl
 |p::r,f,g,i,hL=>by
  have hp:=hL p GF;rw[Ko];have he:=adz h hn w hl hp;simp only[J3,Instr.findAsking,Sem.run_bind,he,Result.andThen_ok,Sem.run_ite,kM];by_cases oY:p.1=l
  ·rw[if_pos oY];simp[oY.symm]
  ·rw[if_neg oY,if_neg (by simpa using λe=>oY e.symm)];have ih:=PU h hn hl w r (λj=>f (j+1)) (λj=>g (j+1)) (i+1) (λq hq=>hL q (by simp[hq]));rw[ih];cases hf:kM l r (i+1) with
   |none=>rfl
   |some q =>
    have:=(Aa hf).1;simp only[fl];rw[show q-(i+1)+1=q-i by omega]
def PV(k:Nat):∀ (l:List Int),((l.map (Value.int .i64)).zip (l.map (Value.int .i64))).all (λ(x,y)=>Instr.sameBits k x y)=true
 |[]=>rfl
 |x::r=>by
  simp only[List.map_cons,List.zip_cons_cons,Dp,PV k r,Bool.and_true];cases k<;>simp[Instr.sameBits]
def adA(w:World){ft:TypeId}(hf:P.underlying ft=some (.int .i64)){l:List Int}{o:Nat}(ho:o<l.length):(part ft (l.map (Value.int .i64)).toArray o).run P w=.ok (.int .i64 (l.getD o 0)) w:=by
 have hx:((l.map (Value.int .i64)).toArray)[o]?=some (.int .i64 (l.getD o 0)):=by simp[ho]
 simp only[part,isAgg,Sem.run_bind,run_underlying hf,Result.andThen_ok,Sem.run_pure,Bool.false_eq_true,if_false,Sem.run_ite,hx]
def adB{ft:TypeId}(hf:P.underlying ft=some (.int .i64))(e:Bool)(x:Int)(k:Nat)(w:World):(Instr.checkKey e (k+1) ft (.int .i64 x)).run P w=.ok () w:=by
 simp[Instr.checkKey,run_underlying hf]
def Kp(P : Program)(n : Nat)(fs : List Field): Bool := fs.all λf => f.name != "_" && decide (f.offset < n) && (match P.underlying f.type with | some (.int .i64) => true | _ => false)
def adC {P : Program} {n : Nat} {f : Field} (h : (f.name != "_" && decide (f.offset < n) && (match P.underlying f.type with | some (.int .i64) => true | _ => false)) = true) : f.name ≠ "_" /\ f.offset < n /\ P.underlying f.type = some (.int .i64) := by
 simp only[bw,bne_iff_ne,decide_eq_true_eq]at h;refine⟨h.1.1,h.1.2,?_⟩;have h2:=h.2;split at h2
 ·assumption
 ·cases h2
def adD{kt:TypeId}{n:Nat}{fs:Array Field}(h2:P.underlying kt=some (.struct fs))(hn:n≠0)(xp:Kp P n fs.toList=true)(l:List Int)(hl:l.length=n)(e:Bool)(w:World):(Instr.checkKey e 10000 kt (kV n l)).run P w=.ok () w:=by
 rw[DE hn,show(10000:Nat)=9999+1 from rfl,Instr.checkKey];simp only[Sem.run_bind,run_underlying h2,Result.andThen_ok];rw[<- Array.forIn_toList];generalize fs.toList=L at xp
 induction L with
 |nil=>simp
 |cons f r ih =>
  unfold Kp at xp;rw[Dp,bw]at xp;obtain⟨a1,a2,a3⟩:=adC xp.1;have p1:=adA (P:=P) w a3 (l:=l) (o:=f.offset) GC;have p2:=adB a3 e (l.getD f.offset 0) 9998 w;simp only[List.forIn_cons,Sem.run_bind,a1,ne_eq,not_false_eq_true,if_true,Result.andThen_ok,p1,p2,Sem.run_pure];exact ih xp.2
def me.agg{t kt et:TypeId}{n:Nat}{fs:Array Field}(h1:P.underlying t=some (.map kt et))(h2:P.underlying kt=some (.struct fs))(h3:vZ P kt n)(hn:n≠0)(h4:∀ (l:List Int),l.length=n->∀ e w,(Instr.checkKey e 10000 kt (kV n l)).run P w=.ok () w):me P t n:=by
 have hk:lj n=n:=by unfold lj;rw[if_neg hn]
 refine⟨kt,et,h1,λl hl=>?_⟩;rw[hk]at hl;refine⟨h4 l hl,λw=>?_,λf L w hL=>?_⟩
 ·have DD:Instr.sameBits 10000 (kV n l) (kV n l)=true:=by
   rw[DE hn];simp only[Instr.sameBits,beq_self_eq_true,Bool.true_and];exact PV 9999 l
  simp[Instr.keyThatStays,DD]
 ·rw[hk]at hL;have h:=PU h3 hn hl w L f id 0 hL;simp only[id]at h;cases L with
  |nil=>simp[Instr.findKey,run_underlying h2,uG,eD,Instr.findNow,kM]
  |cons p r =>
   have adE:Instr.findNow (.struct fs) (kV n l) (dT (eD n f (p::r))).toList 0=none:=by
    rw[uG,Ko];simp only[J3,Instr.findNow,DE hn,Instr.sameNow]
   simp only[Instr.findKey,Sem.run_bind,run_underlying h2,Result.andThen_ok,adE];rw[uG];exact h
def me.struct{t kt et:TypeId}{n:Nat}{fs:Array Field}(h1:P.underlying t=some (.map kt et))(h2:P.underlying kt=some (.struct fs))(hn:n≠0)(h3:Kq P 2 kt n=true)(h4:Kp P n fs.toList=true):me P t n :=
 me.agg h1 h2 (vZ.of 2 h3) hn (adD h2 hn h4)
end Go.Am
namespace Go.Am
variable {P:Program} {N n0:Nat} {σ:St}
def aF.Kr(d id sz:Nat){rows:List (List AV)}(ho:σ.aa[id]?=some (.arr sz rows))(hd:σ.env d=.ref id sz 0 rows.length)(hw:∀ row∈rows,row.length=sz)(mK:∀ row∈rows,∀ v∈row,(∃ x,v=.lit x)\/∃ s r,v=.tree s r):aF n0 σ ⟨j8 σ.env d (.tree sz rows),σ.aa.set id .gone⟩:=by
 intro os γ0 γ _ hs hf;have Ab:id<σ.aa.length:=(a8.1 ho).1
 let aO:Cx:={ γ with Z:=λb=>γ.Z b\/∃ o cap,γ.blk id=some (b,o,cap) }
 let eE:=σ.aa.set id .gone
 have hU:∀ i,eE[i]?=if i=id then some .gone else σ.aa[i]?:=by
  intro i;show(σ.aa.set id _)[i]?=_;rw[List.getElem?_set];by_cases h1:i=id
  ·subst h1;simp[Ab]
  ·simp[Ne.symm h1,h1]
 have hR:∀ v cv,aC σ.aa γ.w γ.Z γ.blk v cv->aC eE aO.w aO.Z aO.blk v cv:=λv cv hv =>
  hv.mono (λb hb=>⟨.inl hb,rfl⟩) (λi o hi=>by
   rw[hU];by_cases h1:i=id
   ·left;rw[if_pos h1]
   ·rw[if_neg h1];by_cases hg:o=.gone
    ·subst hg;exact .inl hi
    ·exact .inr ⟨rfl,o,hi,Ob.lk hg⟩)
 have cY:∀ i,Live eE i->Live σ.aa i/\i≠id:=by
  rintro i⟨o,hi,hg⟩;rw[hU]at hi;split at hi
  ·simp at hi;exact absurd hi.symm hg
  ·rename_i h2;exact⟨⟨o,hi,hg⟩,h2⟩
 have qn:Live σ.aa id:=⟨_,ho,GF⟩;have tD:=hs.aw d;rw[hd]at tD;have kP:aC eE aO.w aO.Z aO.blk (.tree sz rows) (γ.tmps.getD d Go.undef):=by
  have dZ:cL σ (λx=>x≠id) (.tree sz rows) (.ref id sz 0 rows.length):=cL.flat ho hw rfl GF mK;exact .cC _ _ (dZ.DF hs (γc:=aO) (λb hb=>.inl hb) rfl (λx b o cap dt _ hb=>.inr ⟨o,cap,by rw[show id=x by simpa using(Decidable.not_not.1 dt).symm];exact hb⟩) _ tD)
 refine⟨aO,rfl,rfl,⟨λk=>?_,?_,λi j b o c o' c' hi hj=>hs.inj i j b o c o' c' (cY i hi).1 (cY j hj).1,?_,?_⟩,?_⟩
 ·show aC eE aO.w aO.Z aO.blk (j8 σ.env d (.tree sz rows) k) (γ.tmps.getD k Go.undef);simp only[j8];split
  ·rename_i e;subst e;exact kP
  ·exact hR _ _ (hs.aw k)
 ·intro i o hi;have hi':eE[i]?=some o:=hi;rw[hU]at hi';split at hi'
  ·simp only[dI.injEq]at hi';subst hi';trivial
  ·by_cases hg:o=.gone
   ·subst hg;trivial
   ·exact(hs.fL i o hi').mono hR rfl (λ_ _ _ _=>rfl)
 ·rintro b ⟨i,o,c',hi,hb⟩ (hz|⟨o',cap,du⟩)
  ·exact hs.nz b ⟨i,o,c',(cY i hi).1,hb⟩ hz
  ·exact(cY i hi).2 (hs.inj i id b o c' o' cap (cY i hi).1 qn hb du)
 ·rintro b (hz|⟨o,cap,hb⟩)
  ·exact hs.jh b hz
  ·exact hs.blt qn hb
 ·refine⟨hf.oh,hf.tape,hf.output,hf.size,hf.az,λb hb=>.inl (hf.z0 b hb),?_,?_,by show os.length<=eE.length;simp[eE];exact hf.len,?_⟩
  ·rintro b (hz|⟨o,cap,hb⟩)
   ·exact hf.z1 b hz
   ·exact .inr (hf.own b ⟨id,o,cap,qn,hb⟩)
  ·rintro b ⟨i,o,c',hi,hb⟩;exact hf.own b ⟨i,o,c',(cY i hi).1,hb⟩
  ·intro i hi hl;obtain⟨h1,x,x',hx,dw,hk⟩:=hf.mL i hi (cY i hl).1;have jT:Live eE i:=hl;obtain⟨o,eX,tE⟩:=jT;refine⟨h1,x,o,hx,eX,?_⟩;rw[hU]at eX;split at eX
   ·simp at eX;exact absurd eX.symm tE
   ·rw[dw]at eX;simp only[dI.injEq]at eX;subst eX;exact hk
def fh.mono{P:Program}{f:FuncId}{args:List AV}{aa:List Ob}{jk PW:AV->List Ob->Prop}(h:fh P f args aa jk)(hp:∀ r os,jk r os->PW r os):fh P f args aa PW:=by
 refine⟨h.1,λγ jS jC=>Calls.mono (h.2 γ jS jC) ?_⟩;rintro e w'⟨res,bI,cv,aO,h0,h1⟩;exact⟨res,bI,cv,aO,hp _ _ h0,h1⟩
end Go.Am

