import Derived.WalkKit
import Derived.ProofKit
import Derived.OpenShut
import Derived.JoinedCond
import Derived.Carry
import Derived.Test.YtjadfapldkfbpaaGreatX08
set_option linter.all false
set_option maxHeartbeats 0
set_option maxRecDepth 20000
open List renaming getElem?_map→b6,getElem?_eq_getElem→bT,mem_iff_getElem→tq,mem_map→cC,getElem?_eq_some_iff→aY,getD_eq_getElem?_getD→aG
open Nat renaming zero_le→aF,lt_or_ge→fN
open Go.ChangeShapes Go.WideShapes Go.ChangeAt Go.RowKit
namespace Go.Am
variable {P:Program} {H:Type} {enc:TypeId×Value->H}
def nr(W:World):Nat->Prop:=λb=>b<W.heap.size
structure xA(W W':World):Prop where
 os:W'.os=W.os
 tape:W'.tape=W.tape
 output:W'.output=W.output
 size:W.heap.size<=W'.heap.size
 block:∀ b,b<W.heap.size->W'.heap[b]?=W.heap[b]?
def xA.below{W W':World}(h:xA W W'):Below W.heap.size W W':=⟨h.os,h.tape,h.output,h.size,h.block⟩
def KE(W:World):Prop:=∀ g cs,Hh.lookup g=some cs->g<W.heap.size/\∀ j x,cs[j]?=some x->W.cell? ⟨g,0+j,none⟩=some x
def KE.rel{W:World}(h:KE W){blk:ij}(g:Nat):aA [] W (nr W) blk (Ad g) (.pointer (some ⟨g,0,none⟩)):=by
 unfold Ad;cases hl:Hh.lookup g with
 |none=>exact .undef _
 |some cs =>
  obtain⟨h1,h2⟩:=h g cs hl;refine .bm _ g 0 (λj=>(cs[j]?).getD Go.undef) h1 (λj x hx=>?_) (λj x hx=>?_);all_goals
   rw[b6,Option.map_eq_some_iff]at hx;obtain⟨y,hy,rfl⟩:=hx;rw[hy]
  ·exact h2 j y hy
  ·exact .lit y
def P6(hl:laidOutB P=true){W W':World}(hq:xA W W'){sp:Nat->Bool}:∀ {ts:List TypeId} {vs:List Value} {ds:List (DataW H)} {ps:List MemPlace},(∀ t∈ts,P.readableRec t=true/\t<P.types.size) ->
  DataW.TrodAll enc P W 0 (λ_=>true) true ts vs ds ps->(∀ p∈ps,p.block<W.heap.size)->(∀ p∈ps,sp p.block=true)->DataW.TrodAll enc P W' 0 sp true ts vs ds ps
 |[],vs,ds,ps,_,h,_,_=>by
  cases vs<;>cases ds<;>first|exact h|exact h.elim
 |t::ts,[],ds,ps,_,h,_,_=>by cases ds<;>exact h.elim
 |t::ts,v::vs,[],ps,_,h,_,_=>h.elim
 |t::ts,v::vs,d::ds,ps,ht,⟨p,q,h1,h2,e⟩,bx,Ae=>by
  subst e;obtain⟨a,b⟩:=ht t G9;exact⟨p,q,WideElems.Trod_stays hl a b h1 (λx hx=>hq.below.same (bx x (by simp[hx]))) (λx hx=>Ae x (by simp[hx])),
   P6 hl hq (λt' kD=>ht t' (by simp[kD])) h2 (λx hx=>bx x (by simp[hx])) (λx hx=>Ae x (by simp[hx])),rfl⟩
def xA.keptBut{W W':World}(h:xA W W')(may:MemPlace->Prop):W.keptBut W' may:=by
 refine⟨h.os,h.output,λi hi=>?_⟩;rw[h.block i hi];cases W.heap[i]? with
 |none=>rfl
 |some o=>cases o with
  |cells c t fr=>exact⟨rfl,rfl,rfl,λ_ _=>rfl⟩
  |map es clock=>exact .inr ⟨rfl,rfl⟩
  |_=>rfl
def xA.frozen{W W':World}(h:xA W W')(a:Addr)(ha:a.block<W.heap.size):W'.frozen? a=W.frozen? a:=by
 simp[World.frozen?,h.block _ ha]
def anC{f:Func}{s:ChangeSpec}{apart fresh handsOn again:Bool}{W W':World}{args:Array Value}{ds gs:List (DataW H)}{before:List MemPlace}(hl:laidOutB P=true)(hW:DataW.Whole enc P f.params.toList s.vars apart W args.toList ds gs before)(hv:s.vars=[])(cq:(f.params.toList.all λt=>P.readableRec t&&decide (t<P.types.size))=true)(hq:xA W W'){t:TypeId}(hr:f.resultTypes = #[t])(hb:P.underlying t=some .bool)(jk:(s.fn H (ds++gs)).results=[.lit (.bool true)])(jS:(s.fn H (ds++gs)).args=ds)(hs3:(s.fn H (ds++gs)).vars=[]):
  s.post enc P f apart fresh handsOn again W args (.bool true) W':=by
 have bx:=hW.lt;have P7:=hW;obtain⟨p,q,hA,hV,rfl,mj,b7⟩:=hW;rw[hv]at hV;obtain⟨rfl,rfl⟩:=trodVars_none hV;rw[List.append_nil]at bx mj b7 P7;have aj:∀ (b:Nat) (sp:Nat->Bool) (hd:Bool),DataW.TrodAll enc P W' b sp hd f.resultTypes.toList ((Value.bool true).resultList f.resultTypes.size) [.lit (.bool true)] []:=λb sp hd=>by
  rw[hr];exact trodAll_mk1 (shut_bool hb true)
 have oQ:∀ sp:Nat->Bool,(∀ x∈p,sp x.block=true)->DataW.TrodAll enc P W' 0 sp true f.params.toList args.toList ds p:=λsp Ae =>
  P6 hl hq (λt ht=>by have:=List.all_eq_true.1 cq t ht;simpa using this) hA (λx hx=>bx x hx) Ae
 have hold:∀ x∈p,(λb=>decide (b<W.heap.size)) x.block=true:=λx hx=>by simpa using bx x hx
 refine⟨ds,[],p,[],p,[],P7,?_,?_,?_,hq.keptBut _,λ_=>⟨?_,?_⟩⟩
 ·rw[jk];exact aj _ _ _
 ·rw[jS];exact oQ _ hold
 ·rw[hs3,hv];exact rfl
 ·intro j t' r hj uL;rw[hr]at hj uL
  match j,hj,uL with
  |0,hj,uL =>
   simp[Value.resultList]at hj uL;subst hj;subst uL;exact okWide_bool_mk hb true
 ·refine⟨.lit (.bool true)::ds,[],p,⟨[]++p,[],trodAll_append (oQ _ (λ_ _=>rfl)) (aj _ _ _),by rw[hv];exact rfl,G9,?_,?_⟩,λx hx _=>hx⟩
  ·intro b off hp;rw[hq.frozen _ (bx _ hp)];exact mj b off hp
  ·exact b7
def P8{α:Type}(ea:α->List AV)(R:α->Prop){W:World}{sp:Nat->Bool}{base:Nat}{t e:TypeId}(ht:P.underlying t=some (.slice e))(sz:Nat)(hc:P.cellsOf e=sz)(bg:0<sz)(ady:∀ fuel cs x,DataW.trod enc P W base sp true fuel e cs=some x->cs.length=sz->∃ a,R a/\(ea a).length=sz/\∀ (c:Nat) y,(ea a)[c]?=some y->gk W (nr W) y (cs.getD c Go.undef)){fuel:Nat}{cs:List Value}{x:DataW H×List MemPlace}(h:DataW.trod enc P W base sp true fuel t cs=some x):
  ∃ (as:List α) (v:Value),cs=[v]/\(∀ a∈as,R a)/\as.length<=maxLen/\gk W (nr W) (.tree sz (as.map ea)) v:=by
 rcases DataW.trod_slice ht h with⟨rfl,_⟩|⟨a,len,cap,elems,rest,n,_,rfl,_,hb,ld,hm,hlen,ar,_,_⟩
 ·exact⟨[],_,rfl,G9,aF _,.nil _ _ _⟩
 ·have key:∀ i:Fin len,∃ (a1:α) (ci:List Value),R a1/\(ea a1).length=sz/\ci.length=sz/\(∀ j,j<sz->W.cell? ((a.add (i*sz)).add j)=ci[j]?)/\∀ (c:Nat) y,(ea a1)[c]?=some y->gk W (nr W) y (ci.getD c Go.undef):=by
   intro i;have hi:=ar i i.2;rw[hc,bT (by rw[hlen];exact i.2)]at hi;cases gZ:W.cells? base (a.add (↑i*sz)) sz with
   |none=>rw[gZ]at hi;simp at hi
   |some ci =>
    rw[gZ]at hi;obtain⟨_,bY,aM⟩:=World.cells?_some gZ;obtain⟨a1,h1,h2,h3⟩:=ady n ci _ hi bY;exact⟨a1,ci,h1,h2,bY,aM,h3⟩
  by_cases h0:len=0
  ·subst h0;exact⟨[],_,rfl,G9,aF _,.nil _ _ _⟩
  ·obtain⟨b,off,spot⟩:=a;have adz:spot=none/\b<W.heap.size:=by
    obtain⟨a1,ci,_,_,h3,h4,_⟩:=key ⟨0,G3⟩;have:=h4 0 bg;rw[bT G3]at this;have e:(Addr.add (Addr.add ⟨b,off,spot⟩ (0*sz)) 0)=⟨b,off,spot⟩:=by simp[Addr.add]
    rw[e]at this;refine⟨World.cell?_spot this,?_⟩;simp only[World.cell?]at this;rcases fN b W.heap.size with h|h
    ·exact h
    ·simp[Array.getElem?_eq_none h]at this
   obtain⟨rfl,KF⟩:=adz
   let as:List α:=List.ofFn λi:Fin len=>(key i).choose
   have B1:as.length=len:=by simp[as]
   have Hi:∀ r,(hr:r<len)->∃ ci:List Value,R (as[r]'(by rw[B1];exact hr))/\(ea (as[r]'(by rw[B1];exact hr))).length=sz/\ci.length=sz/\(∀ j,j<sz->W.cell? ⟨b,off+(r*sz+j),none⟩=ci[j]?)/\∀ (c:Nat) y,(ea (as[r]'(by rw[B1];exact hr)))[c]?=some y->gk W (nr W) y (ci.getD c Go.undef):=by
    intro r hr;have e:as[r]'(by rw[B1];exact hr)=(key ⟨r,hr⟩).choose:=by simp[as]
    obtain⟨ci,h1,h2,h3,h4,h5⟩:=(key ⟨r,hr⟩).choose_spec;refine⟨ci,by rw[e];exact h1,by rw[e];exact h2,h3,λj hj=>?_,by rw[e];exact h5⟩;have:=h4 j hj;rw[add_plain,add_plain]at this;rw[<- this];congr 2;show off+(r*sz+j)=off+r*sz+j;omega
   have tx:∀ r c y,cellAt (as.map ea) r c=some y->∃ hr:r<as.length,(ea as[r])[c]?=some y:=by
    intro r c y hy;simp only[cellAt,b6]at hy;rcases fN r as.length with hr|hr
    ·rw[bT hr]at hy;exact⟨hr,by simpa using hy⟩
    ·rw[List.getElem?_eq_none hr]at hy;simp at hy
   refine⟨as,_,rfl,?_,G3,?_⟩
   ·intro a1 ha;obtain⟨r,hr,rfl⟩:=tq.1 ha;exact(Hi r G3).choose_spec.1
   ·have e:(.slice (some ⟨b,off,none⟩) len cap:Value)=.slice (some ⟨b,off,none⟩) (as.map ea).length cap:=by simp[B1]
    rw[e];refine .tree sz _ b off cap (λr c=>(W.cell? ⟨b,off+(r*sz+c),none⟩).getD Go.undef) KF ?_ (by simp[B1];omega) ?_ ?_
    ·intro row bj;simp only[cC]at bj;obtain⟨a1,ha,rfl⟩:=bj;obtain⟨r,hr,rfl⟩:=tq.1 ha;exact(Hi r G3).choose_spec.2.1
    ·intro r c y hy;obtain⟨hr,hy⟩:=tx r c y hy;obtain⟨ci,h1,h2,h3,h4,h5⟩:=Hi r G3;have gZ:c<sz:=by rw[<- h2];exact(aY.1 hy).1
     rw[h4 c gZ,bT G3];rfl
    ·intro r c y hy;obtain⟨hr,hy⟩:=tx r c y hy;obtain⟨ci,h1,h2,h3,h4,h5⟩:=Hi r G3;have gZ:c<sz:=by rw[<- h2];exact(aY.1 hy).1
     rw[h4 c gZ,<- aG];exact h5 c y hy
def wf_i64{n:Int}(h:(Lit.int .i64 n).wf=true): -9223372036854775808<=n/\n<=9223372036854775807:=by
 simp only[Lit.wf,Bool.and_eq_true,decide_eq_true_eq]at h;exact h
section
variable {W:World} {sp:Nat->Bool} {base:Nat} {fuel:Nat} {cs:List Value} {x:DataW H×List MemPlace}
def Hj(n:Int):Prop:=-9223372036854775808<=n/\n<=9223372036854775807
def anD{t e:TypeId}(ht:P.underlying t=some (.slice e))(he:P.underlying e=some (.int .i64))(hc:P.cellsOf e=1)(h:DataW.trod enc P W base sp true fuel t cs=some x):
  ∃ (xs:List Int) (v:Value),cs=[v]/\(∀ n∈xs,Hj n)/\xs.length<=maxLen/\gk W (nr W) (.tree 1 (ints xs)) v:=by
 refine P8 (λn=>[AV.lit (.int .i64 n)]) Hj ht 1 hc Kq (λfuel cs x h hl=>?_) h;obtain⟨n,rfl,_,hw⟩:=DataW.trod_int he h;refine⟨n,wf_i64 hw,rfl,λc y hy=>?_⟩
 match c,hy with
 |0,hy=>simp at hy;subst hy;exact .lit _
end
def Trod.slice{W:World}{sp:Nat->Bool}{t e:TypeId}{r:Reach}{b0:Nat}{v:Value}{d:DataW H}{ps:List MemPlace}(ht:P.underlying t=some (.slice e))(hval:Value.okWide P W r b0 t v)(h:DataW.Trod enc P W 0 sp true t v d ps):
  ∃ fuel,DataW.trod enc P W 0 sp true fuel t [v]=some (d,ps):=by
 obtain⟨a,l,c,rfl⟩:=okWide_slice ht hval;obtain⟨fuel,hf⟩:=h;exact⟨fuel,by simpa [Value.cells] using hf⟩
end Go.Am
namespace Go.Am
variable {P:Program} {H:Type} {enc:TypeId×Value->H} {W:World} {sp:Nat->Bool} {base:Nat}
def yP(W:World)(cells:List AV)(cs:List Value):Prop:=cells.length=cs.length/\∀ (c:Nat) y,cells[c]?=some y->gk W (nr W) y (cs.getD c Go.undef)
def Reads(P:Program)(enc:TypeId×Value->H)(W:World)(base:Nat)(sp:Nat->Bool){α:Type}(t:TypeId)(ea:α->List AV)(R:α->Prop):Prop :=
 ∀ fuel cs x,DataW.trod enc P W base sp true fuel t cs=some x->∃ a,R a/\yP W (ea a) cs
def DZ{t:TypeId}(ht:P.underlying t=some (.int .i64)):Reads P enc W base sp t (λn:Int=>[aaa n]) Hj:=by
 intro fuel cs x h;obtain⟨n,rfl,_,hw⟩:=DataW.trod_int ht h;refine⟨n,wf_i64 hw,rfl,λc y hy=>?_⟩
 match c,hy with
 |0,hy=>simp at hy;subst hy;exact .lit _
def KG{α:Type}{ea:α->List AV}{R:α->Prop}{t e:TypeId}{sz:Nat}(ht:P.underlying t=some (.slice e))(hc:P.cellsOf e=sz)(bg:0<sz)(tz:∀ a,(ea a).length=sz)(he:Reads P enc W base sp e ea R):
  Reads P enc W base sp t (λl:List α=>[.tree sz (l.map ea)]) (λl=>(∀ a∈l,R a)/\l.length<=maxLen):=by
 intro fuel cs x h;obtain⟨as,v,rfl,h1,h2,h3⟩:=P8 ea R ht sz hc bg (λfuel cs x h hl=>by
  obtain⟨a,h1,h2,h3⟩:=he fuel cs x h;exact⟨a,h1,tz a,h3⟩) h
 refine⟨as,⟨h1,h2⟩,rfl,λc y hy=>?_⟩
 match c,hy with
 |0,hy=>simp at hy;subst hy;exact h3
def D0{t:TypeId}{T:Ty}(KH:ty P t=T)(hk:T.kind=3){fuel:Nat}{cs:List Value}{x:DataW H×List MemPlace}(h:DataW.trod enc P W base sp true fuel t cs=some x):
  cs.length=T.size/\∃ n,∀ f∈T.a5,∃ y,DataW.trod enc P W base sp true n f.2.1 ((cs.drop f.1).take f.2.2)=some y:=by
 have aL:(ty P t).kind=3:=by rw[KH];exact hk
 obtain⟨fs,h1,h2⟩:=D1 aL;obtain⟨i,d,hi,hd,bg,_⟩:=tA (P:=P) (t:=t) (by rw[aL];decide);obtain⟨xs,n,rfl,_,hl,hx,hf⟩:=DataW.trod_struct h1 h;refine⟨?_,n,λf bJ=>?_⟩
 ·rw[hl,<- KH,bg];simp[Program.cellsOf,hi]
 ·rw[<- KH,h2]at bJ;obtain⟨g,hg,rfl⟩:=cC.1 bJ;obtain⟨j,hj,rfl⟩:=tq.1 hg;have dx:j<fs.size:=by simpa using hj
  have:=hf j fs.toList[j] (by simp[dx]);have dj:j<xs.length:=G3;rw[bT dj]at this;refine⟨xs[j],?_⟩;rw[<- this];congr 2;simp only[vZ,Program.cellsOf];cases P.info? (fs.toList[j]).type<;>rfl
end Go.Am
namespace Go.Am
variable {P:Program} {H:Type} {enc:TypeId×Value->H} {W:World} {sp:Nat->Bool} {base:Nat}
def adA(W:World)(v:AV)(cv:Value):Prop:=gk W (nr W) v cv\/∃ cs bz,v=.agg cs/\cv=.agg bz/\yP W cs bz.toList
theorem anE{f:FuncId}{B2:List AV}{W:World}{args:Array Value}{r:Value}(h:an P f B2 [] (.lit r) [])(hl:args.size=B2.length)(ht:∀ (j:Nat) v,B2[j]?=some v->adA W v (args.getD j Go.undef))(hg:KE W:=by intro _ _ h;cases h):
  Calls P f args W fun e W'=>e=.returned r/\xA W W':=by
 let γ:Cx:={ w:=W,tmps:=args,Z:=nr W,blk:=fun _=>none }
 have hs:bC ⟨fun k=>B2.getD k .undef,[]⟩ γ:=by
  refine⟨fun k=>?_,fun i o ho=>by simp at ho,fun i j b o c o' c' hi=>?_,fun b ⟨i,o,c,hi,_⟩=>?_,fun b hb=>hb,fun g=>hg.rel g⟩
  ·show aA [] W (nr W) _ (B2.getD k .undef) (args.getD k Go.undef);cases hk:B2[k]? with
   |none=>rw[List.getD_eq_getElem?_getD,hk];exact .undef _
   |some v =>
    rw[List.getD_eq_getElem?_getD,hk];rcases ht k v hk with h1|⟨cs,bz,rfl,h2,h3,h4⟩
    ·exact .cp _ _ h1
    ·rw[h2];refine .agg _ _ (by simpa using h3.symm) (fun j x hx=>.cp _ _ ?_);have:=h4 j x hx;simpa [Array.getD_eq_getD_getElem?,List.getD_eq_getElem?_getD] using this
  ·obtain⟨o,ho,_⟩:=hi;simp at ho
  ·obtain⟨o,ho,_⟩:=hi;simp at ho
 refine(h.2 γ hl hs).mono ?_;rintro e w'⟨cv,aP,rfl,rfl,yQ,iB,hf⟩;have h0:=iB.au 0;rw[yQ]at h0;have e0:cv=r:=by
  have:=h0.dm;simpa using this
 subst e0;refine⟨rfl,hf.nt,hf.tape,hf.output,hf.size,fun b hb=>hf.aH b hb (fun ⟨i,o,c,hi,_⟩=>?_)⟩;obtain⟨o,ho,_⟩:=hi;simp at ho
def Trod.adB{W:World}{sp:Nat->Bool}{t:TypeId}{fs:Array Field}{r:Reach}{b0:Nat}{v:Value}{d:DataW H}{ps:List MemPlace}(ht:P.underlying t=some (.struct fs))(hval:Value.okWide P W r b0 t v)(h:DataW.Trod enc P W 0 sp true t v d ps):
  ∃ cs fuel,v=.agg cs/\DataW.trod enc P W 0 sp true fuel t cs.toList=some (d,ps):=by
 obtain⟨cs,rfl,_⟩:=okWide_struct ht hval;obtain⟨fuel,hf⟩:=h;exact⟨cs,fuel,rfl,by simpa [Value.cells] using hf⟩
def Trod.anF{W:World}{sp:Nat->Bool}{t:TypeId}{r:Reach}{b0:Nat}{v:Value}{d:DataW H}{ps:List MemPlace}(ht:(ty P t).kind=3)(hval:Value.okWide P W r b0 t v)(h:DataW.Trod enc P W 0 sp true t v d ps):
  ∃ cs fuel,v=.agg cs/\DataW.trod enc P W 0 sp true fuel t cs.toList=some (d,ps):=by
 obtain⟨fs,h1,_⟩:=D1 ht;exact Trod.adB h1 hval h
def yP.cell{cells:List AV}{cs:List Value}{o n j:Nat}{v:AV}(h:yP W cells ((cs.drop o).take n))(hv:cells[j]?=some v):gk W (nr W) v (cs.getD (o+j) Go.undef):=by
 have h2:=h.2 j v hv;have hl:j<((cs.drop o).take n).length:=by rw[<- h.1];exact(aY.1 hv).1
 have hn:j<n:=by simp at hl;omega
 rwa [aG,List.getElem?_take_of_lt hn,List.getElem?_drop,<- aG]at h2
def yP.mk4{cs:List Value}{a b c d:AV}(hl:cs.length=4)(h0:gk W (nr W) a (cs.getD 0 Go.undef))(h1:gk W (nr W) b (cs.getD 1 Go.undef))(h2:gk W (nr W) c (cs.getD 2 Go.undef))(h3:gk W (nr W) d (cs.getD 3 Go.undef)):yP W [a,b,c,d] cs :=
 ⟨by simp[hl],λj y hy=>by
  match j,hy with
  |0,hy=>simp at hy;subst hy;exact h0
  |1,hy=>simp at hy;subst hy;exact h1
  |2,hy=>simp at hy;subst hy;exact h2
  |3,hy=>simp at hy;subst hy;exact h3⟩
def yP.mk2{cs:List Value}{a b:AV}(hl:cs.length=2)(h0:gk W (nr W) a (cs.getD 0 Go.undef))(h1:gk W (nr W) b (cs.getD 1 Go.undef)):yP W [a,b] cs :=
 ⟨by simp[hl],λj y hy=>by
  match j,hy with
  |0,hy=>simp at hy;subst hy;exact h0
  |1,hy=>simp at hy;subst hy;exact h1⟩
end Go.Am

