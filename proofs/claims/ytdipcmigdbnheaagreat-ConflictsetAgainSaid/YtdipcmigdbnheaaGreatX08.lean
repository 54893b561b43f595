import Derived.WalkKit
import Derived.ProofKit
import Derived.OpenShut
import Derived.JoinedCond
import Derived.Carry
import Derived.Test.YtdipcmigdbnheaaGreatX07
set_option linter.all false
set_option maxHeartbeats 0
set_option maxRecDepth 20000
open Nat renaming zero_le→aQ,lt_or_ge→eh
open List renaming getElem?_eq_getElem→bT,mem_iff_getElem→rJ,getElem?_eq_some_iff→aM,getD_eq_getElem?_getD→aA
open Option renaming some→cT
open Go.ChangeShapes Go.WideShapes Go.ChangeAt Go.RowKit
namespace Go.Am
variable {P:Program} {H:Type} {enc:TypeId×Value->H}
def rU(W:World):Nat->Prop:=λb=>b<W.heap.size
structure s5(W W':World):Prop where
 os:W'.os=W.os
 tape:W'.tape=W.tape
 output:W'.output=W.output
 size:W.heap.size<=W'.heap.size
 block:∀ b,b<W.heap.size->W'.heap[b]?=W.heap[b]?
def s5.below{W W':World}(h:s5 W W'):Below W.heap.size W W':=⟨h.os,h.tape,h.output,h.size,h.block⟩
def Jo(hl:laidOutB P=true){W W':World}(hq:s5 W W'){sp:Nat->Bool}:∀ {ts:List TypeId} {vs:List Value} {ds:List (DataW H)} {ps:List MemPlace},(∀ t∈ts,P.readableRec t=true/\t<P.types.size) ->
  DataW.TrodAll enc P W 0 (λ_=>true) true ts vs ds ps->(∀ p∈ps,p.block<W.heap.size)->(∀ p∈ps,sp p.block=true)->DataW.TrodAll enc P W' 0 sp true ts vs ds ps
 |[],vs,ds,ps,_,h,_,_=>by
  cases vs<;>cases ds<;>first|exact h|exact h.elim
 |t::ts,[],ds,ps,_,h,_,_=>by cases ds<;>exact h.elim
 |t::ts,v::vs,[],ps,_,h,_,_=>h.elim
 |t::ts,v::vs,d::ds,ps,ht,⟨p,q,h1,h2,e⟩,bq,vP=>by
  subst e;obtain⟨a,b⟩:=ht t Jd;exact⟨p,q,WideElems.Trod_stays hl a b h1 (λx hx=>hq.below.same (bq x (by simp[hx]))) (λx hx=>vP x (by simp[hx])),
   Jo hl hq (λt' jK=>ht t' (by simp[jK])) h2 (λx hx=>bq x (by simp[hx])) (λx hx=>vP x (by simp[hx])),rfl⟩
def s5.keptBut{W W':World}(h:s5 W W')(may:MemPlace->Prop):W.keptBut W' may:=by
 refine⟨h.os,h.output,λi hi=>?_⟩;rw[h.block i hi];cases W.heap[i]? with
 |none=>rfl
 |some o=>cases o with
  |cells c t fr=>exact⟨rfl,rfl,rfl,λ_ _=>rfl⟩
  |map es clock=>exact .inr ⟨rfl,rfl⟩
  |_=>rfl
def s5.frozen{W W':World}(h:s5 W W')(a:Addr)(ha:a.block<W.heap.size):W'.frozen? a=W.frozen? a:=by
 simp[World.frozen?,h.block _ ha]
def aeB{f:Func}{s:ChangeSpec}{apart fresh handsOn again:Bool}{W W':World}{args:Array Value}{ds gs:List (DataW H)}{before:List MemPlace}(hl:laidOutB P=true)(hW:DataW.Whole enc P f.params.toList s.vars apart W args.toList ds gs before)(hv:s.vars=[])(ey:(f.params.toList.all λt=>P.readableRec t&&decide (t<P.types.size))=true)(hq:s5 W W'){t:TypeId}(hr:f.resultTypes = #[t])(hb:P.underlying t=some .bool)(kf:(s.fn H (ds++gs)).results=[.lit (.bool true)])(jc:(s.fn H (ds++gs)).args=ds)(VQ:(s.fn H (ds++gs)).vars=[]):
  s.post enc P f apart fresh handsOn again W args (.bool true) W':=by
 have bq:=hW.lt;have Jp:=hW;obtain⟨p,q,hA,hV,rfl,kh,cu⟩:=hW;rw[hv]at hV;obtain⟨rfl,rfl⟩:=trodVars_none hV;rw[List.append_nil]at bq kh cu Jp;have ao:∀ (b:Nat) (sp:Nat->Bool) (hd:Bool),DataW.TrodAll enc P W' b sp hd f.resultTypes.toList ((Value.bool true).resultList f.resultTypes.size) [.lit (.bool true)] []:=λb sp hd=>by
  rw[hr];exact trodAll_mk1 (shut_bool hb true)
 have lZ:∀ sp:Nat->Bool,(∀ x∈p,sp x.block=true)->DataW.TrodAll enc P W' 0 sp true f.params.toList args.toList ds p:=λsp vP =>
  Jo hl hq (λt ht=>by have:=List.all_eq_true.1 ey t ht;simpa using this) hA (λx hx=>bq x hx) vP
 have hold:∀ x∈p,(λb=>decide (b<W.heap.size)) x.block=true:=λx hx=>by simpa using bq x hx
 refine⟨ds,[],p,[],p,[],Jp,?_,?_,?_,hq.keptBut _,λ_=>⟨?_,?_⟩⟩
 ·rw[kf];exact ao _ _ _
 ·rw[jc];exact lZ _ hold
 ·rw[VQ,hv];exact rfl
 ·intro j t' r hj qz;rw[hr]at hj qz
  match j,hj,qz with
  |0,hj,qz =>
   simp[Value.resultList]at hj qz;subst hj;subst qz;exact okWide_bool_mk hb true
 ·refine⟨.lit (.bool true)::ds,[],p,⟨[]++p,[],trodAll_append (lZ _ (λ_ _=>rfl)) (ao _ _ _),by rw[hv];exact rfl,Jd,?_,?_⟩,λx hx _=>hx⟩
  ·intro b off hp;rw[hq.frozen _ (bq _ hp)];exact kh b off hp
  ·exact cu
def VR{α:Type}(ea:α->List AV)(R:α->Prop){W:World}{sp:Nat->Bool}{base:Nat}{t e:TypeId}(ht:P.underlying t=some (.slice e))(sz:Nat)(hc:P.cellsOf e=sz)(a6:0<sz)(VS:∀ fuel cs x,DataW.trod enc P W base sp true fuel e cs=some x->cs.length=sz->∃ a,R a/\(ea a).length=sz/\∀ (c:Nat) y,(ea a)[c]?=some y->gj W (rU W) y (cs.getD c Go.undef)){fuel:Nat}{cs:List Value}{x:DataW H×List MemPlace}(h:DataW.trod enc P W base sp true fuel t cs=some x):
  ∃ (as:List α) (v:Value),cs=[v]/\(∀ a∈as,R a)/\as.length<=maxLen/\gj W (rU W) (.tree sz (as.map ea)) v:=by
 rcases DataW.trod_slice ht h with⟨rfl,_⟩|⟨a,len,cap,elems,rest,n,_,rfl,_,hb,kI,hm,hlen,au,_,_⟩
 ·exact⟨[],_,rfl,Jd,aQ _,.nil _ _ _⟩
 ·have key:∀ i:Fin len,∃ (a1:α) (ci:List Value),R a1/\(ea a1).length=sz/\ci.length=sz/\(∀ j,j<sz->W.cell? ((a.add (i*sz)).add j)=ci[j]?)/\∀ (c:Nat) y,(ea a1)[c]?=some y->gj W (rU W) y (ci.getD c Go.undef):=by
   intro i;have hi:=au i i.2;rw[hc,bT (by rw[hlen];exact i.2)]at hi;cases jX:W.cells? base (a.add (↑i*sz)) sz with
   |none=>rw[jX]at hi;simp at hi
   |some ci =>
    rw[jX]at hi;obtain⟨_,cy,bb⟩:=World.cells?_some jX;obtain⟨a1,h1,h2,h3⟩:=VS n ci _ hi cy;exact⟨a1,ci,h1,h2,cy,bb,h3⟩
  by_cases h0:len=0
  ·subst h0;exact⟨[],_,rfl,Jd,aQ _,.nil _ _ _⟩
  ·obtain⟨b,off,spot⟩:=a;have VT:spot=none/\b<W.heap.size:=by
    obtain⟨a1,ci,_,_,h3,h4,_⟩:=key ⟨0,I6⟩;have:=h4 0 a6;rw[bT I6]at this;have e:(Addr.add (Addr.add ⟨b,off,spot⟩ (0*sz)) 0)=⟨b,off,spot⟩:=by simp[Addr.add]
    rw[e]at this;refine⟨World.cell?_spot this,?_⟩;simp only[World.cell?]at this;rcases eh b W.heap.size with h|h
    ·exact h
    ·simp[Array.getElem?_eq_none h]at this
   obtain⟨rfl,EY⟩:=VT
   let as:List α:=List.ofFn λi:Fin len=>(key i).choose
   have xw:as.length=len:=by simp[as]
   have BJ:∀ r,(hr:r<len)->∃ ci:List Value,R (as[r]'(by rw[xw];exact hr))/\(ea (as[r]'(by rw[xw];exact hr))).length=sz/\ci.length=sz/\(∀ j,j<sz->W.cell? ⟨b,off+(r*sz+j),none⟩=ci[j]?)/\∀ (c:Nat) y,(ea (as[r]'(by rw[xw];exact hr)))[c]?=some y->gj W (rU W) y (ci.getD c Go.undef):=by
    intro r hr;have e:as[r]'(by rw[xw];exact hr)=(key ⟨r,hr⟩).choose:=by simp[as]
    obtain⟨ci,h1,h2,h3,h4,h5⟩:=(key ⟨r,hr⟩).choose_spec;refine⟨ci,by rw[e];exact h1,by rw[e];exact h2,h3,λj hj=>?_,by rw[e];exact h5⟩;have:=h4 j hj;rw[add_plain,add_plain]at this;rw[<- this];congr 2;show off+(r*sz+j)=off+r*sz+j;omega
   have m6:∀ r c y,cellAt (as.map ea) r c=some y->∃ hr:r<as.length,(ea as[r])[c]?=some y:=by
    intro r c y hy;simp only[cellAt,List.getElem?_map]at hy;rcases eh r as.length with hr|hr
    ·rw[bT hr]at hy;exact⟨hr,by simpa using hy⟩
    ·rw[List.getElem?_eq_none hr]at hy;simp at hy
   refine⟨as,_,rfl,?_,I6,?_⟩
   ·intro a1 ha;obtain⟨r,hr,rfl⟩:=rJ.1 ha;exact(BJ r I6).choose_spec.1
   ·have e:(.slice (some ⟨b,off,none⟩) len cap:Value)=.slice (some ⟨b,off,none⟩) (as.map ea).length cap:=by simp[xw]
    rw[e];refine .tree sz _ b off cap (λr c=>(W.cell? ⟨b,off+(r*sz+c),none⟩).getD Go.undef) EY ?_ (by simp[xw];omega) ?_ ?_
    ·intro row aZ;simp only[List.mem_map]at aZ;obtain⟨a1,ha,rfl⟩:=aZ;obtain⟨r,hr,rfl⟩:=rJ.1 ha;exact(BJ r I6).choose_spec.2.1
    ·intro r c y hy;obtain⟨hr,hy⟩:=m6 r c y hy;obtain⟨ci,h1,h2,h3,h4,h5⟩:=BJ r I6;have jX:c<sz:=by rw[<- h2];exact(aM.1 hy).1
     rw[h4 c jX,bT I6];rfl
    ·intro r c y hy;obtain⟨hr,hy⟩:=m6 r c y hy;obtain⟨ci,h1,h2,h3,h4,h5⟩:=BJ r I6;have jX:c<sz:=by rw[<- h2];exact(aM.1 hy).1
     rw[h4 c jX,<- aA];exact h5 c y hy
def wf_i64{n:Int}(h:(Lit.int .i64 n).wf=true): -9223372036854775808<=n/\n<=9223372036854775807:=by
 simp only[Lit.wf,Bool.and_eq_true,decide_eq_true_eq]at h;exact h
section
variable {W:World} {sp:Nat->Bool} {base:Nat} {fuel:Nat} {cs:List Value} {x:DataW H×List MemPlace}
def Jq(n:Int):Prop:=-9223372036854775808<=n/\n<=9223372036854775807
def aeC{t e:TypeId}(ht:P.underlying t=some (.slice e))(he:P.underlying e=some (.int .i64))(hc:P.cellsOf e=1)(h:DataW.trod enc P W base sp true fuel t cs=some x):
  ∃ (xs:List Int) (v:Value),cs=[v]/\(∀ n∈xs,Jq n)/\xs.length<=maxLen/\gj W (rU W) (.tree 1 (ints xs)) v:=by
 refine VR (λn=>[AV.lit (.int .i64 n)]) Jq ht 1 hc aab (λfuel cs x h hl=>?_) h;obtain⟨n,rfl,_,hw⟩:=DataW.trod_int he h;refine⟨n,wf_i64 hw,rfl,λc y hy=>?_⟩
 match c,hy with
 |0,hy=>simp at hy;subst hy;exact .lit _
end
def Trod.slice{W:World}{sp:Nat->Bool}{t e:TypeId}{r:Reach}{b0:Nat}{v:Value}{d:DataW H}{ps:List MemPlace}(ht:P.underlying t=some (.slice e))(hval:Value.okWide P W r b0 t v)(h:DataW.Trod enc P W 0 sp true t v d ps):
  ∃ fuel,DataW.trod enc P W 0 sp true fuel t [v]=some (d,ps):=by
 obtain⟨a,l,c,rfl⟩:=okWide_slice ht hval;obtain⟨fuel,hf⟩:=h;exact⟨fuel,by simpa [Value.cells] using hf⟩
end Go.Am
namespace Go.Am
variable {P:Program} {H:Type} {enc:TypeId×Value->H} {W:World} {sp:Nat->Bool} {base:Nat}
def EZ(W:World)(cells:List AV)(cs:List Value):Prop:=cells.length=cs.length/\∀ (c:Nat) y,cells[c]?=some y->gj W (rU W) y (cs.getD c Go.undef)
end Go.Am
namespace Go.Am
variable {P:Program} {H:Type} {enc:TypeId×Value->H} {W:World} {sp:Nat->Bool} {base:Nat}
def VU(W:World)(v:AV)(cv:Value):Prop:=gj W (rU W) v cv\/∃ cs a7,v=.agg cs/\cv=.agg a7/\EZ W cs a7.toList
def aeD{f:FuncId}{xy:List AV}{W:World}{args:Array Value}{r:Value}(h:an P f xy [] (.lit r) [])(hl:args.size=xy.length)(ht:∀ (j:Nat) v,xy[j]?=some v->VU W v (args.getD j Go.undef)):
  Calls P f args W λe W'=>e=.returned r/\s5 W W':=by
 let γ:Cx:={ w:=W,tmps:=args,Z:=rU W,blk:=λ_=>none }
 have hs:bk ⟨λk=>xy.getD k .undef,[]⟩ γ:=by
  refine⟨λk=>?_,λi o ho=>by simp at ho,λi j b o c o' c' hi=>?_,λb ⟨i,o,c,hi,_⟩=>?_,λb hb=>hb⟩
  ·show az [] W (rU W) _ (xy.getD k .undef) (args.getD k Go.undef);cases hk:xy[k]? with
   |none=>rw[aA,hk];exact .undef _
   |some v =>
    rw[aA,hk];rcases ht k v hk with h1|⟨cs,a7,rfl,h2,h3,h4⟩
    ·exact .bS _ _ h1
    ·rw[h2];refine .agg _ _ (by simpa using h3.symm) (λj x hx=>.bS _ _ ?_);have:=h4 j x hx;simpa [Array.getD_eq_getD_getElem?,aA] using this
  ·obtain⟨o,ho,_⟩:=hi;simp at ho
  ·obtain⟨o,ho,_⟩:=hi;simp at ho
 refine(h.2 γ hl hs).mono ?_;rintro e w'⟨cv,aD,rfl,rfl,ur,iu,hf⟩;have h0:=iu.ax 0;rw[ur]at h0;have e0:cv=r:=by
  have:=h0.cH;simpa using this
 subst e0;refine⟨rfl,hf.lB,hf.tape,hf.output,hf.size,λb hb=>hf.aw b hb (λ⟨i,o,c,hi,_⟩=>?_)⟩;obtain⟨o,ho,_⟩:=hi;simp at ho
def EZ.cell{cells:List AV}{cs:List Value}{o n j:Nat}{v:AV}(h:EZ W cells ((cs.drop o).take n))(hv:cells[j]?=some v):gj W (rU W) v (cs.getD (o+j) Go.undef):=by
 have h2:=h.2 j v hv;have hl:j<((cs.drop o).take n).length:=by rw[<- h.1];exact(aM.1 hv).1
 have hn:j<n:=by simp at hl;omega
 rwa [aA,List.getElem?_take_of_lt hn,List.getElem?_drop,<- aA]at h2
end Go.Am
namespace Go.Am
variable {P:Program} {N n0:Nat} {σ:St}
def aB.Jr(d id sz:Nat){rows:List (List AV)}(ho:σ.aa[id]?=some (.arr sz rows))(hd:σ.env d=.ref id sz 0 rows.length)(hw:∀ row∈rows,row.length=sz)(kh:∀ row∈rows,∀ v∈row,(∃ x,v=.lit x)\/∃ s r,v=.tree s r):aB n0 σ ⟨iv σ.env d (.tree sz rows),σ.aa.set id .gone⟩:=by
 intro os γ0 γ _ hs hf;have vQ:id<σ.aa.length:=(aM.1 ho).1
 let aD:Cx:={ γ with Z:=λb=>γ.Z b\/∃ o cap,γ.blk id=some (b,o,cap) }
 let dD:=σ.aa.set id .gone
 have fD:∀ i,dD[i]?=if i=id then some .gone else σ.aa[i]?:=by
  intro i;show(σ.aa.set id _)[i]?=_;rw[List.getElem?_set];by_cases h1:i=id
  ·subst h1;simp[vQ]
  ·simp[Ne.symm h1,h1]
 have hR:∀ v cv,az σ.aa γ.w γ.Z γ.blk v cv->az dD aD.w aD.Z aD.blk v cv:=λv cv hv =>
  hv.mono (λb hb=>⟨.inl hb,rfl⟩) (λi o hi=>by
   rw[fD];by_cases h1:i=id
   ·left;rw[if_pos h1]
   ·rw[if_neg h1];by_cases hg:o=.gone
    ·subst hg;exact .inl hi
    ·exact .inr ⟨rfl,o,hi,Ob.jz hg⟩)
 have cp:∀ i,Live dD i->Live σ.aa i/\i≠id:=by
  rintro i⟨o,hi,hg⟩;rw[fD]at hi;split at hi
  ·simp at hi;exact absurd hi.symm hg
  ·rename_i h2;exact⟨⟨o,hi,hg⟩,h2⟩
 have m7:Live σ.aa id:=⟨_,ho,Jd⟩;have rV:=hs.ax d;rw[hd]at rV;have jd:az dD aD.w aD.Z aD.blk (.tree sz rows) (γ.tmps.getD d Go.undef):=by
  have dE:b9 σ (λx=>x≠id) (.tree sz rows) (.ref id sz 0 rows.length):=b9.flat ho hw rfl Jd kh;exact .bS _ _ (dE.zj hs (γc:=aD) (λb hb=>.inl hb) rfl (λx b o cap cP _ hb=>.inr ⟨o,cap,by rw[show id=x by simpa using(Decidable.not_not.1 cP).symm];exact hb⟩) _ rV)
 refine⟨aD,rfl,rfl,⟨λk=>?_,?_,λi j b o c o' c' hi hj=>hs.inj i j b o c o' c' (cp i hi).1 (cp j hj).1,?_,?_⟩,?_⟩
 ·show az dD aD.w aD.Z aD.blk (iv σ.env d (.tree sz rows) k) (γ.tmps.getD k Go.undef);simp only[iv];split
  ·rename_i e;subst e;exact jd
  ·exact hR _ _ (hs.ax k)
 ·intro i o hi;have hi':dD[i]?=some o:=hi;rw[fD]at hi';split at hi'
  ·simp only[cT.injEq]at hi';subst hi';trivial
  ·by_cases hg:o=.gone
   ·subst hg;trivial
   ·exact(hs.ei i o hi').mono hR rfl (λ_ _ _ _=>rfl)
 ·rintro b ⟨i,o,c',hi,hb⟩ (hz|⟨o',cap,cX⟩)
  ·exact hs.nz b ⟨i,o,c',(cp i hi).1,hb⟩ hz
  ·exact(cp i hi).2 (hs.inj i id b o c' o' cap (cp i hi).1 m7 hb cX)
 ·rintro b (hz|⟨o,cap,hb⟩)
  ·exact hs.gD b hz
  ·exact hs.blt m7 hb
 ·refine⟨hf.lB,hf.tape,hf.output,hf.size,hf.aw,λb hb=>.inl (hf.z0 b hb),?_,?_,by show os.length<=dD.length;simp[dD];exact hf.len,?_⟩
  ·rintro b (hz|⟨o,cap,hb⟩)
   ·exact hf.z1 b hz
   ·exact .inr (hf.own b ⟨id,o,cap,m7,hb⟩)
  ·rintro b ⟨i,o,c',hi,hb⟩;exact hf.own b ⟨i,o,c',(cp i hi).1,hb⟩
  ·intro i hi hl;obtain⟨h1,x,x',hx,cZ,hk⟩:=hf.ki i hi (cp i hl).1;have g6:Live dD i:=hl;obtain⟨o,dF,pG⟩:=g6;refine⟨h1,x,o,hx,dF,?_⟩;rw[fD]at dF;split at dF
   ·simp at dF;exact absurd dF.symm pG
   ·rw[cZ]at dF;simp only[cT.injEq]at dF;subst dF;exact hk
def ez.mono{P:Program}{f:FuncId}{args:List AV}{aa:List Ob}{gk Js:AV->List Ob->Prop}(h:ez P f args aa gk)(hp:∀ r os,gk r os->Js r os):ez P f args aa Js:=by
 refine⟨h.1,λγ kf jc=>Calls.mono (h.2 γ kf jc) ?_⟩;rintro e w'⟨res,bg,cv,aD,h0,h1⟩;exact⟨res,bg,cv,aD,hp _ _ h0,h1⟩
end Go.Am

