import Derived.Test.YtdipcmigdbnheaaGreatX04
import Derived.WalkKit
import Derived.ProofKit
import Derived.OpenShut
import Derived.JoinedCond
import Derived.Carry
import Derived.Test.YtdipcmigdbnheaaGreatX05
import Derived.Test.YtdipcmigdbnheaaGreatX07
import Derived.Test.YtdipcmigdbnheaaGreatX06
set_option linter.unusedVariables false
set_option linter.unusedSimpArgs false
set_option linter.unnecessarySimpa false
set_option linter.unusedSectionVars false
set_option maxHeartbeats 64000000
set_option maxRecDepth 20000
open Nat renaming zero_le→aM,lt_or_ge→eF
open List renaming getElem?_eq_getElem→bX,mem_iff_getElem→sh,getElem?_eq_some_iff→aQ,getD_eq_getElem?_getD→aA
open Option renaming some→cY
open Go.ChangeShapes Go.WideShapes Go.ChangeAt Go.RowKit
namespace Go.Am
variable {P:Program} {H:Type} {enc:TypeId × Value→H}
def sw (W:World):Nat→Prop:=fun b=>b<W.heap.size
structure tI (W W':World):Prop where
  os:W'.os=W.os
  tape:W'.tape=W.tape
  output:W'.output=W.output
  size:W.heap.size≤W'.heap.size
  block:∀ b,b<W.heap.size→W'.heap[b]?=W.heap[b]?
theorem tI.below {W W':World} (h:tI W W'):Below W.heap.size W W':=⟨h.os,h.tape,h.output,h.size,h.block⟩
theorem JX (hl:laidOutB P=true) {W W':World} (hq:tI W W') {sp:Nat→Bool}:∀ {ts:List TypeId} {vs:List Value} {ds:List (DataW H)} {ps:List MemPlace},(∀ t∈ts,P.readableRec t=true∧t<P.types.size) →
    DataW.TrodAll enc P W 0 (fun _=>true) true ts vs ds ps→(∀ p∈ps,p.block<W.heap.size)→(∀ p∈ps,sp p.block=true)→DataW.TrodAll enc P W' 0 sp true ts vs ds ps
  | [],vs,ds,ps,_,h,_,_=>by
    cases vs<;>cases ds<;>first|exact h|exact h.elim
  | t::ts,[],ds,ps,_,h,_,_=>by cases ds<;>exact h.elim
  | t::ts,v::vs,[],ps,_,h,_,_=>h.elim
  | t::ts,v::vs,d::ds,ps,ht,⟨p,q,h1,h2,e⟩,bw,wj=>by
    subst e
    obtain ⟨a,b⟩:=ht t (by simp)
    exact⟨p,q,WideElems.Trod_stays hl a b h1 (fun x hx=>hq.below.same (bw x (by simp[hx]))) (fun x hx=>wj x (by simp[hx])),
      JX hl hq (fun t' jR=>ht t' (by simp[jR])) h2 (fun x hx=>bw x (by simp[hx])) (fun x hx=>wj x (by simp[hx])),rfl⟩
theorem tI.keptBut {W W':World} (h:tI W W') (may:MemPlace→Prop):W.keptBut W' may:=by
  refine⟨h.os,h.output,fun i hi=>?_⟩
  rw[h.block i hi]
  cases W.heap[i]? with
  | none=>rfl
  | some o=>cases o with
    | cells c t fr=>exact⟨rfl,rfl,rfl,fun _ _=>rfl⟩
    | map es clock=>exact .inr ⟨rfl,rfl⟩
    | _=>rfl
theorem tI.frozen {W W':World} (h:tI W W') (a:Addr) (ha:a.block<W.heap.size):W'.frozen? a=W.frozen? a:=by
  simp[World.frozen?,h.block _ ha]
theorem afr {f:Func} {s:ChangeSpec} {apart fresh handsOn again:Bool} {W W':World} {args:Array Value} {ds gs:List (DataW H)} {before:List MemPlace} (hl:laidOutB P=true)
    (hW:DataW.Whole enc P f.params.toList s.vars apart W args.toList ds gs before) (hv:s.vars=[]) (eN:(f.params.toList.all fun t=>P.readableRec t && decide (t<P.types.size))=true)
    (hq:tI W W') {t:TypeId} (hr:f.resultTypes = #[t]) (hb:P.underlying t=some .bool) (jS:(s.fn H (ds++gs)).results=[.lit (.bool true)]) (iK:(s.fn H (ds++gs)).args=ds) (Wx:(s.fn H (ds++gs)).vars=[]) :
    s.post enc P f apart fresh handsOn again W args (.bool true) W':=by
  have bw:=hW.lt
  have JY:=hW
  obtain ⟨p,q,hA,hV,rfl,kz,cC⟩:=hW
  rw[hv] at hV
  obtain ⟨rfl,rfl⟩:=trodVars_none hV
  rw[List.append_nil] at bw kz cC JY
  have ao:∀ (b:Nat) (sp:Nat→Bool) (hd:Bool),DataW.TrodAll enc P W' b sp hd f.resultTypes.toList ((Value.bool true).resultList f.resultTypes.size) [.lit (.bool true)] []:=fun b sp hd=>by
    rw[hr]
    exact trodAll_mk1 (shut_bool hb true)
  have mr:∀ sp:Nat→Bool,(∀ x∈p,sp x.block=true)→DataW.TrodAll enc P W' 0 sp true f.params.toList args.toList ds p:=fun sp wj =>
    JX hl hq (fun t ht=>by have:=List.all_eq_true.1 eN t ht;simpa using this) hA (fun x hx=>bw x hx) wj
  have hold:∀ x∈p,(fun b=>decide (b<W.heap.size)) x.block=true:=fun x hx=>by simpa using bw x hx
  refine⟨ds,[],p,[],p,[],JY,?_,?_,?_,hq.keptBut _,fun _=>⟨?_,?_⟩⟩
  · rw[jS];exact ao _ _ _
  · rw[iK];exact mr _ hold
  · rw[Wx,hv];exact rfl
  · intro j t' r hj qY
    rw[hr] at hj qY
    match j,hj,qY with
    | 0,hj,qY =>
      simp[Value.resultList] at hj qY
      subst hj;subst qY
      exact okWide_bool_mk hb true
  · refine⟨.lit (.bool true)::ds,[],p,⟨[]++p,[],trodAll_append (mr _ (fun _ _=>rfl)) (ao _ _ _),by rw[hv];exact rfl,by simp,?_,?_⟩,fun x hx _=>hx⟩
    · intro b off hp
      rw[hq.frozen _ (bw _ hp)]
      exact kz b off hp
    · exact cC
theorem Wy {α:Type} (ea:α→List AV) (R:α→Prop) {W:World} {sp:Nat→Bool} {base:Nat} {t e:TypeId} (ht:P.underlying t=some (.slice e)) (sz:Nat) (hc:P.cellsOf e=sz) (a9:0<sz)
    (WA:∀ fuel cs x,DataW.trod enc P W base sp true fuel e cs=some x→cs.length=sz→∃ a,R a∧(ea a).length=sz∧∀ (c:Nat) y,(ea a)[c]?=some y→gF W (sw W) y (cs.getD c Go.undef))
    {fuel:Nat} {cs:List Value} {x:DataW H × List MemPlace} (h:DataW.trod enc P W base sp true fuel t cs=some x) :
    ∃ (as:List α) (v:Value),cs=[v]∧(∀ a∈as,R a)∧as.length≤maxLen∧gF W (sw W) (.tree sz (as.map ea)) v:=by
  rcases DataW.trod_slice ht h with ⟨rfl,_⟩ | ⟨a,len,cap,elems,rest,n,_,rfl,_,hb,kX,hm,hlen,av,_,_⟩
  · exact⟨[],_,rfl,by simp,aM _,.nil _ _ _⟩
  · have key:∀ i:Fin len,∃ (a1:α) (ci:List Value),R a1∧(ea a1).length=sz∧ci.length=sz∧(∀ j,j<sz→W.cell? ((a.add (i * sz)).add j)=ci[j]?)∧∀ (c:Nat) y,(ea a1)[c]?=some y→gF W (sw W) y (ci.getD c Go.undef):=by
      intro i
      have hi:=av i i.2
      rw[hc,bX (by rw[hlen];exact i.2)] at hi
      cases j9:W.cells? base (a.add (↑i * sz)) sz with
      | none=>rw[j9] at hi;simp at hi
      | some ci =>
        rw[j9] at hi
        obtain ⟨_,cE,aR⟩:=World.cells?_some j9
        obtain ⟨a1,h1,h2,h3⟩:=WA n ci _ hi cE
        exact⟨a1,ci,h1,h2,cE,aR,h3⟩
    by_cases h0:len=0
    · subst h0
      exact⟨[],_,rfl,by simp,aM _,.nil _ _ _⟩
    · obtain ⟨b,off,spot⟩:=a
      have WB:spot=none∧b<W.heap.size:=by
        obtain ⟨a1,ci,_,_,h3,h4,_⟩:=key ⟨0,by omega⟩
        have:=h4 0 a9
        rw[bX (by omega)] at this
        have e:(Addr.add (Addr.add ⟨b,off,spot⟩ (0 * sz)) 0)=⟨b,off,spot⟩:=by simp[Addr.add]
        rw[e] at this
        refine⟨World.cell?_spot this,?_⟩
        simp only[World.cell?] at this
        rcases eF b W.heap.size with h | h
        · exact h
        · simp[Array.getElem?_eq_none h] at this
      obtain ⟨rfl,Fy⟩:=WB
      let as:List α:=List.ofFn fun i:Fin len=>(key i).choose
      have xS:as.length=len:=by simp[as]
      have Cg:∀ r,(hr:r<len)→∃ ci:List Value,R (as[r]'(by rw[xS];exact hr))∧(ea (as[r]'(by rw[xS];exact hr))).length=sz∧ci.length=sz∧(∀ j,j<sz→W.cell? ⟨b,off+(r * sz+j),none⟩=ci[j]?)∧∀ (c:Nat) y,(ea (as[r]'(by rw[xS];exact hr)))[c]?=some y→gF W (sw W) y (ci.getD c Go.undef):=by
        intro r hr
        have e:as[r]'(by rw[xS];exact hr)=(key ⟨r,hr⟩).choose:=by simp[as]
        obtain ⟨ci,h1,h2,h3,h4,h5⟩:=(key ⟨r,hr⟩).choose_spec
        refine⟨ci,by rw[e];exact h1,by rw[e];exact h2,h3,fun j hj=>?_,by rw[e];exact h5⟩
        have:=h4 j hj
        rw[add_plain,add_plain] at this
        rw[← this]
        congr 2
        show off+(r * sz+j)=off+r * sz+j
        omega
      have nA:∀ r c y,cellAt (as.map ea) r c=some y→∃ hr:r<as.length,(ea as[r])[c]?=some y:=by
        intro r c y hy
        simp only[cellAt,List.getElem?_map] at hy
        rcases eF r as.length with hr | hr
        · rw[bX hr] at hy
          exact⟨hr,by simpa using hy⟩
        · rw[List.getElem?_eq_none hr] at hy;simp at hy
      refine⟨as,_,rfl,?_,by omega,?_⟩
      · intro a1 ha
        obtain ⟨r,hr,rfl⟩:=sh.1 ha
        exact (Cg r (by omega)).choose_spec.1
      · have e:(.slice (some ⟨b,off,none⟩) len cap:Value)=.slice (some ⟨b,off,none⟩) (as.map ea).length cap:=by simp[xS]
        rw[e]
        refine .tree sz _ b off cap (fun r c=>(W.cell? ⟨b,off+(r * sz+c),none⟩).getD Go.undef) Fy ?_ (by simp[xS];omega) ?_ ?_
        · intro row a7
          simp only[List.mem_map] at a7
          obtain ⟨a1,ha,rfl⟩:=a7
          obtain ⟨r,hr,rfl⟩:=sh.1 ha
          exact (Cg r (by omega)).choose_spec.2.1
        · intro r c y hy
          obtain ⟨hr,hy⟩:=nA r c y hy
          obtain ⟨ci,h1,h2,h3,h4,h5⟩:=Cg r (by omega)
          have j9:c<sz:=by rw[← h2];exact (aQ.1 hy).1
          rw[h4 c j9,bX (by omega)];rfl
        · intro r c y hy
          obtain ⟨hr,hy⟩:=nA r c y hy
          obtain ⟨ci,h1,h2,h3,h4,h5⟩:=Cg r (by omega)
          have j9:c<sz:=by rw[← h2];exact (aQ.1 hy).1
          rw[h4 c j9,← aA]
          exact h5 c y hy
theorem wf_i64 {n:Int} (h:(Lit.int .i64 n).wf=true) : -9223372036854775808≤n∧n≤9223372036854775807:=by
  simp only[Lit.wf,Bool.and_eq_true,decide_eq_true_eq] at h
  exact h
section
variable {W:World} {sp:Nat→Bool} {base:Nat} {fuel:Nat} {cs:List Value} {x:DataW H × List MemPlace}
def JZ (n:Int):Prop:=-9223372036854775808≤n∧n≤9223372036854775807
theorem afs {t e:TypeId} (ht:P.underlying t=some (.slice e)) (he:P.underlying e=some (.int .i64)) (hc:P.cellsOf e=1) (h:DataW.trod enc P W base sp true fuel t cs=some x) :
    ∃ (xs:List Int) (v:Value),cs=[v]∧(∀ n∈xs,JZ n)∧xs.length≤maxLen∧gF W (sw W) (.tree 1 (ints xs)) v:=by
  refine Wy (fun n=>[AV.lit (.int .i64 n)]) JZ ht 1 hc (by decide) (fun fuel cs x h hl=>?_) h
  obtain ⟨n,rfl,_,hw⟩:=DataW.trod_int he h
  refine⟨n,wf_i64 hw,rfl,fun c y hy=>?_⟩
  match c,hy with
  | 0,hy=>simp at hy;subst hy;exact .lit _
end
theorem Trod.slice {W:World} {sp:Nat→Bool} {t e:TypeId} {r:Reach} {b0:Nat} {v:Value} {d:DataW H} {ps:List MemPlace} (ht:P.underlying t=some (.slice e)) (hval:Value.okWide P W r b0 t v) (h:DataW.Trod enc P W 0 sp true t v d ps) :
    ∃ fuel,DataW.trod enc P W 0 sp true fuel t [v]=some (d,ps):=by
  obtain ⟨a,l,c,rfl⟩:=okWide_slice ht hval
  obtain ⟨fuel,hf⟩:=h
  exact⟨fuel,by simpa [Value.cells] using hf⟩
end Go.Am
namespace Go.Am
variable {P:Program} {H:Type} {enc:TypeId × Value→H} {W:World} {sp:Nat→Bool} {base:Nat}
def Fz (W:World) (cells:List AV) (cs:List Value):Prop:=cells.length=cs.length∧∀ (c:Nat) y,cells[c]?=some y→gF W (sw W) y (cs.getD c Go.undef)
end Go.Am
namespace Go.Am
variable {P:Program} {H:Type} {enc:TypeId × Value→H} {W:World} {sp:Nat→Bool} {base:Nat}
def WC (W:World) (v:AV) (cv:Value):Prop:=gF W (sw W) v cv∨∃ cs aZ,v=.agg cs∧cv=.agg aZ∧Fz W cs aZ.toList
theorem aft {f:FuncId} {xT:List AV} {W:World} {args:Array Value} {r:Value} (h:an P f xT [] (.lit r) []) (hl:args.size=xT.length) (ht:∀ (j:Nat) v,xT[j]?=some v→WC W v (args.getD j Go.undef)) :
    Calls P f args W fun e W'=>e=.returned r∧tI W W':=by
  let γ:Cx:={ w:=W,tmps:=args,Z:=sw W,blk:=fun _=>none }
  have hs:bq ⟨fun k=>xT.getD k .undef,[]⟩ γ:=by
    refine⟨fun k=>?_,fun i o ho=>by simp at ho,fun i j b o c o' c' hi=>?_,fun b ⟨i,o,c,hi,_⟩=>?_,fun b hb=>hb⟩
    · show ay [] W (sw W) _ (xT.getD k .undef) (args.getD k Go.undef)
      cases hk:xT[k]? with
      | none=>rw[aA,hk];exact .undef _
      | some v =>
        rw[aA,hk]
        rcases ht k v hk with h1 | ⟨cs,aZ,rfl,h2,h3,h4⟩
        · exact .bW _ _ h1
        · rw[h2]
          refine .agg _ _ (by simpa using h3.symm) (fun j x hx=>.bW _ _ ?_)
          have:=h4 j x hx
          simpa [Array.getD_eq_getD_getElem?,aA] using this
    · obtain ⟨o,ho,_⟩:=hi;simp at ho
    · obtain ⟨o,ho,_⟩:=hi;simp at ho
  refine (h.2 γ hl hs).mono ?_
  rintro e w' ⟨cv,aF,rfl,rfl,uS,iL,hf⟩
  have h0:=iL.aw 0
  rw[uS] at h0
  have e0:cv=r:=by
    have:=h0.cM
    simpa using this
  subst e0
  refine⟨rfl,hf.lS,hf.tape,hf.output,hf.size,fun b hb=>hf.ax b hb (fun ⟨i,o,c,hi,_⟩=>?_)⟩
  obtain ⟨o,ho,_⟩:=hi;simp at ho
theorem Fz.cell {cells:List AV} {cs:List Value} {o n j:Nat} {v:AV} (h:Fz W cells ((cs.drop o).take n)) (hv:cells[j]?=some v):gF W (sw W) v (cs.getD (o+j) Go.undef):=by
  have h2:=h.2 j v hv
  have hl:j<((cs.drop o).take n).length:=by rw[← h.1];exact (aQ.1 hv).1
  have hn:j<n:=by simp at hl;omega
  rwa [aA,List.getElem?_take_of_lt hn,List.getElem?_drop,← aA] at h2
end Go.Am
namespace Go.Am
variable {P:Program} {N n0:Nat} {σ:St}
theorem aB.FA (d id sz:Nat) {rows:List (List AV)} (ho:σ.aa[id]?=some (.arr sz rows)) (hd:σ.env d=.ref id sz 0 rows.length)
    (hw:∀ row∈rows,row.length=sz) (kz:∀ row∈rows,∀ v∈row,(∃ x,v=.lit x)∨∃ s r,v=.tree s r):aB n0 σ ⟨iM σ.env d (.tree sz rows),σ.aa.set id .gone⟩:=by
  intro os γ0 γ _ hs hf
  have wm:id<σ.aa.length:=(aQ.1 ho).1
  let aF:Cx:={ γ with Z:=fun b=>γ.Z b∨∃ o cap,γ.blk id=some (b,o,cap) }
  let dJ:=σ.aa.set id .gone
  have fC:∀ i,dJ[i]?=if i=id then some .gone else σ.aa[i]?:=by
    intro i
    show (σ.aa.set id _)[i]?=_
    rw[List.getElem?_set]
    by_cases h1:i=id
    · subst h1;simp[wm]
    · simp[Ne.symm h1,h1]
  have hR:∀ v cv,ay σ.aa γ.w γ.Z γ.blk v cv→ay dJ aF.w aF.Z aF.blk v cv:=fun v cv hv =>
    hv.mono (fun b hb=>⟨.inl hb,rfl⟩) (fun i o hi=>by
      rw[fC]
      by_cases h1:i=id
      · left;rw[if_pos h1]
      · rw[if_neg h1]
        by_cases hg:o=.gone
        · subst hg;exact .inl hi
        · exact .inr ⟨rfl,o,hi,Ob.jG hg⟩)
  have cz:∀ i,Live dJ i→Live σ.aa i∧i≠id:=by
    rintro i ⟨o,hi,hg⟩
    rw[fC] at hi
    split at hi
    · simp at hi;exact absurd hi.symm hg
    · rename_i h2;exact⟨⟨o,hi,hg⟩,h2⟩
  have nB:Live σ.aa id:=⟨_,ho,by simp⟩
  have sx:=hs.aw d
  rw[hd] at sx
  have jt:ay dJ aF.w aF.Z aF.blk (.tree sz rows) (γ.tmps.getD d Go.undef):=by
    have dK:cg σ (fun x=>x≠id) (.tree sz rows) (.ref id sz 0 rows.length):=cg.flat ho hw rfl (by simp) kz
    exact .bW _ _ (dK.zI hs (γc:=aF) (fun b hb=>.inl hb) rfl (fun x b o cap cV _ hb=>.inr ⟨o,cap,by rw[show id=x by simpa using (Decidable.not_not.1 cV).symm];exact hb⟩) _ sx)
  refine⟨aF,rfl,rfl,⟨fun k=>?_,?_,fun i j b o c o' c' hi hj=>hs.inj i j b o c o' c' (cz i hi).1 (cz j hj).1,?_,?_⟩,?_⟩
  · show ay dJ aF.w aF.Z aF.blk (iM σ.env d (.tree sz rows) k) (γ.tmps.getD k Go.undef)
    simp only[iM]
    split
    · rename_i e;subst e;exact jt
    · exact hR _ _ (hs.aw k)
  · intro i o hi
    have hi':dJ[i]?=some o:=hi
    rw[fC] at hi'
    split at hi'
    · simp only[cY.injEq] at hi';subst hi';trivial
    · by_cases hg:o=.gone
      · subst hg;trivial
      · exact (hs.ez i o hi').mono hR rfl (fun _ _ _ _=>rfl)
  · rintro b ⟨i,o,c',hi,hb⟩ (hz | ⟨o',cap,db⟩)
    · exact hs.nz b ⟨i,o,c',(cz i hi).1,hb⟩ hz
    · exact (cz i hi).2 (hs.inj i id b o c' o' cap (cz i hi).1 nB hb db)
  · rintro b (hz | ⟨o,cap,hb⟩)
    · exact hs.gG b hz
    · exact hs.blt nB hb
  · refine⟨hf.lS,hf.tape,hf.output,hf.size,hf.ax,fun b hb=>.inl (hf.z0 b hb),?_,?_,by show os.length≤dJ.length;simp[dJ];exact hf.len,?_⟩
    · rintro b (hz | ⟨o,cap,hb⟩)
      · exact hf.z1 b hz
      · exact .inr (hf.own b ⟨id,o,cap,nB,hb⟩)
    · rintro b ⟨i,o,c',hi,hb⟩
      exact hf.own b ⟨i,o,c',(cz i hi).1,hb⟩
    · intro i hi hl
      obtain ⟨h1,x,x',hx,df,hk⟩:=hf.kA i hi (cz i hl).1
      have ix:Live dJ i:=hl
      obtain ⟨o,dL,p9⟩:=ix
      refine⟨h1,x,o,hx,dL,?_⟩
      rw[fC] at dL
      split at dL
      · simp at dL;exact absurd dL.symm p9
      · rw[df] at dL
        simp only[cY.injEq] at dL
        subst dL;exact hk
theorem eO.mono {P:Program} {f:FuncId} {args:List AV} {aa:List Ob} {gH J0:AV→List Ob→Prop} (h:eO P f args aa gH) (hp:∀ r os,gH r os→J0 r os):eO P f args aa J0:=by
  refine⟨h.1,fun γ jS iK=>Calls.mono (h.2 γ jS iK) ?_⟩
  rintro e w' ⟨res,a8,cv,aF,h0,h1⟩
  exact⟨res,a8,cv,aF,hp _ _ h0,h1⟩
end Go.Am

