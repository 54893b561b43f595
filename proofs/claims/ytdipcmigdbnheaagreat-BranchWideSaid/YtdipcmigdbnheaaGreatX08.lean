import Derived.Test.YtdipcmigdbnheaaGreatX05
import Derived.WalkKit
import Derived.ProofKit
import Derived.OpenShut
import Derived.JoinedCond
import Derived.Carry
import Derived.Test.YtdipcmigdbnheaaGreatX06
import Derived.Test.YtdipcmigdbnheaaGreatX07
set_option linter.unusedVariables false
set_option linter.unusedSimpArgs false
set_option linter.unnecessarySimpa false
set_option linter.unusedSectionVars false
set_option maxHeartbeats 64000000
set_option maxRecDepth 20000
open Nat renaming zero_le→aH,lt_or_ge→dG
open List renaming getElem?_eq_getElem→bm,mem_iff_getElem→te,getElem?_eq_some_iff→aY,getD_eq_getElem?_getD→ay,getElem?_take_of_lt→DV,getElem?_drop→mX
open Go.ChangeShapes Go.WideShapes Go.ChangeAt Go.RowKit
namespace Go.Am
variable {P:Program} {H:Type} {enc:TypeId × Value→H}
def tv (W:World):Nat→Prop:=fun b=>b<W.heap.size
structure uO (W W':World):Prop where
  os:W'.os=W.os
  tape:W'.tape=W.tape
  output:W'.output=W.output
  size:W.heap.size≤W'.heap.size
  block:∀ b,b<W.heap.size→W'.heap[b]?=W.heap[b]?
theorem uO.below {W W':World} (h:uO W W'):Below W.heap.size W W':=⟨h.os,h.tape,h.output,h.size,h.block⟩
theorem Mc (hl:laidOutB P=true) {W W':World} (hq:uO W W') {sp:Nat→Bool}:∀ {ts:List TypeId} {vs:List Value} {ds:List (DataW H)} {ps:List MemPlace},(∀ t∈ts,P.readableRec t=true∧t<P.types.size) →
    DataW.TrodAll enc P W 0 (fun _=>true) true ts vs ds ps→(∀ p∈ps,p.block<W.heap.size)→(∀ p∈ps,sp p.block=true)→DataW.TrodAll enc P W' 0 sp true ts vs ds ps
  | [],vs,ds,ps,_,h,_,_=>by
    cases vs<;>cases ds<;>first|exact h|exact h.elim
  | t::ts,[],ds,ps,_,h,_,_=>by cases ds<;>exact h.elim
  | t::ts,v::vs,[],ps,_,h,_,_=>h.elim
  | t::ts,v::vs,d::ds,ps,ht,⟨p,q,h1,h2,e⟩,aT,ot=>by
    subst e
    obtain ⟨a,b⟩:=ht t (by simp)
    exact⟨p,q,WideElems.Trod_stays hl a b h1 (fun x hx=>hq.below.same (aT x (by simp[hx]))) (fun x hx=>ot x (by simp[hx])),
      Mc hl hq (fun t' jU=>ht t' (by simp[jU])) h2 (fun x hx=>aT x (by simp[hx])) (fun x hx=>ot x (by simp[hx])),rfl⟩
theorem uO.keptBut {W W':World} (h:uO W W') (may:MemPlace→Prop):W.keptBut W' may:=by
  refine⟨h.os,h.output,fun i hi=>?_⟩
  rw[h.block i hi]
  cases W.heap[i]? with
  | none=>rfl
  | some o=>cases o with
    | cells c t fr=>exact⟨rfl,rfl,rfl,fun _ _=>rfl⟩
    | map es clock=>exact .inr ⟨rfl,rfl⟩
    | _=>rfl
theorem uO.frozen {W W':World} (h:uO W W') (a:Addr) (ha:a.block<W.heap.size):W'.frozen? a=W.frozen? a:=by
  simp[World.frozen?,h.block _ ha]
theorem aiC {f:Func} {s:ChangeSpec} {apart fresh handsOn again:Bool} {W W':World} {args:Array Value} {ds gs:List (DataW H)} {before:List MemPlace} (hl:laidOutB P=true)
    (hW:DataW.Whole enc P f.params.toList s.vars apart W args.toList ds gs before) (hv:s.vars=[]) (ef:(f.params.toList.all fun t=>P.readableRec t && decide (t<P.types.size))=true)
    (hq:uO W W') {t:TypeId} (hr:f.resultTypes = #[t]) (hb:P.underlying t=some .bool) (l0:(s.fn H (ds++gs)).results=[.lit (.bool true)]) (m0:(s.fn H (ds++gs)).args=ds) (Zp:(s.fn H (ds++gs)).vars=[]) :
    s.post enc P f apart fresh handsOn again W args (.bool true) W':=by
  have aT:=hW.lt
  have Md:=hW
  obtain ⟨p,q,hA,hV,rfl,tw,bC⟩:=hW
  rw[hv] at hV
  obtain ⟨rfl,rfl⟩:=trodVars_none hV
  rw[List.append_nil] at aT tw bC Md
  have aj:∀ (b:Nat) (sp:Nat→Bool) (hd:Bool),DataW.TrodAll enc P W' b sp hd f.resultTypes.toList ((Value.bool true).resultList f.resultTypes.size) [.lit (.bool true)] []:=fun b sp hd=>by
    rw[hr]
    exact trodAll_mk1 (shut_bool hb true)
  have m4:∀ sp:Nat→Bool,(∀ x∈p,sp x.block=true)→DataW.TrodAll enc P W' 0 sp true f.params.toList args.toList ds p:=fun sp ot =>
    Mc hl hq (fun t ht=>by have:=List.all_eq_true.1 ef t ht;simpa using this) hA (fun x hx=>aT x hx) ot
  have hold:∀ x∈p,(fun b=>decide (b<W.heap.size)) x.block=true:=fun x hx=>by simpa using aT x hx
  refine⟨ds,[],p,[],p,[],Md,?_,?_,?_,hq.keptBut _,fun _=>⟨?_,?_⟩⟩
  · rw[l0];exact aj _ _ _
  · rw[m0];exact m4 _ hold
  · rw[Zp,hv];exact rfl
  · intro j t' r hj tx
    rw[hr] at hj tx
    match j,hj,tx with
    | 0,hj,tx =>
      simp[Value.resultList] at hj tx
      subst hj;subst tx
      exact okWide_bool_mk hb true
  · refine⟨.lit (.bool true)::ds,[],p,⟨[]++p,[],trodAll_append (m4 _ (fun _ _=>rfl)) (aj _ _ _),by rw[hv];exact rfl,by simp,?_,?_⟩,fun x hx _=>hx⟩
    · intro b off hp
      rw[hq.frozen _ (aT _ hp)]
      exact tw b off hp
    · exact bC
theorem Zq {α:Type} (ea:α→List AV) (R:α→Prop) {W:World} {sp:Nat→Bool} {base:Nat} {t e:TypeId} (ht:P.underlying t=some (.slice e)) (sz:Nat) (hc:P.cellsOf e=sz) (a5:0<sz)
    (Zr:∀ fuel cs x,DataW.trod enc P W base sp true fuel e cs=some x→cs.length=sz→∃ a,R a∧(ea a).length=sz∧∀ (c:Nat) y,(ea a)[c]?=some y→gD W (tv W) y (cs.getD c Go.undef))
    {fuel:Nat} {cs:List Value} {x:DataW H × List MemPlace} (h:DataW.trod enc P W base sp true fuel t cs=some x) :
    ∃ (as:List α) (v:Value),cs=[v]∧(∀ a∈as,R a)∧as.length≤maxLen∧gD W (tv W) (.tree sz (as.map ea)) v:=by
  rcases DataW.trod_slice ht h with ⟨rfl,_⟩ | ⟨a,len,cap,elems,rest,n,_,rfl,_,hb,ic,hm,hlen,aq,_,_⟩
  · exact⟨[],_,rfl,by simp,aH _,.nil _ _ _⟩
  · have key:∀ i:Fin len,∃ (a1:α) (ci:List Value),R a1∧(ea a1).length=sz∧ci.length=sz∧(∀ j,j<sz→W.cell? ((a.add (i * sz)).add j)=ci[j]?)∧∀ (c:Nat) y,(ea a1)[c]?=some y→gD W (tv W) y (ci.getD c Go.undef):=by
      intro i
      have hi:=aq i i.2
      rw[hc,bm (by rw[hlen];exact i.2)] at hi
      cases eZ:W.cells? base (a.add (↑i * sz)) sz with
      | none=>rw[eZ] at hi;simp at hi
      | some ci =>
        rw[eZ] at hi
        obtain ⟨_,bL,aJ⟩:=World.cells?_some eZ
        obtain ⟨a1,h1,h2,h3⟩:=Zr n ci _ hi bL
        exact⟨a1,ci,h1,h2,bL,aJ,h3⟩
    by_cases h0:len=0
    · subst h0
      exact⟨[],_,rfl,by simp,aH _,.nil _ _ _⟩
    · obtain ⟨b,off,spot⟩:=a
      have Zs:spot=none∧b<W.heap.size:=by
        obtain ⟨a1,ci,_,_,h3,h4,_⟩:=key ⟨0,by omega⟩
        have:=h4 0 a5
        rw[bm (by omega)] at this
        have e:(Addr.add (Addr.add ⟨b,off,spot⟩ (0 * sz)) 0)=⟨b,off,spot⟩:=by simp[Addr.add]
        rw[e] at this
        refine⟨World.cell?_spot this,?_⟩
        simp only[World.cell?] at this
        rcases dG b W.heap.size with h | h
        · exact h
        · simp[Array.getElem?_eq_none h] at this
      obtain ⟨rfl,Hm⟩:=Zs
      let as:List α:=List.ofFn fun i:Fin len=>(key i).choose
      have zN:as.length=len:=by simp[as]
      have Ec:∀ r,(hr:r<len)→∃ ci:List Value,R (as[r]'(by rw[zN];exact hr))∧(ea (as[r]'(by rw[zN];exact hr))).length=sz∧ci.length=sz∧(∀ j,j<sz→W.cell? ⟨b,off+(r * sz+j),none⟩=ci[j]?)∧∀ (c:Nat) y,(ea (as[r]'(by rw[zN];exact hr)))[c]?=some y→gD W (tv W) y (ci.getD c Go.undef):=by
        intro r hr
        have e:as[r]'(by rw[zN];exact hr)=(key ⟨r,hr⟩).choose:=by simp[as]
        obtain ⟨ci,h1,h2,h3,h4,h5⟩:=(key ⟨r,hr⟩).choose_spec
        refine⟨ci,by rw[e];exact h1,by rw[e];exact h2,h3,fun j hj=>?_,by rw[e];exact h5⟩
        have:=h4 j hj
        rw[add_plain,add_plain] at this
        rw[← this]
        congr 2
        show off+(r * sz+j)=off+r * sz+j
        omega
      have p6:∀ r c y,cellAt (as.map ea) r c=some y→∃ hr:r<as.length,(ea as[r])[c]?=some y:=by
        intro r c y hy
        simp only[cellAt,List.getElem?_map] at hy
        rcases dG r as.length with hr | hr
        · rw[bm hr] at hy
          exact⟨hr,by simpa using hy⟩
        · rw[List.getElem?_eq_none hr] at hy;simp at hy
      refine⟨as,_,rfl,?_,by omega,?_⟩
      · intro a1 ha
        obtain ⟨r,hr,rfl⟩:=te.1 ha
        exact (Ec r (by omega)).choose_spec.1
      · have e:(.slice (some ⟨b,off,none⟩) len cap:Value)=.slice (some ⟨b,off,none⟩) (as.map ea).length cap:=by simp[zN]
        rw[e]
        refine .tree sz _ b off cap (fun r c=>(W.cell? ⟨b,off+(r * sz+c),none⟩).getD Go.undef) Hm ?_ (by simp[zN];omega) ?_ ?_
        · intro row a6
          simp only[List.mem_map] at a6
          obtain ⟨a1,ha,rfl⟩:=a6
          obtain ⟨r,hr,rfl⟩:=te.1 ha
          exact (Ec r (by omega)).choose_spec.2.1
        · intro r c y hy
          obtain ⟨hr,hy⟩:=p6 r c y hy
          obtain ⟨ci,h1,h2,h3,h4,h5⟩:=Ec r (by omega)
          have eZ:c<sz:=by rw[← h2];exact (aY.1 hy).1
          rw[h4 c eZ,bm (by omega)];rfl
        · intro r c y hy
          obtain ⟨hr,hy⟩:=p6 r c y hy
          obtain ⟨ci,h1,h2,h3,h4,h5⟩:=Ec r (by omega)
          have eZ:c<sz:=by rw[← h2];exact (aY.1 hy).1
          rw[h4 c eZ,← ay]
          exact h5 c y hy
theorem wf_i64 {n:Int} (h:(Lit.int .i64 n).wf=true) : -9223372036854775808≤n∧n≤9223372036854775807:=by
  simp only[Lit.wf,Bool.and_eq_true,decide_eq_true_eq] at h
  exact h
section
variable {W:World} {sp:Nat→Bool} {base:Nat} {fuel:Nat} {cs:List Value} {x:DataW H × List MemPlace}
def Me (n:Int):Prop:=-9223372036854775808≤n∧n≤9223372036854775807
theorem aiD {t e:TypeId} (ht:P.underlying t=some (.slice e)) (he:P.underlying e=some (.int .i64)) (hc:P.cellsOf e=1) (h:DataW.trod enc P W base sp true fuel t cs=some x) :
    ∃ (xs:List Int) (v:Value),cs=[v]∧(∀ n∈xs,Me n)∧xs.length≤maxLen∧gD W (tv W) (.tree 1 (ints xs)) v:=by
  refine Zq (fun n=>[AV.lit (.int .i64 n)]) Me ht 1 hc (by decide) (fun fuel cs x h hl=>?_) h
  obtain ⟨n,rfl,_,hw⟩:=DataW.trod_int he h
  refine⟨n,wf_i64 hw,rfl,fun c y hy=>?_⟩
  match c,hy with
  | 0,hy=>simp at hy;subst hy;exact .lit _
end
theorem Trod.slice {W:World} {sp:Nat→Bool} {t e:TypeId} {r:Reach} {b0:Nat} {v:Value} {d:DataW H} {ps:List MemPlace} (ht:P.underlying t=some (.slice e)) (hval:Value.okWide P W r b0 t v) (h:DataW.Trod enc P W 0 sp true t v d ps) :
    ∃ fuel,DataW.trod enc P W 0 sp true fuel t [v]=some (d,ps):=by
  obtain ⟨a,l,c,rfl⟩:=okWide_slice ht hval
  obtain ⟨fuel,hf⟩:=h
  exact⟨fuel,by simpa [Value.cells] using hf⟩
end Go.Am
namespace Go.Am
variable {P:Program} {H:Type} {enc:TypeId × Value→H} {W:World} {sp:Nat→Bool} {base:Nat}
def xT (W:World) (cells:List AV) (cs:List Value):Prop:=cells.length=cs.length∧∀ (c:Nat) y,cells[c]?=some y→gD W (tv W) y (cs.getD c Go.undef)
theorem xT.join {a b:List AV} {n:Nat} {cs:List Value} (h:xT W a (cs.take n)) (k:xT W b (cs.drop n)) (hn:n≤cs.length):xT W (a++b) cs:=by
  obtain ⟨h1,h2⟩:=h
  obtain ⟨k1,k2⟩:=k
  rw[List.length_take,Nat.min_eq_left hn] at h1
  rw[List.length_drop] at k1
  refine⟨by rw[List.length_append];omega,fun c y hy=>?_⟩
  rcases dG c a.length with hc | hc
  · rw[List.getElem?_append_left hc] at hy
    have:=h2 c y hy
    rwa [ay,DV (by omega),← ay] at this
  · rw[List.getElem?_append_right hc] at hy
    have:=k2 _ y hy
    rw[ay,mX,← ay,show n+(c - a.length)=c by omega] at this
    exact this
end Go.Am
namespace Go.Am
variable {P:Program} {H:Type} {enc:TypeId × Value→H} {W:World} {sp:Nat→Bool} {base:Nat}
def Zt (W:World) (v:AV) (cv:Value):Prop:=gD W (tv W) v cv∨∃ cs a8,v=.agg cs∧cv=.agg a8∧xT W cs a8.toList
theorem aiE {f:FuncId} {zO:List AV} {W:World} {args:Array Value} {r:Value} (h:ao P f zO [] (.lit r) []) (hl:args.size=zO.length) (ht:∀ (j:Nat) v,zO[j]?=some v→Zt W v (args.getD j Go.undef)) :
    Calls P f args W fun e W'=>e=.returned r∧uO W W':=by
  let γ:Cx:={ w:=W,tmps:=args,Z:=tv W,blk:=fun _=>none }
  have hs:bj ⟨fun k=>zO.getD k .undef,[]⟩ γ:=by
    refine⟨fun k=>?_,fun i o ho=>by simp at ho,fun i j b o c o' c' hi=>?_,fun b ⟨i,o,c,hi,_⟩=>?_,fun b hb=>hb⟩
    · show aB [] W (tv W) _ (zO.getD k .undef) (args.getD k Go.undef)
      cases hk:zO[k]? with
      | none=>rw[ay,hk];exact .undef _
      | some v =>
        rw[ay,hk]
        rcases ht k v hk with h1 | ⟨cs,a8,rfl,h2,h3,h4⟩
        · exact .cI _ _ h1
        · rw[h2]
          refine .agg _ _ (by simpa using h3.symm) (fun j x hx=>.cI _ _ ?_)
          have:=h4 j x hx
          simpa [Array.getD_eq_getD_getElem?,ay] using this
    · obtain ⟨o,ho,_⟩:=hi;simp at ho
    · obtain ⟨o,ho,_⟩:=hi;simp at ho
  refine (h.2 γ hl hs).mono ?_
  rintro e w' ⟨cv,aI,rfl,rfl,uP,jV,hf⟩
  have h0:=jV.aw 0
  rw[uP] at h0
  have e0:cv=r:=by
    have:=h0.cH
    simpa using this
  subst e0
  refine⟨rfl,hf.m5,hf.tape,hf.output,hf.size,fun b hb=>hf.fV b hb (fun ⟨i,o,c,hi,_⟩=>?_)⟩
  obtain ⟨o,ho,_⟩:=hi;simp at ho
theorem xT.cell {cells:List AV} {cs:List Value} {o n j:Nat} {v:AV} (h:xT W cells ((cs.drop o).take n)) (hv:cells[j]?=some v):gD W (tv W) v (cs.getD (o+j) Go.undef):=by
  have h2:=h.2 j v hv
  have hl:j<((cs.drop o).take n).length:=by rw[← h.1];exact (aY.1 hv).1
  have hn:j<n:=by simp at hl;omega
  rwa [ay,DV hn,mX,← ay] at h2
end Go.Am

