import Derived.Test.YtdipcmigdbnheaaGreatX00
set_option linter.unusedVariables false
set_option linter.unusedSimpArgs false
set_option linter.unnecessarySimpa false
set_option linter.unusedSectionVars false
set_option maxHeartbeats 64000000
set_option maxRecDepth 20000
open Option renaming bind_eq_some_iff→v3,map_some→gf,some→cY
open List renaming mem_of_getElem?→gB,getElem?_eq_some_iff→aQ,getElem?_append_left→cn,getElem?_append_right→eK,range→aN,append_assoc→dI,mem_of_mem_drop→sq,mem_of_mem_take→sr,getElem?_take→sn,getElem?_drop→nr,eq_nil_of_length_eq_zero→ph,mem_iff_getElem?→JB,getElem_mem→pW,all_eq_true→gU,getElem?_set→b6,mem_append→cr,size_toArray→zB,length_map→ey,length_nil→mQ,length_append→bV,length_take→gV,length_drop→v5,getD_eq_getElem?_getD→aA,ext_getElem?→nt,replicate→bY,eq_of_mem_replicate→zE,getElem?_map→cm,length_cons→dH,mem_map→ca,range_succ→tE,flatMap_append→qU
open Nat renaming mul_le_mul_right→mo,add_mul→fj,eq_zero_or_pos→mR,add_zero→jr,mul_comm→pZ,mod_lt→xL,div_add_mod→JE,zero_add→fi,lt_or_ge→eF,mod_eq_of_lt→B6
open Array renaming getD_eq_getD_getElem?→eY,length_toList→si
namespace Go.Am
variable {P:Program}
theorem zV {rows:List (List AV)} {sz r c:Nat} {v:AV} (hr:∀ row∈rows,row.length=sz) (h:cellAt rows r c=some v):r<rows.length∧c<sz:=by
  simp only[cellAt,v3] at h
  obtain ⟨y,hy,oM⟩:=h
  have h1:=hr y (gB hy)
  have h2:=(aQ.1 oM).1
  have h3:=(aQ.1 hy).1
  omega
theorem L1 {p s:List (List AV)} {r c:Nat}:cellAt (p++s) r c=if r<p.length then cellAt p r c else cellAt s (r - p.length) c:=by
  unfold cellAt
  split
  · rw[cn (by assumption)]
  · rw[eK (by omega)]
theorem wG {r c n sz:Nat} (hr:r<n) (hc:c<sz):r * sz+c<n * sz:=by
  have:(r+1) * sz≤n * sz:=mo _ hr
  rw[fj] at this;omega
theorem Yy {R:AV→Value→Prop} {p s:List (List AV)} {sz:Nat} (hp:∀ row∈p,row.length=sz) (hs:∀ row∈s,row.length=sz) {go g:Nat→Value}
    (h1:∀ r c v,cellAt p r c=some v→R v (go (r * sz+c))) (h2:∀ r c v,cellAt s r c=some v→R v (g (r * sz+c))) (rest:List Value)
    (r c:Nat) (v:AV) (h:cellAt (p++s) r c=some v) :
    R v (((((aN (p.length * sz)).map go)++((aN (s.length * sz)).map g))++rest).toArray.getD (r * sz+c) Go.undef):=by
  rw[L1] at h
  simp only[eY,List.getElem?_toArray]
  split at h
  · obtain ⟨hr,hc⟩:=zV hp h
    have:=wG hr hc
    rw[dI,cn (by simpa using this)]
    simp[this]
    exact h1 r c v h
  · rename_i lW
    obtain ⟨hr,hc⟩:=zV hs h
    have hl:=wG hr hc
    have e:r * sz+c=p.length * sz+((r - p.length) * sz+c):=by
      have:r=p.length+(r - p.length):=by omega
      conv=>lhs;rw[this,fj]
      omega
    rw[cn (by simp;omega),eK (by simp;omega)]
    have e2:r * sz+c - (List.map go (aN (p.length * sz))).length=(r - p.length) * sz+c:=by simp;omega
    rw[e2]
    simp[hl]
    exact h2 _ _ _ h
theorem Yz {σ:St} {γ:Cx} (h:bq σ γ) {x:AV} {cv:Value} (hv:ay σ.aa γ.w γ.Z γ.blk x cv) {sz:Nat} {pre:List (List AV)} {σ1:St} (hs:py σ sz x=some (pre,σ1)) :
    (bq σ1 γ∧Fr σ.aa γ σ1.aa γ∧∃ k,σ1.aa.length=k) ∧
    ((cv=.slice none 0 0∧pre=[]) ∨
     (∃ id b x bo cur t,cv=.slice (some ⟨b,x,none⟩) 0 0∧pre=[]∧Live σ.aa id∧σ1 = { σ with aa:=σ.aa.set id .gone }∧γ.blk id=some (b,bo)∧γ.w.heap[b]?=some (.cells cur t (0,0))) ∨
     ∃ id off rows b o cap cap' cur t,σ.aa[id]?=some (.arr sz rows)∧σ1 = { σ with aa:=σ.aa.set id .gone }∧γ.blk id=some (b,o,cap)∧γ.w.heap[b]?=some (.cells cur t (0,0)) ∧
      cv=.slice (some ⟨b,o+off * sz,none⟩) pre.length cap'∧pre.length≤cap'∧cap'≤maxLen∧o+off * sz+cap' * sz≤cur.size∧(∀ row∈pre,row.length=sz) ∧
      ∀ r c v,cellAt pre r c=some v→ay σ.aa γ.w γ.Z γ.blk v (cur.getD (o+off * sz+(r * sz+c)) Go.undef)):=by
  unfold py at hs
  split at hs
  · simp at hs
    obtain ⟨rfl,rfl⟩:=hs
    exact⟨⟨h,Fr.refl _ _,_,rfl⟩,.inl ⟨hv.cM,rfl⟩⟩
  · rename_i id cO off len
    cases ho:σ.aa[id]? with
    | none=>simp[ho] at hs
    | some ob =>
      have aT:=h.ez id ob ho
      cases ob with
      | gone=>simp[ho] at hs
      | mp ag L=>simp[ho] at hs
      | var cells=>simp[ho] at hs
      | arr kf rows =>
        simp only[ho] at hs
        split at hs
        · rename_i he
          obtain ⟨L3,sI⟩:=he
          subst L3
          subst sI
          simp at hs
          obtain ⟨rfl,rfl⟩:=hs
          refine⟨⟨h.kill id,Fr.kill _ _ _,_,rfl⟩,?_⟩
          obtain ⟨_,cF,aT⟩:=aT
          cases hv with
          | bW _ _ h=>cases h
          | kh _ _ _ _ _ h=>rw[ho] at h;simp at h
          | lE _ _ h hb=>left;exact⟨rfl,by simp⟩
          | lV _ _ _ b x bo fO h' hb hl =>
            right;left
            rcases aT with ⟨h1,_⟩ | ⟨b',o',zU,cur,t,h1,h2,_⟩
            · rw[hb] at h1;simp at h1
            · rw[hb] at h1;simp at h1
              obtain ⟨rfl,_⟩:=h1
              exact⟨id,b,x,bo,cur,t,rfl,by simp,⟨_,ho,by simp⟩,rfl,hb,h2⟩
          | ref _ _ _ _ b o cap cap' fO h' hb hl hc kX =>
            rw[ho] at h';simp at h'
            subst h'
            rcases aT with ⟨h1,_⟩ | ⟨b',o',zU,cur,t,h1,h2,h3,h4,h5,h6⟩
            · rw[hb] at h1;simp at h1
            · rw[hb] at h1;simp at h1
              obtain ⟨rfl,rfl,rfl⟩:=h1
              right;right
              have hlen:((rows.drop off).take len).length=len:=by simp;omega
              refine⟨id,off,rows,b,o,cap,cap',cur,t,ho,rfl,hb,h2,by rw[hlen],by omega,by omega,?_,?_,?_⟩
              · have:(off+cap') * kf≤cap * kf:=mo _ hc
                rw[fj] at this;omega
              · intro row a7
                exact cF row (sq (sr a7))
              · intro r c v bd
                simp only[cellAt,sn,nr] at bd
                split at bd
                · have:=h6 (off+r) c v bd
                  rw[fj] at this
                  have e:o+(off * kf+r * kf+c)=o+off * kf+(r * kf+c):=by omega
                  rw[e] at this
                  exact this
                · simp at bd
        · simp at hs
  · simp at hs
theorem YA (w:World) (t YB e:TypeId) (i:TypeInfo) (ht:P.underlying t=some (.slice e)) (hi:P.info? e=some i)
    (g o wQ Gu:Nat) (cur:Array Value) (tt:TypeId) (hg:w.heap[g]?=some (.cells cur tt (0,0)))
    (xa:Option Addr) (m c:Nat) (news:List Value) (hl:news.length=m * i.size) (va:0<m→∃ a,xa=some a∧∀ j u,news[j]?=some u→w.cell? (a.add j)=some u) (h1:∀ u∈news,u.oneCell'=true)
    (yj:wQ+m≤Gu) (dZ:o+wQ * i.size+news.length≤cur.size) :
    (Builtin.append_ #[t,t] YB #[.slice (some ⟨g,o,none⟩) wQ Gu,.slice xa m c]).run P w =
      .ok (.slice (some ⟨g,o,none⟩) (wQ+m) Gu) (w.setRow g (cur.toList.take (o+wQ * i.size)++news++cur.toList.drop (o+wQ * i.size+news.length)).toArray):=by
  have hf:(Builtin.firstCells i.size m (.slice xa m c)).run P w=.ok news.toArray w:=by
    rcases mR m with h0 | hp
    · subst h0
      have hn:news=[]:=ph (by simpa using hl)
      subst hn
      cases xa<;>simp[Builtin.firstCells,loadCells,loadCellsFrom]
    · obtain ⟨a,rfl,hc⟩:=va hp
      exact run_firstCells_some w i.size m a m c news hl hc
  have gm:=run_storeCells_at P g (o+wQ * i.size) tt news 0 cur w hg (by simpa using dZ) h1
  simp only[jr] at gm
  simp[Builtin.append_,run_underlying ht,sizeOf,typeInfo,hi,Builtin.lenOf,yj,hf,Addr.qm,gm]
theorem yk {g:Nat→Value} {n j:Nat} {u:Value} (h:((aN n).map g)[j]?=some u):j<n∧u=g j:=by
  have hj:=(aQ.1 h).1
  simp at hj
  simp[hj] at h
  exact⟨hj,h.symm⟩
theorem Yv {σ σ1:St} {γ:Cx} (h:bq σ γ) {t oty:TypeId} {sz:Nat} {z:List Value} (hk:(ty P t).kind=1) (dU:(ty P (ty P t).elem).kind≠99) (hz:(ty P (ty P t).elem).zero=some z)
    (a9:sz=(ty P (ty P t).elem).size) (h0:0<sz) (ki:z.length=sz) {sD x:AV} {qn Ai:Value} (hS:ay σ.aa γ.w γ.Z γ.blk sD qn) (hX:ay σ.aa γ.w γ.Z γ.blk x Ai)
    {pre src:List (List AV)} (hd:py σ sz sD=some (pre,σ1)) (rm:mW σ x=some (sz,src)) (hlen:pre.length+src.length≤549755813888) (Af:(ty P (ty P t).elem).bytes≤128)
    (lX:(src.all fun row=>row.all cf)=true) :
    ∃ nO γ1,(Builtin.append_ #[t,t] oty #[qn,Ai]).run P γ.w=.ok nO γ1.w∧γ1.tmps=γ.tmps∧bq { σ1 with aa:=σ1.aa++[.arr sz (pre++src)] } γ1 ∧
      Fr σ.aa γ (σ1.aa++[.arr sz (pre++src)]) γ1∧ay (σ1.aa++[.arr sz (pre++src)]) γ1.w γ1.Z γ1.blk (.ref σ1.aa.length sz 0 (pre.length+src.length)) nO:=by
  obtain ⟨i,d,hi,CR,rz,Ag,hzero⟩:=rA dU
  have ht:=ry hk
  have tX:i.size=sz:=by rw[← rz,← a9]
  obtain ⟨zv,wP,ju⟩ :∃zv,i.zero=some zv∧zv.cells.size=sz:=by
    rw[hzero] at hz
    cases hv:i.zero with
    | none=>simp[hv] at hz
    | some v=>simp[hv] at hz;exact⟨v,rfl,by rw[← ki,← hz];simp⟩
  obtain ⟨ad,c,g,rfl,tY,kF,yl⟩:=L4 h hX h0 rm
  obtain ⟨⟨jS,L5,_⟩,YC⟩:=Yz h hS hd
  let news:=(aN (src.length * sz)).map g
  have aq:news.length=src.length * i.size:=by simp[news,tX]
  have YD:∀ u∈news,u.oneCell'=true:=by
    intro u hu
    obtain ⟨j,hj⟩:=JB.1 hu
    obtain ⟨k8,rfl⟩:=yk hj
    have h1:j / sz<src.length:=Nat.div_lt_of_lt_mul (by rw[pZ];exact k8)
    have h2:j % sz<sz:=xL _ h0
    have cF:(src[j / sz]).length=sz:=tY _ (pW h1)
    have:=yl (j / sz) (j % sz) ((src[j / sz])[j % sz]'(by omega)) (by simp[cellAt,h1,h2,cF])
    have e:j / sz * sz+j % sz=j:=by rw[pZ];exact JE j sz
    rw[e] at this
    refine C0 this ?_
    rw[gU] at lX
    have:=lX _ (pW h1)
    rw[gU] at this
    exact this _ (pW _)
  have va:0<src.length→∃ a,ad=some a∧∀ j u,news[j]?=some u→γ.w.cell? (a.add j)=some u:=by
    intro hp
    obtain ⟨b,o,rfl,hc⟩:=kF hp
    refine⟨_,rfl,fun j u hu=>?_⟩
    obtain ⟨k8,rfl⟩:=yk hu
    rw[Addr.qm]
    exact hc j k8
  have vb:pre.length+src.length≤maxLen:=by unfold maxLen;omega
  have gn:(pre.length+src.length) * i.bytes≤140737488355328:=by
    rw[← Ag]
    calc _≤549755813888 * 128:=Nat.mul_le_mul hlen Af
      _≤_:=by omega
  have fresh:∀ (kA:Nat) (go:Nat→Value),(∀ row∈pre,row.length=sz)→(∀ r c v,cellAt pre r c=some v→ay σ.aa γ.w γ.Z γ.blk v (go (r * sz+c))) →
      ∀ (w':World) (cap:Nat),pre.length+src.length≤cap→cap≤maxLen →
        w'=γ.w.drew.alloc (.cells (((aN (pre.length * sz)).map go).toArray++news.toArray++Builtin.zeroCells zv.cells (cap - (pre.length+src.length))) (ty P t).elem) →
        ∃ γ1:Cx,γ1.w=w'∧γ1.tmps=γ.tmps∧bq { σ1 with aa:=σ1.aa++[.arr sz (pre++src)] } γ1∧Fr σ.aa γ (σ1.aa++[.arr sz (pre++src)]) γ1 ∧
          ay (σ1.aa++[.arr sz (pre++src)]) γ1.w γ1.Z γ1.blk (.ref σ1.aa.length sz 0 (pre.length+src.length)) (.slice (some ⟨γ.w.heap.size,0,none⟩) (pre.length+src.length) cap):=by
    intro kA go cq C1 w' cap oN ym nM
    have yn:∀ v cv,ay σ.aa γ.w γ.Z γ.blk v cv→ay σ1.aa γ.w γ.Z γ.blk v cv:=by
      intro v cv hv
      refine hv.mono (fun b hb=>⟨hb,rfl⟩) (fun i o ho=>?_)
      unfold py at hd
      split at hd
      · simp at hd
        rw[← hd.2]
        by_cases cQ:o=.gone
        · subst cQ;exact .inl ho
        · exact .inr ⟨rfl,o,ho,Ob.jG cQ⟩
      · rename_i id cO off len
        have hi:i<σ.aa.length:=(aQ.1 ho).1
        split at hd
        · split at hd
          · simp at hd
            rw[← hd.2]
            show (σ.aa.set id Ob.gone)[i]?=some Ob.gone∨_
            simp only[b6]
            by_cases lG:id=i
            · left;simp[lG,hi]
            · rw[if_neg lG]
              by_cases cQ:o=.gone
              · subst cQ;exact .inl ho
              · exact .inr ⟨trivial,o,ho,Ob.jG cQ⟩
          · simp at hd
        · simp at hd
      · simp at hd
    let cur:=((aN (pre.length * sz)).map go).toArray++news.toArray++Builtin.zeroCells zv.cells (cap - (pre.length+src.length))
    have aT:rn σ1.aa γ.w γ.Z γ.blk 0 cap cur (.arr sz (pre++src)):=by
      refine⟨h0,?_,?_,by simpa using oN,ym,?_⟩
      · intro row a7
        rcases cr.1 a7 with h | h
        · exact cq row h
        · exact tY row h
      · simp only[cur,news,Array.size_append,zB,ey,List.length_range,size_zeroCells,ju,← fj]
        have:pre.length+src.length+(cap - (pre.length+src.length))=cap:=by omega
        rw[this];omega
      · intro r c v hv
        have:=Yy (R:=ay σ1.aa γ.w γ.Z γ.blk) cq tY (fun r c v hv=>yn _ _ (C1 r c v hv)) (fun r c v hv=>yn _ _ (yl r c v hv)) (Builtin.zeroCells zv.cells (cap - (pre.length+src.length))).toList r c v hv
        rw[fi]
        have e:cur=(((aN (pre.length * sz)).map go)++((aN (src.length * sz)).map g)++(Builtin.zeroCells zv.cells (cap - (pre.length+src.length))).toList).toArray:=by
          apply Array.ext'
          simp[cur,news]
        rw[e]
        exact this
    refine⟨{ γ with w:=w',blk:=cS γ.blk σ1.aa.length (some (γ.w.heap.size,0,cap)) },rfl,rfl,?_,?_,?_⟩
    · exact jS.push (t:=(ty P t).elem) (cur:=cur) (by rw[nM];rfl) aT
    · exact L5.trans (Fr.push (σ:=σ1) (t:=(ty P t).elem) (cur:=cur) _ (by rw[nM];rfl) (by rw[nM];rfl) (by rw[nM];rfl) (by rw[nM];rfl))
    · have:=ay.ref (os:=σ1.aa++[.arr sz (pre++src)]) (w:=w') (Z:=γ.Z) (blk:=cS γ.blk σ1.aa.length (some (γ.w.heap.size,0,cap))) σ1.aa.length sz 0 (pre.length+src.length) γ.w.heap.size 0 cap cap (pre++src)
        (by simp) (by simp[cS]) (by simp) (by omega) oN
      simpa using this
  rcases YC with ⟨rfl,rfl⟩ | ⟨id,b,x,bo,cur,tt,rfl,rfl,oJ,rfl,hb,jJ⟩ | ⟨id,off,rows,b,o,cap,cap',cur,tt,ho,rfl,hb,jJ,rfl,L6,gp,dZ,cq,C1⟩
  · rcases mR src.length with hm | hp
    ·
      have oH:src=[]:=ph hm
      subst oH
      refine⟨.slice none 0 0,{ γ with blk:=cS γ.blk σ1.aa.length none },?_,rfl,jS.wJ h0,L5.trans (Fr.wJ _ _ _),?_⟩
      · cases ad<;>simp[Builtin.append_,run_underlying ht,sizeOf,typeInfo,hi,Builtin.lenOf,Builtin.firstCells,loadCells,loadCellsFrom]
      · exact .lE _ _ (by simp) (by simp[cS])
    · obtain ⟨a,rfl,hc⟩:=va hp
      have hr:=run_append_nil (P:=P) γ.w t oty _ i zv ht hi wP a src.length c news aq hc hp (by unfold maxLen at vb;simp at vb;omega) (by have hb:=gn;simp only[mQ,fi] at hb;omega)
      have lW:=grownCap_ge γ.w src.length 0 (ty P t).elem
      have gp:=grownCap_le_maxLen γ.w src.length 0 (ty P t).elem (by simpa using vb)
      obtain ⟨γ1,e1,e2,e3,e4,e5⟩:=fresh 0 (fun _=>Go.undef) (by simp) (by simp[cellAt]) _ (grownCap γ.w src.length 0 (ty P t).elem) (by simpa using lW) gp rfl
      simp only[mQ,Nat.zero_mul,List.range_zero,List.map_nil,fi,Array.empty_append] at e1 e5
      refine⟨.slice (some ⟨γ.w.heap.size,0,none⟩) src.length (grownCap γ.w src.length 0 (ty P t).elem),γ1,?_,e2,e3,e4,?_⟩
      · rw[hr,e1]
      · simpa using e5
  · rcases mR src.length with hm | hp
    · have oH:src=[]:=ph hm
      subst oH
      obtain ⟨ob,ho,hg⟩:=oJ
      have m0:∀ k,k≠b→γ.w.heap[k]?=γ.w.heap[k]?:=fun _ _=>rfl
      have yo:=h.Aj (ob':=.arr sz []) (o':=0) (cap':=0) ho hg (o:=bo.1) (cap:=bo.2) hb jJ m0 rfl ⟨h0,by simp,by simp,by simp,by simp[maxLen],by simp[cellAt]⟩
      have dK:=Fr.Aj (γ:=γ) (o':=0) (cap':=0) (.arr sz []) ho hg (o:=bo.1) (cap:=bo.2) hb (w':=γ.w) m0 rfl rfl rfl rfl
      refine⟨.slice (some ⟨b,x,none⟩) 0 0,{ γ with w:=γ.w,blk:=cS γ.blk σ.aa.length (some (b,0,0)) },?_,rfl,by simpa using yo,by simpa using dK,?_⟩
      · cases ad<;>simp[Builtin.append_,run_underlying ht,sizeOf,typeInfo,hi,Builtin.lenOf,Builtin.firstCells,loadCells,loadCellsFrom,storeCells]
      · have:=ay.lV (os:=σ.aa.set id .gone++[.arr sz []]) (w:=γ.w) (Z:=γ.Z) (blk:=cS γ.blk σ.aa.length (some (b,0,0))) σ.aa.length sz 0 b x (0,0) []
          (by rw[eK (by simp)];simp) (by simp[cS]) (by simp)
        simpa using this
    · obtain ⟨a,rfl,hc⟩:=va hp
      have hr:=run_append_grow (P:=P) γ.w t oty _ i zv ht hi wP ⟨b,x,none⟩ 0 0 [] (by simp) (by simp) a src.length c news aq hc (by omega) (by unfold maxLen at vb;simp at vb;omega) (growslice_fits (by omega) (by simpa using gn))
      have lW:=grownCap_ge γ.w (0+src.length) 0 (ty P t).elem
      have gp:=grownCap_le_maxLen γ.w (0+src.length) 0 (ty P t).elem (by simpa using vb)
      obtain ⟨γ1,e1,e2,e3,e4,e5⟩:=fresh 0 (fun _=>Go.undef) (by simp) (by simp[cellAt]) _ (grownCap γ.w (0+src.length) 0 (ty P t).elem) (by simpa using lW) gp rfl
      refine⟨.slice (some ⟨γ.w.heap.size,0,none⟩) (0+src.length) (grownCap γ.w (0+src.length) 0 (ty P t).elem),γ1,?_,e2,e3,e4,?_⟩
      · rw[hr,e1];simp
      · simpa using e5
  · by_cases yj:pre.length+src.length≤cap'
    ·
      have hmul:pre.length * sz+src.length * sz≤cap' * sz:=by rw[← fj];exact mo _ yj
      have C3:news.length=src.length * sz:=by rw[aq,tX]
      have hr:=YA (P:=P) γ.w t oty _ i ht hi b (o+off * sz) pre.length cap' cur tt jJ ad src.length c news aq va YD yj (by rw[tX,C3];omega)
      have aT:rn σ.aa γ.w γ.Z γ.blk (o+off * sz) cap' (cur.toList.take (o+off * sz+pre.length * i.size)++news++cur.toList.drop (o+off * sz+pre.length * i.size+news.length)).toArray (.arr sz (pre++src)):=by
        refine⟨h0,?_,?_,by simpa using yj,gp,?_⟩
        · intro row a7
          rcases cr.1 a7 with h | h
          · exact cq row h
          · exact tY row h
        · simp only[zB,bV,gV,v5,si,tX,C3]
          omega
        · intro r c v hv
          rw[Ak cur _ news (by rw[tX,C3];omega),tX,C3]
          rw[L1] at hv
          split at hv
          · obtain ⟨Gv,oN⟩:=zV cq hv
            have:=wG Gv oN
            rw[if_neg (by omega)]
            exact C1 r c v hv
          · obtain ⟨Gv,oN⟩:=zV tY hv
            have hl:=wG Gv oN
            have e:r * sz+c=pre.length * sz+((r - pre.length) * sz+c):=by
              have:r=pre.length+(r - pre.length):=by omega
              conv=>lhs;rw[this,fj]
              omega
            rw[if_pos (by omega)]
            have e2:o+off * sz+(r * sz+c) - (o+off * sz+pre.length * sz)=(r - pre.length) * sz+c:=by omega
            rw[e2]
            simp only[news,aA]
            simp[hl]
            exact yl _ _ _ hv
      have yo:=h.Aj ho (by simp) hb (setRow_heap γ.w b cur _ tt _ jJ) (fun k hk=>setRow_other γ.w b k _ hk) (setRow_size _ _ _) aT
      have dK:=Fr.Aj (γ:=γ) (o':=o+off * sz) (cap':=cap') (.arr sz (pre++src)) ho (by simp) hb (w':=γ.w.setRow b (cur.toList.take (o+off * sz+pre.length * i.size)++news++cur.toList.drop (o+off * sz+pre.length * i.size+news.length)).toArray) (fun k hk=>setRow_other γ.w b k _ hk) (setRow_size _ _ _) rfl rfl rfl
      refine⟨_,{ γ with w:=γ.w.setRow b (cur.toList.take (o+off * sz+pre.length * i.size)++news++cur.toList.drop (o+off * sz+pre.length * i.size+news.length)).toArray,blk:=cS γ.blk σ.aa.length (some (b,o+off * sz,cap')) },hr,rfl,?_,?_,?_⟩
      · simpa using yo
      · simpa using dK
      · have:=ay.ref (os:=σ.aa.set id .gone++[.arr sz (pre++src)]) (w:=γ.w.setRow b (cur.toList.take (o+off * sz+pre.length * i.size)++news++cur.toList.drop (o+off * sz+pre.length * i.size+news.length)).toArray) (Z:=γ.Z)
          (blk:=cS γ.blk σ.aa.length (some (b,o+off * sz,cap'))) σ.aa.length sz 0 (pre.length+src.length) b (o+off * sz) cap' cap' (pre++src)
          (by rw[eK (by simp)];simp) (by simp[cS]) (by simp) (by omega) yj
        simpa using this
    ·
      let go:Nat→Value:=fun j=>cur.getD (o+off * sz+j) Go.undef
      let C4:=(aN (pre.length * sz)).map go
      have fT:C4.length=pre.length * i.size:=by simp[C4,tX]
      have afw:pre.length * sz≤cap' * sz:=mo _ L6
      have holds:∀ j v,C4[j]?=some v→γ.w.cell? ((⟨b,o+off * sz,none⟩:Addr).add j)=some v:=by
        intro j v hj
        obtain ⟨k8,rfl⟩:=yk hj
        rw[Addr.qm]
        exact yb jJ (by omega)
      have hp:0<src.length:=by omega
      obtain ⟨a,rfl,hc⟩:=va hp
      have hr:=run_append_grow (P:=P) γ.w t oty _ i zv ht hi wP ⟨b,o+off * sz,none⟩ pre.length cap' C4 fT holds a src.length c news aq hc (by omega) (by unfold maxLen at vb;omega) (growslice_fits (by omega) gn)
      have lW:=grownCap_ge γ.w (pre.length+src.length) cap' (ty P t).elem
      have YE:=grownCap_le_maxLen γ.w (pre.length+src.length) cap' (ty P t).elem vb
      obtain ⟨γ1,e1,e2,e3,e4,e5⟩:=fresh 0 go cq C1 _ (grownCap γ.w (pre.length+src.length) cap' (ty P t).elem) lW YE rfl
      refine⟨_,γ1,?_,e2,e3,e4,e5⟩
      rw[hr,e1]
theorem Yw {σ:St} {γ:Cx} (h:bq σ γ) {t t' oty:TypeId} {sz:Nat} (hk:(ty P t).kind=1) (dU:(ty P (ty P t).elem).kind≠99)
    (a9:sz=(ty P (ty P t).elem).size) (h0:0<sz) {id off len:Nat} {x:AV} {qn Ai:Value} (hS:ay σ.aa γ.w γ.Z γ.blk (.ref id sz off len) qn) (hX:ay σ.aa γ.w γ.Z γ.blk x Ai)
    {rows:List (List AV)} (ho:σ.aa[id]?=some (.arr sz rows)) {src:List (List AV)} (rm:mW σ x=some (sz,src)) (lX:(src.all fun row=>row.all cf)=true) :
    ∃ w',(Builtin.copy_ #[t,t'] oty #[qn,Ai]).run P γ.w=.ok (.int .i64 (min src.length len:Nat)) w' ∧
      bq { σ with aa:=σ.aa.set id (.arr sz (rows.take off++src.take (min src.length len)++rows.drop (off+min src.length len))) } { γ with w:=w' } ∧
      Fr σ.aa γ (σ.aa.set id (.arr sz (rows.take off++src.take (min src.length len)++rows.drop (off+min src.length len)))) { γ with w:=w' }:=by
  obtain ⟨i,d,hi,CR,rz,Ag,hzero⟩:=rA dU
  have ht:=ry hk
  have tX:i.size=sz:=by rw[← rz,← a9]
  obtain ⟨ad,c,g,rfl,tY,kF,yl⟩:=L4 h hX h0 rm
  have cV:id<σ.aa.length:=(aQ.1 ho).1
  have zero:∀ (wR:Option Addr) (cap':Nat),min src.length len=0→qn=.slice wR len cap'→∃ w',(Builtin.copy_ #[t,t'] oty #[qn,.slice ad src.length c]).run P γ.w=.ok (.int .i64 (min src.length len:Nat)) w' ∧
      bq { σ with aa:=σ.aa.set id (.arr sz (rows.take off++src.take (min src.length len)++rows.drop (off+min src.length len))) } { γ with w:=w' } ∧
      Fr σ.aa γ (σ.aa.set id (.arr sz (rows.take off++src.take (min src.length len)++rows.drop (off+min src.length len)))) { γ with w:=w' }:=by
    intro wR cap' hz bd
    have gr:σ.aa.set id (.arr sz rows)=σ.aa:=by
      apply nt
      intro j
      rw[b6]
      split
      · rename_i e;subst e;simp[ho]
      · rfl
    refine⟨γ.w,?_,?_,?_⟩
    · have hm:Nat.min src.length len=0:=hz
      subst bd
      cases ad<;>cases wR<;>simp[Builtin.copy_,run_underlying ht,sizeOf,typeInfo,hi,Builtin.lenOf,Builtin.firstCells,loadCells,loadCellsFrom,storeCells,hm,goInt,hz]
    · rw[hz];simp[gr];exact h
    · rw[hz];simp[gr];exact Fr.refl _ _
  cases hS with
  | bW _ _ h=>cases h
  | kh _ _ _ _ _ h=>rw[ho] at h;simp at h
  | lE _ _ h hb=>exact zero none 0 (by simp) rfl
  | lV _ _ _ b x bo fO h hb hl=>exact zero _ 0 (by simp) rfl
  | ref _ _ _ _ b o cap cap' fO h' hb hl hc kX =>
    rw[ho] at h';simp at h'
    subst h'
    rcases mR (min src.length len) with hz | hp
    · exact zero _ _ hz rfl
    obtain ⟨_,cF,aT⟩:=h.ez id _ ho
    rcases aT with ⟨h1,_⟩ | ⟨b',o',zU,cur,tt,h1,h2,h3,h4,h5,h6⟩
    · rw[hb] at h1;simp at h1
    rw[hb] at h1;simp at h1
    obtain ⟨rfl,rfl,rfl⟩:=h1
    generalize hn:min src.length len=n at *
    have e9:n≤src.length:=by omega
    have nN:n≤len:=by omega
    let news:=(aN (n * sz)).map g
    have aq:news.length=n * sz:=by simp[news]
    have jd:∀ u∈news,u.oneCell'=true:=by
      intro u hu
      obtain ⟨j,hj⟩:=JB.1 hu
      obtain ⟨k8,rfl⟩:=yk hj
      have k1:j / sz<n:=Nat.div_lt_of_lt_mul (by rw[pZ];exact k8)
      have k2:j % sz<sz:=xL _ h0
      have k3:j / sz<src.length:=by omega
      have cF:(src[j / sz]).length=sz:=tY _ (pW k3)
      have:=yl (j / sz) (j % sz) ((src[j / sz])[j % sz]'(by omega)) (by simp[cellAt,k3,k2,cF])
      have e:j / sz * sz+j % sz=j:=by rw[pZ];exact JE j sz
      rw[e] at this
      refine C0 this ?_
      rw[gU] at lX
      have:=lX _ (pW k3)
      rw[gU] at this
      exact this _ (pW _)
    obtain ⟨sb,so,rfl,nA⟩:=kF (by omega)
    have hle:n * sz≤src.length * sz:=mo _ e9
    have yp:=run_loadCells_list (P:=P) γ.w ⟨sb,so,none⟩ news (fun j v hj=>by
      obtain ⟨k8,rfl⟩:=yk hj
      rw[Addr.qm]
      exact nA j (by omega))
    have dZ:(off+n) * sz≤cap * sz:=mo _ (by omega)
    rw[fj] at dZ
    have gm:=run_storeCells_at P b (o+off * sz) tt news 0 cur γ.w h2 (by rw[aq];omega) jd
    simp only[jr] at gm
    have eQ:(Builtin.copy_ #[t,t'] oty #[.slice (some ⟨b,o+off * sz,none⟩) len cap',.slice (some ⟨sb,so,none⟩) src.length c]).run P γ.w=.ok (.int .i64 (n:Nat)) (γ.w.setRow b (cur.toList.take (o+off * sz)++news++cur.toList.drop (o+off * sz+news.length)).toArray):=by
      have hm:Nat.min src.length len=n:=hn
      rw[aq] at yp
      simp[Builtin.copy_,run_underlying ht,sizeOf,typeInfo,hi,Builtin.lenOf,Builtin.firstCells,hm,tX,yp,gm,goInt]
    have Gw:rn σ.aa γ.w γ.Z γ.blk o cap (cur.toList.take (o+off * sz)++news++cur.toList.drop (o+off * sz+news.length)).toArray (.arr sz (rows.take off++src.take n++rows.drop (off+n))):=by
      refine⟨h0,?_,?_,?_,h5,?_⟩
      · intro row a7
        simp only[cr] at a7
        rcases a7 with (hr | hr) | hr
        · exact cF row (sr hr)
        · exact tY row (sr hr)
        · exact cF row (sq hr)
      · simp only[zB,bV,gV,v5,si,aq]
        omega
      · simp;omega
      · intro r cc v hv
        rw[Ak cur _ news (by rw[aq];omega),aq]
        have bw:cc<sz:=by
          simp only[cellAt,v3] at hv
          obtain ⟨y,hy,oM⟩:=hv
          have hm:=gB hy
          have:=(aQ.1 oM).1
          simp only[cr] at hm
          rcases hm with (hr | hr) | hr
          · have:=cF y (sr hr);omega
          · have:=tY y (sr hr);omega
          · have:=cF y (sq hr);omega
        rcases eF r off with k1 | k1
        · have e:cellAt (rows.take off++src.take n++rows.drop (off+n)) r cc=cellAt rows r cc:=by
            simp only[cellAt,dI]
            rw[cn (by simp;omega),sn,if_pos k1]
          rw[e] at hv
          have hm:(r+1) * sz≤off * sz:=mo _ (by omega)
          rw[fj] at hm
          rw[if_neg (by omega)]
          exact h6 r cc v hv
        · rcases eF r (off+n) with k2 | k2
          · have e:cellAt (rows.take off++src.take n++rows.drop (off+n)) r cc=cellAt src (r - off) cc:=by
              simp only[cellAt,dI]
              rw[eK (by simp;omega),cn (by simp;omega),sn,if_pos (by simp;omega)]
              congr 2;simp;omega
            rw[e] at hv
            have e1:r=off+(r - off):=by omega
            have e2:r * sz=off * sz+(r - off) * sz:=by rw[← fj,← e1]
            have hm:(r - off+1) * sz≤n * sz:=mo _ (by omega)
            rw[fj] at hm
            rw[if_pos (by omega)]
            have e3:o+(r * sz+cc) - (o+off * sz)=(r - off) * sz+cc:=by omega
            rw[e3]
            have hl:(r - off) * sz+cc<n * sz:=by omega
            simp only[news,aA]
            simp[hl]
            exact yl _ _ _ hv
          · have e:cellAt (rows.take off++src.take n++rows.drop (off+n)) r cc=cellAt rows r cc:=by
              simp only[cellAt]
              rw[eK (by simp;omega),nr]
              congr 2;simp;omega
            rw[e] at hv
            have hm:(off+n) * sz≤r * sz:=mo _ k2
            rw[fj] at hm
            rw[if_neg (by omega)]
            exact h6 r cc v hv
    refine⟨_,eQ,?_,?_⟩
    · exact h.write ho (by simp) (by simp[Ob.dW];omega) hb (setRow_heap γ.w b cur _ tt _ h2) (fun k hk=>setRow_other γ.w b k _ hk) (setRow_size _ _ _) Gw
    · exact Fr.write _ ho (by simp) (by simp[Ob.dW];omega) hb (fun k hk=>setRow_other γ.w b k _ hk) (setRow_size _ _ _) rfl rfl rfl
theorem Yx {σ:St} {γ:Cx} (h:bq σ γ) {t oty:TypeId} {sz:Nat} {z:List Value} (hk:(ty P t).kind=1) (dU:(ty P (ty P t).elem).kind≠99)
    (ki:z.length=sz) (h0:0<sz) (hz:(ty P (ty P t).elem).zero=some z) (CZ:(z.all fun u=>u.oneCell')=true) {id off len:Nat} {qn:Value} (hS:ay σ.aa γ.w γ.Z γ.blk (.ref id sz off len) qn)
    {rows:List (List AV)} (ho:σ.aa[id]?=some (.arr sz rows)) :
    ∃ w',(Builtin.clear_ #[t] oty #[qn]).run P γ.w=.ok (.tuple #[]) w' ∧
      bq { σ with aa:=σ.aa.set id (.arr sz (rows.take off++bY len (z.map AV.lit)++rows.drop (off+len))) } { γ with w:=w' } ∧
      Fr σ.aa γ (σ.aa.set id (.arr sz (rows.take off++bY len (z.map AV.lit)++rows.drop (off+len)))) { γ with w:=w' }:=by
  obtain ⟨i,d,hi,CR,rz,Ag,hzero⟩:=rA dU
  have ht:=ry hk
  rw[hz] at hzero
  obtain ⟨zv,wP,ju⟩:=Option.map_eq_some_iff.1 hzero.symm
  have Gx:zv.cells.size=sz:=by rw[← ki,← ju];simp
  have cV:id<σ.aa.length:=(aQ.1 ho).1
  have zero:∀ (wR:Option Addr) (cap':Nat),len=0→qn=.slice wR len cap'→∃ w',(Builtin.clear_ #[t] oty #[qn]).run P γ.w=.ok (.tuple #[]) w' ∧
      bq { σ with aa:=σ.aa.set id (.arr sz (rows.take off++bY len (z.map AV.lit)++rows.drop (off+len))) } { γ with w:=w' } ∧
      Fr σ.aa γ (σ.aa.set id (.arr sz (rows.take off++bY len (z.map AV.lit)++rows.drop (off+len)))) { γ with w:=w' }:=by
    intro wR cap' sJ bd
    have gr:σ.aa.set id (.arr sz rows)=σ.aa:=by
      apply nt
      intro j
      rw[b6]
      split
      · rename_i e;subst e;simp[ho]
      · rfl
    refine⟨γ.w,?_,?_,?_⟩
    · subst bd;subst sJ
      cases wR<;>simp[Builtin.clear_,run_underlying ht]
    · subst sJ;simp[gr];exact h
    · subst sJ;simp[gr];exact Fr.refl _ _
  cases hS with
  | bW _ _ h=>cases h
  | kh _ _ _ _ _ h=>rw[ho] at h;simp at h
  | lE _ _ h hb=>exact zero none 0 rfl rfl
  | lV _ _ _ b x bo fO h hb hl=>exact zero _ 0 rfl rfl
  | ref _ _ _ _ b o cap cap' fO h' hb hl hc kX =>
    rw[ho] at h';simp at h'
    subst h'
    rcases mR len with sJ | hp
    · exact zero _ _ sJ rfl
    obtain ⟨_,cF,aT⟩:=h.ez id _ ho
    rcases aT with ⟨h1,_⟩ | ⟨b',o',zU,cur,tt,h1,h2,h3,h4,h5,h6⟩
    · rw[hb] at h1;simp at h1
    rw[hb] at h1;simp at h1
    obtain ⟨rfl,rfl,rfl⟩:=h1
    let g:Nat→Value:=fun i=>zv.cells[i % zv.cells.size]!
    let news:=(aN (len * sz)).map g
    have va:(Builtin.zeroCells zv.cells len).toList=news:=by
      simp[Builtin.zeroCells,news,g,Gx]
    have aq:news.length=len * sz:=by simp[news]
    have L7:∀ i,i<sz→∃ u,z[i]?=some u∧zv.cells[i]! = u:=by
      intro i hi'
      have:i<zv.cells.size:=by omega
      refine⟨zv.cells[i],?_,?_⟩
      · rw[← ju];simp[this]
      · simp[this]
    have jd:∀ u∈news,u.oneCell'=true:=by
      intro u hu
      obtain ⟨j,hj⟩:=JB.1 hu
      obtain ⟨k8,rfl⟩:=yk hj
      obtain ⟨u,k1,k2⟩:=L7 (j % sz) (xL _ h0)
      show (zv.cells[j % zv.cells.size]!).oneCell'=true
      rw[Gx,k2]
      rw[gU] at CZ
      exact CZ _ (gB k1)
    have dZ:(off+len) * sz≤cap * sz:=mo _ (by omega)
    rw[fj] at dZ
    have gm:=run_storeCells_at P b (o+off * sz) tt news 0 cur γ.w h2 (by rw[aq];omega) jd
    simp only[jr] at gm
    have eQ:(Builtin.clear_ #[t] oty #[.slice (some ⟨b,o+off * sz,none⟩) len cap']).run P γ.w=.ok (.tuple #[]) (γ.w.setRow b (cur.toList.take (o+off * sz)++news++cur.toList.drop (o+off * sz+news.length)).toArray):=by
      obtain ⟨afx,rfl⟩ :∃k,len=k+1:=⟨len - 1,by omega⟩
      simp[Builtin.clear_,run_underlying ht,zeroValue,typeInfo,hi,wP,va,gm]
    have Gw:rn σ.aa γ.w γ.Z γ.blk o cap (cur.toList.take (o+off * sz)++news++cur.toList.drop (o+off * sz+news.length)).toArray (.arr sz (rows.take off++bY len (z.map AV.lit)++rows.drop (off+len))):=by
      refine⟨h0,?_,?_,?_,h5,?_⟩
      · intro row a7
        simp only[cr] at a7
        rcases a7 with (hr | hr) | hr
        · exact cF row (sr hr)
        · rw[zE hr,ey];exact ki
        · exact cF row (sq hr)
      · simp only[zB,bV,gV,v5,si,aq]
        omega
      · simp;omega
      · intro r cc v hv
        rw[Ak cur _ news (by rw[aq];omega),aq]
        have bw:cc<sz:=by
          simp only[cellAt,v3] at hv
          obtain ⟨y,hy,oM⟩:=hv
          have hm:=gB hy
          have:=(aQ.1 oM).1
          simp only[cr] at hm
          rcases hm with (hr | hr) | hr
          · have:=cF y (sr hr);omega
          · have C5:=zE hr
            rw[C5,ey] at this;omega
          · have:=cF y (sq hr);omega
        rcases eF r off with k1 | k1
        · have e:cellAt (rows.take off++bY len (z.map AV.lit)++rows.drop (off+len)) r cc=cellAt rows r cc:=by
            simp only[cellAt,dI]
            rw[cn (by simp;omega),sn,if_pos k1]
          rw[e] at hv
          have hm:(r+1) * sz≤off * sz:=mo _ (by omega)
          rw[fj] at hm
          rw[if_neg (by omega)]
          exact h6 r cc v hv
        · rcases eF r (off+len) with k2 | k2
          · have e:cellAt (rows.take off++bY len (z.map AV.lit)++rows.drop (off+len)) r cc=(z.map AV.lit)[cc]?:=by
              simp only[cellAt,dI]
              rw[eK (by simp;omega),cn (by simp;omega),List.getElem?_replicate,if_pos (by simp;omega)]
              rfl
            rw[e,cm] at hv
            obtain ⟨u,k3,k4⟩:=L7 cc bw
            rw[k3] at hv
            simp only[gf,cY.injEq] at hv
            subst hv
            have e1:r=off+(r - off):=by omega
            have e2:r * sz=off * sz+(r - off) * sz:=by rw[← fj,← e1]
            have hm:(r - off+1) * sz≤len * sz:=mo _ (by omega)
            rw[fj] at hm
            rw[if_pos (by omega)]
            have e3:o+(r * sz+cc) - (o+off * sz)=(r - off) * sz+cc:=by omega
            rw[e3]
            have hl:(r - off) * sz+cc<len * sz:=by omega
            have e4:news.getD ((r - off) * sz+cc) Go.undef=u:=by
              simp only[news,aA]
              rw[cm,List.getElem?_range hl]
              show zv.cells[((r - off) * sz+cc) % zv.cells.size]! = u
              rw[Gx,pZ,Nat.mul_add_mod,B6 bw,k4]
            first
              | (rw[e4];exact .lit _)
              | (simp only[aA] at e4 ⊢;rw[e4];exact .lit _)
          · have e:cellAt (rows.take off++bY len (z.map AV.lit)++rows.drop (off+len)) r cc=cellAt rows r cc:=by
              simp only[cellAt]
              rw[eK (by simp;omega),nr]
              congr 2;simp;omega
            rw[e] at hv
            have hm:(off+len) * sz≤r * sz:=mo _ k2
            rw[fj] at hm
            rw[if_neg (by omega)]
            exact h6 r cc v hv
    refine⟨_,eQ,?_,?_⟩
    · exact h.write ho (by simp) (by simp[Ob.dW];omega) hb (setRow_heap γ.w b cur _ tt _ h2) (fun k hk=>setRow_other γ.w b k _ hk) (setRow_size _ _ _) Gw
    · exact Fr.write _ ho (by simp) (by simp[Ob.dW];omega) hb (fun k hk=>setRow_other γ.w b k _ hk) (setRow_size _ _ _) rfl rfl rfl
end Go.Am
namespace Go.Am
variable {P:Program}
theorem YF (l:List Value):∀ (j off:Nat) (cells:Array Value),off+j+l.length≤cells.size →
    ((l.zipIdx j).foldl (fun cs (x:Value × Nat)=>cs.setIfInBounds (off+x.2) x.1) cells).size=cells.size ∧
    ∀ k,((l.zipIdx j).foldl (fun cs (x:Value × Nat)=>cs.setIfInBounds (off+x.2) x.1) cells).getD k Go.undef=if off+j≤k∧k<off+j+l.length then l.getD (k - (off+j)) Go.undef else cells.getD k Go.undef:=by
  induction l with
  | nil=>intro j off cells _;simp;intro k h1 h2;omega
  | cons v l ih =>
    intro j off cells hl
    simp only[dH] at hl
    simp only[List.zipIdx_cons,List.foldl_cons]
    obtain ⟨h1,h2⟩:=ih (j+1) off (cells.setIfInBounds (off+j) v) (by simp;omega)
    refine⟨by rw[h1];simp,fun k=>?_⟩
    rw[h2 k]
    simp only[dH]
    by_cases c1:off+(j+1)≤k∧k<off+(j+1)+l.length
    · rw[if_pos c1,if_pos (by omega)]
      have:k - (off+j)=(k - (off+(j+1)))+1:=by omega
      rw[this];simp
    · rw[if_neg c1]
      by_cases c2:k=off+j
      · subst c2
        rw[if_pos (by omega)]
        simp[eY,show off+j<cells.size by omega]
      · rw[if_neg (by omega)]
        simp[eY,Array.getElem?_setIfInBounds_ne (Ne.symm c2)]
theorem YG (v:Value) (off:Nat) (cells:Array Value) :
    (v.cells.zipIdx.foldl (fun cs (c,j)=>cs.setIfInBounds (off+j) c) cells)=((v.cells.toList.zipIdx 0).foldl (fun cs (x:Value × Nat)=>cs.setIfInBounds (off+x.2) x.1) cells):=by
  rw[← Array.foldl_toList]
  simp
def Al (R:AV→Value→Prop) (cs:List AV) (cur:Array Value):Prop:=cur.size=cs.length∧∀ j x,cs[j]?=some x→R x (cur.getD j Go.undef)
theorem CT {σ:St} {γ:Cx} {place:Nat→Option (Nat × Nat)}:∀ (parts:List (Nat × AV)) (pv:List (Nat × Value)) (cs:List AV) (cur:Array Value) (pA:List AV),
    parts.length=pv.length→(∀ (j:Nat) (p:Nat × AV) (q:Nat × Value),parts[j]?=some p→pv[j]?=some q→p.1=q.1∧ay σ.aa γ.w γ.Z γ.blk p.2 q.2)→(∀ p∈parts,(cellsOf p.2).all cf=true) →
    Al (ay σ.aa γ.w γ.Z γ.blk) cs cur→lC place cs parts=some pA→∃ nR,Instr.fill place cur pv=some nR∧Al (ay σ.aa γ.w γ.Z γ.blk) pA nR
  | [],pv,cs,cur,pA,hl,_,_,hc,h=>by
    have:pv=[]:=ph hl.symm
    subst this
    simp[lC] at h
    subst h
    exact⟨cur,by simp[Instr.fill],hc⟩
  | (i,v)::rest,[],cs,cur,pA,hl,_,_,_,_=>by simp at hl
  | (i,v)::rest,(i',x)::pv,cs,cur,pA,hl,hr,hs,hc,h=>by
    obtain ⟨e1,e2⟩:=hr 0 (i,v) (i',x) rfl rfl
    simp only at e1 e2
    subst e1
    simp only[lC] at h
    cases hp:place i with
    | none=>simp[hp] at h
    | some os =>
      obtain ⟨off,size⟩:=os
      simp only[hp] at h
      split at h
      · rename_i YH
        obtain ⟨h1,h2⟩:=YH
        obtain ⟨g1,g2,g3⟩:=Gi e2 (hs (i,v) (by simp))
        have a9:x.cells.size=size:=by rw[g1,h1]
        obtain ⟨j9,pC⟩:=hc
        have dZ:off+0+x.cells.toList.length≤cur.size:=by simp[a9,j9];omega
        obtain ⟨f1,f2⟩:=YF x.cells.toList 0 off cur dZ
        have YI:Al (ay σ.aa γ.w γ.Z γ.blk) (setCells cs off (cellsOf v)) (x.cells.zipIdx.foldl (fun cs (c,j)=>cs.setIfInBounds (off+j) c) cur):=by
          rw[YG]
          refine⟨by rw[f1,Gm];exact j9,fun j y hj=>?_⟩
          rw[L8 _ _ _ (by rw[h1];exact h2)] at hj
          rw[f2 j]
          simp only[jr,si,a9]
          rw[h1] at hj
          by_cases ei:off≤j∧j<off+size
          · rw[if_pos ei] at hj
            rw[if_pos ei]
            have:=g2 _ _ hj
            simpa [aA,eY] using this
          · rw[if_neg ei] at hj
            rw[if_neg ei]
            exact pC j y hj
        obtain ⟨nR,k1,k2⟩:=CT rest pv _ _ pA (by simpa using hl) (fun j p q hp hq=>hr (j+1) p q (by simpa using hp) (by simpa using hq)) (fun p hp=>hs p (by simp[hp])) YI h
        refine⟨nR,?_,k2⟩
        simp only[Instr.fill,hp]
        rw[if_neg ?_]
        · exact k1
        · simp[a9,j9];omega
      · simp at h
theorem Gg {os:List Ob} {w:World} {Z:Nat→Prop} {blk:fQ} (z:List Value):Al (ay os w Z blk) (z.map .lit) z.toArray:=by
  refine⟨by simp,fun j x hx=>?_⟩
  simp only[cm] at hx
  cases hj:z[j]? with
  | none=>simp[hj] at hx
  | some y =>
    simp[hj] at hx
    subst hx
    simp[eY,hj]
    exact .lit y
theorem Gk {σ:St} {γ:Cx} (h:bq σ γ) {a:Act} (ha:γ.tmps=a.tmps) (parts:Array (Nat × Operand)) :
    (parts.toList.map fun p=>(p.1,ev σ p.2)).length=(parts.map fun (i,x)=>(i,a.eval x)).toList.length ∧
    ∀ (j:Nat) (p:Nat × AV) (q:Nat × Value),(parts.toList.map fun p=>(p.1,ev σ p.2))[j]?=some p→(parts.map fun (i,x)=>(i,a.eval x)).toList[j]?=some q→p.1=q.1∧ay σ.aa γ.w γ.Z γ.blk p.2 q.2:=by
  refine⟨by simp,fun j p q hp hq=>?_⟩
  simp only[Array.toList_map,cm] at hp hq
  cases hj:parts.toList[j]? with
  | none=>simp[hj] at hp
  | some y =>
    simp only[hj,gf,cY.injEq] at hp hq
    subst hp
    subst hq
    exact⟨rfl,sG h ha y.2⟩
theorem Yj {σ:St} {γ:Cx} (h:bq σ γ) {a:Act} (ha:γ.tmps=a.tmps) {t:TypeId} {parts:Array (Nat × Operand)} {z:List Value} (hk:(ty P t).kind=3) (hz:(ty P t).zero=some z) {cs:List AV}
    (hf:lC (fun i=>((ty P t).aL[i]?).map fun f=>(f.1,f.2.2)) (z.map .lit) (parts.toList.map fun p=>(p.1,ev σ p.2))=some cs)
    (hs:(parts.toList.all fun p=>(cellsOf (ev σ p.2)).all cf)=true) (hp:((ty P t).aL.all fun f=>decide (0<f.2.2))=true) :
    ∃ cur,(Instr.build t (parts.map fun (i,x)=>(i,a.eval x))).run P γ.w=.ok (.agg cur) γ.w∧ay σ.aa γ.w γ.Z γ.blk (.agg cs) (.agg cur):=by
  obtain ⟨it,d,hi,hd,_,_,hzero⟩:=rA (P:=P) (t:=t) (by rw[hk];simp)
  obtain ⟨fs,hu,eP⟩:=Gs hk
  rw[hzero] at hz
  cases hv:it.zero with
  | none=>simp[hv] at hz
  | some zv =>
    simp[hv] at hz
    have ju:z.toArray=zv.cells:=by rw[← hz]
    obtain ⟨hl,hr⟩:=Gk h ha parts
    obtain ⟨cur,h1,h2⟩:=CT (σ:=σ) (γ:=γ) _ _ _ _ cs hl hr (fun p hp=>by
      simp only[ca] at hp
      obtain ⟨q,hq,rfl⟩:=hp
      rw[gU] at hs
      exact hs q hq) (Gg z) hf
    refine⟨cur,run_build γ.w t _ cur ?_,.agg _ _ h2.1 h2.2⟩
    unfold Program.built
    rw[hi,hu]
    simp only[hv]
    have YJ:∀ (l:List Field),(∀ f∈l,0<tW P f.type)→l.mapM (fun f=>(P.info? f.type).map fun i=>(f.offset,i.size))=some (l.map fun f=>(f.offset,tW P f.type)):=by
      intro l
      induction l with
      | nil=>intro _;simp
      | cons f l ih =>
        intro hl
        have h0:=hl f (by simp)
        unfold tW at h0
        cases Gy:P.info? f.type with
        | none=>simp[Gy] at h0
        | some i =>
          simp only[List.mapM_cons,Gy,gf,ih (fun g hg=>hl g (by simp[hg]))]
          simp[tW,Gy]
    rw[YJ fs.toList (by
      intro f gY
      rw[eP] at hp
      simp only[List.all_map,gU] at hp
      have:=hp f gY
      simpa using this)]
    simp only
    rw[← ju]
    have:(fun (x:Nat)=>((fs.toList.map fun f=>(f.offset,tW P f.type)).toArray[x]?))=(fun (i:Nat)=>((ty P t).aL[i]?).map fun (f:Nat × Nat × Nat)=>(f.1,f.2.2)):=by
      funext i
      rw[eP]
      simp
      cases fs[i]?<;>simp
    rw[this]
    exact h1
theorem Yk {σ:St} {γ:Cx} (h:bq σ γ) {a:Act} (ha:γ.tmps=a.tmps) {t:TypeId} {parts:Array (Nat × Operand)} {z:List Value} (hk:(ty P t).kind=2) (hz:(ty P t).zero=some z) {cs:List AV}
    (hf:lC (fun i=>some (i * (ty P (ty P t).elem).size,(ty P (ty P t).elem).size)) (z.map .lit) (parts.toList.map fun p=>(p.1,ev σ p.2))=some cs)
    (hs:(parts.toList.all fun p=>(cellsOf (ev σ p.2)).all cf)=true) (dU:(ty P (ty P t).elem).kind≠99) :
    ∃ cur,(Instr.build t (parts.map fun (i,x)=>(i,a.eval x))).run P γ.w=.ok (.agg cur) γ.w∧ay σ.aa γ.w γ.Z γ.blk (.agg cs) (.agg cur):=by
  obtain ⟨it,d,hi,hd,_,_,hzero⟩:=rA (P:=P) (t:=t) (by rw[hk];simp)
  have hu:=L0 hk
  obtain ⟨ie,de,YK,_,rz,_,_⟩:=rA dU
  rw[hzero] at hz
  cases hv:it.zero with
  | none=>simp[hv] at hz
  | some zv =>
    simp[hv] at hz
    have ju:z.toArray=zv.cells:=by rw[← hz]
    obtain ⟨hl,hr⟩:=Gk h ha parts
    obtain ⟨cur,h1,h2⟩:=CT (σ:=σ) (γ:=γ) _ _ _ _ cs hl hr (fun p hp=>by
      simp only[ca] at hp
      obtain ⟨q,hq,rfl⟩:=hp
      rw[gU] at hs
      exact hs q hq) (Gg z) hf
    refine⟨cur,run_build γ.w t _ cur ?_,.agg _ _ h2.1 h2.2⟩
    unfold Program.built
    rw[hi,hu]
    simp only[hv,YK]
    rw[← ju,← rz]
    exact h1
theorem Gn (sz:Nat):∀ (n:Nat) (cs:List AV),(lD sz n cs).length=n
  | 0,_=>rfl
  | n+1,cs=>by simp[lD,Gn sz n]
theorem LY (sz:Nat):∀ (n:Nat) (cs:List AV),n * sz≤cs.length→∀ row∈lD sz n cs,row.length=sz
  | 0,_,_,row,h=>by simp[lD] at h
  | n+1,cs,hl,row,h=>by
    rw[fj] at hl
    simp only[lD,List.mem_cons] at h
    rcases h with rfl | h
    · simp;omega
    · exact LY sz n (cs.drop sz) (by simp;omega) row h
theorem LZ (sz:Nat):∀ (n:Nat) (cs:List AV) (r c:Nat) (v:AV),cellAt (lD sz n cs) r c=some v→cs[r * sz+c]?=some v
  | 0,_,r,c,v,h=>by simp[lD,cellAt] at h
  | n+1,cs,0,c,v,h=>by
    simp only[lD,cellAt,List.getElem?_cons_zero,Option.bind_some,sn] at h
    split at h
    · simpa using h
    · simp at h
  | n+1,cs,r+1,c,v,h=>by
    have h':cellAt (lD sz n (cs.drop sz)) r c=some v:=by simpa [lD,cellAt] using h
    have:=LZ sz n (cs.drop sz) r c v h'
    rw[nr] at this
    rw[fj]
    have e:r * sz+1 * sz+c=sz+(r * sz+c):=by omega
    rw[e]
    exact this
theorem Gl {os:List Ob} {w:World} {Z:Nat→Prop} {blk:fQ} (z:List Value) (n m:Nat) (hm:m=n * z.length) (hz:0<z.length) :
    Al (ay os w Z blk) ((aN n).flatMap fun _=>z.map .lit) ((Array.range m).map (z.toArray[· % z.toArray.size]!)):=by
  subst hm
  have hlen:((aN n).flatMap fun _=>z.map AV.lit).length=n * z.length:=by
    induction n with
    | zero=>simp
    | succ n ih=>rw[tE,qU,bV,ih];simp[fj]
  refine⟨by simp[hlen],fun j x hx=>?_⟩
  have hj:j<n * z.length:=by rw[← hlen];exact (aQ.1 hx).1
  have key:∀ (n j:Nat),j<n * z.length→((aN n).flatMap fun _=>z.map AV.lit)[j]?=some (.lit (z[j % z.length]'(xL _ hz))):=by
    intro n
    induction n with
    | zero=>intro j hj;simp at hj
    | succ n ih =>
      intro j hj
      have sK:((aN n).flatMap fun _=>z.map AV.lit).length=n * z.length:=by
        clear ih hj hx hlen
        induction n with
        | zero=>simp
        | succ n ih=>rw[tE,qU,bV,ih];simp[fj]
      rw[tE,qU]
      by_cases L9:j<n * z.length
      · rw[cn (by rw[sK];exact L9)]
        exact ih j L9
      · rw[eK (by rw[sK];omega),sK]
        rw[fj] at hj
        have bw:j - n * z.length<z.length:=by omega
        have vc:j % z.length=j - n * z.length:=by
          have:j=(j - n * z.length)+n * z.length:=by omega
          rw[this,Nat.add_mul_mod_self_right,B6 bw]
          omega
        simp[bw,vc]
  rw[key n j hj] at hx
  simp at hx
  subst hx
  have hm:j % z.length<z.length:=xL _ hz
  simp[eY,hj,hm]
  exact .lit _
end Go.Am

