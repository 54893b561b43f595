import Derived.Test.YtdipcmigdbnheaaGreatX00
set_option linter.all false
set_option maxHeartbeats 0
set_option maxRecDepth 20000
open Option renaming bind_eq_some_iff→vD,map_some→fR,some→cT
open List renaming mem_of_getElem?→gf,getElem?_eq_some_iff→aM,getElem?_append_left→cd,getElem?_append_right→eu,range→aN,append_assoc→dC,mem_of_mem_drop→rO,mem_of_mem_take→rP,getElem?_take→rN,getElem?_drop→mY,eq_nil_of_length_eq_zero→oO,mem_iff_getElem?→I4,getElem_mem→py,all_eq_true→gz,getElem?_set→bV,mem_append→cj,size_toArray→za,length_map→ed,length_nil→mq,length_append→bR,length_take→iL,length_drop→vF,getD_eq_getElem?_getD→aA,ext_getElem?→mZ,replicate→b6,eq_of_mem_replicate→zd,getElem?_map→cg,length_cons→dz,mem_map→bZ,range_succ→uh,flatMap_append→qv
open Nat renaming mul_le_mul_right→lW,add_mul→eX,eq_zero_or_pos→mr,add_zero→jb,mul_comm→pB,mod_lt→xn,div_add_mod→I7,zero_add→eW,lt_or_ge→eh,mod_eq_of_lt→Bz
open Array renaming getD_eq_getD_getElem?→eN,length_toList→rK
namespace Go.Am
variable {P:Program}
def zx{rows:List (List AV)}{sz r c:Nat}{v:AV}(hr:∀ row∈rows,row.length=sz)(h:cellAt rows r c=some v):r<rows.length/\c<sz:=by
 simp only[cellAt,vD]at h;obtain⟨y,hy,oe⟩:=h;have h1:=hr y (gf hy);have h2:=(aM.1 oe).1;have h3:=(aM.1 hy).1;omega
def Lo{p s:List (List AV)}{r c:Nat}:cellAt (p++s) r c=if r<p.length then cellAt p r c else cellAt s (r-p.length) c:=by
 unfold cellAt;split
 ·rw[cd (by assumption)]
 ·rw[eu I6]
def v9{r c n sz:Nat}(hr:r<n)(hc:c<sz):r*sz+c<n*sz:=by
 have:(r+1)*sz<=n*sz:=lW _ hr;rw[eX]at this;omega
def XO{R:AV->Value->Prop}{p s:List (List AV)}{sz:Nat}(hp:∀ row∈p,row.length=sz)(hs:∀ row∈s,row.length=sz){go g:Nat->Value}(h1:∀ r c v,cellAt p r c=some v->R v (go (r*sz+c)))(h2:∀ r c v,cellAt s r c=some v->R v (g (r*sz+c)))(rest:List Value)(r c:Nat)(v:AV)(h:cellAt (p++s) r c=some v):
  R v (((((aN (p.length*sz)).map go)++((aN (s.length*sz)).map g))++rest).toArray.getD (r*sz+c) Go.undef):=by
 rw[Lo]at h;simp only[eN,List.getElem?_toArray];split at h
 ·obtain⟨hr,hc⟩:=zx hp h;have:=v9 hr hc;rw[dC,cd (by simpa using this)];simp[this];exact h1 r c v h
 ·rename_i lE;obtain⟨hr,hc⟩:=zx hs h;have hl:=v9 hr hc;have e:r*sz+c=p.length*sz+((r-p.length)*sz+c):=by
   have:r=p.length+(r-p.length):=I6
   conv=>lhs;rw[this,eX]
   omega
  rw[cd aaZ,eu aaZ];have e2:r*sz+c-(List.map go (aN (p.length*sz))).length=(r-p.length)*sz+c:=aaZ;rw[e2];simp[hl];exact h2 _ _ _ h
def XP {σ:St} {γ:Cx} (h:bk σ γ) {x:AV} {cv:Value} (hv:az σ.aa γ.w γ.Z γ.blk x cv) {sz:Nat} {pre:List (List AV)} {σ1:St} (hs:oR σ sz x=some (pre,σ1)) :
    (bk σ1 γ/\Fr σ.aa γ σ1.aa γ/\∃ k,σ1.aa.length=k) /\
    ((cv=.slice none 0 0/\pre=[]) \/
     (∃ id b x bo cur t,cv=.slice (some ⟨b,x,none⟩) 0 0/\pre=[]/\Live σ.aa id/\σ1 = { σ with aa:=σ.aa.set id .gone }/\γ.blk id=some (b,bo)/\γ.w.heap[b]?=some (.cells cur t (0,0))) \/
     ∃ id off rows b o cap cap' cur t,σ.aa[id]?=some (.arr sz rows)/\σ1 = { σ with aa:=σ.aa.set id .gone }/\γ.blk id=some (b,o,cap)/\γ.w.heap[b]?=some (.cells cur t (0,0)) /\
      cv=.slice (some ⟨b,o+off * sz,none⟩) pre.length cap'/\pre.length<=cap'/\cap'<=maxLen/\o+off * sz+cap' * sz<=cur.size/\(∀ row∈pre,row.length=sz) /\
      ∀ r c v,cellAt pre r c=some v->az σ.aa γ.w γ.Z γ.blk v (cur.getD (o+off * sz+(r * sz+c)) Go.undef)):=by
  unfold oR at hs
  split at hs
  · simp at hs
    obtain ⟨rfl,rfl⟩:=hs
    exact⟨⟨h,Fr.refl _ _,_,rfl⟩,.inl ⟨hv.cH,rfl⟩⟩
  · rename_i id cJ off len
    cases ho:σ.aa[id]? with
    | none=>simp[ho] at hs
    | some ob =>
      have aP:=h.ei id ob ho
      cases ob with
      | gone=>simp[ho] at hs
      | mp ag L=>simp[ho] at hs
      | var cells=>simp[ho] at hs
      | arr j5 rows =>
        simp only[ho] at hs
        split at hs
        · rename_i he
          obtain ⟨Lp,sg⟩:=he
          subst Lp
          subst sg
          simp at hs
          obtain ⟨rfl,rfl⟩:=hs
          refine⟨⟨h.kill id,Fr.kill _ _ _,_,rfl⟩,?_⟩
          obtain ⟨_,cD,aP⟩:=aP
          cases hv with
          | bS _ _ h=>cases h
          | j6 _ _ _ _ _ h=>rw[ho] at h;simp at h
          | ll _ _ h hb=>left;exact⟨rfl,Jd⟩
          | lD _ _ _ b x bo fE h' hb hl =>
            right;left
            rcases aP with ⟨h1,_⟩ | ⟨b',o',zw,cur,t,h1,h2,_⟩
            · rw[hb] at h1;simp at h1
            · rw[hb] at h1;simp at h1
              obtain ⟨rfl,_⟩:=h1
              exact⟨id,b,x,bo,cur,t,rfl,Jd,⟨_,ho,Jd⟩,rfl,hb,h2⟩
          | ref _ _ _ _ b o cap cap' fE h' hb hl hc kI =>
            rw[ho] at h';simp at h'
            subst h'
            rcases aP with ⟨h1,_⟩ | ⟨b',o',zw,cur,t,h1,h2,h3,h4,h5,h6⟩
            · rw[hb] at h1;simp at h1
            · rw[hb] at h1;simp at h1
              obtain ⟨rfl,rfl,rfl⟩:=h1
              right;right
              have hlen:((rows.drop off).take len).length=len:=aaZ
              refine⟨id,off,rows,b,o,cap,cap',cur,t,ho,rfl,hb,h2,by rw[hlen],I6,I6,?_,?_,?_⟩
              · have:(off+cap') * j5<=cap * j5:=lW _ hc
                rw[eX] at this;omega
              · intro row aZ
                exact cD row (rO (rP aZ))
              · intro r c v a9
                simp only[cellAt,rN,mY] at a9
                split at a9
                · have:=h6 (off+r) c v a9
                  rw[eX] at this
                  have e:o+(off * j5+r * j5+c)=o+off * j5+(r * j5+c):=I6
                  rw[e] at this
                  exact this
                · simp at a9
        · simp at hs
  · simp at hs
def XQ(w:World)(t XR e:TypeId)(i:TypeInfo)(ht:P.underlying t=some (.slice e))(hi:P.info? e=some i)(g o wu FU:Nat)(cur:Array Value)(tt:TypeId)(hg:w.heap[g]?=some (.cells cur tt (0,0)))(xa:Option Addr)(m c:Nat)(news:List Value)(hl:news.length=m*i.size)(uI:0<m->∃ a,xa=some a/\∀ j u,news[j]?=some u->w.cell? (a.add j)=some u)(h1:∀ u∈news,u.oneCell'=true)(xR:wu+m<=FU)(dT:o+wu*i.size+news.length<=cur.size):
  (Builtin.append_ #[t,t] XR #[.slice (some ⟨g,o,none⟩) wu FU,.slice xa m c]).run P w =
   .ok (.slice (some ⟨g,o,none⟩) (wu+m) FU) (w.setRow g (cur.toList.take (o+wu*i.size)++news++cur.toList.drop (o+wu*i.size+news.length)).toArray):=by
 have hf:(Builtin.firstCells i.size m (.slice xa m c)).run P w=.ok news.toArray w:=by
  rcases mr m with h0|hp
  ·subst h0;have hn:news=[]:=oO (by simpa using hl);subst hn;cases xa<;>simp[Builtin.firstCells,loadCells,loadCellsFrom]
  ·obtain⟨a,rfl,hc⟩:=uI hp;exact run_firstCells_some w i.size m a m c news hl hc
 have fW:=run_storeCells_at P g (o+wu*i.size) tt news 0 cur w hg (by simpa using dT) h1;simp only[jb]at fW;simp[Builtin.append_,run_underlying ht,sizeOf,typeInfo,hi,Builtin.lenOf,xR,hf,Addr.pS,fW]
def xS{g:Nat->Value}{n j:Nat}{u:Value}(h:((aN n).map g)[j]?=some u):j<n/\u=g j:=by
 have hj:=(aM.1 h).1;simp at hj;simp[hj]at h;exact⟨hj,h.symm⟩
def XL{σ σ1:St}{γ:Cx}(h:bk σ γ){t oty:TypeId}{sz:Nat}{z:List Value}(hk:(ty P t).kind=1)(dO:(ty P (ty P t).elem).kind≠99)(hz:(ty P (ty P t).elem).zero=some z)(a6:sz=(ty P (ty P t).elem).size)(h0:0<sz)(j7:z.length=sz){sD x:AV}{pT zR:Value}(hS:az σ.aa γ.w γ.Z γ.blk sD pT)(hX:az σ.aa γ.w γ.Z γ.blk x zR){pre src:List (List AV)}(hd:oR σ sz sD=some (pre,σ1))(qN:mF σ x=some (sz,src))(hlen:pre.length+src.length<=549755813888)(zO:(ty P (ty P t).elem).bytes<=128)(lG:(src.all λrow=>row.all b7)=true):
    ∃ ny γ1,(Builtin.append_ #[t,t] oty #[pT,zR]).run P γ.w=.ok ny γ1.w/\γ1.tmps=γ.tmps/\bk { σ1 with aa:=σ1.aa++[.arr sz (pre++src)] } γ1 /\
      Fr σ.aa γ (σ1.aa++[.arr sz (pre++src)]) γ1/\az (σ1.aa++[.arr sz (pre++src)]) γ1.w γ1.Z γ1.blk (.ref σ1.aa.length sz 0 (pre.length+src.length)) ny:=by
  obtain⟨i,d,hi,Cf,qS,zP,hzero⟩:=qT dO;have ht:=qR hk;have tu:i.size=sz:=by rw[<- qS,<- a6]
  obtain⟨zv,wq,je⟩:∃zv,i.zero=some zv/\zv.cells.size=sz:=by
    rw[hzero]at hz;cases hv:i.zero with
    |none=>simp[hv]at hz
    |some v=>simp[hv]at hz;exact⟨v,rfl,by rw[<- j7,<- hz];simp⟩
  obtain⟨ad,c,g,rfl,tv,km,xT⟩:=Lr h hX h0 qN;obtain⟨⟨kf,Ls,_⟩,XS⟩:=XP h hS hd
  let news:=(aN (src.length*sz)).map g
  have aq:news.length=src.length*i.size:=by simp[news,tu]
  have XT:∀ u∈news,u.oneCell'=true:=by
    intro u hu;obtain⟨j,hj⟩:=I4.1 hu;obtain⟨kL,rfl⟩:=xS hj;have h1:j/sz<src.length:=Nat.div_lt_of_lt_mul (by rw[pB];exact kL);have h2:j%sz<sz:=xn _ h0;have cD:(src[j/sz]).length=sz:=tv _ (py h1);have:=xT (j/sz) (j%sz) ((src[j/sz])[j%sz]' I6) (by simp[cellAt,h1,h2,cD]);have e:j/sz*sz+j%sz=j:=by rw[pB];exact I7 j sz
    rw[e]at this;refine Cp this ?_;rw[gz]at lG;have:=lG _ (py h1);rw[gz]at this;exact this _ (py _)
  have uI:0<src.length->∃ a,ad=some a/\∀ j u,news[j]?=some u->γ.w.cell? (a.add j)=some u:=by
    intro hp;obtain⟨b,o,rfl,hc⟩:=km hp;refine⟨_,rfl,λj u hu=>?_⟩;obtain⟨kL,rfl⟩:=xS hu;rw[Addr.pS];exact hc j kL
  have uJ:pre.length+src.length<=maxLen:=by unfold maxLen;omega
  have gJ:(pre.length+src.length)*i.bytes<=140737488355328:=by
    rw[<- zP]
    calc _<=549755813888*128:=Nat.mul_le_mul hlen zO
      _<=_:=I6
  have fresh:∀ (ki:Nat) (go:Nat->Value),(∀ row∈pre,row.length=sz)->(∀ r c v,cellAt pre r c=some v->az σ.aa γ.w γ.Z γ.blk v (go (r*sz+c))) ->
      ∀ (w':World) (cap:Nat),pre.length+src.length<=cap->cap<=maxLen ->
        w'=γ.w.drew.alloc (.cells (((aN (pre.length*sz)).map go).toArray++news.toArray++Builtin.zeroCells zv.cells (cap-(pre.length+src.length))) (ty P t).elem) ->
        ∃ γ1:Cx,γ1.w=w'/\γ1.tmps=γ.tmps/\bk { σ1 with aa:=σ1.aa++[.arr sz (pre++src)] } γ1/\Fr σ.aa γ (σ1.aa++[.arr sz (pre++src)]) γ1 /\
          az (σ1.aa++[.arr sz (pre++src)]) γ1.w γ1.Z γ1.blk (.ref σ1.aa.length sz 0 (pre.length+src.length)) (.slice (some ⟨γ.w.heap.size,0,none⟩) (pre.length+src.length) cap):=by
    intro ki go cE Cq w' cap og xU nw;have xV:∀ v cv,az σ.aa γ.w γ.Z γ.blk v cv->az σ1.aa γ.w γ.Z γ.blk v cv:=by
      intro v cv hv;refine hv.mono (λb hb=>⟨hb,rfl⟩) (λi o ho=>?_);unfold oR at hd;split at hd
      · simp at hd
        rw[<- hd.2];by_cases cK:o=.gone
        · subst cK;exact .inl ho
        · exact .inr ⟨rfl,o,ho,Ob.jz cK⟩
      · rename_i id cJ off len
        have hi:i<σ.aa.length:=(aM.1 ho).1;split at hd
        · split at hd
          · simp at hd
            rw[<- hd.2];show(σ.aa.set id Ob.gone)[i]?=some Ob.gone\/_;simp only[bV];by_cases lF:id=i
            · left;simp[lF,hi]
            · rw[if_neg lF]
              by_cases cK:o=.gone
              · subst cK;exact .inl ho
              · exact .inr ⟨trivial,o,ho,Ob.jz cK⟩
          · simp at hd
        · simp at hd
      · simp at hd
    let cur:=((aN (pre.length*sz)).map go).toArray++news.toArray++Builtin.zeroCells zv.cells (cap-(pre.length+src.length))
    have aP:qO σ1.aa γ.w γ.Z γ.blk 0 cap cur (.arr sz (pre++src)):=by
      refine⟨h0,?_,?_,by simpa using og,xU,?_⟩
      · intro row aZ
        rcases cj.1 aZ with h|h
        · exact cE row h
        · exact tv row h
      · simp only[cur,news,Array.size_append,za,ed,List.length_range,size_zeroCells,je,<- eX]
        have:pre.length+src.length+(cap-(pre.length+src.length))=cap:=I6;rw[this];omega
      · intro r c v hv
        have:=XO (R:=az σ1.aa γ.w γ.Z γ.blk) cE tv (λr c v hv=>xV _ _ (Cq r c v hv)) (λr c v hv=>xV _ _ (xT r c v hv)) (Builtin.zeroCells zv.cells (cap-(pre.length+src.length))).toList r c v hv;rw[eW];have e:cur=(((aN (pre.length*sz)).map go)++((aN (src.length*sz)).map g)++(Builtin.zeroCells zv.cells (cap-(pre.length+src.length))).toList).toArray:=by
          apply Array.ext';simp[cur,news]
        rw[e];exact this
    refine⟨{ γ with w:=w',blk:=cM γ.blk σ1.aa.length (some (γ.w.heap.size,0,cap)) },rfl,rfl,?_,?_,?_⟩
    · exact kf.push (t:=(ty P t).elem) (cur:=cur) (by rw[nw];rfl) aP
    · exact Ls.trans (Fr.push (σ:=σ1) (t:=(ty P t).elem) (cur:=cur) _ (by rw[nw];rfl) (by rw[nw];rfl) (by rw[nw];rfl) (by rw[nw];rfl))
    · have:=az.ref (os:=σ1.aa++[.arr sz (pre++src)]) (w:=w') (Z:=γ.Z) (blk:=cM γ.blk σ1.aa.length (some (γ.w.heap.size,0,cap))) σ1.aa.length sz 0 (pre.length+src.length) γ.w.heap.size 0 cap cap (pre++src)
        Jd (by simp[cM]) Jd I6 og
      simpa using this
  rcases XS with⟨rfl,rfl⟩|⟨id,b,x,bo,cur,tt,rfl,rfl,n9,rfl,hb,jC⟩|⟨id,off,rows,b,o,cap,cap',cur,tt,ho,rfl,hb,jC,rfl,Lt,gK,dT,cE,Cq⟩
  · rcases mr src.length with hm|hp
    ·
      have n8:src=[]:=oO hm;subst n8;refine⟨.slice none 0 0,{ γ with blk:=cM γ.blk σ1.aa.length none },?_,rfl,kf.we h0,Ls.trans (Fr.we _ _ _),?_⟩
      · cases ad<;>simp[Builtin.append_,run_underlying ht,sizeOf,typeInfo,hi,Builtin.lenOf,Builtin.firstCells,loadCells,loadCellsFrom]
      · exact .ll _ _ Jd (by simp[cM])
    · obtain⟨a,rfl,hc⟩:=uI hp
      have hr:=run_append_nil (P:=P) γ.w t oty _ i zv ht hi wq a src.length c news aq hc hp (by unfold maxLen at uJ;simp at uJ;omega) (by have hb:=gJ;simp only[mq,eW]at hb;omega);have lE:=grownCap_ge γ.w src.length 0 (ty P t).elem;have gK:=grownCap_le_maxLen γ.w src.length 0 (ty P t).elem (by simpa using uJ);obtain⟨γ1,e1,e2,e3,e4,e5⟩:=fresh 0 (λ_=>Go.undef) Jd (by simp[cellAt]) _ (grownCap γ.w src.length 0 (ty P t).elem) (by simpa using lE) gK rfl;simp only[mq,Nat.zero_mul,List.range_zero,List.map_nil,eW,Array.empty_append]at e1 e5;refine⟨.slice (some ⟨γ.w.heap.size,0,none⟩) src.length (grownCap γ.w src.length 0 (ty P t).elem),γ1,?_,e2,e3,e4,?_⟩
      · rw[hr,e1]
      · simpa using e5
  · rcases mr src.length with hm|hp
    · have n8:src=[]:=oO hm
      subst n8;obtain⟨ob,ho,hg⟩:=n9;have mI:∀ k,k≠b->γ.w.heap[k]?=γ.w.heap[k]?:=λ_ _=>rfl;have xW:=h.zS (ob':=.arr sz []) (o':=0) (cap':=0) ho hg (o:=bo.1) (cap:=bo.2) hb jC mI rfl ⟨h0,Jd,Jd,Jd,by simp[maxLen],by simp[cellAt]⟩;have dE:=Fr.zS (γ:=γ) (o':=0) (cap':=0) (.arr sz []) ho hg (o:=bo.1) (cap:=bo.2) hb (w':=γ.w) mI rfl rfl rfl rfl;refine⟨.slice (some ⟨b,x,none⟩) 0 0,{ γ with w:=γ.w,blk:=cM γ.blk σ.aa.length (some (b,0,0)) },?_,rfl,by simpa using xW,by simpa using dE,?_⟩
      · cases ad<;>simp[Builtin.append_,run_underlying ht,sizeOf,typeInfo,hi,Builtin.lenOf,Builtin.firstCells,loadCells,loadCellsFrom,storeCells]
      · have:=az.lD (os:=σ.aa.set id .gone++[.arr sz []]) (w:=γ.w) (Z:=γ.Z) (blk:=cM γ.blk σ.aa.length (some (b,0,0))) σ.aa.length sz 0 b x (0,0) []
          (by rw[eu Jd];simp) (by simp[cM]) Jd
        simpa using this
    · obtain⟨a,rfl,hc⟩:=uI hp
      have hr:=run_append_grow (P:=P) γ.w t oty _ i zv ht hi wq ⟨b,x,none⟩ 0 0 [] Jd Jd a src.length c news aq hc I6 (by unfold maxLen at uJ;simp at uJ;omega) (growslice_fits I6 (by simpa using gJ));have lE:=grownCap_ge γ.w (0+src.length) 0 (ty P t).elem;have gK:=grownCap_le_maxLen γ.w (0+src.length) 0 (ty P t).elem (by simpa using uJ);obtain⟨γ1,e1,e2,e3,e4,e5⟩:=fresh 0 (λ_=>Go.undef) Jd (by simp[cellAt]) _ (grownCap γ.w (0+src.length) 0 (ty P t).elem) (by simpa using lE) gK rfl;refine⟨.slice (some ⟨γ.w.heap.size,0,none⟩) (0+src.length) (grownCap γ.w (0+src.length) 0 (ty P t).elem),γ1,?_,e2,e3,e4,?_⟩
      · rw[hr,e1];simp
      · simpa using e5
  · by_cases xR:pre.length+src.length<=cap'
    ·
      have hmul:pre.length*sz+src.length*sz<=cap'*sz:=by rw[<- eX];exact lW _ xR
      have Cr:news.length=src.length*sz:=by rw[aq,tu]
      have hr:=XQ (P:=P) γ.w t oty _ i ht hi b (o+off*sz) pre.length cap' cur tt jC ad src.length c news aq uI XT xR (by rw[tu,Cr];omega);have aP:qO σ.aa γ.w γ.Z γ.blk (o+off*sz) cap' (cur.toList.take (o+off*sz+pre.length*i.size)++news++cur.toList.drop (o+off*sz+pre.length*i.size+news.length)).toArray (.arr sz (pre++src)):=by
        refine⟨h0,?_,?_,by simpa using xR,gK,?_⟩
        · intro row aZ
          rcases cj.1 aZ with h|h
          · exact cE row h
          · exact tv row h
        · simp only[za,bR,iL,vF,rK,tu,Cr]
          omega
        · intro r c v hv
          rw[zT cur _ news (by rw[tu,Cr];omega),tu,Cr];rw[Lo]at hv;split at hv
          · obtain⟨FV,og⟩:=zx cE hv
            have:=v9 FV og;rw[if_neg I6];exact Cq r c v hv
          · obtain⟨FV,og⟩:=zx tv hv
            have hl:=v9 FV og;have e:r*sz+c=pre.length*sz+((r-pre.length)*sz+c):=by
              have:r=pre.length+(r-pre.length):=I6
              conv=>lhs;rw[this,eX]
              omega
            rw[if_pos I6];have e2:o+off*sz+(r*sz+c)-(o+off*sz+pre.length*sz)=(r-pre.length)*sz+c:=I6;rw[e2];simp only[news,aA];simp[hl];exact xT _ _ _ hv
      have xW:=h.zS ho Jd hb (setRow_heap γ.w b cur _ tt _ jC) (λk hk=>setRow_other γ.w b k _ hk) (setRow_size _ _ _) aP;have dE:=Fr.zS (γ:=γ) (o':=o+off*sz) (cap':=cap') (.arr sz (pre++src)) ho Jd hb (w':=γ.w.setRow b (cur.toList.take (o+off*sz+pre.length*i.size)++news++cur.toList.drop (o+off*sz+pre.length*i.size+news.length)).toArray) (λk hk=>setRow_other γ.w b k _ hk) (setRow_size _ _ _) rfl rfl rfl;refine⟨_,{ γ with w:=γ.w.setRow b (cur.toList.take (o+off*sz+pre.length*i.size)++news++cur.toList.drop (o+off*sz+pre.length*i.size+news.length)).toArray,blk:=cM γ.blk σ.aa.length (some (b,o+off*sz,cap')) },hr,rfl,?_,?_,?_⟩
      · simpa using xW
      · simpa using dE
      · have:=az.ref (os:=σ.aa.set id .gone++[.arr sz (pre++src)]) (w:=γ.w.setRow b (cur.toList.take (o+off*sz+pre.length*i.size)++news++cur.toList.drop (o+off*sz+pre.length*i.size+news.length)).toArray) (Z:=γ.Z)
          (blk:=cM γ.blk σ.aa.length (some (b,o+off*sz,cap'))) σ.aa.length sz 0 (pre.length+src.length) b (o+off*sz) cap' cap' (pre++src)
          (by rw[eu Jd];simp) (by simp[cM]) Jd I6 xR
        simpa using this
    ·
      let go:Nat->Value:=λj=>cur.getD (o+off*sz+j) Go.undef
      let Cs:=(aN (pre.length*sz)).map go
      have iz:Cs.length=pre.length*i.size:=by simp[Cs,tu]
      have aeG:pre.length*sz<=cap'*sz:=lW _ Lt;have holds:∀ j v,Cs[j]?=some v->γ.w.cell? ((⟨b,o+off*sz,none⟩:Addr).add j)=some v:=by
        intro j v hj;obtain⟨kL,rfl⟩:=xS hj;rw[Addr.pS];exact xJ jC I6
      have hp:0<src.length:=I6;obtain⟨a,rfl,hc⟩:=uI hp;have hr:=run_append_grow (P:=P) γ.w t oty _ i zv ht hi wq ⟨b,o+off*sz,none⟩ pre.length cap' Cs iz holds a src.length c news aq hc I6 (by unfold maxLen at uJ;omega) (growslice_fits I6 gJ);have lE:=grownCap_ge γ.w (pre.length+src.length) cap' (ty P t).elem;have XU:=grownCap_le_maxLen γ.w (pre.length+src.length) cap' (ty P t).elem uJ;obtain⟨γ1,e1,e2,e3,e4,e5⟩:=fresh 0 go cE Cq _ (grownCap γ.w (pre.length+src.length) cap' (ty P t).elem) lE XU rfl;refine⟨_,γ1,?_,e2,e3,e4,e5⟩;rw[hr,e1]
def XM{σ:St}{γ:Cx}(h:bk σ γ){t t' oty:TypeId}{sz:Nat}(hk:(ty P t).kind=1)(dO:(ty P (ty P t).elem).kind≠99)(a6:sz=(ty P (ty P t).elem).size)(h0:0<sz){id off len:Nat}{x:AV}{pT zR:Value}(hS:az σ.aa γ.w γ.Z γ.blk (.ref id sz off len) pT)(hX:az σ.aa γ.w γ.Z γ.blk x zR){rows:List (List AV)}(ho:σ.aa[id]?=some (.arr sz rows)){src:List (List AV)}(qN:mF σ x=some (sz,src))(lG:(src.all λrow=>row.all b7)=true):
  ∃ w',(Builtin.copy_ #[t,t'] oty #[pT,zR]).run P γ.w=.ok (.int .i64 (min src.length len:Nat)) w' /\
   bk { σ with aa:=σ.aa.set id (.arr sz (rows.take off++src.take (min src.length len)++rows.drop (off+min src.length len))) } { γ with w:=w' } /\
   Fr σ.aa γ (σ.aa.set id (.arr sz (rows.take off++src.take (min src.length len)++rows.drop (off+min src.length len)))) { γ with w:=w' }:=by
 obtain⟨i,d,hi,Cf,qS,zP,hzero⟩:=qT dO;have ht:=qR hk;have tu:i.size=sz:=by rw[<- qS,<- a6]
 obtain⟨ad,c,g,rfl,tv,km,xT⟩:=Lr h hX h0 qN;have cP:id<σ.aa.length:=(aM.1 ho).1;have zero:∀ (wv:Option Addr) (cap':Nat),min src.length len=0->pT=.slice wv len cap'->∃ w',(Builtin.copy_ #[t,t'] oty #[pT,.slice ad src.length c]).run P γ.w=.ok (.int .i64 (min src.length len:Nat)) w' /\
   bk { σ with aa:=σ.aa.set id (.arr sz (rows.take off++src.take (min src.length len)++rows.drop (off+min src.length len))) } { γ with w:=w' } /\
   Fr σ.aa γ (σ.aa.set id (.arr sz (rows.take off++src.take (min src.length len)++rows.drop (off+min src.length len)))) { γ with w:=w' }:=by
  intro wv cap' hz a9;have gr:σ.aa.set id (.arr sz rows)=σ.aa:=by
   apply mZ;intro j;rw[bV];split
   ·rename_i e;subst e;simp[ho]
   ·rfl
  refine⟨γ.w,?_,?_,?_⟩
  ·have hm:Nat.min src.length len=0:=hz;subst a9;cases ad<;>cases wv<;>simp[Builtin.copy_,run_underlying ht,sizeOf,typeInfo,hi,Builtin.lenOf,Builtin.firstCells,loadCells,loadCellsFrom,storeCells,hm,goInt,hz]
  ·rw[hz];simp[gr];exact h
  ·rw[hz];simp[gr];exact Fr.refl _ _
 cases hS with
 |bS _ _ h=>cases h
 |j6 _ _ _ _ _ h=>rw[ho]at h;simp at h
 |ll _ _ h hb=>exact zero none 0 Jd rfl
 |lD _ _ _ b x bo fE h hb hl=>exact zero _ 0 Jd rfl
 |ref _ _ _ _ b o cap cap' fE h' hb hl hc kI =>
  rw[ho]at h';simp at h';subst h';rcases mr (min src.length len) with hz|hp
  ·exact zero _ _ hz rfl
  obtain⟨_,cD,aP⟩:=h.ei id _ ho;rcases aP with⟨h1,_⟩|⟨b',o',zw,cur,tt,h1,h2,h3,h4,h5,h6⟩
  ·rw[hb]at h1;simp at h1
  rw[hb]at h1;simp at h1;obtain⟨rfl,rfl,rfl⟩:=h1;generalize hn:min src.length len=n at *;have fV:n<=src.length:=I6;have nx:n<=len:=I6
  let news:=(aN (n*sz)).map g
  have aq:news.length=n*sz:=by simp[news]
  have jD:∀ u∈news,u.oneCell'=true:=by
   intro u hu;obtain⟨j,hj⟩:=I4.1 hu;obtain⟨kL,rfl⟩:=xS hj;have k1:j/sz<n:=Nat.div_lt_of_lt_mul (by rw[pB];exact kL);have k2:j%sz<sz:=xn _ h0;have k3:j/sz<src.length:=I6;have cD:(src[j/sz]).length=sz:=tv _ (py k3);have:=xT (j/sz) (j%sz) ((src[j/sz])[j%sz]' I6) (by simp[cellAt,k3,k2,cD]);have e:j/sz*sz+j%sz=j:=by rw[pB];exact I7 j sz
   rw[e]at this;refine Cp this ?_;rw[gz]at lG;have:=lG _ (py k3);rw[gz]at this;exact this _ (py _)
  obtain⟨sb,so,rfl,m6⟩:=km I6;have hle:n*sz<=src.length*sz:=lW _ fV;have xX:=run_loadCells_list (P:=P) γ.w ⟨sb,so,none⟩ news (λj v hj=>by
   obtain⟨kL,rfl⟩:=xS hj;rw[Addr.pS];exact m6 j I6)
  have dT:(off+n)*sz<=cap*sz:=lW _ I6;rw[eX]at dT;have fW:=run_storeCells_at P b (o+off*sz) tt news 0 cur γ.w h2 (by rw[aq];omega) jD;simp only[jb]at fW;have eB:(Builtin.copy_ #[t,t'] oty #[.slice (some ⟨b,o+off*sz,none⟩) len cap',.slice (some ⟨sb,so,none⟩) src.length c]).run P γ.w=.ok (.int .i64 (n:Nat)) (γ.w.setRow b (cur.toList.take (o+off*sz)++news++cur.toList.drop (o+off*sz+news.length)).toArray):=by
   have hm:Nat.min src.length len=n:=hn;rw[aq]at xX;simp[Builtin.copy_,run_underlying ht,sizeOf,typeInfo,hi,Builtin.lenOf,Builtin.firstCells,hm,tu,xX,fW,goInt]
  have FX:qO σ.aa γ.w γ.Z γ.blk o cap (cur.toList.take (o+off*sz)++news++cur.toList.drop (o+off*sz+news.length)).toArray (.arr sz (rows.take off++src.take n++rows.drop (off+n))):=by
   refine⟨h0,?_,?_,?_,h5,?_⟩
   ·intro row aZ;simp only[cj]at aZ;rcases aZ with(hr|hr)|hr
    ·exact cD row (rP hr)
    ·exact tv row (rP hr)
    ·exact cD row (rO hr)
   ·simp only[za,bR,iL,vF,rK,aq];omega
   ·simp;omega
   ·intro r cc v hv;rw[zT cur _ news (by rw[aq];omega),aq];have bq:cc<sz:=by
     simp only[cellAt,vD]at hv;obtain⟨y,hy,oe⟩:=hv;have hm:=gf hy;have:=(aM.1 oe).1;simp only[cj]at hm;rcases hm with(hr|hr)|hr
     ·have:=cD y (rP hr);omega
     ·have:=tv y (rP hr);omega
     ·have:=cD y (rO hr);omega
    rcases eh r off with k1|k1
    ·have e:cellAt (rows.take off++src.take n++rows.drop (off+n)) r cc=cellAt rows r cc:=by
      simp only[cellAt,dC];rw[cd aaZ,rN,if_pos k1]
     rw[e]at hv;have hm:(r+1)*sz<=off*sz:=lW _ I6;rw[eX]at hm;rw[if_neg I6];exact h6 r cc v hv
    ·rcases eh r (off+n) with k2|k2
     ·have e:cellAt (rows.take off++src.take n++rows.drop (off+n)) r cc=cellAt src (r-off) cc:=by
       simp only[cellAt,dC];rw[eu aaZ,cd aaZ,rN,if_pos aaZ];congr 2;simp;omega
      rw[e]at hv;have e1:r=off+(r-off):=I6;have e2:r*sz=off*sz+(r-off)*sz:=by rw[<- eX,<- e1]
      have hm:(r-off+1)*sz<=n*sz:=lW _ I6;rw[eX]at hm;rw[if_pos I6];have e3:o+(r*sz+cc)-(o+off*sz)=(r-off)*sz+cc:=I6;rw[e3];have hl:(r-off)*sz+cc<n*sz:=I6;simp only[news,aA];simp[hl];exact xT _ _ _ hv
     ·have e:cellAt (rows.take off++src.take n++rows.drop (off+n)) r cc=cellAt rows r cc:=by
       simp only[cellAt];rw[eu aaZ,mY];congr 2;simp;omega
      rw[e]at hv;have hm:(off+n)*sz<=r*sz:=lW _ k2;rw[eX]at hm;rw[if_neg I6];exact h6 r cc v hv
  refine⟨_,eB,?_,?_⟩
  ·exact h.write ho Jd (by simp[Ob.dP];omega) hb (setRow_heap γ.w b cur _ tt _ h2) (λk hk=>setRow_other γ.w b k _ hk) (setRow_size _ _ _) FX
  ·exact Fr.write _ ho Jd (by simp[Ob.dP];omega) hb (λk hk=>setRow_other γ.w b k _ hk) (setRow_size _ _ _) rfl rfl rfl
def XN{σ:St}{γ:Cx}(h:bk σ γ){t oty:TypeId}{sz:Nat}{z:List Value}(hk:(ty P t).kind=1)(dO:(ty P (ty P t).elem).kind≠99)(j7:z.length=sz)(h0:0<sz)(hz:(ty P (ty P t).elem).zero=some z)(Co:(z.all λu=>u.oneCell')=true){id off len:Nat}{pT:Value}(hS:az σ.aa γ.w γ.Z γ.blk (.ref id sz off len) pT){rows:List (List AV)}(ho:σ.aa[id]?=some (.arr sz rows)):
  ∃ w',(Builtin.clear_ #[t] oty #[pT]).run P γ.w=.ok (.tuple #[]) w' /\
   bk { σ with aa:=σ.aa.set id (.arr sz (rows.take off++b6 len (z.map AV.lit)++rows.drop (off+len))) } { γ with w:=w' } /\
   Fr σ.aa γ (σ.aa.set id (.arr sz (rows.take off++b6 len (z.map AV.lit)++rows.drop (off+len)))) { γ with w:=w' }:=by
 obtain⟨i,d,hi,Cf,qS,zP,hzero⟩:=qT dO;have ht:=qR hk;rw[hz]at hzero;obtain⟨zv,wq,je⟩:=Option.map_eq_some_iff.1 hzero.symm;have FY:zv.cells.size=sz:=by rw[<- j7,<- je];simp
 have cP:id<σ.aa.length:=(aM.1 ho).1;have zero:∀ (wv:Option Addr) (cap':Nat),len=0->pT=.slice wv len cap'->∃ w',(Builtin.clear_ #[t] oty #[pT]).run P γ.w=.ok (.tuple #[]) w' /\
   bk { σ with aa:=σ.aa.set id (.arr sz (rows.take off++b6 len (z.map AV.lit)++rows.drop (off+len))) } { γ with w:=w' } /\
   Fr σ.aa γ (σ.aa.set id (.arr sz (rows.take off++b6 len (z.map AV.lit)++rows.drop (off+len)))) { γ with w:=w' }:=by
  intro wv cap' sh a9;have gr:σ.aa.set id (.arr sz rows)=σ.aa:=by
   apply mZ;intro j;rw[bV];split
   ·rename_i e;subst e;simp[ho]
   ·rfl
  refine⟨γ.w,?_,?_,?_⟩
  ·subst a9;subst sh;cases wv<;>simp[Builtin.clear_,run_underlying ht]
  ·subst sh;simp[gr];exact h
  ·subst sh;simp[gr];exact Fr.refl _ _
 cases hS with
 |bS _ _ h=>cases h
 |j6 _ _ _ _ _ h=>rw[ho]at h;simp at h
 |ll _ _ h hb=>exact zero none 0 rfl rfl
 |lD _ _ _ b x bo fE h hb hl=>exact zero _ 0 rfl rfl
 |ref _ _ _ _ b o cap cap' fE h' hb hl hc kI =>
  rw[ho]at h';simp at h';subst h';rcases mr len with sh|hp
  ·exact zero _ _ sh rfl
  obtain⟨_,cD,aP⟩:=h.ei id _ ho;rcases aP with⟨h1,_⟩|⟨b',o',zw,cur,tt,h1,h2,h3,h4,h5,h6⟩
  ·rw[hb]at h1;simp at h1
  rw[hb]at h1;simp at h1;obtain⟨rfl,rfl,rfl⟩:=h1
  let g:Nat->Value:=λi=>zv.cells[i%zv.cells.size]!
  let news:=(aN (len*sz)).map g
  have uI:(Builtin.zeroCells zv.cells len).toList=news:=by
   simp[Builtin.zeroCells,news,g,FY]
  have aq:news.length=len*sz:=by simp[news]
  have Lu:∀ i,i<sz->∃ u,z[i]?=some u/\zv.cells[i]! = u:=by
   intro i hi';have:i<zv.cells.size:=I6;refine⟨zv.cells[i],?_,?_⟩
   ·rw[<- je];simp[this]
   ·simp[this]
  have jD:∀ u∈news,u.oneCell'=true:=by
   intro u hu;obtain⟨j,hj⟩:=I4.1 hu;obtain⟨kL,rfl⟩:=xS hj;obtain⟨u,k1,k2⟩:=Lu (j%sz) (xn _ h0);show(zv.cells[j%zv.cells.size]!).oneCell'=true;rw[FY,k2];rw[gz]at Co;exact Co _ (gf k1)
  have dT:(off+len)*sz<=cap*sz:=lW _ I6;rw[eX]at dT;have fW:=run_storeCells_at P b (o+off*sz) tt news 0 cur γ.w h2 (by rw[aq];omega) jD;simp only[jb]at fW;have eB:(Builtin.clear_ #[t] oty #[.slice (some ⟨b,o+off*sz,none⟩) len cap']).run P γ.w=.ok (.tuple #[]) (γ.w.setRow b (cur.toList.take (o+off*sz)++news++cur.toList.drop (o+off*sz+news.length)).toArray):=by
   obtain⟨aeH,rfl⟩:∃k,len=k+1:=⟨len-1,I6⟩;simp[Builtin.clear_,run_underlying ht,zeroValue,typeInfo,hi,wq,uI,fW]
  have FX:qO σ.aa γ.w γ.Z γ.blk o cap (cur.toList.take (o+off*sz)++news++cur.toList.drop (o+off*sz+news.length)).toArray (.arr sz (rows.take off++b6 len (z.map AV.lit)++rows.drop (off+len))):=by
   refine⟨h0,?_,?_,?_,h5,?_⟩
   ·intro row aZ;simp only[cj]at aZ;rcases aZ with(hr|hr)|hr
    ·exact cD row (rP hr)
    ·rw[zd hr,ed];exact j7
    ·exact cD row (rO hr)
   ·simp only[za,bR,iL,vF,rK,aq];omega
   ·simp;omega
   ·intro r cc v hv;rw[zT cur _ news (by rw[aq];omega),aq];have bq:cc<sz:=by
     simp only[cellAt,vD]at hv;obtain⟨y,hy,oe⟩:=hv;have hm:=gf hy;have:=(aM.1 oe).1;simp only[cj]at hm;rcases hm with(hr|hr)|hr
     ·have:=cD y (rP hr);omega
     ·have Cu:=zd hr;rw[Cu,ed]at this;omega
     ·have:=cD y (rO hr);omega
    rcases eh r off with k1|k1
    ·have e:cellAt (rows.take off++b6 len (z.map AV.lit)++rows.drop (off+len)) r cc=cellAt rows r cc:=by
      simp only[cellAt,dC];rw[cd aaZ,rN,if_pos k1]
     rw[e]at hv;have hm:(r+1)*sz<=off*sz:=lW _ I6;rw[eX]at hm;rw[if_neg I6];exact h6 r cc v hv
    ·rcases eh r (off+len) with k2|k2
     ·have e:cellAt (rows.take off++b6 len (z.map AV.lit)++rows.drop (off+len)) r cc=(z.map AV.lit)[cc]?:=by
       simp only[cellAt,dC];rw[eu aaZ,cd aaZ,List.getElem?_replicate,if_pos aaZ];rfl
      rw[e,cg]at hv;obtain⟨u,k3,k4⟩:=Lu cc bq;rw[k3]at hv;simp only[fR,cT.injEq]at hv;subst hv;have e1:r=off+(r-off):=I6;have e2:r*sz=off*sz+(r-off)*sz:=by rw[<- eX,<- e1]
      have hm:(r-off+1)*sz<=len*sz:=lW _ I6;rw[eX]at hm;rw[if_pos I6];have e3:o+(r*sz+cc)-(o+off*sz)=(r-off)*sz+cc:=I6;rw[e3];have hl:(r-off)*sz+cc<len*sz:=I6;have e4:news.getD ((r-off)*sz+cc) Go.undef=u:=by
       simp only[news,aA];rw[cg,List.getElem?_range hl];show zv.cells[((r-off)*sz+cc)%zv.cells.size]! = u;rw[FY,pB,Nat.mul_add_mod,Bz bq,k4]
      first
       | (rw[e4];exact .lit _)
       | (simp only[aA]at e4 ⊢;rw[e4];exact .lit _)
     ·have e:cellAt (rows.take off++b6 len (z.map AV.lit)++rows.drop (off+len)) r cc=cellAt rows r cc:=by
       simp only[cellAt];rw[eu aaZ,mY];congr 2;simp;omega
      rw[e]at hv;have hm:(off+len)*sz<=r*sz:=lW _ k2;rw[eX]at hm;rw[if_neg I6];exact h6 r cc v hv
  refine⟨_,eB,?_,?_⟩
  ·exact h.write ho Jd (by simp[Ob.dP];omega) hb (setRow_heap γ.w b cur _ tt _ h2) (λk hk=>setRow_other γ.w b k _ hk) (setRow_size _ _ _) FX
  ·exact Fr.write _ ho Jd (by simp[Ob.dP];omega) hb (λk hk=>setRow_other γ.w b k _ hk) (setRow_size _ _ _) rfl rfl rfl
end Go.Am
namespace Go.Am
variable {P:Program}
def XV(l:List Value):∀ (j off:Nat) (cells:Array Value),off+j+l.length<=cells.size ->
  ((l.zipIdx j).foldl (λcs (x:Value×Nat)=>cs.setIfInBounds (off+x.2) x.1) cells).size=cells.size /\
  ∀ k,((l.zipIdx j).foldl (λcs (x:Value×Nat)=>cs.setIfInBounds (off+x.2) x.1) cells).getD k Go.undef=if off+j<=k/\k<off+j+l.length then l.getD (k-(off+j)) Go.undef else cells.getD k Go.undef:=by
 induction l with
 |nil=>intro j off cells _;simp;intro k h1 h2;omega
 |cons v l ih =>
  intro j off cells hl;simp only[dz]at hl;simp only[List.zipIdx_cons,List.foldl_cons];obtain⟨h1,h2⟩:=ih (j+1) off (cells.setIfInBounds (off+j) v) aaZ;refine⟨by rw[h1];simp,λk=>?_⟩;rw[h2 k];simp only[dz];by_cases c1:off+(j+1)<=k/\k<off+(j+1)+l.length
  ·rw[if_pos c1,if_pos I6];have:k-(off+j)=(k-(off+(j+1)))+1:=I6;rw[this];simp
  ·rw[if_neg c1];by_cases c2:k=off+j
   ·subst c2;rw[if_pos I6];simp[eN,show off+j<cells.size by omega]
   ·rw[if_neg I6];simp[eN,Array.getElem?_setIfInBounds_ne (Ne.symm c2)]
def XW(v:Value)(off:Nat)(cells:Array Value):
  (v.cells.zipIdx.foldl (λcs (c,j)=>cs.setIfInBounds (off+j) c) cells)=((v.cells.toList.zipIdx 0).foldl (λcs (x:Value×Nat)=>cs.setIfInBounds (off+x.2) x.1) cells):=by
 rw[<- Array.foldl_toList];simp
def zU(R:AV->Value->Prop)(cs:List AV)(cur:Array Value):Prop:=cur.size=cs.length/\∀ j x,cs[j]?=some x->R x (cur.getD j Go.undef)
def Ch{σ:St}{γ:Cx}{place:Nat->Option (Nat×Nat)}:∀ (parts:List (Nat×AV)) (pv:List (Nat×Value)) (cs:List AV) (cur:Array Value) (oT:List AV),
  parts.length=pv.length->(∀ (j:Nat) (p:Nat×AV) (q:Nat×Value),parts[j]?=some p->pv[j]?=some q->p.1=q.1/\az σ.aa γ.w γ.Z γ.blk p.2 q.2)->(∀ p∈parts,(cellsOf p.2).all b7=true) ->
  zU (az σ.aa γ.w γ.Z γ.blk) cs cur->lj place cs parts=some oT->∃ nD,Instr.fill place cur pv=some nD/\zU (az σ.aa γ.w γ.Z γ.blk) oT nD
 |[],pv,cs,cur,oT,hl,_,_,hc,h=>by
  have:pv=[]:=oO hl.symm;subst this;simp[lj]at h;subst h;exact⟨cur,by simp[Instr.fill],hc⟩
 | (i,v)::rest,[],cs,cur,oT,hl,_,_,_,_=>by simp at hl
 | (i,v)::rest,(i',x)::pv,cs,cur,oT,hl,hr,hs,hc,h=>by
  obtain⟨e1,e2⟩:=hr 0 (i,v) (i',x) rfl rfl;simp only at e1 e2;subst e1;simp only[lj]at h;cases hp:place i with
  |none=>simp[hp]at h
  |some os =>
   obtain⟨off,size⟩:=os;simp only[hp]at h;split at h
   ·rename_i XX;obtain⟨h1,h2⟩:=XX;obtain⟨g1,g2,g3⟩:=FG e2 (hs (i,v) Jd);have a6:x.cells.size=size:=by rw[g1,h1]
    obtain⟨jX,qL⟩:=hc;have dT:off+0+x.cells.toList.length<=cur.size:=by simp[a6,jX];omega
    obtain⟨f1,f2⟩:=XV x.cells.toList 0 off cur dT;have XZ:zU (az σ.aa γ.w γ.Z γ.blk) (setCells cs off (cellsOf v)) (x.cells.zipIdx.foldl (λcs (c,j)=>cs.setIfInBounds (off+j) c) cur):=by
     rw[XW];refine⟨by rw[f1,FL];exact jX,λj y hj=>?_⟩;rw[Lv _ _ _ (by rw[h1];exact h2)]at hj;rw[f2 j];simp only[jb,rK,a6];rw[h1]at hj;by_cases dL:off<=j/\j<off+size
     ·rw[if_pos dL]at hj;rw[if_pos dL];have:=g2 _ _ hj;simpa [aA,eN] using this
     ·rw[if_neg dL]at hj;rw[if_neg dL];exact qL j y hj
    obtain⟨nD,k1,k2⟩:=Ch rest pv _ _ oT (by simpa using hl) (λj p q hp hq=>hr (j+1) p q (by simpa using hp) (by simpa using hq)) (λp hp=>hs p (by simp[hp])) XZ h;refine⟨nD,?_,k2⟩;simp only[Instr.fill,hp];rw[if_neg ?_]
    ·exact k1
    ·simp[a6,jX];omega
   ·simp at h
def FF{os:List Ob}{w:World}{Z:Nat->Prop}{blk:gn}(z:List Value):zU (az os w Z blk) (z.map .lit) z.toArray:=by
 refine⟨Jd,λj x hx=>?_⟩;simp only[cg]at hx;cases hj:z[j]? with
 |none=>simp[hj]at hx
 |some y =>
  simp[hj]at hx;subst hx;simp[eN,hj];exact .lit y
def FI{σ:St}{γ:Cx}(h:bk σ γ){a:Act}(ha:γ.tmps=a.tmps)(parts:Array (Nat×Operand)):
  (parts.toList.map λp=>(p.1,ev σ p.2)).length=(parts.map λ(i,x)=>(i,a.eval x)).toList.length /\
  ∀ (j:Nat) (p:Nat×AV) (q:Nat×Value),(parts.toList.map λp=>(p.1,ev σ p.2))[j]?=some p->(parts.map λ(i,x)=>(i,a.eval x)).toList[j]?=some q->p.1=q.1/\az σ.aa γ.w γ.Z γ.blk p.2 q.2:=by
 refine⟨Jd,λj p q hp hq=>?_⟩;simp only[Array.toList_map,cg]at hp hq;cases hj:parts.toList[j]? with
 |none=>simp[hj]at hp
 |some y =>
  simp only[hj,fR,cT.injEq]at hp hq;subst hp;subst hq;exact⟨rfl,sc h ha y.2⟩
def Xt{σ:St}{γ:Cx}(h:bk σ γ){a:Act}(ha:γ.tmps=a.tmps){t:TypeId}{parts:Array (Nat×Operand)}{z:List Value}(hk:(ty P t).kind=3)(hz:(ty P t).zero=some z){cs:List AV}(hf:lj (λi=>((ty P t).aI[i]?).map λf=>(f.1,f.2.2)) (z.map .lit) (parts.toList.map λp=>(p.1,ev σ p.2))=some cs)(hs:(parts.toList.all λp=>(cellsOf (ev σ p.2)).all b7)=true)(hp:((ty P t).aI.all λf=>decide (0<f.2.2))=true):
  ∃ cur,(Instr.build t (parts.map λ(i,x)=>(i,a.eval x))).run P γ.w=.ok (.agg cur) γ.w/\az σ.aa γ.w γ.Z γ.blk (.agg cs) (.agg cur):=by
 obtain⟨it,d,hi,hd,_,_,hzero⟩:=qT (P:=P) (t:=t) (by rw[hk];simp);obtain⟨fs,hu,eA⟩:=FR hk;rw[hzero]at hz;cases hv:it.zero with
 |none=>simp[hv]at hz
 |some zv =>
  simp[hv]at hz;have je:z.toArray=zv.cells:=by rw[<- hz]
  obtain⟨hl,hr⟩:=FI h ha parts;obtain⟨cur,h1,h2⟩:=Ch (σ:=σ) (γ:=γ) _ _ _ _ cs hl hr (λp hp=>by
   simp only[bZ]at hp;obtain⟨q,hq,rfl⟩:=hp;rw[gz]at hs;exact hs q hq) (FF z) hf
  refine⟨cur,run_build γ.w t _ cur ?_,.agg _ _ h2.1 h2.2⟩;unfold Program.built;rw[hi,hu];simp only[hv];have X1:∀ (l:List Field),(∀ f∈l,0<tq P f.type)->l.mapM (λf=>(P.info? f.type).map λi=>(f.offset,i.size))=some (l.map λf=>(f.offset,tq P f.type)):=by
   intro l
   induction l with
   |nil=>intro _;simp
   |cons f l ih =>
    intro hl;have h0:=hl f Jd;unfold tq at h0;cases FZ:P.info? f.type with
    |none=>simp[FZ]at h0
    |some i =>
     simp only[List.mapM_cons,FZ,fR,ih (λg hg=>hl g (by simp[hg]))];simp[tq,FZ]
  rw[X1 fs.toList (by
   intro f gH;rw[eA]at hp;simp only[List.all_map,gz]at hp;have:=hp f gH;simpa using this)]
  simp only;rw[<- je];have:(λ(x:Nat)=>((fs.toList.map λf=>(f.offset,tq P f.type)).toArray[x]?))=(λ(i:Nat)=>((ty P t).aI[i]?).map λ(f:Nat×Nat×Nat)=>(f.1,f.2.2)):=by
   funext i;rw[eA];simp;cases fs[i]?<;>simp
  rw[this];exact h1
def XA{σ:St}{γ:Cx}(h:bk σ γ){a:Act}(ha:γ.tmps=a.tmps){t:TypeId}{parts:Array (Nat×Operand)}{z:List Value}(hk:(ty P t).kind=2)(hz:(ty P t).zero=some z){cs:List AV}(hf:lj (λi=>some (i*(ty P (ty P t).elem).size,(ty P (ty P t).elem).size)) (z.map .lit) (parts.toList.map λp=>(p.1,ev σ p.2))=some cs)(hs:(parts.toList.all λp=>(cellsOf (ev σ p.2)).all b7)=true)(dO:(ty P (ty P t).elem).kind≠99):
  ∃ cur,(Instr.build t (parts.map λ(i,x)=>(i,a.eval x))).run P γ.w=.ok (.agg cur) γ.w/\az σ.aa γ.w γ.Z γ.blk (.agg cs) (.agg cur):=by
 obtain⟨it,d,hi,hd,_,_,hzero⟩:=qT (P:=P) (t:=t) (by rw[hk];simp);have hu:=Ln hk;obtain⟨ie,de,X6,_,qS,_,_⟩:=qT dO;rw[hzero]at hz;cases hv:it.zero with
 |none=>simp[hv]at hz
 |some zv =>
  simp[hv]at hz;have je:z.toArray=zv.cells:=by rw[<- hz]
  obtain⟨hl,hr⟩:=FI h ha parts;obtain⟨cur,h1,h2⟩:=Ch (σ:=σ) (γ:=γ) _ _ _ _ cs hl hr (λp hp=>by
   simp only[bZ]at hp;obtain⟨q,hq,rfl⟩:=hp;rw[gz]at hs;exact hs q hq) (FF z) hf
  refine⟨cur,run_build γ.w t _ cur ?_,.agg _ _ h2.1 h2.2⟩;unfold Program.built;rw[hi,hu];simp only[hv,X6];rw[<- je,<- qS];exact h1
def FM(sz:Nat):∀ (n:Nat) (cs:List AV),(lk sz n cs).length=n
 |0,_=>rfl
 |n+1,cs=>by simp[lk,FM sz n]
def Ll(sz:Nat):∀ (n:Nat) (cs:List AV),n*sz<=cs.length->∀ row∈lk sz n cs,row.length=sz
 |0,_,_,row,h=>by simp[lk]at h
 |n+1,cs,hl,row,h=>by
  rw[eX]at hl;simp only[lk,List.mem_cons]at h;rcases h with rfl|h
  ·simp;omega
  ·exact Ll sz n (cs.drop sz) aaZ row h
def Lm(sz:Nat):∀ (n:Nat) (cs:List AV) (r c:Nat) (v:AV),cellAt (lk sz n cs) r c=some v->cs[r*sz+c]?=some v
 |0,_,r,c,v,h=>by simp[lk,cellAt]at h
 |n+1,cs,0,c,v,h=>by
  simp only[lk,cellAt,List.getElem?_cons_zero,Option.bind_some,rN]at h;split at h
  ·simpa using h
  ·simp at h
 |n+1,cs,r+1,c,v,h=>by
  have h':cellAt (lk sz n (cs.drop sz)) r c=some v:=by simpa [lk,cellAt] using h
  have:=Lm sz n (cs.drop sz) r c v h';rw[mY]at this;rw[eX];have e:r*sz+1*sz+c=sz+(r*sz+c):=I6;rw[e];exact this
def FJ{os:List Ob}{w:World}{Z:Nat->Prop}{blk:gn}(z:List Value)(n m:Nat)(hm:m=n*z.length)(hz:0<z.length):
  zU (az os w Z blk) ((aN n).flatMap λ_=>z.map .lit) ((Array.range m).map (z.toArray[· % z.toArray.size]!)):=by
 subst hm;have hlen:((aN n).flatMap λ_=>z.map AV.lit).length=n*z.length:=by
  induction n with
  |zero=>simp
  |succ n ih=>rw[uh,qv,bR,ih];simp[eX]
 refine⟨by simp[hlen],λj x hx=>?_⟩;have hj:j<n*z.length:=by rw[<- hlen];exact(aM.1 hx).1
 have key:∀ (n j:Nat),j<n*z.length->((aN n).flatMap λ_=>z.map AV.lit)[j]?=some (.lit (z[j%z.length]'(xn _ hz))):=by
  intro n
  induction n with
  |zero=>intro j hj;simp at hj
  |succ n ih =>
   intro j hj;have si:((aN n).flatMap λ_=>z.map AV.lit).length=n*z.length:=by
    clear ih hj hx hlen
    induction n with
    |zero=>simp
    |succ n ih=>rw[uh,qv,bR,ih];simp[eX]
   rw[uh,qv];by_cases Lw:j<n*z.length
   ·rw[cd (by rw[si];exact Lw)];exact ih j Lw
   ·rw[eu (by rw[si];omega),si];rw[eX]at hj;have bq:j-n*z.length<z.length:=I6;have uK:j%z.length=j-n*z.length:=by
     have:j=(j-n*z.length)+n*z.length:=I6;rw[this,Nat.add_mul_mod_self_right,Bz bq];omega
    simp[bq,uK]
 rw[key n j hj]at hx;simp at hx;subst hx;have hm:j%z.length<z.length:=xn _ hz;simp[eN,hj,hm];exact .lit _
end Go.Am

