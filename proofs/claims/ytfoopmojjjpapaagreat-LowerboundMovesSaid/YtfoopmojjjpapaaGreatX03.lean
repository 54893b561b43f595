import Derived.Test.YtfoopmojjjpapaaGreatX02
set_option linter.all false
set_option maxHeartbeats 0
set_option maxRecDepth 20000
open Option renaming bind_eq_some_iff→Cl,map_some→gY,some→cm
open List renaming mem_of_getElem?→gk,getElem?_eq_some_iff→aR,getElem?_append_left→eB,getElem?_append_right→gX,range→bn,append_assoc→bC,mem_of_mem_drop→xH,mem_of_mem_take→qT,getElem?_take→uZ,getElem?_drop→mI,eq_nil_of_length_eq_zero→AK,mem_iff_getElem?→NJ,getElem_mem→tK,all_eq_true→gH,getElem?_set→bY,mem_append→cC,size_toArray→Co,length_map→fW,length_nil→nR,length_append→bF,length_take→e8,length_drop→xG,getD_eq_getElem?_getD→aB,ext_getElem?→qS,replicate→aJ,eq_of_mem_replicate→AM,getElem?_map→b9,length_cons→dt,mem_map→b8,range_succ→u5,flatMap_append→tN
open Nat renaming mul_le_mul_right→mJ,add_mul→fN,eq_zero_or_pos→qV,add_zero→iq,mul_comm→rX,mod_lt→wC,div_add_mod→NN,zero_add→gm,lt_or_ge→dE,mod_eq_of_lt→E1
open Array renaming getD_eq_getD_getElem?→ek,length_toList→qR
namespace Go.Am
variable {P:Program}
def CK{rows:List (List AV)}{sz r c:Nat}{v:AV}(hr:∀ row∈rows,row.length=sz)(h:cellAt rows r c=some v):r<rows.length/\c<sz:=by
 simp only[cellAt,Cl]at h;obtain⟨y,hy,qo⟩:=h;have h1:=hr y (gk hy);have h2:=(aR.1 qo).1;have h3:=(aR.1 hy).1;omega
def Qf{p s:List (List AV)}{r c:Nat}:cellAt (p++s) r c=if r<p.length then cellAt p r c else cellAt s (r-p.length) c:=by
 unfold cellAt;split
 ·rw[eB (by assumption)]
 ·rw[gX Ix]
def zg{r c n sz:Nat}(hr:r<n)(hc:c<sz):r*sz+c<n*sz:=by
 have:(r+1)*sz<=n*sz:=mJ _ hr;rw[fN]at this;omega
def adC{R:AV->Value->Prop}{p s:List (List AV)}{sz:Nat}(hp:∀ row∈p,row.length=sz)(hs:∀ row∈s,row.length=sz){go g:Nat->Value}(h1:∀ r c v,cellAt p r c=some v->R v (go (r*sz+c)))(h2:∀ r c v,cellAt s r c=some v->R v (g (r*sz+c)))(rest:List Value)(r c:Nat)(v:AV)(h:cellAt (p++s) r c=some v):
  R v (((((bn (p.length*sz)).map go)++((bn (s.length*sz)).map g))++rest).toArray.getD (r*sz+c) Go.undef):=by
 rw[Qf]at h;simp only[ek,List.getElem?_toArray];split at h
 ·obtain⟨hr,hc⟩:=CK hp h;have:=zg hr hc;rw[bC,eB (by simpa using this)];simp[this];exact h1 r c v h
 ·rename_i gd;obtain⟨hr,hc⟩:=CK hs h;have hl:=zg hr hc;have e:r*sz+c=p.length*sz+((r-p.length)*sz+c):=by
   have:r=p.length+(r-p.length):=Ix
   conv=>lhs;rw[this,fN]
   omega
  rw[eB NS,gX NS];have e2:r*sz+c-(List.map go (bn (p.length*sz))).length=(r-p.length)*sz+c:=NS;rw[e2];simp[hl];exact h2 _ _ _ h
def adD {σ:St} {γ:Cx} (h:bg σ γ) {x:AV} {cv:Value} (hv:aw σ.aa γ.w γ.Z γ.blk x cv) {sz:Nat} {pre:List (List AV)} {σ1:St} (hs:k0 σ sz x=some (pre,σ1)) :
    (bg σ1 γ/\Fr σ.aa γ σ1.aa γ/\∃ k,σ1.aa.length=k) /\
    ((cv=.slice none 0 0/\pre=[]) \/
     (∃ id b x bo cur t,cv=.slice (some ⟨b,x,none⟩) 0 0/\pre=[]/\Live σ.aa id/\σ1 = { σ with aa:=σ.aa.set id .gone }/\γ.blk id=some (b,bo)/\γ.w.heap[b]?=some (.cells cur t (0,0))) \/
     ∃ id off rows b o cap cap' cur t,σ.aa[id]?=some (.arr sz rows)/\σ1 = { σ with aa:=σ.aa.set id .gone }/\γ.blk id=some (b,o,cap)/\γ.w.heap[b]?=some (.cells cur t (0,0)) /\
      cv=.slice (some ⟨b,o+off * sz,none⟩) pre.length cap'/\pre.length<=cap'/\cap'<=maxLen/\o+off * sz+cap' * sz<=cur.size/\(∀ row∈pre,row.length=sz) /\
      ∀ r c v,cellAt pre r c=some v->aw σ.aa γ.w γ.Z γ.blk v (cur.getD (o+off * sz+(r * sz+c)) Go.undef)):=by
  unfold k0 at hs
  split at hs
  · simp at hs
    obtain ⟨rfl,rfl⟩:=hs
    exact⟨⟨h,Fr.refl _ _,_,rfl⟩,.inl ⟨hv.cz,rfl⟩⟩
  · rename_i id cX off len
    cases ho:σ.aa[id]? with
    | none=>simp[ho] at hs
    | some ob =>
      have bI:=h.dF id ob ho
      cases ob with
      | gone=>simp[ho] at hs
      | mp ag L=>simp[ho] at hs
      | var cells=>simp[ho] at hs
      | arr kK rows =>
        simp only[ho] at hs
        split at hs
        · rename_i he
          obtain ⟨uh,kl⟩:=he
          subst uh
          subst kl
          simp at hs
          obtain ⟨rfl,rfl⟩:=hs
          refine⟨⟨h.kill id,Fr.kill _ _ _,_,rfl⟩,?_⟩
          obtain ⟨_,cI,bI⟩:=bI
          cases hv with
          | cG _ _ h=>cases h
          | kk _ _ _ _ _ h=>rw[ho] at h;simp at h
          | lR _ _ h hb=>left;exact⟨rfl,Iy⟩
          | mo _ _ _ b x bo gz h' hb hl =>
            right;left
            rcases bI with ⟨h1,_⟩ | ⟨b',o',CJ,cur,t,h1,h2,_⟩
            · rw[hb] at h1;simp at h1
            · rw[hb] at h1;simp at h1
              obtain ⟨rfl,_⟩:=h1
              exact⟨id,b,x,bo,cur,t,rfl,Iy,⟨_,ho,Iy⟩,rfl,hb,h2⟩
          | ref _ _ _ _ b o cap cap' gz h' hb hl hc jt =>
            rw[ho] at h';simp at h'
            subst h'
            rcases bI with ⟨h1,_⟩ | ⟨b',o',CJ,cur,t,h1,h2,h3,h4,h5,h6⟩
            · rw[hb] at h1;simp at h1
            · rw[hb] at h1;simp at h1
              obtain ⟨rfl,rfl,rfl⟩:=h1
              right;right
              have hlen:((rows.drop off).take len).length=len:=NS
              refine⟨id,off,rows,b,o,cap,cap',cur,t,ho,rfl,hb,h2,by rw[hlen],Ix,Ix,?_,?_,?_⟩
              · have:(off+cap') * kK<=cap * kK:=mJ _ hc
                rw[fN] at this;omega
              · intro row bN
                exact cI row (xH (qT bN))
              · intro r c v aP
                simp only[cellAt,uZ,mI] at aP
                split at aP
                · have:=h6 (off+r) c v aP
                  rw[fN] at this
                  have e:o+(off * kK+r * kK+c)=o+off * kK+(r * kK+c):=Ix
                  rw[e] at this
                  exact this
                · simp at aP
        · simp at hs
  · simp at hs
def adE(w:World)(t ty' e:TypeId)(i:TypeInfo)(ht:P.underlying t=some (.slice e))(hi:P.info? e=some i)(g o zs JM:Nat)(cur:Array Value)(tt:TypeId)(hg:w.heap[g]?=some (.cells cur tt (0,0)))(xa:Option Addr)(m c:Nat)(news:List Value)(hl:news.length=m*i.size)(x9:0<m->∃ a,xa=some a/\∀ j u,news[j]?=some u->w.cell? (a.add j)=some u)(h1:∀ u∈news,u.oneCell'=true)(Bi:zs+m<=JM)(nG:o+zs*i.size+news.length<=cur.size):
  (Builtin.append_ #[t,t] ty' #[.slice (some ⟨g,o,none⟩) zs JM,.slice xa m c]).run P w =
   .ok (.slice (some ⟨g,o,none⟩) (zs+m) JM) (w.setRow g (cur.toList.take (o+zs*i.size)++news++cur.toList.drop (o+zs*i.size+news.length)).toArray):=by
 have hf:(Builtin.firstCells i.size m (.slice xa m c)).run P w=.ok news.toArray w:=by
  rcases qV m with h0|hp
  ·subst h0;have hn:news=[]:=AK (by simpa using hl);subst hn;cases xa<;>simp[Builtin.firstCells,loadCells,loadCellsFrom]
  ·obtain⟨a,rfl,hc⟩:=x9 hp;exact run_firstCells_some w i.size m a m c news hl hc
 have dU:=run_storeCells_at P g (o+zs*i.size) tt news 0 cur w hg (by simpa using nG) h1;simp only[iq]at dU;simp[Builtin.append_,run_underlying ht,sizeOf,typeInfo,hi,Builtin.lenOf,Bi,hf,Addr.rh,dU]
def Bj{g:Nat->Value}{n j:Nat}{u:Value}(h:((bn n).map g)[j]?=some u):j<n/\u=g j:=by
 have hj:=(aR.1 h).1;simp at hj;simp[hj]at h;exact⟨hj,h.symm⟩
def adz{σ σ1:St}{γ:Cx}(h:bg σ γ){t oty:TypeId}{sz:Nat}{z:List Value}(hk:(ty P t).kind=1)(dJ:(ty P (ty P t).elem).kind≠99)(hz:(ty P (ty P t).elem).zero=some z)(aN:sz=(ty P (ty P t).elem).size)(h0:0<sz)(mT:z.length=sz){sD x:AV}{sI CY:Value}(hS:aw σ.aa γ.w γ.Z γ.blk sD sI)(hX:aw σ.aa γ.w γ.Z γ.blk x CY){pre src:List (List AV)}(hd:k0 σ sz sD=some (pre,σ1))(qm:nw σ x=some (sz,src))(hlen:pre.length+src.length<=549755813888)(CV:(ty P (ty P t).elem).bytes<=128)(ri:(src.all λrow=>row.all cV)=true):
    ∃ pf γ1,(Builtin.append_ #[t,t] oty #[sI,CY]).run P γ.w=.ok pf γ1.w/\γ1.tmps=γ.tmps/\bg { σ1 with aa:=σ1.aa++[.arr sz (pre++src)] } γ1 /\
      Fr σ.aa γ (σ1.aa++[.arr sz (pre++src)]) γ1/\aw (σ1.aa++[.arr sz (pre++src)]) γ1.w γ1.Z γ1.blk (.ref σ1.aa.length sz 0 (pre.length+src.length)) pf:=by
  obtain⟨i,d,hi,FE,ue,CW,hzero⟩:=uf dJ;have ht:=ud hk;have wU:i.size=sz:=by rw[<- ue,<- aN]
  obtain⟨zv,zr,je⟩:∃zv,i.zero=some zv/\zv.cells.size=sz:=by
    rw[hzero]at hz;cases hv:i.zero with
    |none=>simp[hv]at hz
    |some v=>simp[hv]at hz;exact⟨v,rfl,by rw[<- mT,<- hz];simp⟩
  obtain⟨ad,c,g,rfl,oo,JN,Bk⟩:=Qg h hX h0 qm;obtain⟨⟨jH,hf1,_⟩,adG⟩:=adD h hS hd
  let news:=(bn (src.length*sz)).map g
  have ak:news.length=src.length*i.size:=by simp[news,wU]
  have adH:∀ u∈news,u.oneCell'=true:=by
    intro u hu;obtain⟨j,hj⟩:=NJ.1 hu;obtain⟨gA,rfl⟩:=Bj hj;have h1:j/sz<src.length:=Nat.div_lt_of_lt_mul (by rw[rX];exact gA);have h2:j%sz<sz:=wC _ h0;have cI:(src[j/sz]).length=sz:=oo _ (tK h1);have:=Bk (j/sz) (j%sz) ((src[j/sz])[j%sz]' Ix) (by simp[cellAt,h1,h2,cI]);have e:j/sz*sz+j%sz=j:=by rw[rX];exact NN j sz
    rw[e]at this;refine FL this ?_;rw[gH]at ri;have:=ri _ (tK h1);rw[gH]at this;exact this _ (tK _)
  have x9:0<src.length->∃ a,ad=some a/\∀ j u,news[j]?=some u->γ.w.cell? (a.add j)=some u:=by
    intro hp;obtain⟨b,o,rfl,hc⟩:=JN hp;refine⟨_,rfl,λj u hu=>?_⟩;obtain⟨gA,rfl⟩:=Bj hu;rw[Addr.rh];exact hc j gA
  have ya:pre.length+src.length<=maxLen:=by unfold maxLen;omega
  have lW:(pre.length+src.length)*i.bytes<=140737488355328:=by
    rw[<- CW]
    calc _<=549755813888*128:=Nat.mul_le_mul hlen CV
      _<=_:=Ix
  have fresh:∀ (dY:Nat) (go:Nat->Value),(∀ row∈pre,row.length=sz)->(∀ r c v,cellAt pre r c=some v->aw σ.aa γ.w γ.Z γ.blk v (go (r*sz+c))) ->
      ∀ (w':World) (cap:Nat),pre.length+src.length<=cap->cap<=maxLen ->
        w'=γ.w.drew.alloc (.cells (((bn (pre.length*sz)).map go).toArray++news.toArray++Builtin.zeroCells zv.cells (cap-(pre.length+src.length))) (ty P t).elem) ->
        ∃ γ1:Cx,γ1.w=w'/\γ1.tmps=γ.tmps/\bg { σ1 with aa:=σ1.aa++[.arr sz (pre++src)] } γ1/\Fr σ.aa γ (σ1.aa++[.arr sz (pre++src)]) γ1 /\
          aw (σ1.aa++[.arr sz (pre++src)]) γ1.w γ1.Z γ1.blk (.ref σ1.aa.length sz 0 (pre.length+src.length)) (.slice (some ⟨γ.w.heap.size,0,none⟩) (pre.length+src.length) cap):=by
    intro dY go dD FM w' cap lj yb qh;have FN:∀ v cv,aw σ.aa γ.w γ.Z γ.blk v cv->aw σ1.aa γ.w γ.Z γ.blk v cv:=by
      intro v cv hv;refine hv.mono (λb hb=>⟨hb,rfl⟩) (λi o ho=>?_);unfold k0 at hd;split at hd
      · simp at hd
        rw[<- hd.2];by_cases cD:o=.gone
        · subst cD;exact .inl ho
        · exact .inr ⟨rfl,o,ho,Ob.jg cD⟩
      · rename_i id cX off len
        have hi:i<σ.aa.length:=(aR.1 ho).1;split at hd
        · split at hd
          · simp at hd
            rw[<- hd.2];show(σ.aa.set id Ob.gone)[i]?=some Ob.gone\/_;simp only[bY];by_cases mS:id=i
            · left;simp[mS,hi]
            · rw[if_neg mS]
              by_cases cD:o=.gone
              · subst cD;exact .inl ho
              · exact .inr ⟨trivial,o,ho,Ob.jg cD⟩
          · simp at hd
        · simp at hd
      · simp at hd
    let cur:=((bn (pre.length*sz)).map go).toArray++news.toArray++Builtin.zeroCells zv.cells (cap-(pre.length+src.length))
    have bI:sF σ1.aa γ.w γ.Z γ.blk 0 cap cur (.arr sz (pre++src)):=by
      refine⟨h0,?_,?_,by simpa using lj,yb,?_⟩
      · intro row bN
        rcases cC.1 bN with h|h
        · exact dD row h
        · exact oo row h
      · simp only[cur,news,Array.size_append,Co,fW,List.length_range,size_zeroCells,je,<- fN]
        have:pre.length+src.length+(cap-(pre.length+src.length))=cap:=Ix;rw[this];omega
      · intro r c v hv
        have:=adC (R:=aw σ1.aa γ.w γ.Z γ.blk) dD oo (λr c v hv=>FN _ _ (FM r c v hv)) (λr c v hv=>FN _ _ (Bk r c v hv)) (Builtin.zeroCells zv.cells (cap-(pre.length+src.length))).toList r c v hv;rw[gm];have e:cur=(((bn (pre.length*sz)).map go)++((bn (src.length*sz)).map g)++(Builtin.zeroCells zv.cells (cap-(pre.length+src.length))).toList).toArray:=by
          apply Array.ext';simp[cur,news]
        rw[e];exact this
    refine⟨{ γ with w:=w',blk:=c6 γ.blk σ1.aa.length (some (γ.w.heap.size,0,cap)) },rfl,rfl,?_,?_,?_⟩
    · exact jH.push (t:=(ty P t).elem) (cur:=cur) (by rw[qh];rfl) bI
    · exact hf1.trans (Fr.push (σ:=σ1) (t:=(ty P t).elem) (cur:=cur) _ (by rw[qh];rfl) (by rw[qh];rfl) (by rw[qh];rfl) (by rw[qh];rfl) (by rw[qh];exact Nat.le_succ _))
    · have:=aw.ref (os:=σ1.aa++[.arr sz (pre++src)]) (w:=w') (Z:=γ.Z) (blk:=c6 γ.blk σ1.aa.length (some (γ.w.heap.size,0,cap))) σ1.aa.length sz 0 (pre.length+src.length) γ.w.heap.size 0 cap cap (pre++src)
        Iy (by simp[c6]) Iy Ix lj
      simpa using this
  rcases adG with⟨rfl,rfl⟩|⟨id,b,x,bo,cur,tt,rfl,rfl,j3,rfl,hb,iK⟩|⟨id,off,rows,b,o,cap,cap',cur,tt,ho,rfl,hb,iK,rfl,Qh,jM,nG,dD,FM⟩
  · rcases qV src.length with hm|hp
    ·
      have eO:src=[]:=AK hm;subst eO;refine⟨.slice none 0 0,{ γ with blk:=c6 γ.blk σ1.aa.length none },?_,rfl,jH.zl h0,hf1.trans (Fr.zl _ _ _),?_⟩
      · cases ad<;>simp[Builtin.append_,run_underlying ht,sizeOf,typeInfo,hi,Builtin.lenOf,Builtin.firstCells,loadCells,loadCellsFrom]
      · exact .lR _ _ Iy (by simp[c6])
    · obtain⟨a,rfl,hc⟩:=x9 hp
      have hr:=run_append_nil (P:=P) γ.w t oty _ i zv ht hi zr a src.length c news ak hc hp (by unfold maxLen at ya;simp at ya;omega) (by have hb:=lW;simp only[nR,gm]at hb;omega);have gd:=grownCap_ge γ.w src.length 0 (ty P t).elem;have jM:=grownCap_le_maxLen γ.w src.length 0 (ty P t).elem (by simpa using ya);obtain⟨γ1,e1,e2,e3,e4,e5⟩:=fresh 0 (λ_=>Go.undef) Iy (by simp[cellAt]) _ (grownCap γ.w src.length 0 (ty P t).elem) (by simpa using gd) jM rfl;simp only[nR,Nat.zero_mul,List.range_zero,List.map_nil,gm,Array.empty_append]at e1 e5;refine⟨.slice (some ⟨γ.w.heap.size,0,none⟩) src.length (grownCap γ.w src.length 0 (ty P t).elem),γ1,?_,e2,e3,e4,?_⟩
      · rw[hr,e1]
      · simpa using e5
  · rcases qV src.length with hm|hp
    · have eO:src=[]:=AK hm
      subst eO;obtain⟨ob,ho,hg⟩:=j3;have mu:∀ k,k≠b->γ.w.heap[k]?=γ.w.heap[k]?:=λ_ _=>rfl;have JO:=h.CZ (ob':=.arr sz []) (o':=0) (cap':=0) ho hg (o:=bo.1) (cap:=bo.2) hb iK mu rfl ⟨h0,Iy,Iy,Iy,by simp[maxLen],by simp[cellAt]⟩;have ee:=Fr.CZ (γ:=γ) (o':=0) (cap':=0) (.arr sz []) ho hg (o:=bo.1) (cap:=bo.2) hb (w':=γ.w) mu rfl rfl rfl rfl;refine⟨.slice (some ⟨b,x,none⟩) 0 0,{ γ with w:=γ.w,blk:=c6 γ.blk σ.aa.length (some (b,0,0)) },?_,rfl,by simpa using JO,by simpa using ee,?_⟩
      · cases ad<;>simp[Builtin.append_,run_underlying ht,sizeOf,typeInfo,hi,Builtin.lenOf,Builtin.firstCells,loadCells,loadCellsFrom,storeCells]
      · have:=aw.mo (os:=σ.aa.set id .gone++[.arr sz []]) (w:=γ.w) (Z:=γ.Z) (blk:=c6 γ.blk σ.aa.length (some (b,0,0))) σ.aa.length sz 0 b x (0,0) []
          (by rw[gX Iy];simp) (by simp[c6]) Iy
        simpa using this
    · obtain⟨a,rfl,hc⟩:=x9 hp
      have hr:=run_append_grow (P:=P) γ.w t oty _ i zv ht hi zr ⟨b,x,none⟩ 0 0 [] Iy Iy a src.length c news ak hc Ix (by unfold maxLen at ya;simp at ya;omega) (growslice_fits Ix (by simpa using lW));have gd:=grownCap_ge γ.w (0+src.length) 0 (ty P t).elem;have jM:=grownCap_le_maxLen γ.w (0+src.length) 0 (ty P t).elem (by simpa using ya);obtain⟨γ1,e1,e2,e3,e4,e5⟩:=fresh 0 (λ_=>Go.undef) Iy (by simp[cellAt]) _ (grownCap γ.w (0+src.length) 0 (ty P t).elem) (by simpa using gd) jM rfl;refine⟨.slice (some ⟨γ.w.heap.size,0,none⟩) (0+src.length) (grownCap γ.w (0+src.length) 0 (ty P t).elem),γ1,?_,e2,e3,e4,?_⟩
      · rw[hr,e1];simp
      · simpa using e5
  · by_cases Bi:pre.length+src.length<=cap'
    ·
      have hmul:pre.length*sz+src.length*sz<=cap'*sz:=by rw[<- fN];exact mJ _ Bi
      have FO:news.length=src.length*sz:=by rw[ak,wU]
      have hr:=adE (P:=P) γ.w t oty _ i ht hi b (o+off*sz) pre.length cap' cur tt iK ad src.length c news ak x9 adH Bi (by rw[wU,FO];omega);have bI:sF σ.aa γ.w γ.Z γ.blk (o+off*sz) cap' (cur.toList.take (o+off*sz+pre.length*i.size)++news++cur.toList.drop (o+off*sz+pre.length*i.size+news.length)).toArray (.arr sz (pre++src)):=by
        refine⟨h0,?_,?_,by simpa using Bi,jM,?_⟩
        · intro row bN
          rcases cC.1 bN with h|h
          · exact dD row h
          · exact oo row h
        · simp only[Co,bF,e8,xG,qR,wU,FO]
          omega
        · intro r c v hv
          rw[C0 cur _ news (by rw[wU,FO];omega),wU,FO];rw[Qf]at hv;split at hv
          · obtain⟨j4,lj⟩:=CK dD hv
            have:=zg j4 lj;rw[if_neg Ix];exact FM r c v hv
          · obtain⟨j4,lj⟩:=CK oo hv
            have hl:=zg j4 lj;have e:r*sz+c=pre.length*sz+((r-pre.length)*sz+c):=by
              have:r=pre.length+(r-pre.length):=Ix
              conv=>lhs;rw[this,fN]
              omega
            rw[if_pos Ix];have e2:o+off*sz+(r*sz+c)-(o+off*sz+pre.length*sz)=(r-pre.length)*sz+c:=Ix;rw[e2];simp only[news,aB];simp[hl];exact Bk _ _ _ hv
      have JO:=h.CZ ho Iy hb (setRow_heap γ.w b cur _ tt _ iK) (λk hk=>setRow_other γ.w b k _ hk) (setRow_size _ _ _) bI;have ee:=Fr.CZ (γ:=γ) (o':=o+off*sz) (cap':=cap') (.arr sz (pre++src)) ho Iy hb (w':=γ.w.setRow b (cur.toList.take (o+off*sz+pre.length*i.size)++news++cur.toList.drop (o+off*sz+pre.length*i.size+news.length)).toArray) (λk hk=>setRow_other γ.w b k _ hk) (setRow_size _ _ _) rfl rfl rfl;refine⟨_,{ γ with w:=γ.w.setRow b (cur.toList.take (o+off*sz+pre.length*i.size)++news++cur.toList.drop (o+off*sz+pre.length*i.size+news.length)).toArray,blk:=c6 γ.blk σ.aa.length (some (b,o+off*sz,cap')) },hr,rfl,?_,?_,?_⟩
      · simpa using JO
      · simpa using ee
      · have:=aw.ref (os:=σ.aa.set id .gone++[.arr sz (pre++src)]) (w:=γ.w.setRow b (cur.toList.take (o+off*sz+pre.length*i.size)++news++cur.toList.drop (o+off*sz+pre.length*i.size+news.length)).toArray) (Z:=γ.Z)
          (blk:=c6 γ.blk σ.aa.length (some (b,o+off*sz,cap'))) σ.aa.length sz 0 (pre.length+src.length) b (o+off*sz) cap' cap' (pre++src)
          (by rw[gX Iy];simp) (by simp[c6]) Iy Ix Bi
        simpa using this
    ·
      let go:Nat->Value:=λj=>cur.getD (o+off*sz+j) Go.undef
      let FQ:=(bn (pre.length*sz)).map go
      have mV:FQ.length=pre.length*i.size:=by simp[FQ,wU]
      have alR:pre.length*sz<=cap'*sz:=mJ _ Qh;have holds:∀ j v,FQ[j]?=some v->γ.w.cell? ((⟨b,o+off*sz,none⟩:Addr).add j)=some v:=by
        intro j v hj;obtain⟨gA,rfl⟩:=Bj hj;rw[Addr.rh];exact zh iK Ix
      have hp:0<src.length:=Ix;obtain⟨a,rfl,hc⟩:=x9 hp;have hr:=run_append_grow (P:=P) γ.w t oty _ i zv ht hi zr ⟨b,o+off*sz,none⟩ pre.length cap' FQ mV holds a src.length c news ak hc Ix (by unfold maxLen at ya;omega) (growslice_fits Ix lW);have gd:=grownCap_ge γ.w (pre.length+src.length) cap' (ty P t).elem;have adI:=grownCap_le_maxLen γ.w (pre.length+src.length) cap' (ty P t).elem ya;obtain⟨γ1,e1,e2,e3,e4,e5⟩:=fresh 0 go dD FM _ (grownCap γ.w (pre.length+src.length) cap' (ty P t).elem) gd adI rfl;refine⟨_,γ1,?_,e2,e3,e4,e5⟩;rw[hr,e1]
def adA{σ:St}{γ:Cx}(h:bg σ γ){t t' oty:TypeId}{sz:Nat}(hk:(ty P t).kind=1)(dJ:(ty P (ty P t).elem).kind≠99)(aN:sz=(ty P (ty P t).elem).size)(h0:0<sz){id off len:Nat}{x:AV}{sI CY:Value}(hS:aw σ.aa γ.w γ.Z γ.blk (.ref id sz off len) sI)(hX:aw σ.aa γ.w γ.Z γ.blk x CY){rows:List (List AV)}(ho:σ.aa[id]?=some (.arr sz rows)){src:List (List AV)}(qm:nw σ x=some (sz,src))(ri:(src.all λrow=>row.all cV)=true):
  ∃ w',(Builtin.copy_ #[t,t'] oty #[sI,CY]).run P γ.w=.ok (.int .i64 (min src.length len:Nat)) w' /\
   bg { σ with aa:=σ.aa.set id (.arr sz (rows.take off++src.take (min src.length len)++rows.drop (off+min src.length len))) } { γ with w:=w' } /\
   Fr σ.aa γ (σ.aa.set id (.arr sz (rows.take off++src.take (min src.length len)++rows.drop (off+min src.length len)))) { γ with w:=w' }:=by
 obtain⟨i,d,hi,FE,ue,CW,hzero⟩:=uf dJ;have ht:=ud hk;have wU:i.size=sz:=by rw[<- ue,<- aN]
 obtain⟨ad,c,g,rfl,oo,JN,Bk⟩:=Qg h hX h0 qm;have bO:id<σ.aa.length:=(aR.1 ho).1;have zero:∀ (zt:Option Addr) (cap':Nat),min src.length len=0->sI=.slice zt len cap'->∃ w',(Builtin.copy_ #[t,t'] oty #[sI,.slice ad src.length c]).run P γ.w=.ok (.int .i64 (min src.length len:Nat)) w' /\
   bg { σ with aa:=σ.aa.set id (.arr sz (rows.take off++src.take (min src.length len)++rows.drop (off+min src.length len))) } { γ with w:=w' } /\
   Fr σ.aa γ (σ.aa.set id (.arr sz (rows.take off++src.take (min src.length len)++rows.drop (off+min src.length len)))) { γ with w:=w' }:=by
  intro zt cap' hz aP;have iL:σ.aa.set id (.arr sz rows)=σ.aa:=by
   apply qS;intro j;rw[bY];split
   ·rename_i e;subst e;simp[ho]
   ·rfl
  refine⟨γ.w,?_,?_,?_⟩
  ·have hm:Nat.min src.length len=0:=hz;subst aP;cases ad<;>cases zt<;>simp[Builtin.copy_,run_underlying ht,sizeOf,typeInfo,hi,Builtin.lenOf,Builtin.firstCells,loadCells,loadCellsFrom,storeCells,hm,goInt,hz]
  ·rw[hz];simp[iL];exact h
  ·rw[hz];simp[iL];exact Fr.refl _ _
 cases hS with
 |cG _ _ h=>cases h
 |kk _ _ _ _ _ h=>rw[ho]at h;simp at h
 |lR _ _ h hb=>exact zero none 0 Iy rfl
 |mo _ _ _ b x bo gz h hb hl=>exact zero _ 0 Iy rfl
 |ref _ _ _ _ b o cap cap' gz h' hb hl hc jt =>
  rw[ho]at h';simp at h';subst h';rcases qV (min src.length len) with hz|hp
  ·exact zero _ _ hz rfl
  obtain⟨_,cI,bI⟩:=h.dF id _ ho;rcases bI with⟨h1,_⟩|⟨b',o',CJ,cur,tt,h1,h2,h3,h4,h5,h6⟩
  ·rw[hb]at h1;simp at h1
  rw[hb]at h1;simp at h1;obtain⟨rfl,rfl,rfl⟩:=h1;generalize hn:min src.length len=n at *;have lS:n<=src.length:=Ix;have mq:n<=len:=Ix
  let news:=(bn (n*sz)).map g
  have ak:news.length=n*sz:=by simp[news]
  have ot:∀ u∈news,u.oneCell'=true:=by
   intro u hu;obtain⟨j,hj⟩:=NJ.1 hu;obtain⟨gA,rfl⟩:=Bj hj;have k1:j/sz<n:=Nat.div_lt_of_lt_mul (by rw[rX];exact gA);have k2:j%sz<sz:=wC _ h0;have k3:j/sz<src.length:=Ix;have cI:(src[j/sz]).length=sz:=oo _ (tK k3);have:=Bk (j/sz) (j%sz) ((src[j/sz])[j%sz]' Ix) (by simp[cellAt,k3,k2,cI]);have e:j/sz*sz+j%sz=j:=by rw[rX];exact NN j sz
   rw[e]at this;refine FL this ?_;rw[gH]at ri;have:=ri _ (tK k3);rw[gH]at this;exact this _ (tK _)
  obtain⟨sb,so,rfl,vc⟩:=JN Ix;have hle:n*sz<=src.length*sz:=mJ _ lS;have C1:=run_loadCells_list (P:=P) γ.w ⟨sb,so,none⟩ news (λj v hj=>by
   obtain⟨gA,rfl⟩:=Bj hj;rw[Addr.rh];exact vc j Ix)
  have nG:(off+n)*sz<=cap*sz:=mJ _ Ix;rw[fN]at nG;have dU:=run_storeCells_at P b (o+off*sz) tt news 0 cur γ.w h2 (by rw[ak];omega) ot;simp only[iq]at dU;have eG:(Builtin.copy_ #[t,t'] oty #[.slice (some ⟨b,o+off*sz,none⟩) len cap',.slice (some ⟨sb,so,none⟩) src.length c]).run P γ.w=.ok (.int .i64 (n:Nat)) (γ.w.setRow b (cur.toList.take (o+off*sz)++news++cur.toList.drop (o+off*sz+news.length)).toArray):=by
   have hm:Nat.min src.length len=n:=hn;rw[ak]at C1;simp[Builtin.copy_,run_underlying ht,sizeOf,typeInfo,hi,Builtin.lenOf,Builtin.firstCells,hm,wU,C1,dU,goInt]
  have JP:sF σ.aa γ.w γ.Z γ.blk o cap (cur.toList.take (o+off*sz)++news++cur.toList.drop (o+off*sz+news.length)).toArray (.arr sz (rows.take off++src.take n++rows.drop (off+n))):=by
   refine⟨h0,?_,?_,?_,h5,?_⟩
   ·intro row bN;simp only[cC]at bN;rcases bN with(hr|hr)|hr
    ·exact cI row (qT hr)
    ·exact oo row (qT hr)
    ·exact cI row (xH hr)
   ·simp only[Co,bF,e8,xG,qR,ak];omega
   ·simp;omega
   ·intro r cc v hv;rw[C0 cur _ news (by rw[ak];omega),ak];have a6:cc<sz:=by
     simp only[cellAt,Cl]at hv;obtain⟨y,hy,qo⟩:=hv;have hm:=gk hy;have:=(aR.1 qo).1;simp only[cC]at hm;rcases hm with(hr|hr)|hr
     ·have:=cI y (qT hr);omega
     ·have:=oo y (qT hr);omega
     ·have:=cI y (xH hr);omega
    rcases dE r off with k1|k1
    ·have e:cellAt (rows.take off++src.take n++rows.drop (off+n)) r cc=cellAt rows r cc:=by
      simp only[cellAt,bC];rw[eB NS,uZ,if_pos k1]
     rw[e]at hv;have hm:(r+1)*sz<=off*sz:=mJ _ Ix;rw[fN]at hm;rw[if_neg Ix];exact h6 r cc v hv
    ·rcases dE r (off+n) with k2|k2
     ·have e:cellAt (rows.take off++src.take n++rows.drop (off+n)) r cc=cellAt src (r-off) cc:=by
       simp only[cellAt,bC];rw[gX NS,eB NS,uZ,if_pos NS];congr 2;simp;omega
      rw[e]at hv;have e1:r=off+(r-off):=Ix;have e2:r*sz=off*sz+(r-off)*sz:=by rw[<- fN,<- e1]
      have hm:(r-off+1)*sz<=n*sz:=mJ _ Ix;rw[fN]at hm;rw[if_pos Ix];have e3:o+(r*sz+cc)-(o+off*sz)=(r-off)*sz+cc:=Ix;rw[e3];have hl:(r-off)*sz+cc<n*sz:=Ix;simp only[news,aB];simp[hl];exact Bk _ _ _ hv
     ·have e:cellAt (rows.take off++src.take n++rows.drop (off+n)) r cc=cellAt rows r cc:=by
       simp only[cellAt];rw[gX NS,mI];congr 2;simp;omega
      rw[e]at hv;have hm:(off+n)*sz<=r*sz:=mJ _ k2;rw[fN]at hm;rw[if_neg Ix];exact h6 r cc v hv
  refine⟨_,eG,?_,?_⟩
  ·exact h.write ho Iy (by simp[Ob.dT];omega) hb (setRow_heap γ.w b cur _ tt _ h2) (λk hk=>setRow_other γ.w b k _ hk) (setRow_size _ _ _) JP
  ·exact Fr.write _ ho Iy (by simp[Ob.dT];omega) hb (λk hk=>setRow_other γ.w b k _ hk) (setRow_size _ _ _) rfl rfl rfl
def adB{σ:St}{γ:Cx}(h:bg σ γ){t oty:TypeId}{sz:Nat}{z:List Value}(hk:(ty P t).kind=1)(dJ:(ty P (ty P t).elem).kind≠99)(mT:z.length=sz)(h0:0<sz)(hz:(ty P (ty P t).elem).zero=some z)(wT:(z.all λu=>u.oneCell')=true){id off len:Nat}{sI:Value}(hS:aw σ.aa γ.w γ.Z γ.blk (.ref id sz off len) sI){rows:List (List AV)}(ho:σ.aa[id]?=some (.arr sz rows)):
  ∃ w',(Builtin.clear_ #[t] oty #[sI]).run P γ.w=.ok (.tuple #[]) w' /\
   bg { σ with aa:=σ.aa.set id (.arr sz (rows.take off++aJ len (z.map AV.lit)++rows.drop (off+len))) } { γ with w:=w' } /\
   Fr σ.aa γ (σ.aa.set id (.arr sz (rows.take off++aJ len (z.map AV.lit)++rows.drop (off+len)))) { γ with w:=w' }:=by
 obtain⟨i,d,hi,FE,ue,CW,hzero⟩:=uf dJ;have ht:=ud hk;rw[hz]at hzero;obtain⟨zv,zr,je⟩:=Option.map_eq_some_iff.1 hzero.symm;have JQ:zv.cells.size=sz:=by rw[<- mT,<- je];simp
 have bO:id<σ.aa.length:=(aR.1 ho).1;have zero:∀ (zt:Option Addr) (cap':Nat),len=0->sI=.slice zt len cap'->∃ w',(Builtin.clear_ #[t] oty #[sI]).run P γ.w=.ok (.tuple #[]) w' /\
   bg { σ with aa:=σ.aa.set id (.arr sz (rows.take off++aJ len (z.map AV.lit)++rows.drop (off+len))) } { γ with w:=w' } /\
   Fr σ.aa γ (σ.aa.set id (.arr sz (rows.take off++aJ len (z.map AV.lit)++rows.drop (off+len)))) { γ with w:=w' }:=by
  intro zt cap' Bl aP;have iL:σ.aa.set id (.arr sz rows)=σ.aa:=by
   apply qS;intro j;rw[bY];split
   ·rename_i e;subst e;simp[ho]
   ·rfl
  refine⟨γ.w,?_,?_,?_⟩
  ·subst aP;subst Bl;cases zt<;>simp[Builtin.clear_,run_underlying ht]
  ·subst Bl;simp[iL];exact h
  ·subst Bl;simp[iL];exact Fr.refl _ _
 cases hS with
 |cG _ _ h=>cases h
 |kk _ _ _ _ _ h=>rw[ho]at h;simp at h
 |lR _ _ h hb=>exact zero none 0 rfl rfl
 |mo _ _ _ b x bo gz h hb hl=>exact zero _ 0 rfl rfl
 |ref _ _ _ _ b o cap cap' gz h' hb hl hc jt =>
  rw[ho]at h';simp at h';subst h';rcases qV len with Bl|hp
  ·exact zero _ _ Bl rfl
  obtain⟨_,cI,bI⟩:=h.dF id _ ho;rcases bI with⟨h1,_⟩|⟨b',o',CJ,cur,tt,h1,h2,h3,h4,h5,h6⟩
  ·rw[hb]at h1;simp at h1
  rw[hb]at h1;simp at h1;obtain⟨rfl,rfl,rfl⟩:=h1
  let g:Nat->Value:=λi=>zv.cells[i%zv.cells.size]!
  let news:=(bn (len*sz)).map g
  have x9:(Builtin.zeroCells zv.cells len).toList=news:=by
   simp[Builtin.zeroCells,news,g,JQ]
  have ak:news.length=len*sz:=by simp[news]
  have Qi:∀ i,i<sz->∃ u,z[i]?=some u/\zv.cells[i]! = u:=by
   intro i aq;have:i<zv.cells.size:=Ix;refine⟨zv.cells[i],?_,?_⟩
   ·rw[<- je];simp[this]
   ·simp[this]
  have ot:∀ u∈news,u.oneCell'=true:=by
   intro u hu;obtain⟨j,hj⟩:=NJ.1 hu;obtain⟨gA,rfl⟩:=Bj hj;obtain⟨u,k1,k2⟩:=Qi (j%sz) (wC _ h0);show(zv.cells[j%zv.cells.size]!).oneCell'=true;rw[JQ,k2];rw[gH]at wT;exact wT _ (gk k1)
  have nG:(off+len)*sz<=cap*sz:=mJ _ Ix;rw[fN]at nG;have dU:=run_storeCells_at P b (o+off*sz) tt news 0 cur γ.w h2 (by rw[ak];omega) ot;simp only[iq]at dU;have eG:(Builtin.clear_ #[t] oty #[.slice (some ⟨b,o+off*sz,none⟩) len cap']).run P γ.w=.ok (.tuple #[]) (γ.w.setRow b (cur.toList.take (o+off*sz)++news++cur.toList.drop (o+off*sz+news.length)).toArray):=by
   obtain⟨alS,rfl⟩:∃k,len=k+1:=⟨len-1,Ix⟩;simp[Builtin.clear_,run_underlying ht,zeroValue,typeInfo,hi,zr,x9,dU]
  have JP:sF σ.aa γ.w γ.Z γ.blk o cap (cur.toList.take (o+off*sz)++news++cur.toList.drop (o+off*sz+news.length)).toArray (.arr sz (rows.take off++aJ len (z.map AV.lit)++rows.drop (off+len))):=by
   refine⟨h0,?_,?_,?_,h5,?_⟩
   ·intro row bN;simp only[cC]at bN;rcases bN with(hr|hr)|hr
    ·exact cI row (qT hr)
    ·rw[AM hr,fW];exact mT
    ·exact cI row (xH hr)
   ·simp only[Co,bF,e8,xG,qR,ak];omega
   ·simp;omega
   ·intro r cc v hv;rw[C0 cur _ news (by rw[ak];omega),ak];have a6:cc<sz:=by
     simp only[cellAt,Cl]at hv;obtain⟨y,hy,qo⟩:=hv;have hm:=gk hy;have:=(aR.1 qo).1;simp only[cC]at hm;rcases hm with(hr|hr)|hr
     ·have:=cI y (qT hr);omega
     ·have FR:=AM hr;rw[FR,fW]at this;omega
     ·have:=cI y (xH hr);omega
    rcases dE r off with k1|k1
    ·have e:cellAt (rows.take off++aJ len (z.map AV.lit)++rows.drop (off+len)) r cc=cellAt rows r cc:=by
      simp only[cellAt,bC];rw[eB NS,uZ,if_pos k1]
     rw[e]at hv;have hm:(r+1)*sz<=off*sz:=mJ _ Ix;rw[fN]at hm;rw[if_neg Ix];exact h6 r cc v hv
    ·rcases dE r (off+len) with k2|k2
     ·have e:cellAt (rows.take off++aJ len (z.map AV.lit)++rows.drop (off+len)) r cc=(z.map AV.lit)[cc]?:=by
       simp only[cellAt,bC];rw[gX NS,eB NS,List.getElem?_replicate,if_pos NS];rfl
      rw[e,b9]at hv;obtain⟨u,k3,k4⟩:=Qi cc a6;rw[k3]at hv;simp only[gY,cm.injEq]at hv;subst hv;have e1:r=off+(r-off):=Ix;have e2:r*sz=off*sz+(r-off)*sz:=by rw[<- fN,<- e1]
      have hm:(r-off+1)*sz<=len*sz:=mJ _ Ix;rw[fN]at hm;rw[if_pos Ix];have e3:o+(r*sz+cc)-(o+off*sz)=(r-off)*sz+cc:=Ix;rw[e3];have hl:(r-off)*sz+cc<len*sz:=Ix;have e4:news.getD ((r-off)*sz+cc) Go.undef=u:=by
       simp only[news,aB];rw[b9,List.getElem?_range hl];show zv.cells[((r-off)*sz+cc)%zv.cells.size]! = u;rw[JQ,rX,Nat.mul_add_mod,E1 a6,k4]
      first
       | (rw[e4];exact .lit _)
       | (simp only[aB]at e4 ⊢;rw[e4];exact .lit _)
     ·have e:cellAt (rows.take off++aJ len (z.map AV.lit)++rows.drop (off+len)) r cc=cellAt rows r cc:=by
       simp only[cellAt];rw[gX NS,mI];congr 2;simp;omega
      rw[e]at hv;have hm:(off+len)*sz<=r*sz:=mJ _ k2;rw[fN]at hm;rw[if_neg Ix];exact h6 r cc v hv
  refine⟨_,eG,?_,?_⟩
  ·exact h.write ho Iy (by simp[Ob.dT];omega) hb (setRow_heap γ.w b cur _ tt _ h2) (λk hk=>setRow_other γ.w b k _ hk) (setRow_size _ _ _) JP
  ·exact Fr.write _ ho Iy (by simp[Ob.dT];omega) hb (λk hk=>setRow_other γ.w b k _ hk) (setRow_size _ _ _) rfl rfl rfl
end Go.Am
namespace Go.Am
variable {P:Program}
def adJ(l:List Value):∀ (j off:Nat) (cells:Array Value),off+j+l.length<=cells.size ->
  ((l.zipIdx j).foldl (λcs (x:Value×Nat)=>cs.setIfInBounds (off+x.2) x.1) cells).size=cells.size /\
  ∀ k,((l.zipIdx j).foldl (λcs (x:Value×Nat)=>cs.setIfInBounds (off+x.2) x.1) cells).getD k Go.undef=if off+j<=k/\k<off+j+l.length then l.getD (k-(off+j)) Go.undef else cells.getD k Go.undef:=by
 induction l with
 |nil=>intro j off cells _;simp;intro k h1 h2;omega
 |cons v l ih =>
  intro j off cells hl;simp only[dt]at hl;simp only[List.zipIdx_cons,List.foldl_cons];obtain⟨h1,h2⟩:=ih (j+1) off (cells.setIfInBounds (off+j) v) NS;refine⟨by rw[h1];simp,λk=>?_⟩;rw[h2 k];simp only[dt];by_cases c1:off+(j+1)<=k/\k<off+(j+1)+l.length
  ·rw[if_pos c1,if_pos Ix];have:k-(off+j)=(k-(off+(j+1)))+1:=Ix;rw[this];simp
  ·rw[if_neg c1];by_cases c2:k=off+j
   ·subst c2;rw[if_pos Ix];simp[ek,show off+j<cells.size by omega]
   ·rw[if_neg Ix];simp[ek,Array.getElem?_setIfInBounds_ne (Ne.symm c2)]
def adK(v:Value)(off:Nat)(cells:Array Value):
  (v.cells.zipIdx.foldl (λcs (c,j)=>cs.setIfInBounds (off+j) c) cells)=((v.cells.toList.zipIdx 0).foldl (λcs (x:Value×Nat)=>cs.setIfInBounds (off+x.2) x.1) cells):=by
 rw[<- Array.foldl_toList];simp
def C2(R:AV->Value->Prop)(cs:List AV)(cur:Array Value):Prop:=cur.size=cs.length/\∀ j x,cs[j]?=some x->R x (cur.getD j Go.undef)
def FG{σ:St}{γ:Cx}{place:Nat->Option (Nat×Nat)}:∀ (parts:List (Nat×AV)) (pv:List (Nat×Value)) (cs:List AV) (cur:Array Value) (q8:List AV),
  parts.length=pv.length->(∀ (j:Nat) (p:Nat×AV) (q:Nat×Value),parts[j]?=some p->pv[j]?=some q->p.1=q.1/\aw σ.aa γ.w γ.Z γ.blk p.2 q.2)->(∀ p∈parts,(cellsOf p.2).all cV=true) ->
  C2 (aw σ.aa γ.w γ.Z γ.blk) cs cur->mh place cs parts=some q8->∃ kO,Instr.fill place cur pv=some kO/\C2 (aw σ.aa γ.w γ.Z γ.blk) q8 kO
 |[],pv,cs,cur,q8,hl,_,_,hc,h=>by
  have:pv=[]:=AK hl.symm;subst this;simp[mh]at h;subst h;exact⟨cur,by simp[Instr.fill],hc⟩
 | (i,v)::rest,[],cs,cur,q8,hl,_,_,_,_=>by simp at hl
 | (i,v)::rest,(i',x)::pv,cs,cur,q8,hl,hr,hs,hc,h=>by
  obtain⟨e1,e2⟩:=hr 0 (i,v) (i',x) rfl rfl;simp only at e1 e2;subst e1;simp only[mh]at h;cases hp:place i with
  |none=>simp[hp]at h
  |some os =>
   obtain⟨off,size⟩:=os;simp only[hp]at h;split at h
   ·rename_i adL;obtain⟨h1,h2⟩:=adL;obtain⟨g1,g2,g3⟩:=JB e2 (hs (i,v) Iy);have aN:x.cells.size=size:=by rw[g1,h1]
    obtain⟨iI,vp⟩:=hc;have nG:off+0+x.cells.toList.length<=cur.size:=by simp[aN,iI];omega
    obtain⟨f1,f2⟩:=adJ x.cells.toList 0 off cur nG;have zu:C2 (aw σ.aa γ.w γ.Z γ.blk) (setCells cs off (cellsOf v)) (x.cells.zipIdx.foldl (λcs (c,j)=>cs.setIfInBounds (off+j) c) cur):=by
     rw[adK];refine⟨by rw[f1,JE];exact iI,λj y hj=>?_⟩;rw[Qj _ _ _ (by rw[h1];exact h2)]at hj;rw[f2 j];simp only[iq,qR,aN];rw[h1]at hj;by_cases eP:off<=j/\j<off+size
     ·rw[if_pos eP]at hj;rw[if_pos eP];have:=g2 _ _ hj;simpa [aB,ek] using this
     ·rw[if_neg eP]at hj;rw[if_neg eP];exact vp j y hj
    obtain⟨kO,k1,k2⟩:=FG rest pv _ _ q8 (by simpa using hl) (λj p q hp hq=>hr (j+1) p q (by simpa using hp) (by simpa using hq)) (λp hp=>hs p (by simp[hp])) zu h;refine⟨kO,?_,k2⟩;simp only[Instr.fill,hp];rw[if_neg ?_]
    ·exact k1
    ·simp[aN,iI];omega
   ·simp at h
def JA{os:List Ob}{w:World}{Z:Nat->Prop}{blk:fX}(z:List Value):C2 (aw os w Z blk) (z.map .lit) z.toArray:=by
 refine⟨Iy,λj x hx=>?_⟩;simp only[b9]at hx;cases hj:z[j]? with
 |none=>simp[hj]at hx
 |some y =>
  simp[hj]at hx;subst hx;simp[ek,hj];exact .lit y
def JC{σ:St}{γ:Cx}(h:bg σ γ){a:Act}(ha:γ.tmps=a.tmps)(parts:Array (Nat×Operand)):
  (parts.toList.map λp=>(p.1,ev σ p.2)).length=(parts.map λ(i,x)=>(i,a.eval x)).toList.length /\
  ∀ (j:Nat) (p:Nat×AV) (q:Nat×Value),(parts.toList.map λp=>(p.1,ev σ p.2))[j]?=some p->(parts.map λ(i,x)=>(i,a.eval x)).toList[j]?=some q->p.1=q.1/\aw σ.aa γ.w γ.Z γ.blk p.2 q.2:=by
 refine⟨Iy,λj p q hp hq=>?_⟩;simp only[Array.toList_map,b9]at hp hq;cases hj:parts.toList[j]? with
 |none=>simp[hj]at hp
 |some y =>
  simp only[hj,gY,cm.injEq]at hp hq;subst hp;subst hq;exact⟨rfl,sv h ha y.2⟩
def adm{σ:St}{γ:Cx}(h:bg σ γ){a:Act}(ha:γ.tmps=a.tmps){t:TypeId}{parts:Array (Nat×Operand)}{z:List Value}(hk:(ty P t).kind=3)(hz:(ty P t).zero=some z){cs:List AV}(hf:mh (λi=>((ty P t).aM[i]?).map λf=>(f.1,f.2.2)) (z.map .lit) (parts.toList.map λp=>(p.1,ev σ p.2))=some cs)(hs:(parts.toList.all λp=>(cellsOf (ev σ p.2)).all cV)=true)(hp:((ty P t).aM.all λf=>decide (0<f.2.2))=true):
  ∃ cur,(Instr.build t (parts.map λ(i,x)=>(i,a.eval x))).run P γ.w=.ok (.agg cur) γ.w/\aw σ.aa γ.w γ.Z γ.blk (.agg cs) (.agg cur):=by
 obtain⟨it,d,hi,hd,_,_,hzero⟩:=uf (P:=P) (t:=t) (by rw[hk];simp);obtain⟨fs,hu,iy⟩:=JJ hk;rw[hzero]at hz;cases hv:it.zero with
 |none=>simp[hv]at hz
 |some zv =>
  simp[hv]at hz;have je:z.toArray=zv.cells:=by rw[<- hz]
  obtain⟨hl,hr⟩:=JC h ha parts;obtain⟨cur,h1,h2⟩:=FG (σ:=σ) (γ:=γ) _ _ _ _ cs hl hr (λp hp=>by
   simp only[b8]at hp;obtain⟨q,hq,rfl⟩:=hp;rw[gH]at hs;exact hs q hq) (JA z) hf
  refine⟨cur,run_build γ.w t _ cur ?_,.agg _ _ h2.1 h2.2⟩;unfold Program.built;rw[hi,hu];simp only[hv];have adM:∀ (l:List Field),(∀ f∈l,0<wS P f.type)->l.mapM (λf=>(P.info? f.type).map λi=>(f.offset,i.size))=some (l.map λf=>(f.offset,wS P f.type)):=by
   intro l
   induction l with
   |nil=>intro _;simp
   |cons f l ih =>
    intro hl;have h0:=hl f Iy;unfold wS at h0;cases JR:P.info? f.type with
    |none=>simp[JR]at h0
    |some i =>
     simp only[List.mapM_cons,JR,gY,ih (λg hg=>hl g (by simp[hg]))];simp[wS,JR]
  rw[adM fs.toList (by
   intro f eX;rw[iy]at hp;simp only[List.all_map,gH]at hp;have:=hp f eX;simpa using this)]
  simp only;rw[<- je];have:(λ(x:Nat)=>((fs.toList.map λf=>(f.offset,wS P f.type)).toArray[x]?))=(λ(i:Nat)=>((ty P t).aM[i]?).map λ(f:Nat×Nat×Nat)=>(f.1,f.2.2)):=by
   funext i;rw[iy];simp;cases fs[i]?<;>simp
  rw[this];exact h1
def adn{σ:St}{γ:Cx}(h:bg σ γ){a:Act}(ha:γ.tmps=a.tmps){t:TypeId}{parts:Array (Nat×Operand)}{z:List Value}(hk:(ty P t).kind=2)(hz:(ty P t).zero=some z){cs:List AV}(hf:mh (λi=>some (i*(ty P (ty P t).elem).size,(ty P (ty P t).elem).size)) (z.map .lit) (parts.toList.map λp=>(p.1,ev σ p.2))=some cs)(hs:(parts.toList.all λp=>(cellsOf (ev σ p.2)).all cV)=true)(dJ:(ty P (ty P t).elem).kind≠99):
  ∃ cur,(Instr.build t (parts.map λ(i,x)=>(i,a.eval x))).run P γ.w=.ok (.agg cur) γ.w/\aw σ.aa γ.w γ.Z γ.blk (.agg cs) (.agg cur):=by
 obtain⟨it,d,hi,hd,_,_,hzero⟩:=uf (P:=P) (t:=t) (by rw[hk];simp);have hu:=JL hk;obtain⟨ie,de,hie,_,ue,_,_⟩:=uf dJ;rw[hzero]at hz;cases hv:it.zero with
 |none=>simp[hv]at hz
 |some zv =>
  simp[hv]at hz;have je:z.toArray=zv.cells:=by rw[<- hz]
  obtain⟨hl,hr⟩:=JC h ha parts;obtain⟨cur,h1,h2⟩:=FG (σ:=σ) (γ:=γ) _ _ _ _ cs hl hr (λp hp=>by
   simp only[b8]at hp;obtain⟨q,hq,rfl⟩:=hp;rw[gH]at hs;exact hs q hq) (JA z) hf
  refine⟨cur,run_build γ.w t _ cur ?_,.agg _ _ h2.1 h2.2⟩;unfold Program.built;rw[hi,hu];simp only[hv,hie];rw[<- je,<- ue];exact h1
def JF(sz:Nat):∀ (n:Nat) (cs:List AV),(mj sz n cs).length=n
 |0,_=>rfl
 |n+1,cs=>by simp[mj,JF sz n]
def P9(sz:Nat):∀ (n:Nat) (cs:List AV),n*sz<=cs.length->∀ row∈mj sz n cs,row.length=sz
 |0,_,_,row,h=>by simp[mj]at h
 |n+1,cs,hl,row,h=>by
  rw[fN]at hl;simp only[mj,List.mem_cons]at h;rcases h with rfl|h
  ·simp;omega
  ·exact P9 sz n (cs.drop sz) NS row h
def Qa(sz:Nat):∀ (n:Nat) (cs:List AV) (r c:Nat) (v:AV),cellAt (mj sz n cs) r c=some v->cs[r*sz+c]?=some v
 |0,_,r,c,v,h=>by simp[mj,cellAt]at h
 |n+1,cs,0,c,v,h=>by
  simp only[mj,cellAt,List.getElem?_cons_zero,Option.bind_some,uZ]at h;split at h
  ·simpa using h
  ·simp at h
 |n+1,cs,r+1,c,v,h=>by
  have h':cellAt (mj sz n (cs.drop sz)) r c=some v:=by simpa [mj,cellAt] using h
  have:=Qa sz n (cs.drop sz) r c v h';rw[mI]at this;rw[fN];have e:r*sz+1*sz+c=sz+(r*sz+c):=Ix;rw[e];exact this
def JD{os:List Ob}{w:World}{Z:Nat->Prop}{blk:fX}(z:List Value)(n m:Nat)(hm:m=n*z.length)(hz:0<z.length):
  C2 (aw os w Z blk) ((bn n).flatMap λ_=>z.map .lit) ((Array.range m).map (z.toArray[· % z.toArray.size]!)):=by
 subst hm;have hlen:((bn n).flatMap λ_=>z.map AV.lit).length=n*z.length:=by
  induction n with
  |zero=>simp
  |succ n ih=>rw[u5,tN,bF,ih];simp[fN]
 refine⟨by simp[hlen],λj x hx=>?_⟩;have hj:j<n*z.length:=by rw[<- hlen];exact(aR.1 hx).1
 have key:∀ (n j:Nat),j<n*z.length->((bn n).flatMap λ_=>z.map AV.lit)[j]?=some (.lit (z[j%z.length]'(wC _ hz))):=by
  intro n
  induction n with
  |zero=>intro j hj;simp at hj
  |succ n ih =>
   intro j hj;have ov:((bn n).flatMap λ_=>z.map AV.lit).length=n*z.length:=by
    clear ih hj hx hlen
    induction n with
    |zero=>simp
    |succ n ih=>rw[u5,tN,bF,ih];simp[fN]
   rw[u5,tN];by_cases Qk:j<n*z.length
   ·rw[eB (by rw[ov];exact Qk)];exact ih j Qk
   ·rw[gX (by rw[ov];omega),ov];rw[fN]at hj;have a6:j-n*z.length<z.length:=Ix;have sJ:j%z.length=j-n*z.length:=by
     have:j=(j-n*z.length)+n*z.length:=Ix;rw[this,Nat.add_mul_mod_self_right,E1 a6];omega
    simp[a6,sJ]
 rw[key n j hj]at hx;simp at hx;subst hx;have hm:j%z.length<z.length:=wC _ hz;simp[ek,hj,hm];exact .lit _
end Go.Am

