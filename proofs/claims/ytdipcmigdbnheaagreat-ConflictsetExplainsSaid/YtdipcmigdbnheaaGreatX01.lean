import Derived.Test.YtdipcmigdbnheaaGreatX00
set_option linter.all false
set_option maxHeartbeats 0
set_option maxRecDepth 20000
open Option renaming bind_eq_some_iff→yE,map_some→fl,some→dI
open List renaming mem_of_getElem?→iD,getElem?_eq_some_iff→a8,getElem?_append_left→cT,getElem?_append_right→fV,range→aW,append_assoc→cM,mem_of_mem_drop→vT,mem_of_mem_take→sA,getElem?_take→vS,getElem?_drop→qc,eq_nil_of_length_eq_zero→rz,mem_iff_getElem?→Pk,getElem_mem→tw,all_eq_true→fT,getElem?_set→cA,mem_append→cH,size_toArray→Dt,length_map→dX,length_nil→pD,length_append→bQ,length_take→eN,length_drop→xi,getD_eq_getElem?_getD→aA,ext_getElem?→kq,replicate→bH,eq_of_mem_replicate→Dw,getElem?_map→cj,length_cons→eB,mem_map→cz,range_succ→vV,flatMap_append→rA
open Nat renaming mul_le_mul_right→oV,add_mul→gR,eq_zero_or_pos→m9,add_zero→iS,mul_comm→tA,mod_lt→z5,div_add_mod→Pn,zero_add→gn,lt_or_ge→fK,mod_eq_of_lt→GD
open Array renaming getD_eq_getD_getElem?→gm,length_toList→vO
namespace Go.Am
variable {P:Program}
def DU{rows:List (List AV)}{sz r c:Nat}{v:AV}(hr:∀ row∈rows,row.length=sz)(h:cellAt rows r c=some v):r<rows.length/\c<sz:=by
 simp only[cellAt,yE]at h;obtain⟨y,hy,rM⟩:=h;have h1:=hr y (iD hy);have h2:=(a8.1 rM).1;have h3:=(a8.1 hy).1;omega
def RX{p s:List (List AV)}{r c:Nat}:cellAt (p++s) r c=if r<p.length then cellAt p r c else cellAt s (r-p.length) c:=by
 unfold cellAt;split
 ·rw[cT (by assumption)]
 ·rw[fV GC]
def Ap{r c n sz:Nat}(hr:r<n)(hc:c<sz):r*sz+c<n*sz:=by
 have:(r+1)*sz<=n*sz:=oV _ hr;rw[gR]at this;omega
def aeX{R:AV->Value->Prop}{p s:List (List AV)}{sz:Nat}(hp:∀ row∈p,row.length=sz)(hs:∀ row∈s,row.length=sz){go g:Nat->Value}(h1:∀ r c v,cellAt p r c=some v->R v (go (r*sz+c)))(h2:∀ r c v,cellAt s r c=some v->R v (g (r*sz+c)))(rest:List Value)(r c:Nat)(v:AV)(h:cellAt (p++s) r c=some v):
  R v (((((aW (p.length*sz)).map go)++((aW (s.length*sz)).map g))++rest).toArray.getD (r*sz+c) Go.undef):=by
 rw[RX]at h;simp only[gm,List.getElem?_toArray];split at h
 ·obtain⟨hr,hc⟩:=DU hp h;have:=Ap hr hc;rw[cM,cT (by simpa using this)];simp[this];exact h1 r c v h
 ·rename_i nR;obtain⟨hr,hc⟩:=DU hs h;have hl:=Ap hr hc;have e:r*sz+c=p.length*sz+((r-p.length)*sz+c):=by
   have:r=p.length+(r-p.length):=GC
   conv=>lhs;rw[this,gR]
   omega
  rw[cT aar,fV aar];have e2:r*sz+c-(List.map go (aW (p.length*sz))).length=(r-p.length)*sz+c:=aar;rw[e2];simp[hl];exact h2 _ _ _ h
def aeY {σ:St} {γ:Cx} (h:bS σ γ) {x:AV} {cv:Value} (hv:aC σ.aa γ.w γ.Z γ.blk x cv) {sz:Nat} {pre:List (List AV)} {σ1:St} (hs:sM σ sz x=some (pre,σ1)) :
    (bS σ1 γ/\Fr σ.aa γ σ1.aa γ/\∃ k,σ1.aa.length=k) /\
    ((cv=.slice none 0 0/\pre=[]) \/
     (∃ id b x bo cur t,cv=.slice (some ⟨b,x,none⟩) 0 0/\pre=[]/\Live σ.aa id/\σ1 = { σ with aa:=σ.aa.set id .gone }/\γ.blk id=some (b,bo)/\γ.w.heap[b]?=some (.cells cur t (0,0))) \/
     ∃ id off rows b o cap cap' cur t,σ.aa[id]?=some (.arr sz rows)/\σ1 = { σ with aa:=σ.aa.set id .gone }/\γ.blk id=some (b,o,cap)/\γ.w.heap[b]?=some (.cells cur t (0,0)) /\
      cv=.slice (some ⟨b,o+off * sz,none⟩) pre.length cap'/\pre.length<=cap'/\cap'<=maxLen/\o+off * sz+cap' * sz<=cur.size/\(∀ row∈pre,row.length=sz) /\
      ∀ r c v,cellAt pre r c=some v->aC σ.aa γ.w γ.Z γ.blk v (cur.getD (o+off * sz+(r * sz+c)) Go.undef)):=by
  unfold sM at hs
  split at hs
  · simp at hs
    obtain ⟨rfl,rfl⟩:=hs
    exact⟨⟨h,Fr.refl _ _,_,rfl⟩,.inl ⟨hv.dz,rfl⟩⟩
  · rename_i id dK off len
    cases ho:σ.aa[id]? with
    | none=>simp[ho] at hs
    | some ob =>
      have bk:=h.fL id ob ho
      cases ob with
      | gone=>simp[ho] at hs
      | mp ag L=>simp[ho] at hs
      | var cells=>simp[ho] at hs
      | arr mg rows =>
        simp only[ho] at hs
        split at hs
        · rename_i he
          obtain ⟨RY,wa⟩:=he
          subst RY
          subst wa
          simp at hs
          obtain ⟨rfl,rfl⟩:=hs
          refine⟨⟨h.kill id,Fr.kill _ _ _,_,rfl⟩,?_⟩
          obtain ⟨_,cD,bk⟩:=bk
          cases hv with
          | cC _ _ h=>cases h
          | mh _ _ _ _ _ h=>rw[ho] at h;simp at h
          | nN _ _ h hb=>left;exact⟨rfl,GF⟩
          | ow _ _ _ b x bo iI h' hb hl =>
            right;left
            rcases bk with ⟨h1,_⟩ | ⟨b',o',DT,cur,t,h1,h2,_⟩
            · rw[hb] at h1;simp at h1
            · rw[hb] at h1;simp at h1
              obtain ⟨rfl,_⟩:=h1
              exact⟨id,b,x,bo,cur,t,rfl,GF,⟨_,ho,GF⟩,rfl,hb,h2⟩
          | ref _ _ _ _ b o cap cap' iI h' hb hl hc lh =>
            rw[ho] at h';simp at h'
            subst h'
            rcases bk with ⟨h1,_⟩ | ⟨b',o',DT,cur,t,h1,h2,h3,h4,h5,h6⟩
            · rw[hb] at h1;simp at h1
            · rw[hb] at h1;simp at h1
              obtain ⟨rfl,rfl,rfl⟩:=h1
              right;right
              have hlen:((rows.drop off).take len).length=len:=aar
              refine⟨id,off,rows,b,o,cap,cap',cur,t,ho,rfl,hb,h2,by rw[hlen],GC,GC,?_,?_,?_⟩
              · have:(off+cap') * mg<=cap * mg:=oV _ hc
                rw[gR] at this;omega
              · intro row bq
                exact cD row (vT (sA bq))
              · intro r c v bD
                simp only[cellAt,vS,qc] at bD
                split at bD
                · have:=h6 (off+r) c v bD
                  rw[gR] at this
                  have e:o+(off * mg+r * mg+c)=o+off * mg+(r * mg+c):=GC
                  rw[e] at this
                  exact this
                · simp at bD
        · simp at hs
  · simp at hs
def aeZ(w:World)(t ty' e:TypeId)(i:TypeInfo)(ht:P.underlying t=some (.slice e))(hi:P.info? e=some i)(g o AA Lp:Nat)(cur:Array Value)(tt:TypeId)(hg:w.heap[g]?=some (.cells cur tt (0,0)))(xa:Option Addr)(m c:Nat)(news:List Value)(hl:news.length=m*i.size)(y6:0<m->∃ a,xa=some a/\∀ j u,news[j]?=some u->w.cell? (a.add j)=some u)(h1:∀ u∈news,u.oneCell'=true)(B5:AA+m<=Lp)(ey:o+AA*i.size+news.length<=cur.size):
  (Builtin.append_ #[t,t] ty' #[.slice (some ⟨g,o,none⟩) AA Lp,.slice xa m c]).run P w =
   .ok (.slice (some ⟨g,o,none⟩) (AA+m) Lp) (w.setRow g (cur.toList.take (o+AA*i.size)++news++cur.toList.drop (o+AA*i.size+news.length)).toArray):=by
 have hf:(Builtin.firstCells i.size m (.slice xa m c)).run P w=.ok news.toArray w:=by
  rcases m9 m with h0|hp
  ·subst h0;have hn:news=[]:=rz (by simpa using hl);subst hn;cases xa<;>simp[Builtin.firstCells,loadCells,loadCellsFrom]
  ·obtain⟨a,rfl,hc⟩:=y6 hp;exact run_firstCells_some w i.size m a m c news hl hc
 have dP:=run_storeCells_at P g (o+AA*i.size) tt news 0 cur w hg (by simpa using ey) h1;simp only[iS]at dP;simp[Builtin.append_,run_underlying ht,sizeOf,typeInfo,hi,Builtin.lenOf,B5,hf,Addr.tM,dP]
def B6{g:Nat->Value}{n j:Nat}{u:Value}(h:((aW n).map g)[j]?=some u):j<n/\u=g j:=by
 have hj:=(a8.1 h).1;simp at hj;simp[hj]at h;exact⟨hj,h.symm⟩
def aeU{σ σ1:St}{γ:Cx}(h:bS σ γ){t oty:TypeId}{sz:Nat}{z:List Value}(hk:(ty P t).kind=1)(fA:(ty P (ty P t).elem).kind≠99)(hz:(ty P (ty P t).elem).zero=some z)(bx:sz=(ty P (ty P t).elem).size)(h0:0<sz)(mn:z.length=sz){sD x:AV}{tN Ee:Value}(hS:aC σ.aa γ.w γ.Z γ.blk sD tN)(hX:aC σ.aa γ.w γ.Z γ.blk x Ee){pre src:List (List AV)}(hd:sM σ sz sD=some (pre,σ1))(uU:pI σ x=some (sz,src))(hlen:pre.length+src.length<=549755813888)(Eb:(ty P (ty P t).elem).bytes<=128)(oC:(src.all λrow=>row.all cO)=true):
    ∃ qC γ1,(Builtin.append_ #[t,t] oty #[tN,Ee]).run P γ.w=.ok qC γ1.w/\γ1.tmps=γ.tmps/\bS { σ1 with aa:=σ1.aa++[.arr sz (pre++src)] } γ1 /\
      Fr σ.aa γ (σ1.aa++[.arr sz (pre++src)]) γ1/\aC (σ1.aa++[.arr sz (pre++src)]) γ1.w γ1.Z γ1.blk (.ref σ1.aa.length sz 0 (pre.length+src.length)) qC:=by
  obtain⟨i,d,hi,Hp,uZ,Ec,hzero⟩:=u3 fA;have ht:=uY hk;have xI:i.size=sz:=by rw[<- uZ,<- bx]
  obtain⟨zv,Az,kS⟩:∃zv,i.zero=some zv/\zv.cells.size=sz:=by
    rw[hzero]at hz;cases hv:i.zero with
    |none=>simp[hv]at hz
    |some v=>simp[hv]at hz;exact⟨v,rfl,by rw[<- mn,<- hz];simp⟩
  obtain⟨ad,c,g,rfl,nh,mP,B7⟩:=RZ h hX h0 uU;obtain⟨⟨jS,Ef,_⟩,ae1⟩:=aeY h hS hd
  let news:=(aW (src.length*sz)).map g
  have an:news.length=src.length*i.size:=by simp[news,xI]
  have ae2:∀ u∈news,u.oneCell'=true:=by
    intro u hu;obtain⟨j,hj⟩:=Pk.1 hu;obtain⟨lK,rfl⟩:=B6 hj;have h1:j/sz<src.length:=Nat.div_lt_of_lt_mul (by rw[tA];exact lK);have h2:j%sz<sz:=z5 _ h0;have cD:(src[j/sz]).length=sz:=nh _ (tw h1);have:=B7 (j/sz) (j%sz) ((src[j/sz])[j%sz]' GC) (by simp[cellAt,h1,h2,cD]);have e:j/sz*sz+j%sz=j:=by rw[tA];exact Pn j sz
    rw[e]at this;refine Hy this ?_;rw[fT]at oC;have:=oC _ (tw h1);rw[fT]at this;exact this _ (tw _)
  have y6:0<src.length->∃ a,ad=some a/\∀ j u,news[j]?=some u->γ.w.cell? (a.add j)=some u:=by
    intro hp;obtain⟨b,o,rfl,hc⟩:=mP hp;refine⟨_,rfl,λj u hu=>?_⟩;obtain⟨lK,rfl⟩:=B6 hu;rw[Addr.tM];exact hc j lK
  have y7:pre.length+src.length<=maxLen:=by unfold maxLen;omega
  have fY:(pre.length+src.length)*i.bytes<=140737488355328:=by
    rw[<- Ec]
    calc _<=549755813888*128:=Nat.mul_le_mul hlen Eb
      _<=_:=GC
  have fresh:∀ (mL:Nat) (go:Nat->Value),(∀ row∈pre,row.length=sz)->(∀ r c v,cellAt pre r c=some v->aC σ.aa γ.w γ.Z γ.blk v (go (r*sz+c))) ->
      ∀ (w':World) (cap:Nat),pre.length+src.length<=cap->cap<=maxLen ->
        w'=γ.w.drew.alloc (.cells (((aW (pre.length*sz)).map go).toArray++news.toArray++Builtin.zeroCells zv.cells (cap-(pre.length+src.length))) (ty P t).elem) ->
        ∃ γ1:Cx,γ1.w=w'/\γ1.tmps=γ.tmps/\bS { σ1 with aa:=σ1.aa++[.arr sz (pre++src)] } γ1/\Fr σ.aa γ (σ1.aa++[.arr sz (pre++src)]) γ1 /\
          aC (σ1.aa++[.arr sz (pre++src)]) γ1.w γ1.Z γ1.blk (.ref σ1.aa.length sz 0 (pre.length+src.length)) (.slice (some ⟨γ.w.heap.size,0,none⟩) (pre.length+src.length) cap):=by
    intro mL go cu Hz w' cap lN u4 nT;have B8:∀ v cv,aC σ.aa γ.w γ.Z γ.blk v cv->aC σ1.aa γ.w γ.Z γ.blk v cv:=by
      intro v cv hv;refine hv.mono (λb hb=>⟨hb,rfl⟩) (λi o ho=>?_);unfold sM at hd;split at hd
      · simp at hd
        rw[<- hd.2];by_cases bP:o=.gone
        · subst bP;exact .inl ho
        · exact .inr ⟨rfl,o,ho,Ob.lk bP⟩
      · rename_i id dK off len
        have hi:i<σ.aa.length:=(a8.1 ho).1;split at hd
        · split at hd
          · simp at hd
            rw[<- hd.2];show(σ.aa.set id Ob.gone)[i]?=some Ob.gone\/_;simp only[cA];by_cases oB:id=i
            · left;simp[oB,hi]
            · rw[if_neg oB]
              by_cases bP:o=.gone
              · subst bP;exact .inl ho
              · exact .inr ⟨trivial,o,ho,Ob.lk bP⟩
          · simp at hd
        · simp at hd
      · simp at hd
    let cur:=((aW (pre.length*sz)).map go).toArray++news.toArray++Builtin.zeroCells zv.cells (cap-(pre.length+src.length))
    have bk:uV σ1.aa γ.w γ.Z γ.blk 0 cap cur (.arr sz (pre++src)):=by
      refine⟨h0,?_,?_,by simpa using lN,u4,?_⟩
      · intro row bq
        rcases cH.1 bq with h|h
        · exact cu row h
        · exact nh row h
      · simp only[cur,news,Array.size_append,Dt,dX,List.length_range,size_zeroCells,kS,<- gR]
        have:pre.length+src.length+(cap-(pre.length+src.length))=cap:=GC;rw[this];omega
      · intro r c v hv
        have:=aeX (R:=aC σ1.aa γ.w γ.Z γ.blk) cu nh (λr c v hv=>B8 _ _ (Hz r c v hv)) (λr c v hv=>B8 _ _ (B7 r c v hv)) (Builtin.zeroCells zv.cells (cap-(pre.length+src.length))).toList r c v hv;rw[gn];have e:cur=(((aW (pre.length*sz)).map go)++((aW (src.length*sz)).map g)++(Builtin.zeroCells zv.cells (cap-(pre.length+src.length))).toList).toArray:=by
          apply Array.ext';simp[cur,news]
        rw[e];exact this
    refine⟨{ γ with w:=w',blk:=dL γ.blk σ1.aa.length (some (γ.w.heap.size,0,cap)) },rfl,rfl,?_,?_,?_⟩
    · exact jS.push (t:=(ty P t).elem) (cur:=cur) (by rw[nT];rfl) bk
    · exact Ef.trans (Fr.push (σ:=σ1) (t:=(ty P t).elem) (cur:=cur) _ (by rw[nT];rfl) (by rw[nT];rfl) (by rw[nT];rfl) (by rw[nT];rfl))
    · have:=aC.ref (os:=σ1.aa++[.arr sz (pre++src)]) (w:=w') (Z:=γ.Z) (blk:=dL γ.blk σ1.aa.length (some (γ.w.heap.size,0,cap))) σ1.aa.length sz 0 (pre.length+src.length) γ.w.heap.size 0 cap cap (pre++src)
        GF (by simp[dL]) GF GC lN
      simpa using this
  rcases ae1 with⟨rfl,rfl⟩|⟨id,b,x,bo,cur,tt,rfl,rfl,qD,rfl,hb,lr⟩|⟨id,off,rows,b,o,cap,cap',cur,tt,ho,rfl,hb,lr,rfl,u5,fi,ey,cu,Hz⟩
  · rcases m9 src.length with hm|hp
    ·
      have mi:src=[]:=rz hm;subst mi;refine⟨.slice none 0 0,{ γ with blk:=dL γ.blk σ1.aa.length none },?_,rfl,jS.Au h0,Ef.trans (Fr.Au _ _ _),?_⟩
      · cases ad<;>simp[Builtin.append_,run_underlying ht,sizeOf,typeInfo,hi,Builtin.lenOf,Builtin.firstCells,loadCells,loadCellsFrom]
      · exact .nN _ _ GF (by simp[dL])
    · obtain⟨a,rfl,hc⟩:=y6 hp
      have hr:=run_append_nil (P:=P) γ.w t oty _ i zv ht hi Az a src.length c news an hc hp (by unfold maxLen at y7;simp at y7;omega) (by have hb:=fY;simp only[pD,gn]at hb;omega);have nR:=grownCap_ge γ.w src.length 0 (ty P t).elem;have fi:=grownCap_le_maxLen γ.w src.length 0 (ty P t).elem (by simpa using y7);obtain⟨γ1,e1,e2,e3,e4,e5⟩:=fresh 0 (λ_=>Go.undef) GF (by simp[cellAt]) _ (grownCap γ.w src.length 0 (ty P t).elem) (by simpa using nR) fi rfl;simp only[pD,Nat.zero_mul,List.range_zero,List.map_nil,gn,Array.empty_append]at e1 e5;refine⟨.slice (some ⟨γ.w.heap.size,0,none⟩) src.length (grownCap γ.w src.length 0 (ty P t).elem),γ1,?_,e2,e3,e4,?_⟩
      · rw[hr,e1]
      · simpa using e5
  · rcases m9 src.length with hm|hp
    · have mi:src=[]:=rz hm
      subst mi;obtain⟨ob,ho,hg⟩:=qD;have pL:∀ k,k≠b->γ.w.heap[k]?=γ.w.heap[k]?:=λ_ _=>rfl;have B9:=h.Eg (ob':=.arr sz []) (o':=0) (cap':=0) ho hg (o:=bo.1) (cap:=bo.2) hb lr pL rfl ⟨h0,GF,GF,GF,by simp[maxLen],by simp[cellAt]⟩;have dZ:=Fr.Eg (γ:=γ) (o':=0) (cap':=0) (.arr sz []) ho hg (o:=bo.1) (cap:=bo.2) hb (w':=γ.w) pL rfl rfl rfl rfl;refine⟨.slice (some ⟨b,x,none⟩) 0 0,{ γ with w:=γ.w,blk:=dL γ.blk σ.aa.length (some (b,0,0)) },?_,rfl,by simpa using B9,by simpa using dZ,?_⟩
      · cases ad<;>simp[Builtin.append_,run_underlying ht,sizeOf,typeInfo,hi,Builtin.lenOf,Builtin.firstCells,loadCells,loadCellsFrom,storeCells]
      · have:=aC.ow (os:=σ.aa.set id .gone++[.arr sz []]) (w:=γ.w) (Z:=γ.Z) (blk:=dL γ.blk σ.aa.length (some (b,0,0))) σ.aa.length sz 0 b x (0,0) []
          (by rw[fV GF];simp) (by simp[dL]) GF
        simpa using this
    · obtain⟨a,rfl,hc⟩:=y6 hp
      have hr:=run_append_grow (P:=P) γ.w t oty _ i zv ht hi Az ⟨b,x,none⟩ 0 0 [] GF GF a src.length c news an hc GC (by unfold maxLen at y7;simp at y7;omega) (growslice_fits GC (by simpa using fY));have nR:=grownCap_ge γ.w (0+src.length) 0 (ty P t).elem;have fi:=grownCap_le_maxLen γ.w (0+src.length) 0 (ty P t).elem (by simpa using y7);obtain⟨γ1,e1,e2,e3,e4,e5⟩:=fresh 0 (λ_=>Go.undef) GF (by simp[cellAt]) _ (grownCap γ.w (0+src.length) 0 (ty P t).elem) (by simpa using nR) fi rfl;refine⟨.slice (some ⟨γ.w.heap.size,0,none⟩) (0+src.length) (grownCap γ.w (0+src.length) 0 (ty P t).elem),γ1,?_,e2,e3,e4,?_⟩
      · rw[hr,e1];simp
      · simpa using e5
  · by_cases B5:pre.length+src.length<=cap'
    ·
      have hmul:pre.length*sz+src.length*sz<=cap'*sz:=by rw[<- gR];exact oV _ B5
      have HA:news.length=src.length*sz:=by rw[an,xI]
      have hr:=aeZ (P:=P) γ.w t oty _ i ht hi b (o+off*sz) pre.length cap' cur tt lr ad src.length c news an y6 ae2 B5 (by rw[xI,HA];omega);have bk:uV σ.aa γ.w γ.Z γ.blk (o+off*sz) cap' (cur.toList.take (o+off*sz+pre.length*i.size)++news++cur.toList.drop (o+off*sz+pre.length*i.size+news.length)).toArray (.arr sz (pre++src)):=by
        refine⟨h0,?_,?_,by simpa using B5,fi,?_⟩
        · intro row bq
          rcases cH.1 bq with h|h
          · exact cu row h
          · exact nh row h
        · simp only[Dt,bQ,eN,xi,vO,xI,HA]
          omega
        · intro r c v hv
          rw[Eh cur _ news (by rw[xI,HA];omega),xI,HA];rw[RX]at hv;split at hv
          · obtain⟨y8,lN⟩:=DU cu hv
            have:=Ap y8 lN;rw[if_neg GC];exact Hz r c v hv
          · obtain⟨y8,lN⟩:=DU nh hv
            have hl:=Ap y8 lN;have e:r*sz+c=pre.length*sz+((r-pre.length)*sz+c):=by
              have:r=pre.length+(r-pre.length):=GC
              conv=>lhs;rw[this,gR]
              omega
            rw[if_pos GC];have e2:o+off*sz+(r*sz+c)-(o+off*sz+pre.length*sz)=(r-pre.length)*sz+c:=GC;rw[e2];simp only[news,aA];simp[hl];exact B7 _ _ _ hv
      have B9:=h.Eg ho GF hb (setRow_heap γ.w b cur _ tt _ lr) (λk hk=>setRow_other γ.w b k _ hk) (setRow_size _ _ _) bk;have dZ:=Fr.Eg (γ:=γ) (o':=o+off*sz) (cap':=cap') (.arr sz (pre++src)) ho GF hb (w':=γ.w.setRow b (cur.toList.take (o+off*sz+pre.length*i.size)++news++cur.toList.drop (o+off*sz+pre.length*i.size+news.length)).toArray) (λk hk=>setRow_other γ.w b k _ hk) (setRow_size _ _ _) rfl rfl rfl;refine⟨_,{ γ with w:=γ.w.setRow b (cur.toList.take (o+off*sz+pre.length*i.size)++news++cur.toList.drop (o+off*sz+pre.length*i.size+news.length)).toArray,blk:=dL γ.blk σ.aa.length (some (b,o+off*sz,cap')) },hr,rfl,?_,?_,?_⟩
      · simpa using B9
      · simpa using dZ
      · have:=aC.ref (os:=σ.aa.set id .gone++[.arr sz (pre++src)]) (w:=γ.w.setRow b (cur.toList.take (o+off*sz+pre.length*i.size)++news++cur.toList.drop (o+off*sz+pre.length*i.size+news.length)).toArray) (Z:=γ.Z)
          (blk:=dL γ.blk σ.aa.length (some (b,o+off*sz,cap'))) σ.aa.length sz 0 (pre.length+src.length) b (o+off*sz) cap' cap' (pre++src)
          (by rw[fV GF];simp) (by simp[dL]) GF GC B5
        simpa using this
    ·
      let go:Nat->Value:=λj=>cur.getD (o+off*sz+j) Go.undef
      let HB:=(aW (pre.length*sz)).map go
      have fZ:HB.length=pre.length*i.size:=by simp[HB,xI]
      have anv:pre.length*sz<=cap'*sz:=oV _ u5;have holds:∀ j v,HB[j]?=some v->γ.w.cell? ((⟨b,o+off*sz,none⟩:Addr).add j)=some v:=by
        intro j v hj;obtain⟨lK,rfl⟩:=B6 hj;rw[Addr.tM];exact BZ lr GC
      have hp:0<src.length:=GC;obtain⟨a,rfl,hc⟩:=y6 hp;have hr:=run_append_grow (P:=P) γ.w t oty _ i zv ht hi Az ⟨b,o+off*sz,none⟩ pre.length cap' HB fZ holds a src.length c news an hc GC (by unfold maxLen at y7;omega) (growslice_fits GC fY);have nR:=grownCap_ge γ.w (pre.length+src.length) cap' (ty P t).elem;have ae3:=grownCap_le_maxLen γ.w (pre.length+src.length) cap' (ty P t).elem y7;obtain⟨γ1,e1,e2,e3,e4,e5⟩:=fresh 0 go cu Hz _ (grownCap γ.w (pre.length+src.length) cap' (ty P t).elem) nR ae3 rfl;refine⟨_,γ1,?_,e2,e3,e4,e5⟩;rw[hr,e1]
def aeV{σ:St}{γ:Cx}(h:bS σ γ){t t' oty:TypeId}{sz:Nat}(hk:(ty P t).kind=1)(fA:(ty P (ty P t).elem).kind≠99)(bx:sz=(ty P (ty P t).elem).size)(h0:0<sz){id off len:Nat}{x:AV}{tN Ee:Value}(hS:aC σ.aa γ.w γ.Z γ.blk (.ref id sz off len) tN)(hX:aC σ.aa γ.w γ.Z γ.blk x Ee){rows:List (List AV)}(ho:σ.aa[id]?=some (.arr sz rows)){src:List (List AV)}(uU:pI σ x=some (sz,src))(oC:(src.all λrow=>row.all cO)=true):
  ∃ w',(Builtin.copy_ #[t,t'] oty #[tN,Ee]).run P γ.w=.ok (.int .i64 (min src.length len:Nat)) w' /\
   bS { σ with aa:=σ.aa.set id (.arr sz (rows.take off++src.take (min src.length len)++rows.drop (off+min src.length len))) } { γ with w:=w' } /\
   Fr σ.aa γ (σ.aa.set id (.arr sz (rows.take off++src.take (min src.length len)++rows.drop (off+min src.length len)))) { γ with w:=w' }:=by
 obtain⟨i,d,hi,Hp,uZ,Ec,hzero⟩:=u3 fA;have ht:=uY hk;have xI:i.size=sz:=by rw[<- uZ,<- bx]
 obtain⟨ad,c,g,rfl,nh,mP,B7⟩:=RZ h hX h0 uU;have dt:id<σ.aa.length:=(a8.1 ho).1;have zero:∀ (AB:Option Addr) (cap':Nat),min src.length len=0->tN=.slice AB len cap'->∃ w',(Builtin.copy_ #[t,t'] oty #[tN,.slice ad src.length c]).run P γ.w=.ok (.int .i64 (min src.length len:Nat)) w' /\
   bS { σ with aa:=σ.aa.set id (.arr sz (rows.take off++src.take (min src.length len)++rows.drop (off+min src.length len))) } { γ with w:=w' } /\
   Fr σ.aa γ (σ.aa.set id (.arr sz (rows.take off++src.take (min src.length len)++rows.drop (off+min src.length len)))) { γ with w:=w' }:=by
  intro AB cap' hz bD;have iy:σ.aa.set id (.arr sz rows)=σ.aa:=by
   apply kq;intro j;rw[cA];split
   ·rename_i e;subst e;simp[ho]
   ·rfl
  refine⟨γ.w,?_,?_,?_⟩
  ·have hm:Nat.min src.length len=0:=hz;subst bD;cases ad<;>cases AB<;>simp[Builtin.copy_,run_underlying ht,sizeOf,typeInfo,hi,Builtin.lenOf,Builtin.firstCells,loadCells,loadCellsFrom,storeCells,hm,goInt,hz]
  ·rw[hz];simp[iy];exact h
  ·rw[hz];simp[iy];exact Fr.refl _ _
 cases hS with
 |cC _ _ h=>cases h
 |mh _ _ _ _ _ h=>rw[ho]at h;simp at h
 |nN _ _ h hb=>exact zero none 0 GF rfl
 |ow _ _ _ b x bo iI h hb hl=>exact zero _ 0 GF rfl
 |ref _ _ _ _ b o cap cap' iI h' hb hl hc lh =>
  rw[ho]at h';simp at h';subst h';rcases m9 (min src.length len) with hz|hp
  ·exact zero _ _ hz rfl
  obtain⟨_,cD,bk⟩:=h.fL id _ ho;rcases bk with⟨h1,_⟩|⟨b',o',DT,cur,tt,h1,h2,h3,h4,h5,h6⟩
  ·rw[hb]at h1;simp at h1
  rw[hb]at h1;simp at h1;obtain⟨rfl,rfl,rfl⟩:=h1;generalize hn:min src.length len=n at *;have gp:n<=src.length:=GC;have qA:n<=len:=GC
  let news:=(aW (n*sz)).map g
  have an:news.length=n*sz:=by simp[news]
  have jV:∀ u∈news,u.oneCell'=true:=by
   intro u hu;obtain⟨j,hj⟩:=Pk.1 hu;obtain⟨lK,rfl⟩:=B6 hj;have k1:j/sz<n:=Nat.div_lt_of_lt_mul (by rw[tA];exact lK);have k2:j%sz<sz:=z5 _ h0;have k3:j/sz<src.length:=GC;have cD:(src[j/sz]).length=sz:=nh _ (tw k3);have:=B7 (j/sz) (j%sz) ((src[j/sz])[j%sz]' GC) (by simp[cellAt,k3,k2,cD]);have e:j/sz*sz+j%sz=j:=by rw[tA];exact Pn j sz
   rw[e]at this;refine Hy this ?_;rw[fT]at oC;have:=oC _ (tw k3);rw[fT]at this;exact this _ (tw _)
  obtain⟨sb,so,rfl,qm⟩:=mP GC;have hle:n*sz<=src.length*sz:=oV _ gp;have xJ:=run_loadCells_list (P:=P) γ.w ⟨sb,so,none⟩ news (λj v hj=>by
   obtain⟨lK,rfl⟩:=B6 hj;rw[Addr.tM];exact qm j GC)
  have ey:(off+n)*sz<=cap*sz:=oV _ GC;rw[gR]at ey;have dP:=run_storeCells_at P b (o+off*sz) tt news 0 cur γ.w h2 (by rw[an];omega) jV;simp only[iS]at dP;have fN:(Builtin.copy_ #[t,t'] oty #[.slice (some ⟨b,o+off*sz,none⟩) len cap',.slice (some ⟨sb,so,none⟩) src.length c]).run P γ.w=.ok (.int .i64 (n:Nat)) (γ.w.setRow b (cur.toList.take (o+off*sz)++news++cur.toList.drop (o+off*sz+news.length)).toArray):=by
   have hm:Nat.min src.length len=n:=hn;rw[an]at xJ;simp[Builtin.copy_,run_underlying ht,sizeOf,typeInfo,hi,Builtin.lenOf,Builtin.firstCells,hm,xI,xJ,dP,goInt]
  have Lr:uV σ.aa γ.w γ.Z γ.blk o cap (cur.toList.take (o+off*sz)++news++cur.toList.drop (o+off*sz+news.length)).toArray (.arr sz (rows.take off++src.take n++rows.drop (off+n))):=by
   refine⟨h0,?_,?_,?_,h5,?_⟩
   ·intro row bq;simp only[cH]at bq;rcases bq with(hr|hr)|hr
    ·exact cD row (sA hr)
    ·exact nh row (sA hr)
    ·exact cD row (vT hr)
   ·simp only[Dt,bQ,eN,xi,vO,an];omega
   ·simp;omega
   ·intro r cc v hv;rw[Eh cur _ news (by rw[an];omega),an];have br:cc<sz:=by
     simp only[cellAt,yE]at hv;obtain⟨y,hy,rM⟩:=hv;have hm:=iD hy;have:=(a8.1 rM).1;simp only[cH]at hm;rcases hm with(hr|hr)|hr
     ·have:=cD y (sA hr);omega
     ·have:=nh y (sA hr);omega
     ·have:=cD y (vT hr);omega
    rcases fK r off with k1|k1
    ·have e:cellAt (rows.take off++src.take n++rows.drop (off+n)) r cc=cellAt rows r cc:=by
      simp only[cellAt,cM];rw[cT aar,vS,if_pos k1]
     rw[e]at hv;have hm:(r+1)*sz<=off*sz:=oV _ GC;rw[gR]at hm;rw[if_neg GC];exact h6 r cc v hv
    ·rcases fK r (off+n) with k2|k2
     ·have e:cellAt (rows.take off++src.take n++rows.drop (off+n)) r cc=cellAt src (r-off) cc:=by
       simp only[cellAt,cM];rw[fV aar,cT aar,vS,if_pos aar];congr 2;simp;omega
      rw[e]at hv;have e1:r=off+(r-off):=GC;have e2:r*sz=off*sz+(r-off)*sz:=by rw[<- gR,<- e1]
      have hm:(r-off+1)*sz<=n*sz:=oV _ GC;rw[gR]at hm;rw[if_pos GC];have e3:o+(r*sz+cc)-(o+off*sz)=(r-off)*sz+cc:=GC;rw[e3];have hl:(r-off)*sz+cc<n*sz:=GC;simp only[news,aA];simp[hl];exact B7 _ _ _ hv
     ·have e:cellAt (rows.take off++src.take n++rows.drop (off+n)) r cc=cellAt rows r cc:=by
       simp only[cellAt];rw[fV aar,qc];congr 2;simp;omega
      rw[e]at hv;have hm:(off+n)*sz<=r*sz:=oV _ k2;rw[gR]at hm;rw[if_neg GC];exact h6 r cc v hv
  refine⟨_,fN,?_,?_⟩
  ·exact h.write ho GF (by simp[Ob.fB];omega) hb (setRow_heap γ.w b cur _ tt _ h2) (λk hk=>setRow_other γ.w b k _ hk) (setRow_size _ _ _) Lr
  ·exact Fr.write _ ho GF (by simp[Ob.fB];omega) hb (λk hk=>setRow_other γ.w b k _ hk) (setRow_size _ _ _) rfl rfl rfl
def aeW{σ:St}{γ:Cx}(h:bS σ γ){t oty:TypeId}{sz:Nat}{z:List Value}(hk:(ty P t).kind=1)(fA:(ty P (ty P t).elem).kind≠99)(mn:z.length=sz)(h0:0<sz)(hz:(ty P (ty P t).elem).zero=some z)(Hx:(z.all λu=>u.oneCell')=true){id off len:Nat}{tN:Value}(hS:aC σ.aa γ.w γ.Z γ.blk (.ref id sz off len) tN){rows:List (List AV)}(ho:σ.aa[id]?=some (.arr sz rows)):
  ∃ w',(Builtin.clear_ #[t] oty #[tN]).run P γ.w=.ok (.tuple #[]) w' /\
   bS { σ with aa:=σ.aa.set id (.arr sz (rows.take off++bH len (z.map AV.lit)++rows.drop (off+len))) } { γ with w:=w' } /\
   Fr σ.aa γ (σ.aa.set id (.arr sz (rows.take off++bH len (z.map AV.lit)++rows.drop (off+len)))) { γ with w:=w' }:=by
 obtain⟨i,d,hi,Hp,uZ,Ec,hzero⟩:=u3 fA;have ht:=uY hk;rw[hz]at hzero;obtain⟨zv,Az,kS⟩:=Option.map_eq_some_iff.1 hzero.symm;have Ls:zv.cells.size=sz:=by rw[<- mn,<- kS];simp
 have dt:id<σ.aa.length:=(a8.1 ho).1;have zero:∀ (AB:Option Addr) (cap':Nat),len=0->tN=.slice AB len cap'->∃ w',(Builtin.clear_ #[t] oty #[tN]).run P γ.w=.ok (.tuple #[]) w' /\
   bS { σ with aa:=σ.aa.set id (.arr sz (rows.take off++bH len (z.map AV.lit)++rows.drop (off+len))) } { γ with w:=w' } /\
   Fr σ.aa γ (σ.aa.set id (.arr sz (rows.take off++bH len (z.map AV.lit)++rows.drop (off+len)))) { γ with w:=w' }:=by
  intro AB cap' wc bD;have iy:σ.aa.set id (.arr sz rows)=σ.aa:=by
   apply kq;intro j;rw[cA];split
   ·rename_i e;subst e;simp[ho]
   ·rfl
  refine⟨γ.w,?_,?_,?_⟩
  ·subst bD;subst wc;cases AB<;>simp[Builtin.clear_,run_underlying ht]
  ·subst wc;simp[iy];exact h
  ·subst wc;simp[iy];exact Fr.refl _ _
 cases hS with
 |cC _ _ h=>cases h
 |mh _ _ _ _ _ h=>rw[ho]at h;simp at h
 |nN _ _ h hb=>exact zero none 0 rfl rfl
 |ow _ _ _ b x bo iI h hb hl=>exact zero _ 0 rfl rfl
 |ref _ _ _ _ b o cap cap' iI h' hb hl hc lh =>
  rw[ho]at h';simp at h';subst h';rcases m9 len with wc|hp
  ·exact zero _ _ wc rfl
  obtain⟨_,cD,bk⟩:=h.fL id _ ho;rcases bk with⟨h1,_⟩|⟨b',o',DT,cur,tt,h1,h2,h3,h4,h5,h6⟩
  ·rw[hb]at h1;simp at h1
  rw[hb]at h1;simp at h1;obtain⟨rfl,rfl,rfl⟩:=h1
  let g:Nat->Value:=λi=>zv.cells[i%zv.cells.size]!
  let news:=(aW (len*sz)).map g
  have y6:(Builtin.zeroCells zv.cells len).toList=news:=by
   simp[Builtin.zeroCells,news,g,Ls]
  have an:news.length=len*sz:=by simp[news]
  have R0:∀ i,i<sz->∃ u,z[i]?=some u/\zv.cells[i]! = u:=by
   intro i hi';have:i<zv.cells.size:=GC;refine⟨zv.cells[i],?_,?_⟩
   ·rw[<- kS];simp[this]
   ·simp[this]
  have jV:∀ u∈news,u.oneCell'=true:=by
   intro u hu;obtain⟨j,hj⟩:=Pk.1 hu;obtain⟨lK,rfl⟩:=B6 hj;obtain⟨u,k1,k2⟩:=R0 (j%sz) (z5 _ h0);show(zv.cells[j%zv.cells.size]!).oneCell'=true;rw[Ls,k2];rw[fT]at Hx;exact Hx _ (iD k1)
  have ey:(off+len)*sz<=cap*sz:=oV _ GC;rw[gR]at ey;have dP:=run_storeCells_at P b (o+off*sz) tt news 0 cur γ.w h2 (by rw[an];omega) jV;simp only[iS]at dP;have fN:(Builtin.clear_ #[t] oty #[.slice (some ⟨b,o+off*sz,none⟩) len cap']).run P γ.w=.ok (.tuple #[]) (γ.w.setRow b (cur.toList.take (o+off*sz)++news++cur.toList.drop (o+off*sz+news.length)).toArray):=by
   obtain⟨anw,rfl⟩:∃k,len=k+1:=⟨len-1,GC⟩;simp[Builtin.clear_,run_underlying ht,zeroValue,typeInfo,hi,Az,y6,dP]
  have Lr:uV σ.aa γ.w γ.Z γ.blk o cap (cur.toList.take (o+off*sz)++news++cur.toList.drop (o+off*sz+news.length)).toArray (.arr sz (rows.take off++bH len (z.map AV.lit)++rows.drop (off+len))):=by
   refine⟨h0,?_,?_,?_,h5,?_⟩
   ·intro row bq;simp only[cH]at bq;rcases bq with(hr|hr)|hr
    ·exact cD row (sA hr)
    ·rw[Dw hr,dX];exact mn
    ·exact cD row (vT hr)
   ·simp only[Dt,bQ,eN,xi,vO,an];omega
   ·simp;omega
   ·intro r cc v hv;rw[Eh cur _ news (by rw[an];omega),an];have br:cc<sz:=by
     simp only[cellAt,yE]at hv;obtain⟨y,hy,rM⟩:=hv;have hm:=iD hy;have:=(a8.1 rM).1;simp only[cH]at hm;rcases hm with(hr|hr)|hr
     ·have:=cD y (sA hr);omega
     ·have HC:=Dw hr;rw[HC,dX]at this;omega
     ·have:=cD y (vT hr);omega
    rcases fK r off with k1|k1
    ·have e:cellAt (rows.take off++bH len (z.map AV.lit)++rows.drop (off+len)) r cc=cellAt rows r cc:=by
      simp only[cellAt,cM];rw[cT aar,vS,if_pos k1]
     rw[e]at hv;have hm:(r+1)*sz<=off*sz:=oV _ GC;rw[gR]at hm;rw[if_neg GC];exact h6 r cc v hv
    ·rcases fK r (off+len) with k2|k2
     ·have e:cellAt (rows.take off++bH len (z.map AV.lit)++rows.drop (off+len)) r cc=(z.map AV.lit)[cc]?:=by
       simp only[cellAt,cM];rw[fV aar,cT aar,List.getElem?_replicate,if_pos aar];rfl
      rw[e,cj]at hv;obtain⟨u,k3,k4⟩:=R0 cc br;rw[k3]at hv;simp only[fl,dI.injEq]at hv;subst hv;have e1:r=off+(r-off):=GC;have e2:r*sz=off*sz+(r-off)*sz:=by rw[<- gR,<- e1]
      have hm:(r-off+1)*sz<=len*sz:=oV _ GC;rw[gR]at hm;rw[if_pos GC];have e3:o+(r*sz+cc)-(o+off*sz)=(r-off)*sz+cc:=GC;rw[e3];have hl:(r-off)*sz+cc<len*sz:=GC;have e4:news.getD ((r-off)*sz+cc) Go.undef=u:=by
       simp only[news,aA];rw[cj,List.getElem?_range hl];show zv.cells[((r-off)*sz+cc)%zv.cells.size]! = u;rw[Ls,tA,Nat.mul_add_mod,GD br,k4]
      first
       | (rw[e4];exact .lit _)
       | (simp only[aA]at e4 ⊢;rw[e4];exact .lit _)
     ·have e:cellAt (rows.take off++bH len (z.map AV.lit)++rows.drop (off+len)) r cc=cellAt rows r cc:=by
       simp only[cellAt];rw[fV aar,qc];congr 2;simp;omega
      rw[e]at hv;have hm:(off+len)*sz<=r*sz:=oV _ k2;rw[gR]at hm;rw[if_neg GC];exact h6 r cc v hv
  refine⟨_,fN,?_,?_⟩
  ·exact h.write ho GF (by simp[Ob.fB];omega) hb (setRow_heap γ.w b cur _ tt _ h2) (λk hk=>setRow_other γ.w b k _ hk) (setRow_size _ _ _) Lr
  ·exact Fr.write _ ho GF (by simp[Ob.fB];omega) hb (λk hk=>setRow_other γ.w b k _ hk) (setRow_size _ _ _) rfl rfl rfl
end Go.Am
namespace Go.Am
variable {P:Program}
def ae4(l:List Value):∀ (j off:Nat) (cells:Array Value),off+j+l.length<=cells.size ->
  ((l.zipIdx j).foldl (λcs (x:Value×Nat)=>cs.setIfInBounds (off+x.2) x.1) cells).size=cells.size /\
  ∀ k,((l.zipIdx j).foldl (λcs (x:Value×Nat)=>cs.setIfInBounds (off+x.2) x.1) cells).getD k Go.undef=if off+j<=k/\k<off+j+l.length then l.getD (k-(off+j)) Go.undef else cells.getD k Go.undef:=by
 induction l with
 |nil=>intro j off cells _;simp;intro k h1 h2;omega
 |cons v l ih =>
  intro j off cells hl;simp only[eB]at hl;simp only[List.zipIdx_cons,List.foldl_cons];obtain⟨h1,h2⟩:=ih (j+1) off (cells.setIfInBounds (off+j) v) aar;refine⟨by rw[h1];simp,λk=>?_⟩;rw[h2 k];simp only[eB];by_cases c1:off+(j+1)<=k/\k<off+(j+1)+l.length
  ·rw[if_pos c1,if_pos GC];have:k-(off+j)=(k-(off+(j+1)))+1:=GC;rw[this];simp
  ·rw[if_neg c1];by_cases c2:k=off+j
   ·subst c2;rw[if_pos GC];simp[gm,show off+j<cells.size by omega]
   ·rw[if_neg GC];simp[gm,Array.getElem?_setIfInBounds_ne (Ne.symm c2)]
def ae5(v:Value)(off:Nat)(cells:Array Value):
  (v.cells.zipIdx.foldl (λcs (c,j)=>cs.setIfInBounds (off+j) c) cells)=((v.cells.toList.zipIdx 0).foldl (λcs (x:Value×Nat)=>cs.setIfInBounds (off+x.2) x.1) cells):=by
 rw[<- Array.foldl_toList];simp
def Ei(R:AV->Value->Prop)(cs:List AV)(cur:Array Value):Prop:=cur.size=cs.length/\∀ j x,cs[j]?=some x->R x (cur.getD j Go.undef)
def Hs{σ:St}{γ:Cx}{place:Nat->Option (Nat×Nat)}:∀ (parts:List (Nat×AV)) (pv:List (Nat×Value)) (cs:List AV) (cur:Array Value) (sO:List AV),
  parts.length=pv.length->(∀ (j:Nat) (p:Nat×AV) (q:Nat×Value),parts[j]?=some p->pv[j]?=some q->p.1=q.1/\aC σ.aa γ.w γ.Z γ.blk p.2 q.2)->(∀ p∈parts,(cellsOf p.2).all cO=true) ->
  Ei (aC σ.aa γ.w γ.Z γ.blk) cs cur->nK place cs parts=some sO->∃ qE,Instr.fill place cur pv=some qE/\Ei (aC σ.aa γ.w γ.Z γ.blk) sO qE
 |[],pv,cs,cur,sO,hl,_,_,hc,h=>by
  have:pv=[]:=rz hl.symm;subst this;simp[nK]at h;subst h;exact⟨cur,by simp[Instr.fill],hc⟩
 | (i,v)::rest,[],cs,cur,sO,hl,_,_,_,_=>by simp at hl
 | (i,v)::rest,(i',x)::pv,cs,cur,sO,hl,hr,hs,hc,h=>by
  obtain⟨e1,e2⟩:=hr 0 (i,v) (i',x) rfl rfl;simp only at e1 e2;subst e1;simp only[nK]at h;cases hp:place i with
  |none=>simp[hp]at h
  |some os =>
   obtain⟨off,size⟩:=os;simp only[hp]at h;split at h
   ·rename_i ae6;obtain⟨h1,h2⟩:=ae6;obtain⟨g1,g2,g3⟩:=Lb e2 (hs (i,v) GF);have bx:x.cells.size=size:=by rw[g1,h1]
    obtain⟨iu,nU⟩:=hc;have ey:off+0+x.cells.toList.length<=cur.size:=by simp[bx,iu];omega
    obtain⟨f1,f2⟩:=ae4 x.cells.toList 0 off cur ey;have ae7:Ei (aC σ.aa γ.w γ.Z γ.blk) (setCells cs off (cellsOf v)) (x.cells.zipIdx.foldl (λcs (c,j)=>cs.setIfInBounds (off+j) c) cur):=by
     rw[ae5];refine⟨by rw[f1,Li];exact iu,λj y hj=>?_⟩;rw[R3 _ _ _ (by rw[h1];exact h2)]at hj;rw[f2 j];simp only[iS,vO,bx];rw[h1]at hj;by_cases ez:off<=j/\j<off+size
     ·rw[if_pos ez]at hj;rw[if_pos ez];have:=g2 _ _ hj;simpa [aA,gm] using this
     ·rw[if_neg ez]at hj;rw[if_neg ez];exact nU j y hj
    obtain⟨qE,k1,k2⟩:=Hs rest pv _ _ sO (by simpa using hl) (λj p q hp hq=>hr (j+1) p q (by simpa using hp) (by simpa using hq)) (λp hp=>hs p (by simp[hp])) ae7 h;refine⟨qE,?_,k2⟩;simp only[Instr.fill,hp];rw[if_neg ?_]
    ·exact k1
    ·simp[bx,iu];omega
   ·simp at h
def La{os:List Ob}{w:World}{Z:Nat->Prop}{blk:iG}(z:List Value):Ei (aC os w Z blk) (z.map .lit) z.toArray:=by
 refine⟨GF,λj x hx=>?_⟩;simp only[cj]at hx;cases hj:z[j]? with
 |none=>simp[hj]at hx
 |some y =>
  simp[hj]at hx;subst hx;simp[gm,hj];exact .lit y
def Lf{σ:St}{γ:Cx}(h:bS σ γ){a:Act}(ha:γ.tmps=a.tmps)(parts:Array (Nat×Operand)):
  (parts.toList.map λp=>(p.1,ev σ p.2)).length=(parts.map λ(i,x)=>(i,a.eval x)).toList.length /\
  ∀ (j:Nat) (p:Nat×AV) (q:Nat×Value),(parts.toList.map λp=>(p.1,ev σ p.2))[j]?=some p->(parts.map λ(i,x)=>(i,a.eval x)).toList[j]?=some q->p.1=q.1/\aC σ.aa γ.w γ.Z γ.blk p.2 q.2:=by
 refine⟨GF,λj p q hp hq=>?_⟩;simp only[Array.toList_map,cj]at hp hq;cases hj:parts.toList[j]? with
 |none=>simp[hj]at hp
 |some y =>
  simp only[hj,fl,dI.injEq]at hp hq;subst hp;subst hq;exact⟨rfl,uS h ha y.2⟩
def aeI{σ:St}{γ:Cx}(h:bS σ γ){a:Act}(ha:γ.tmps=a.tmps){t:TypeId}{parts:Array (Nat×Operand)}{z:List Value}(hk:(ty P t).kind=3)(hz:(ty P t).zero=some z){cs:List AV}(hf:nK (λi=>((ty P t).aY[i]?).map λf=>(f.1,f.2.2)) (z.map .lit) (parts.toList.map λp=>(p.1,ev σ p.2))=some cs)(hs:(parts.toList.all λp=>(cellsOf (ev σ p.2)).all cO)=true)(hp:((ty P t).aY.all λf=>decide (0<f.2.2))=true):
  ∃ cur,(Instr.build t (parts.map λ(i,x)=>(i,a.eval x))).run P γ.w=.ok (.agg cur) γ.w/\aC σ.aa γ.w γ.Z γ.blk (.agg cs) (.agg cur):=by
 obtain⟨it,d,hi,hd,_,_,hzero⟩:=u3 (P:=P) (t:=t) (by rw[hk];simp);obtain⟨fs,hu,fC⟩:=Ln hk;rw[hzero]at hz;cases hv:it.zero with
 |none=>simp[hv]at hz
 |some zv =>
  simp[hv]at hz;have kS:z.toArray=zv.cells:=by rw[<- hz]
  obtain⟨hl,hr⟩:=Lf h ha parts;obtain⟨cur,h1,h2⟩:=Hs (σ:=σ) (γ:=γ) _ _ _ _ cs hl hr (λp hp=>by
   simp only[cz]at hp;obtain⟨q,hq,rfl⟩:=hp;rw[fT]at hs;exact hs q hq) (La z) hf
  refine⟨cur,run_build γ.w t _ cur ?_,.agg _ _ h2.1 h2.2⟩;unfold Program.built;rw[hi,hu];simp only[hv];have ae8:∀ (l:List Field),(∀ f∈l,0<xH P f.type)->l.mapM (λf=>(P.info? f.type).map λi=>(f.offset,i.size))=some (l.map λf=>(f.offset,xH P f.type)):=by
   intro l
   induction l with
   |nil=>intro _;simp
   |cons f l ih =>
    intro hl;have h0:=hl f GF;unfold xH at h0;cases Lt:P.info? f.type with
    |none=>simp[Lt]at h0
    |some i =>
     simp only[List.mapM_cons,Lt,fl,ih (λg hg=>hl g (by simp[hg]))];simp[xH,Lt]
  rw[ae8 fs.toList (by
   intro f gX;rw[fC]at hp;simp only[List.all_map,fT]at hp;have:=hp f gX;simpa using this)]
  simp only;rw[<- kS];have:(λ(x:Nat)=>((fs.toList.map λf=>(f.offset,xH P f.type)).toArray[x]?))=(λ(i:Nat)=>((ty P t).aY[i]?).map λ(f:Nat×Nat×Nat)=>(f.1,f.2.2)):=by
   funext i;rw[fC];simp;cases fs[i]?<;>simp
  rw[this];exact h1
def aeJ{σ:St}{γ:Cx}(h:bS σ γ){a:Act}(ha:γ.tmps=a.tmps){t:TypeId}{parts:Array (Nat×Operand)}{z:List Value}(hk:(ty P t).kind=2)(hz:(ty P t).zero=some z){cs:List AV}(hf:nK (λi=>some (i*(ty P (ty P t).elem).size,(ty P (ty P t).elem).size)) (z.map .lit) (parts.toList.map λp=>(p.1,ev σ p.2))=some cs)(hs:(parts.toList.all λp=>(cellsOf (ev σ p.2)).all cO)=true)(fA:(ty P (ty P t).elem).kind≠99):
  ∃ cur,(Instr.build t (parts.map λ(i,x)=>(i,a.eval x))).run P γ.w=.ok (.agg cur) γ.w/\aC σ.aa γ.w γ.Z γ.blk (.agg cs) (.agg cur):=by
 obtain⟨it,d,hi,hd,_,_,hzero⟩:=u3 (P:=P) (t:=t) (by rw[hk];simp);have hu:=RW hk;obtain⟨ie,de,hie,_,uZ,_,_⟩:=u3 fA;rw[hzero]at hz;cases hv:it.zero with
 |none=>simp[hv]at hz
 |some zv =>
  simp[hv]at hz;have kS:z.toArray=zv.cells:=by rw[<- hz]
  obtain⟨hl,hr⟩:=Lf h ha parts;obtain⟨cur,h1,h2⟩:=Hs (σ:=σ) (γ:=γ) _ _ _ _ cs hl hr (λp hp=>by
   simp only[cz]at hp;obtain⟨q,hq,rfl⟩:=hp;rw[fT]at hs;exact hs q hq) (La z) hf
  refine⟨cur,run_build γ.w t _ cur ?_,.agg _ _ h2.1 h2.2⟩;unfold Program.built;rw[hi,hu];simp only[hv,hie];rw[<- kS,<- uZ];exact h1
def Lj(sz:Nat):∀ (n:Nat) (cs:List AV),(nL sz n cs).length=n
 |0,_=>rfl
 |n+1,cs=>by simp[nL,Lj sz n]
def RU(sz:Nat):∀ (n:Nat) (cs:List AV),n*sz<=cs.length->∀ row∈nL sz n cs,row.length=sz
 |0,_,_,row,h=>by simp[nL]at h
 |n+1,cs,hl,row,h=>by
  rw[gR]at hl;simp only[nL,List.mem_cons]at h;rcases h with rfl|h
  ·simp;omega
  ·exact RU sz n (cs.drop sz) aar row h
def RV(sz:Nat):∀ (n:Nat) (cs:List AV) (r c:Nat) (v:AV),cellAt (nL sz n cs) r c=some v->cs[r*sz+c]?=some v
 |0,_,r,c,v,h=>by simp[nL,cellAt]at h
 |n+1,cs,0,c,v,h=>by
  simp only[nL,cellAt,List.getElem?_cons_zero,Option.bind_some,vS]at h;split at h
  ·simpa using h
  ·simp at h
 |n+1,cs,r+1,c,v,h=>by
  have h':cellAt (nL sz n (cs.drop sz)) r c=some v:=by simpa [nL,cellAt] using h
  have:=RV sz n (cs.drop sz) r c v h';rw[qc]at this;rw[gR];have e:r*sz+1*sz+c=sz+(r*sz+c):=GC;rw[e];exact this
def Lh{os:List Ob}{w:World}{Z:Nat->Prop}{blk:iG}(z:List Value)(n m:Nat)(hm:m=n*z.length)(hz:0<z.length):
  Ei (aC os w Z blk) ((aW n).flatMap λ_=>z.map .lit) ((Array.range m).map (z.toArray[· % z.toArray.size]!)):=by
 subst hm;have hlen:((aW n).flatMap λ_=>z.map AV.lit).length=n*z.length:=by
  induction n with
  |zero=>simp
  |succ n ih=>rw[vV,rA,bQ,ih];simp[gR]
 refine⟨by simp[hlen],λj x hx=>?_⟩;have hj:j<n*z.length:=by rw[<- hlen];exact(a8.1 hx).1
 have key:∀ (n j:Nat),j<n*z.length->((aW n).flatMap λ_=>z.map AV.lit)[j]?=some (.lit (z[j%z.length]'(z5 _ hz))):=by
  intro n
  induction n with
  |zero=>intro j hj;simp at hj
  |succ n ih =>
   intro j hj;have rN:((aW n).flatMap λ_=>z.map AV.lit).length=n*z.length:=by
    clear ih hj hx hlen
    induction n with
    |zero=>simp
    |succ n ih=>rw[vV,rA,bQ,ih];simp[gR]
   rw[vV,rA];by_cases R4:j<n*z.length
   ·rw[cT (by rw[rN];exact R4)];exact ih j R4
   ·rw[fV (by rw[rN];omega),rN];rw[gR]at hj;have br:j-n*z.length<z.length:=GC;have y9:j%z.length=j-n*z.length:=by
     have:j=(j-n*z.length)+n*z.length:=GC;rw[this,Nat.add_mul_mod_self_right,GD br];omega
    simp[br,y9]
 rw[key n j hj]at hx;simp at hx;subst hx;have hm:j%z.length<z.length:=z5 _ hz;simp[gm,hj,hm];exact .lit _
end Go.Am

