import Derived.Test.YtdipcmigdbnheaaGreatX20
import Derived.Test.YtdipcmigdbnheaaGreatX13
import Derived.Test.YtdipcmigdbnheaaGreatX19
set_option linter.unusedVariables false
set_option linter.unusedSimpArgs false
set_option linter.unnecessarySimpa false
set_option linter.unusedSectionVars false
set_option maxHeartbeats 64000000
set_option maxRecDepth 20000
open Nat renaming zero_le→aH,min_eq_left→rS,zero_add→eK
open List renaming take_zero→lW,length_take→eX,getD_eq_getElem?_getD→ay,getElem?_eq_getElem→bm,take_of_length_le→dN,getElem?_map→bR
open Go Go.Am Go.Proofs
open Nat (reduceEqDiff reduceAdd reduceLeDiff reduceMul)
open Int (reduceNeg reduceLE reduceToNat)
namespace T
theorem aeA (m:ae) (left:List (List Bool)) (hm:MB m) (hb:BB left):ao Tryz.prog 148 [.agg (au m),.tree 1 (rowsOf aK left)] [] (.lit (.bool (decide (dK m left)))) []:=by
  have me:=hm.cls
  have sX:=hb.1
  generalize aj:decide (dK m left)=res
  refine ao.aD (fn:=Tryz.f148) 30 0 [.tmp 4] Tryz.func148 rfl rfl rfl rfl rfl (by simp) ?_
  by_cases hl:left.length=m.cls.length
  rotate_left
  · rw[decide_eq_false (fun h:dK m left=>hl h.1)] at aj
    ((repeat' (first|refine Va X0 ?_|(refine Xi ?_ ?_<;>try intro ht)|exact Xx|fail)))
    ((skip))
    exact aE rfl (by rw[← aj])
  ((repeat' (first|refine Va X0 ?_|(refine Xi ?_ ?_<;>try intro ht)|exact Xx|fail)))
  refine aG (fun k:Nat=>(⟨aw [(1,.tree 1 (rowsOf aK left)),(2,.ptr 0 0 0),(5,.lit (.int .i64 k))],[.var (au m)]⟩:St)) (fun k=>k≤left.length∧∀ i,i<k→(left.getD i default).length=(m.cls.getD i default).length) (fun k=>left.length - k) 0 ⟨aH _,by omega⟩ (Xv X0) ?_
  rintro k ⟨hk,hr⟩ Ql ak aq
  by_cases aF:k<left.length
  · have h1:=hm.opt _ (az (l:=m.cls) (i:=k) (d:=default) (by omega))
    have h2:=hb.2 _ (az (d:=default) aF)
    generalize xn:m.cls.getD k default=a at *
    generalize sX:left.getD k default=b at *
    by_cases gq:b.length=a.length
    · ((repeat' (first|refine Va (X4 @xn @sX @bA.eq_1 @aK.eq_1) ?_|(refine Xi ?_ ?_<;>try intro ht)|exact Xx|fail)))
      exact ak _ (k+1) ⟨by omega,fun i hi=>by
        by_cases e:i=k
        · subst e;rw[sX,xn];exact gq
        · exact hr i (by omega)⟩ (by omega) (Xv X0)
    · rw[decide_eq_false (fun h:dK m left=>gq (by have:=h.2 k (by omega);rw[sX,xn] at this;exact this))] at aj
      ((repeat' (first|refine Va (X4 @xn @sX @bA.eq_1 @aK.eq_1) ?_|(refine Xi ?_ ?_<;>try intro ht)|exact Xx|fail)))
      repeat (refine Xu ?_)
      refine Vb X0 ?_
      exact aE rfl (by rw[← aj])
  · rw[decide_eq_true (show dK m left from ⟨hl,fun i hi=>hr i (by omega)⟩)] at aj
    ((repeat' (first|refine Va X0 ?_|(refine Xi ?_ ?_<;>try intro ht)|exact Xx|fail)))
    refine aq _ _ rfl ?_;clear ak aq Ql
    repeat (refine Xu ?_)
    refine Vb X0 ?_
    exact aE rfl (by rw[← aj])
theorem Wd {m:ae} {left:List (List Bool)} (hm:VM m) (hf:dK m left) {c:Ct} (hc:c∈m.av):(∀ x∈c.aA,(0≤x.cls∧x.cls<left.length)∧1≤x.wt∧x.wt≤1000)∧0≤c.most∧aS c.bg∧c.aA.length≤1000000:=by
  obtain ⟨_,h2,h3,h4⟩:=ju (hm.ct c hc)
  refine⟨fun x hx=>?_,h2.1,g7 h3,?_⟩
  · obtain ⟨h5,h6⟩:=kF h4 x hx
    obtain ⟨a,b,_,_⟩:=cV.1 h5
    have:=hf.1
    exact⟨⟨a,by omega⟩,h6⟩
  · have:=uq hm h4;omega
theorem aeT (m:ae) (left:List (List Bool)) (c:Ct) (hm:VM m) (hf:dK m left) (hc:c∈m.av):ao Tryz.prog 154 [.agg (au m),.tree 1 (rowsOf aK left),.agg (bu c)] [] (.lit (.int .i64 (j' c.aA 0 left 0 - c.most))) []:=by
  obtain ⟨q1,q2,q3,q4⟩:=Wd hm hf hc
  have Kp:∀ x∈c.aA,1≤x.wt∧x.wt≤1000:=fun x hx=>(q1 x hx).2
  have me:=hm.cls
  have hl:=hf.1
  have ai6:=(ju (hm.ct c hc)).2.1
  refine ao.aD (fn:=Tryz.f154) 85 0 [.tmp 6] Tryz.func154 rfl rfl rfl rfl rfl (by simp) ?_
  refine Va X0 ?_
  refine aG (fun i:Nat=>(⟨aw [(1,.tree 1 (rowsOf aK left)),(3,.ptr 0 0 0),(5,.ptr 1 0 0),(7,.lit (.int .i64 (j' c.aA 0 (left.take i) 0))),(8,.lit (.int .i64 i))],[.var (au m),.var (bu c)]⟩:St)) (fun i=>i≤left.length) (fun i=>left.length - i) 0 (aH _) (Xv (X2 @lW.{0} (X2 @j'.eq_1 @j'.eq_2))) ?_
  rintro i hi Ql ak aq
  have wv:=Jv Kp (left.take i)
  rw[eX] at wv
  by_cases ax:i<left.length
  · have bL:(left.getD i default).length=(m.cls.getD i default).length:=hf.2 i ax
    have aet:=hm.opt _ (az (l:=m.cls) (i:=i) (d:=default) (by omega))
    have ef:=eU ax
    have y8:=Sh c.aA (left.getD i default) (left.take i) 0 0
    rw[← ef,eX,rS (by omega),eK] at y8
    generalize j' c.aA 0 (left.take i) 0=n at *
    generalize F6:left.getD i default=row at *
    generalize cO:m.cls.getD i default=l at *
    ((repeat' (first|refine Va X0 ?_|(refine Xi ?_ ?_<;>try intro ht)|exact Xx|fail)))
    refine aG (fun o:Nat=>(⟨aw [(1,.tree 1 (rowsOf aK left)),(3,.ptr 0 0 0),(5,.ptr 1 0 0),(7,.lit (.int .i64 n)),(8,.lit (.int .i64 i)),(9,.lit (.int .i64 (max (eB c.aA i 0 (row.take o) (-1)) 0))),(10,.lit (.bool (decide (0≤eB c.aA i 0 (row.take o) (-1))))),(11,.lit (.int .i64 o))],[.var (au m),.var (bu c)]⟩:St)) (fun o=>o≤row.length) (fun o=>row.length - o) 0 (aH _) (Xv (X2 @lW.{0} (X2 @eB.eq_1 @eB.eq_2))) ?_
    rintro o ho cR ba bd
    have hb:=Jt Kp i (row.take o) 0 (-1) (by omega)
    by_cases cp:o<row.length
    · have mN:eB c.aA i 0 (row.take (o+1)) (-1)=if row.getD o false=true∧(eB c.aA i 0 (row.take o) (-1)<0∨gd c.aA i o 0<eB c.aA i 0 (row.take o) (-1)) then gd c.aA i o 0 else eB c.aA i 0 (row.take o) (-1):=by
        rw[List.take_succ_eq_append_getElem cp,Sg,ay,bm cp,eX,rS (by omega),eK];rfl
      have hw:=yT Kp i o 0 (by omega)
      generalize eB c.aA i 0 (row.take o) (-1)=b at *
      generalize Wh:row.getD o false=is at *
      cases is with
      | false =>
        rw[if_neg (by simp)] at mN
        ((repeat' (first|refine Va (X5 @cO @F6 @Wh @bA.eq_1 @aK.eq_1) ?_|(refine Xi ?_ ?_<;>try intro ht)|exact Xx|fail)))
        exact ba _ (o+1) (by omega) (by omega) (by simp only[mN];exact Xv X0)
      | true =>
        simp only[eq_self,true_and] at mN
        ((repeat' (first|refine Va (X5 @cO @F6 @Wh @bA.eq_1 @aK.eq_1) ?_|(refine Xi ?_ ?_<;>try intro ht)|exact Xx|fail)))
        refine aG (fun k:Nat=>(⟨aw [(1,.tree 1 (rowsOf aK left)),(3,.ptr 0 0 0),(5,.ptr 1 0 0),(7,.lit (.int .i64 n)),(8,.lit (.int .i64 i)),(9,.lit (.int .i64 (max b 0))),(10,.lit (.bool (decide (0≤b)))),(11,.lit (.int .i64 o)),(12,.lit (.int .i64 (gd (c.aA.take k) i o 0))),(13,.lit (.int .i64 k))],[.var (au m),.var (bu c)]⟩:St)) (fun k=>k≤c.aA.length) (fun k=>c.aA.length - k) 0 (aH _) (Xv (X2 @lW.{0} (X2 @gd.eq_1 @gd.eq_2))) ?_
        rintro k hk mh eS eI
        by_cases aF:k<c.aA.length
        · have F7:=eU aF
          have bS:=q1 _ (az (d:=default) aF)
          have nf:=R8 (c.aA.take k) (c.aA.getD k default) i o 0
          rw[← F7] at nf
          generalize gd (c.aA.take k) i o 0=w at *
          generalize yz:c.aA.getD k default=x at *
          ((repeat' (first|refine Va (X2 @yz @dF.eq_1) ?_|(refine V2 (X2 @yz @dF.eq_1) ?_ ?_<;>try with_reducible intro hb)|(refine Xi ?_ ?_<;>try intro ht)|exact Xx|fail)))
          all_goals
            refine eS _ (k+1) (by omega) (by omega) ?_
            simp only[nf]
            first
              | rw[if_pos (by omega)]
              | rw[if_neg (by omega)]
            exact Xv X0
        · ((repeat' (first|refine Va X0 ?_|(refine V2 X0 ?_ ?_<;>try with_reducible intro hb)|(refine Xi ?_ ?_<;>try intro ht)|exact Xx|fail)))
          rw[dN (by omega)]
          refine eI _ _ rfl ?_
          clear eS eI mh
          repeat (refine Xu ?_)
          generalize gd c.aA i o 0=w at *
          ((repeat' (first|refine Va X0 ?_|(refine V2 X0 ?_ ?_<;>try with_reducible intro hb)|(refine Xi ?_ ?_<;>try intro ht)|exact Xx|fail)))
          all_goals
            refine ba _ (o+1) (by omega) (by omega) ?_
            simp only[mN]
            first
              | (rw[if_pos (by omega)];have e1:max w 0=w:=by omega
                 have e2:decide (0≤w)=true:=decide_eq_true (by omega)
                 simp only[e1,e2];exact Xv X0)
              | (rw[if_neg (by omega)];exact Xv X0)
    · rw[dN (by omega)] at hb
      have ic:ny c.aA i row=max (eB c.aA i 0 row (-1)) 0:=rfl
      ((repeat' (first|refine Va (X3 @cO @bA.eq_1 (dN (show row.length≤o by omega))) ?_|(refine Xi ?_ ?_<;>try intro ht)|exact Xx|fail)))
      refine bd _ _ rfl ?_
      clear ba bd cR
      repeat (refine Xu ?_)
      refine Va X0 ?_
      exact ak _ (i+1) (by omega) (by omega) (by simp only[y8,ic];exact Xv X0)
  · ((repeat' (first|refine Va (dN (show left.length≤i by omega)) ?_|(refine Xi ?_ ?_<;>try intro ht)|exact Xx|fail)))
    refine aq _ _ rfl ?_;clear ak aq Ql
    repeat (refine Xu ?_)
    rw[dN (by omega)] at wv
    repeat' (first|(refine Xr X0 ?_;intro K hK)|(refine hK _ ?_;clear hK K)|refine Xz ?_|(refine Xe ?_;first|refine aE rfl ?_|refine Xl ?_ ?_)|refine Xd ?_ ?_|exact Xx|fail)
theorem VS (x:Int):ao Tryz.prog 174 [.lit (.int .i64 x)] [] (.agg (br (fR x))) []:=by
  refine ao.aD (fn:=Tryz.f174) 7 0 [.cell 2 230] Tryz.func174 rfl rfl rfl rfl rfl (by simp) ?_
  refine Vb X0 ?_
  simp (disch:=omega) only[Ac,↓Pc,simprocAttr,br,fR,ew]
  exact aE rfl rfl
theorem aeE (l:List cB) (R:Int) (hl:l.length≤24) (ej:∀ o∈l,eA R none o.ch=true) (hlen:∀ o∈l,o.ch.length≤100):ao Tryz.prog 151 [.tree 6 (rowsOf dJ l)] [] (.tree 1 (ints (gb l))) []:=by
  refine ao.aD (fn:=Tryz.f151) 39 0 [.tmp 2] Tryz.func151 rfl rfl rfl rfl rfl (by simp) ?_
  refine Vb X0 ?_
  refine aG (fun z:Nat × List Int=>(⟨aw [(0,.tree 6 (rowsOf dJ l)),(3,.ref 0 1 0 z.2.length),(4,.lit (.int .i64 z.1))],[.arr 1 (ints z.2)]⟩:St)) (fun z=>z.1≤l.length∧z.2=(gb l).take z.1) (fun z=>l.length - z.1) (0,[]) ⟨aH _,rfl⟩ ?_ ?_
  · refine aQ.trans (aQ.nil 3 1 (by simp only[Kc,simprocAttr]) (by decide)) ?_
    exact Xv X0
  rintro ⟨i,xs⟩ ⟨hi,cl⟩ Ql ak aq
  dsimp only at hi cl ⊢
  have fG:(gb l).length=l.length:=by unfold gb;simp
  by_cases ax:i<l.length
  · have ef:=eU (l:=gb l) (k:=i) (by omega)
    have vC:(gb l).getD i default=qo (l.getD i default):=by
      unfold gb;rw[ay,bR,ay,bm ax];rfl
    have fq:=az (l:=l) (d:=default) ax
    have hc:=FB (ej _ fq)
    have hle:=hlen _ fq
    have aT:xs.length=i:=by rw[cl,eX];omega
    rw[vC,← cl] at ef
    generalize lP:l.getD i default=o at *
    ((repeat' (first|refine Va @lP ?_|(refine Xi ?_ ?_<;>try intro ht)|exact Xx|fail)))
    refine aG (fun k:Nat=>(⟨aw [(0,.tree 6 (rowsOf dJ l)),(3,.ref 0 1 0 xs.length),(4,.lit (.int .i64 i)),(5,.lit (.int .i64 (((o.ch.take k).map (·.2)).foldl cS 0))),(6,.lit (.int .i64 k))],[.arr 1 (ints xs)]⟩:St)) (fun k=>k≤o.ch.length) (fun k=>o.ch.length - k) 0 (aH _) (Xv (X3 @lW.{0} @List.map_nil.{0,0} @List.foldl_nil.{0,0})) ?_
    rintro k hk cR ba bd
    have hs:=CR ((o.ch.take k).map (·.2)) 0 (fun x hx=>by
      obtain ⟨c,kv,rfl⟩:=List.mem_map.1 hx;exact hc c (List.mem_of_mem_take kv)) (by unfold aS;decide)
    by_cases aF:k<o.ch.length
    · have aJ:=hc _ (az (d:=default) aF)
      have dV:=Jx o.ch k aF
      generalize ((o.ch.take k).map (·.2)).foldl cS 0=s at *
      have n9:=C7 s (o.ch.getD k default).2 hs aJ
      generalize bS:o.ch.getD k default=x at *
      ((repeat' (first|refine Vc (X4 @lP @bS @dJ.eq_1 @bP.eq_1) n9 ?_|(refine Xi ?_ ?_<;>try intro ht)|exact Xx|fail)))
      exact ba _ (k+1) (by omega) (by omega) (by simp only[dV];exact Xv X0)
    · have kJ:((o.ch.take k).map (·.2)).foldl cS 0=qo o:=by rw[dN (by omega)];rfl
      rw[kJ] at hs
      generalize ((o.ch.take k).map (·.2)).foldl cS 0=s at *
      ((repeat' (first|refine Va (X2 @lP @dJ.eq_1) ?_|(refine Xi ?_ ?_<;>try intro ht)|exact Xx|fail)))
      refine bd _ _ rfl ?_
      clear ba bd cR
      repeat (refine Xu ?_)
      refine Va X0 ?_
      refine ak _ (i+1,xs++[s]) ⟨by dsimp only;omega,by rw[ef,← kJ]⟩ (by dsimp only;omega) ?_
      exact Xs false [2] X0
  · rw[dN (by omega)] at cl
    subst cl
    ((repeat' (first|refine Va X0 ?_|(refine Xi ?_ ?_<;>try intro ht)|exact Xx|fail)))
    refine aq _ _ rfl ?_;clear ak aq Ql
    repeat (refine Xu ?_)
    refine Vb X0 ?_
    exact Xw true [] X0
theorem V4 (l:List Int) (hl:l.length≤1000):ao Tryz.prog 150 [.tree 1 (ints l)] [] (.ref 0 2 0 (dt l).length) [.arr 2 (rowsOf iH (dt l))]:=by
  refine ao.aD (fn:=Tryz.f150) 25 0 [.tmp 2] Tryz.func150 rfl rfl rfl rfl rfl (by simp) ?_
  refine Vb X0 ?_
  refine aG (fun z:Nat × List Nm=>(⟨aw [(0,.tree 1 (ints l)),(3,.ref 0 2 0 z.2.length),(4,.lit (.int .i64 z.1))],[.arr 2 (rowsOf iH z.2)]⟩:St)) (fun z=>z.1≤l.length∧z.2=(dt l).take z.1) (fun z=>l.length - z.1) (0,[]) ⟨aH _,rfl⟩ ?_ ?_
  · refine aQ.trans (aQ.nil 3 2 (by simp only[Kc,simprocAttr]) (by decide)) ?_
    exact Xv X0
  rintro ⟨i,xs⟩ ⟨hi,cl⟩ Ql ak aq
  dsimp only at hi cl ⊢
  have fG:(dt l).length=l.length:=by unfold dt;simp
  by_cases ax:i<l.length
  · have ef:=eU (l:=dt l) (k:=i) (by omega)
    have vC:(dt l).getD i default=fR (l.getD i 0):=by
      unfold dt;rw[ay,bR,ay,bm ax];rfl
    have aT:xs.length=i:=by rw[cl,eX];omega
    rw[vC,← cl] at ef
    generalize lP:l.getD i 0=o at *
    ((repeat' (first|refine Va @lP ?_|(refine Xi ?_ ?_<;>try intro ht)|exact Xx|fail)))
    refine ak _ (i+1,xs++[fR o]) ⟨by dsimp only;omega,ef.symm⟩ (by dsimp only;omega) ?_
    have eno:[[AV.lit (.bool (decide (o ≥ 1099511627776))),AV.lit (.int .i64 o)]]=rowsOf iH [fR o]:=rfl
    exact Xs false [2] (X2 @eno @Il)
  · rw[dN (by omega)] at cl
    subst cl
    ((repeat' (first|refine Va X0 ?_|(refine Xi ?_ ?_<;>try intro ht)|exact Xx|fail)))
    refine aq _ _ rfl ?_;clear ak aq Ql
    repeat (refine Xu ?_)
    refine Vb X0 ?_
    exact Xw false [0] X0
theorem V6 (l:List Nm) (s:List Bool) (hl:l.length=s.length) (eV:l.length<9223372036854775808):ao Tryz.prog 152 [.tree 2 (rowsOf iH l),.tree 1 (bf s)] [] (.bM [.lit (.int .i64 (cY l s (0,false)).1),.lit (.bool (cY l s (0,false)).2)]) []:=by
  refine ao.aD (fn:=Tryz.f152) 47 0 [.tmp 4,.tmp 5] Tryz.func152 rfl rfl rfl rfl rfl (by simp) ?_
  refine Vb X0 ?_
  refine aG (fun i:Nat=>(⟨aw [(0,.tree 2 (rowsOf iH l)),(1,.tree 1 (bf s)),(6,.lit (.int .i64 (cY (l.take i) (s.take i) (0,false)).1)),(7,.lit (.bool (cY (l.take i) (s.take i) (0,false)).2)),(8,.lit (.int .i64 i))],[]⟩:St)) (fun i=>i≤l.length) (fun i=>l.length - i) 0 (aH _) (Xv (X2 @lW.{0} (X2 @cY.eq_1 @cY.eq_2))) ?_
  rintro i hi Ql ak aq
  by_cases ax:i<l.length
  · have h1:=eU ax
    have h2:=eU (l:=s) (k:=i) (by omega)
    have h3:=Sj (l.getD i default) (s.getD i default) (l.take i) (s.take i) (0,false) (by rw[eX,eX];omega)
    rw[← h1,← h2] at h3
    have vA:s.getD i default=s.getD i false:=rfl
    rw[vA] at h3
    generalize cY (l.take i) (s.take i) (0,false)=b at *
    generalize bQ:l.getD i default=p at *
    generalize y8:s.getD i false=is at *
    unfold Si at h3
    obtain ⟨b1,b2⟩:=b
    obtain ⟨p1,p2⟩:=p
    dsimp only at h3 ⊢
    by_cases aT:p1<b1
    all_goals
      cases is<;>cases p2<;>cases b2
    all_goals
      simp[aT] at h3
      ((repeat' (first|refine Va (X3 @bQ @y8 @iH.eq_1) ?_|(refine Xi ?_ ?_<;>try intro ht)|exact Xx|fail)))
      all_goals
        refine ak _ (i+1) (by omega) (by omega) ?_
        simp only[h3]
        exact Xv X0
  · ((repeat' (first|refine Va X0 ?_|(refine V2 X0 ?_ ?_<;>try with_reducible intro hb)|(refine Xi ?_ ?_<;>try intro ht)|exact Xx|fail)))
    refine aq _ _ rfl ?_;clear ak aq Ql
    repeat (refine Xu ?_)
    rw[dN (by omega),dN (by omega)]
    refine Vb X0 ?_
    exact aE rfl rfl
theorem Wi (l:List Nm) (eV:l.length<9223372036854775808):ao Tryz.prog 177 [.tree 2 (rowsOf br l)] [] (.agg (br (rz l))) []:=by
  refine ao.aD (fn:=Tryz.f177) 30 0 [.cell 2 230] Tryz.func177 rfl rfl rfl rfl rfl (by simp) ?_
  refine Vb X0 ?_
  refine aG (fun i:Nat=>(⟨aw [(2,.ptr 0 0 0),(3,.ptr 1 0 0),(7,.tree 2 (rowsOf br l)),(8,.lit (.int .i64 l.length)),(9,.lit (.int .i64 i))],[.var [.lit (.int .i64 0),.lit (.bool false)],.var (br (rz (l.take i)))]⟩:St)) (fun i=>i≤l.length) (fun i=>l.length - i) 0 (aH _) (Xv @lW.{0}) ?_
  rintro i hi Ql ak aq
  by_cases ax:i<l.length
  · have h1:=eU ax
    have h3:=adg (l.take i) (l.getD i default)
    rw[← h1] at h3
    generalize rz (l.take i)=b at *
    generalize bQ:l.getD i default=p at *
    unfold AR at h3
    obtain ⟨b1,b2⟩:=b
    obtain ⟨p1,p2⟩:=p
    dsimp only at h3 ⊢
    unfold br
    dsimp only
    by_cases aT:p1<b1
    all_goals
      cases p2<;>cases b2
    all_goals
      simp[aT] at h3
      ((repeat' (first|refine Va (X2 @bQ @br.eq_1) ?_|(refine Xi ?_ ?_<;>try intro ht)|exact Xx|fail)))
      all_goals
        refine ak _ (i+1) (by omega) (by omega) ?_
        simp only[h3]
        exact Xs false [0,1] @br.eq_1
  · ((repeat' (first|refine Va @br.eq_1 ?_|(refine V2 @br.eq_1 ?_ ?_<;>try with_reducible intro hb)|(refine Xi ?_ ?_<;>try intro ht)|exact Xx|fail)))
    refine aq _ _ rfl ?_;clear ak aq Ql
    repeat (refine Xu ?_)
    rw[dN (by omega)]
    refine Vb @br.eq_1 ?_
    simp (disch:=omega) only[Ac,↓Pc,simprocAttr,br,ew]
    exact aE rfl rfl
theorem aeB (m:ae) (x:Mv) (hm:VM m):ao Tryz.prog 149 [.agg (au m),.agg (fZ x)] [] (.lit (.bool (lk m x))) []:=by
  have vB:=hm.ah
  have ho:=C8 m (kL m x) x.opt
  generalize aj:lk m x=res
  unfold lk at aj
  unfold kL at aj ho
  refine ao.aD (fn:=Tryz.f149) 58 0 [.tmp 4] Tryz.func149 rfl rfl rfl rfl rfl (by simp) ?_
  by_cases hr:0≤x.pair∧x.pair<m.ah.length∧0≤x.side∧x.side≤1∧-268435456≤x.gM∧x.gM≤268435456
  · rw[decide_eq_true hr,Bool.true_and] at aj
    generalize bQ:m.ah.getD x.pair.toNat default=p at *
    by_cases hs:x.side=0
    · rw[if_pos hs] at aj ho
      rw[aj] at ho
      ((repeat' (first|refine Vd (X3 @bQ @fZ.eq_1 @bc.eq_1) ho ?_|(refine V2 (X3 @bQ @fZ.eq_1 @bc.eq_1) ?_ ?_<;>try with_reducible intro hb)|(refine Xi ?_ ?_<;>try intro ht)|exact Xx|fail)))
      all_goals exact aE rfl rfl
    · rw[if_neg hs] at aj ho
      rw[aj] at ho
      ((repeat' (first|refine Vd (X3 @bQ @fZ.eq_1 @bc.eq_1) ho ?_|(refine V2 (X3 @bQ @fZ.eq_1 @bc.eq_1) ?_ ?_<;>try with_reducible intro hb)|(refine Xi ?_ ?_<;>try intro ht)|exact Xx|fail)))
      all_goals exact aE rfl rfl
  · rw[decide_eq_false hr,Bool.false_and] at aj
    ((repeat' (first|refine Vb (X2 @fZ.eq_1 @bc.eq_1) ?_|(refine V2 (X2 @fZ.eq_1 @bc.eq_1) ?_ ?_<;>try with_reducible intro hb)|(refine Xi ?_ ?_<;>try intro ht)|exact Xx|fail)))
    all_goals exact aE rfl (by rw[aj])
end T

