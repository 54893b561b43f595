import Derived.Test.YtdipcmigdbnheaaGreatX22
import Derived.Test.YtdipcmigdbnheaaGreatX15
import Derived.Test.YtdipcmigdbnheaaGreatX13
set_option linter.unusedVariables false
set_option linter.unusedSimpArgs false
set_option linter.unnecessarySimpa false
set_option linter.unusedSectionVars false
set_option maxHeartbeats 64000000
set_option maxRecDepth 20000
open Nat renaming zero_le→aD,mul_le_mul→Dd,sub_self→iC,add_zero→g7
open List renaming getD_eq_getElem?_getD→ay,getElem?_map→bN,getElem?_eq_getElem→bI,length_take→ez,take_zero→lx,map_nil→jJ,foldl_nil→wI,mem_of_mem_take→p8,take_of_length_le→dC,mem_append→cy,mem_singleton→ek,length_map→dU,append_assoc→cI,length_append→bJ,length_set→bm,getElem?_eq_some_iff→aS,map_append→fB,nodup_append→sA,mem_cons→bZ,not_mem_nil→kC,set_set→wG,range_zero→KR
open Bool renaming true_and→g9,false_and→qc,and_eq_true→bh,not_false→jx,not_true→gQ
open Go Go.Am Go.Proofs
open Nat (reduceEqDiff reduceAdd reduceLeDiff reduceMul)
open Int (reduceNeg reduceLE reduceToNat)
namespace T
theorem adi (l:List bK) (R:Int) (hl:l.length≤24) (gJ:∀ o∈l,dF R none o.ch=true) (hlen:∀ o∈l,o.ch.length≤100):ao Tryz.prog 151 [.tree 6 (rowsOf bX l)] [] (.tree 1 (ints (fP l))) []:=by
  refine ao.aF (fn:=Tryz.f151) 39 0 [.tmp 2] Tryz.func151 rfl rfl rfl rfl rfl (by simp) ?_
  refine Vb X0 ?_
  refine aI (fun z:Nat × List Int=>(⟨av [(0,.tree 6 (rowsOf bX l)),(3,.ref 0 1 0 z.2.length),(4,.lit (.int .i64 z.1))],[.arr 1 (ints z.2)]⟩:St)) (fun z=>z.1≤l.length∧z.2=(fP l).take z.1) (fun z=>l.length - z.1) (0,[]) ⟨aD _,rfl⟩ ?_ ?_
  · refine aA.trans (aA.nil 3 1 (by simp only[Kc,simprocAttr]) (by decide)) ?_
    exact Xv X0
  rintro ⟨i,xs⟩ ⟨hi,cF⟩ Ql ak aq
  dsimp only at hi cF ⊢
  have jh:(fP l).length=l.length:=by unfold fP;simp
  by_cases hi':i<l.length
  · have cS:=eu (l:=fP l) (k:=i) (by omega)
    have uM:(fP l).getD i default=od (l.getD i default):=by
      unfold fP;rw[ay,bN,ay,bI hi'];rfl
    have eh:=az (l:=l) (d:=default) hi'
    have hc:=EA (gJ _ eh)
    have hle:=hlen _ eh
    have bj:xs.length=i:=by rw[cF,ez];omega
    rw[uM,← cF] at cS
    generalize jV:l.getD i default=o at *
    ((repeat' (first|refine Va @jV ?_|(refine Xi ?_ ?_<;>try intro ht)|exact Xx|fail)))
    refine aI (fun k:Nat=>(⟨av [(0,.tree 6 (rowsOf bX l)),(3,.ref 0 1 0 xs.length),(4,.lit (.int .i64 i)),(5,.lit (.int .i64 (((o.ch.take k).map (·.2)).foldl dQ 0))),(6,.lit (.int .i64 k))],[.arr 1 (ints xs)]⟩:St)) (fun k=>k≤o.ch.length) (fun k=>o.ch.length - k) 0 (aD _) (Xv (X3 @lx.{0} @jJ.{0,0} @wI.{0,0})) ?_
    rintro k hk cP a5 a8
    have hs:=BI ((o.ch.take k).map (·.2)) 0 (fun x hx=>by
      obtain ⟨c,jA,rfl⟩:=List.mem_map.1 hx;exact hc c (p8 jA)) (by unfold bP;decide)
    by_cases aP:k<o.ch.length
    · have aO:=hc _ (az (d:=default) aP)
      have dP:=Ie o.ch k aP
      generalize ((o.ch.take k).map (·.2)).foldl dQ 0=s at *
      have qU:=B7 s (o.ch.getD k default).2 hs aO
      generalize bA:o.ch.getD k default=x at *
      ((repeat' (first|refine Vc (X4 @jV @bA @bX.eq_1 @aG.eq_1) qU ?_|(refine Xi ?_ ?_<;>try intro ht)|exact Xx|fail)))
      exact a5 _ (k+1) (by omega) (by omega) (by simp only[dP];exact Xv X0)
    · have lg:((o.ch.take k).map (·.2)).foldl dQ 0=od o:=by rw[dC (by omega)];rfl
      rw[lg] at hs
      generalize ((o.ch.take k).map (·.2)).foldl dQ 0=s at *
      ((repeat' (first|refine Va (X2 @jV @bX.eq_1) ?_|(refine Xi ?_ ?_<;>try intro ht)|exact Xx|fail)))
      refine a8 _ _ rfl ?_
      clear a5 a8 cP
      repeat (refine Xu ?_)
      refine Va X0 ?_
      refine ak _ (i+1,xs++[s]) ⟨by dsimp only;omega,by rw[cS,← lg]⟩ (by dsimp only;omega) ?_
      exact Xs false [2] X0
  · rw[dC (by omega)] at cF
    subst cF
    ((repeat' (first|refine Va X0 ?_|(refine Xi ?_ ?_<;>try intro ht)|exact Xx|fail)))
    refine aq _ _ rfl ?_;clear ak aq Ql
    repeat (refine Xu ?_)
    refine Vb X0 ?_
    exact Xw true [] X0
theorem U7 (l:List Int) (hl:l.length≤1000):ao Tryz.prog 150 [.tree 1 (ints l)] [] (.ref 0 2 0 (dm l).length) [.arr 2 (rowsOf iv (dm l))]:=by
  refine ao.aF (fn:=Tryz.f150) 25 0 [.tmp 2] Tryz.func150 rfl rfl rfl rfl rfl (by simp) ?_
  refine Vb X0 ?_
  refine aI (fun z:Nat × List Nm=>(⟨av [(0,.tree 1 (ints l)),(3,.ref 0 2 0 z.2.length),(4,.lit (.int .i64 z.1))],[.arr 2 (rowsOf iv z.2)]⟩:St)) (fun z=>z.1≤l.length∧z.2=(dm l).take z.1) (fun z=>l.length - z.1) (0,[]) ⟨aD _,rfl⟩ ?_ ?_
  · refine aA.trans (aA.nil 3 2 (by simp only[Kc,simprocAttr]) (by decide)) ?_
    exact Xv X0
  rintro ⟨i,xs⟩ ⟨hi,cF⟩ Ql ak aq
  dsimp only at hi cF ⊢
  have jh:(dm l).length=l.length:=by unfold dm;simp
  by_cases hi':i<l.length
  · have cS:=eu (l:=dm l) (k:=i) (by omega)
    have uM:(dm l).getD i default=fI (l.getD i 0):=by
      unfold dm;rw[ay,bN,ay,bI hi'];rfl
    have bj:xs.length=i:=by rw[cF,ez];omega
    rw[uM,← cF] at cS
    generalize jV:l.getD i 0=o at *
    ((repeat' (first|refine Va @jV ?_|(refine Xi ?_ ?_<;>try intro ht)|exact Xx|fail)))
    refine ak _ (i+1,xs++[fI o]) ⟨by dsimp only;omega,cS.symm⟩ (by dsimp only;omega) ?_
    have eno:[[AV.lit (.bool (decide (o ≥ 1099511627776))),AV.lit (.int .i64 o)]]=rowsOf iv [fI o]:=rfl
    exact Xs false [2] (X2 @eno @HH)
  · rw[dC (by omega)] at cF
    subst cF
    ((repeat' (first|refine Va X0 ?_|(refine Xi ?_ ?_<;>try intro ht)|exact Xx|fail)))
    refine aq _ _ rfl ?_;clear ak aq Ql
    repeat (refine Xu ?_)
    refine Vb X0 ?_
    exact Xw false [0] X0
theorem U8 (l:List Nm) (s:List Bool) (hl:l.length=s.length) (fA:l.length<9223372036854775808):ao Tryz.prog 152 [.tree 2 (rowsOf iv l),.tree 1 (bg s)] [] (.bL [.lit (.int .i64 (c9 l s (0,false)).1),.lit (.bool (c9 l s (0,false)).2)]) []:=by
  refine ao.aF (fn:=Tryz.f152) 47 0 [.tmp 4,.tmp 5] Tryz.func152 rfl rfl rfl rfl rfl (by simp) ?_
  refine Vb X0 ?_
  refine aI (fun i:Nat=>(⟨av [(0,.tree 2 (rowsOf iv l)),(1,.tree 1 (bg s)),(6,.lit (.int .i64 (c9 (l.take i) (s.take i) (0,false)).1)),(7,.lit (.bool (c9 (l.take i) (s.take i) (0,false)).2)),(8,.lit (.int .i64 i))],[]⟩:St)) (fun i=>i≤l.length) (fun i=>l.length - i) 0 (aD _) (Xv (X2 @lx.{0} (X2 @c9.eq_1 @c9.eq_2))) ?_
  rintro i hi Ql ak aq
  by_cases hi':i<l.length
  · have h1:=eu hi'
    have h2:=eu (l:=s) (k:=i) (by omega)
    have h3:=OF (l.getD i default) (s.getD i default) (l.take i) (s.take i) (0,false) (by rw[ez,ez];omega)
    rw[← h1,← h2] at h3
    have qN:s.getD i default=s.getD i false:=rfl
    rw[qN] at h3
    generalize c9 (l.take i) (s.take i) (0,false)=b at *
    generalize bT:l.getD i default=p at *
    generalize xY:s.getD i false=is at *
    unfold OE at h3
    obtain ⟨b1,b2⟩:=b
    obtain ⟨p1,p2⟩:=p
    dsimp only at h3 ⊢
    by_cases bj:p1<b1
    all_goals
      cases is<;>cases p2<;>cases b2
    all_goals
      simp[bj] at h3
      ((repeat' (first|refine Va (X3 @bT @xY @iv.eq_1) ?_|(refine Xi ?_ ?_<;>try intro ht)|exact Xx|fail)))
      all_goals
        refine ak _ (i+1) (by omega) (by omega) ?_
        simp only[h3]
        exact Xv X0
  · ((repeat' (first|refine Va X0 ?_|(refine V2 X0 ?_ ?_<;>try with_reducible intro hb)|(refine Xi ?_ ?_<;>try intro ht)|exact Xx|fail)))
    refine aq _ _ rfl ?_;clear ak aq Ql
    repeat (refine Xu ?_)
    rw[dC (by omega),dC (by omega)]
    refine Vb X0 ?_
    exact aC rfl rfl
theorem U9 (l:List Nm) (fA:l.length<9223372036854775808):ao Tryz.prog 177 [.tree 2 (rowsOf bw l)] [] (.agg (bw (qJ l))) []:=by
  refine ao.aF (fn:=Tryz.f177) 30 0 [.cell 2 230] Tryz.func177 rfl rfl rfl rfl rfl (by simp) ?_
  refine Vb X0 ?_
  refine aI (fun i:Nat=>(⟨av [(2,.ptr 0 0 0),(3,.ptr 1 0 0),(7,.tree 2 (rowsOf bw l)),(8,.lit (.int .i64 l.length)),(9,.lit (.int .i64 i))],[.var [.lit (.int .i64 0),.lit (.bool false)],.var (bw (qJ (l.take i)))]⟩:St)) (fun i=>i≤l.length) (fun i=>l.length - i) 0 (aD _) (Xv @lx.{0}) ?_
  rintro i hi Ql ak aq
  by_cases hi':i<l.length
  · have h1:=eu hi'
    have h3:=aaT (l.take i) (l.getD i default)
    rw[← h1] at h3
    generalize qJ (l.take i)=b at *
    generalize bT:l.getD i default=p at *
    unfold zE at h3
    obtain ⟨b1,b2⟩:=b
    obtain ⟨p1,p2⟩:=p
    dsimp only at h3 ⊢
    unfold bw
    dsimp only
    by_cases bj:p1<b1
    all_goals
      cases p2<;>cases b2
    all_goals
      simp[bj] at h3
      ((repeat' (first|refine Va (X2 @bT @bw.eq_1) ?_|(refine Xi ?_ ?_<;>try intro ht)|exact Xx|fail)))
      all_goals
        refine ak _ (i+1) (by omega) (by omega) ?_
        simp only[h3]
        exact Xs false [0,1] @bw.eq_1
  · ((repeat' (first|refine Va @bw.eq_1 ?_|(refine V2 @bw.eq_1 ?_ ?_<;>try with_reducible intro hb)|(refine Xi ?_ ?_<;>try intro ht)|exact Xx|fail)))
    refine aq _ _ rfl ?_;clear ak aq Ql
    repeat (refine Xu ?_)
    rw[dC (by omega)]
    refine Vb @bw.eq_1 ?_
    simp (disch:=omega) only[Ac,↓Pc,simprocAttr,bw,ee]
    exact aC rfl rfl
theorem adk (m:ah) (x:Mv) (hm:VM m):ao Tryz.prog 149 [.agg (ar m),.agg (fO x)] [] (.lit (.bool (kK m x))) []:=by
  have B4:=hm.ae
  have ho:=B8 m (kq m x) x.opt
  generalize an:kK m x=res
  unfold kK at an
  unfold kq at an ho
  refine ao.aF (fn:=Tryz.f149) 58 0 [.tmp 4] Tryz.func149 rfl rfl rfl rfl rfl (by simp) ?_
  by_cases hr:0≤x.pair∧x.pair<m.ae.length∧0≤x.side∧x.side≤1∧-268435456≤x.gK∧x.gK≤268435456
  · rw[decide_eq_true hr,g9] at an
    generalize bT:m.ae.getD x.pair.toNat default=p at *
    by_cases hs:x.side=0
    · rw[if_pos hs] at an ho
      rw[an] at ho
      ((repeat' (first|refine Vd (X3 @bT @fO.eq_1 @aV.eq_1) ho ?_|(refine V2 (X3 @bT @fO.eq_1 @aV.eq_1) ?_ ?_<;>try with_reducible intro hb)|(refine Xi ?_ ?_<;>try intro ht)|exact Xx|fail)))
      all_goals exact aC rfl rfl
    · rw[if_neg hs] at an ho
      rw[an] at ho
      ((repeat' (first|refine Vd (X3 @bT @fO.eq_1 @aV.eq_1) ho ?_|(refine V2 (X3 @bT @fO.eq_1 @aV.eq_1) ?_ ?_<;>try with_reducible intro hb)|(refine Xi ?_ ?_<;>try intro ht)|exact Xx|fail)))
      all_goals exact aC rfl rfl
  · rw[decide_eq_false hr,qc] at an
    ((repeat' (first|refine Vb (X2 @fO.eq_1 @aV.eq_1) ?_|(refine V2 (X2 @fO.eq_1 @aV.eq_1) ?_ ?_<;>try with_reducible intro hb)|(refine Xi ?_ ?_<;>try intro ht)|exact Xx|fail)))
    all_goals exact aC rfl (by rw[an])
theorem U' {m:ah} (hm:VM m) {c:List bK} (hc:c∈m.cls) {o:bK} (ho:o∈c):o.ch.length≤100:=by
  have h:=hm.nu c hc o ho
  have hr:=hm.nx
  cases gJ:o.ch with
  | nil=>simp
  | cons x r =>
    rw[gJ,dF] at h
    simp only[bh,decide_eq_true_eq,iL] at h
    rcases ES h.2 with rfl | h2
    · simp
    · simp only[List.length_cons];omega
theorem Cr {m:ah} {p:Pr} (hp:fJ m p=true) (hm:VM m):p.ax.length≤576:=by
  unfold fJ at hp
  simp only[bh,decide_eq_true_eq] at hp
  obtain ⟨⟨_,h1,h2,h3,h4⟩,_⟩:=hp
  have a:=hm.opt _ (az (l:=m.cls) (i:=p.fst.toNat) (d:=default) (by omega))
  have b:=hm.opt _ (az (l:=m.cls) (i:=p.snd.toNat) (d:=default) (by omega))
  have:=Dd a b
  have e:(p.ax.length:Int)=((m.cls.getD p.fst.toNat default).length * (m.cls.getD p.snd.toNat default).length:Nat):=by rw[h4];simp
  omega
theorem Jv {m:ah} {p:Pr} (hp:fJ m p=true):0≤p.fst∧p.fst<p.snd∧p.snd<m.cls.length∧(p.ax.length:Int)=(m.cls.getD p.fst.toNat default).length * (m.cls.getD p.snd.toNat default).length:=by
  unfold fJ at hp
  simp only[bh,decide_eq_true_eq] at hp
  exact hp.1.2
theorem Ve {a k c n:Int} (ha:0≤a∧a<n) (hk:0≤k∧k<c) (hc:c≤24) (hn:n≤24):0≤a * c∧a * c≤576∧0≤a * c+k∧a * c+k<n * c:=by
  have h1:0≤a * c:=Int.mul_nonneg ha.1 (by omega)
  have h2:(a+1) * c≤n * c:=Int.mul_le_mul_of_nonneg_right (by omega) (by omega)
  rw[Int.add_mul] at h2
  have h3:n * c≤24 * 24:=Int.mul_le_mul hn hc (by omega) (by omega)
  omega
theorem adl (m:ah) (left:List (List Bool)) (l:List Mv) (hm:MB m) (hb:BB left) (hl:l.length<9223372036854775808):ao Tryz.prog 97 [.agg (ar m),.tree 1 (rowsOf aE left),.tree 4 (rowsOf fO l)] [] (.bL [.lit (.int .i64 (zH m left l).1),.lit (.int .i64 (zH m left l).2)]) []:=by
  have h1:=wg m hm
  have h2:=adm m left hm hb
  generalize an:zH m left l=res
  unfold zH Ez at an
  refine ao.aF (fn:=Tryz.f97) 342 0 [.tmp 6,.tmp 7] Tryz.func97 rfl rfl rfl rfl rfl (by simp) ?_
  by_cases hv:dI m=0
  rotate_left
  · rw[if_pos (c:=dI m≠0) hv,if_pos hv] at an
    generalize dI m=e at *
    subst an
    ((repeat' (first|refine Vd X0 (X2 h1 h2) ?_|(refine Xi ?_ ?_<;>try intro ht)|exact Xx|fail)))
    all_goals exact aC rfl rfl
  rw[if_neg (c:=dI m≠0) (by rw[hv];simp)] at an
  rw[hv] at h1
  by_cases hf:dN m left
  rotate_left
  · rw[if_neg hf,if_pos (by simp)] at an
    rw[decide_eq_false hf] at h2
    subst an
    ((repeat' (first|refine Vd (X2 @bne_self_eq_false.{0} @jx) (X2 h1 h2) ?_|(refine Xi ?_ ?_<;>try intro ht)|exact Xx|fail)))
    all_goals exact aC rfl rfl
  rw[if_pos hf,if_neg (by simp)] at an
  rw[decide_eq_true hf] at h2
  have b9:=iJ.1 hv
  have mc:=b9.cls
  have xU:=b9.ae
  have A5:=b9.au
  unfold iw at an
  by_cases hlen:2000<l.length
  · rw[if_pos hlen] at an
    subst an
    ((repeat' (first|refine Vd (X2 @bne_self_eq_false.{0} @gQ) (X2 h1 h2) ?_|(refine Xi ?_ ?_<;>try intro ht)|exact Xx|fail)))
    all_goals exact aC rfl rfl
  rw[if_neg hlen] at an
  ((repeat' (first|refine Vd (X2 @bne_self_eq_false.{0} @gQ) (X2 h1 h2) ?_|(refine Xi ?_ ?_<;>try intro ht)|exact Xx|fail)))
  refine aI (fun i:Nat=>(⟨av [(1,.tree 1 (rowsOf aE left)),(2,.tree 4 (rowsOf fO l)),(3,.ptr 0 0 0),(9,.lit (.int .i64 i))],[.var (ar m)]⟩:St)) (fun i=>i≤l.length∧∀ x∈l.take i,kK m x=true) (fun i=>l.length - i) 0 ⟨aD _,by simp⟩ (Xv X0) ?_
  rintro i ⟨hi,fq⟩ Ql ak aq
  by_cases hi':i<l.length
  · have v9:=adk m (l.getD i default) b9
    have cS:=eu hi'
    have cp:=az (d:=default) hi'
    generalize bA:l.getD i default=x at *
    by_cases hx:kK m x=true
    · rw[hx] at v9
      ((repeat' (first|refine Vc (X3 @bA @fO.eq_1 @gQ) v9 ?_|(refine Xi ?_ ?_<;>try intro ht)|exact Xx|fail)))
      exact ak _ (i+1) ⟨by omega,fun y hy=>by
        rw[cS] at hy
        rcases cy.1 hy with hy | hy
        · exact fq y hy
        · simp only[ek] at hy;subst hy;exact hx⟩ (by omega) (Xv X0)
    · have cX:kK m x=false:=by simpa using hx
      rw[cX] at v9
      rw[if_pos (by rw[List.all_eq_false];exact⟨x,cp,hx⟩)] at an
      subst an
      ((repeat' (first|refine Vc (X3 @bA @fO.eq_1 @jx) v9 ?_|(refine Xi ?_ ?_<;>try intro ht)|exact Xx|fail)))
      repeat (refine Xu ?_)
      refine Vb X0 ?_
      exact aC rfl rfl
  rw[dC (by omega)] at fq
  rw[if_neg (by rw[Bool.not_eq_false];exact List.all_eq_true.2 fq)] at an
  ((repeat' (first|refine Va X0 ?_|(refine Xi ?_ ?_<;>try intro ht)|exact Xx|fail)))
  refine aq _ _ rfl ?_;clear ak aq Ql
  repeat (refine Xu ?_)
  refine Va X0 ?_
  have ho0:([.var (ar m)]:List Ob)[0]?=some (.var (ar m)):=rfl
  refine aI (fun z:Nat × List Ob × Nat × List (Nat × Nat)=>(⟨av [(1,.tree 1 (rowsOf aE left)),(2,.tree 4 (rowsOf fO l)),(3,.ptr 0 0 0),(10,.ref z.2.2.1 1 0 z.2.2.2.length),(11,.lit (.slice none 0 0)),(12,.lit (.int .i64 z.1))],z.2.1⟩:St))
    (fun z=>z.1≤m.cls.length∧z.2.2.2.length=z.1∧z.2.1[0]?=some (.var (ar m))∧z.2.1[z.2.2.1]?=some (.arr 1 (rowsOf cG z.2.2.2))∧RI iv z.2.1 z.2.2.2 ((S0 m).take z.1)∧(z.2.2.2.map (·.1)).Nodup)
    (fun z=>m.cls.length - z.1) (0,[.var (ar m),.arr 1 []],1,[]) ⟨aD _,rfl,rfl,rfl,by rw[lx];exact RI.nil,by simp⟩ ?_ ?_
  · refine aA.trans (aA.nil 10 1 (by simp only[Kc,simprocAttr]) (by decide)) ?_
    exact Xv X0
  clear hi hi' ho0
  rintro ⟨i,os,ai,D⟩ ⟨hi,hD,f0,fa,hR,bR⟩ Ql ak aq
  dsimp only at hi hD f0 fa hR bR ⊢
  have e0:=a7 f0
  have ea:=a7 fa
  have sa:=fj fa
  by_cases hi':i<m.cls.length
  · have fY:=az (d:=default) hi'
    have qG:=b9.opt _ fY
    have ado:=adi (m.cls.getD i default) m.rules qG (b9.nu _ fY) (fun o ho=>U' b9 fY ho)
    have Jw:=U7 (fP (m.cls.getD i default)) (by unfold fP;rw[dU];omega)
    generalize aO:m.cls.getD i default=c at *
    ((repeat' (first|refine Vc (X5 @f0 @fa @e0 @ea (X3 @aO @bn.eq_1 @cZ)) ado ?_|(refine Xi ?_ ?_<;>try intro ht)|exact Xx|fail))<;>try with_reducible intro K hK)
    refine ic [] Jw (by simp) trivial ⟨.pure rfl,trivial⟩ ?_
    have Jx:(0:Nat)≠ai:=fun e=>by rw[← e,f0] at fa;cases fa
    obtain ⟨g1,g2,g3,g4⟩:=RI.step fa (by simp) hR bR (dm (fP c)) (.arr 1 [[.ref os.length 2 0 (dm (fP c)).length]]) (.arr 1 (rowsOf cG (D++[(os.length,(dm (fP c)).length)])))
    have cS:(S0 m).take (i+1)=(S0 m).take i++[dm (fP c)]:=by
      rw[eu (by unfold S0;rw[dU];exact hi')]
      unfold S0;rw[iu _ _ _ hi',aO]
    ((try revert hK K);((refine Va (X5 @f0 @fa @e0 @ea (X5 @sa @aO @bn.eq_1 @cZ (X5 @cI.{0} @iC @g7 @EE (X2 @bJ.{0} @bm.{0})))) ?_)))
    refine ak _ (i+1,_,os.length+2,D++[(os.length,(dm (fP c)).length)]) ⟨by dsimp only;omega,by simp;omega,g4 _ _ f0 Jx,g1,by rw[cS];exact g2,g3⟩ (by dsimp only;omega) ?_
    exact Xv X0
  rw[dC (by unfold S0;rw[dU];omega)] at hR
  have xZ:D.length=m.cls.length:=by omega
  ((repeat' (first|refine Va (X4 @f0 @fa @e0 @ea) ?_|(refine Xi ?_ ?_<;>try intro ht)|exact Xx|fail)))
  refine aq _ _ rfl ?_;clear ak aq Ql
  repeat (refine Xu ?_)
  refine Va (X2 @f0 @fa) ?_
  clear hi hi' hD e0 ea sa
  have Vf:(os++[Ob.arr 1 []])[os.length]?=some (.arr 1 (rowsOf cG [])):=by rw[jO];rfl
  refine aI (fun z:Nat × List Ob × Nat × List (Nat × Nat)=>(⟨av [(1,.tree 1 (rowsOf aE left)),(2,.tree 4 (rowsOf fO l)),(3,.ptr 0 0 0),(10,.ref ai 1 0 D.length),(11,.ref z.2.2.1 1 0 z.2.2.2.length),(13,.lit (.int .i64 z.1))],z.2.1⟩:St))
    (fun z=>z.1≤m.ae.length∧z.2.2.2.length=z.1∧z.2.1[0]?=some (.var (ar m))∧z.2.1[ai]?=some (.arr 1 (rowsOf cG D))∧z.2.1[z.2.2.1]?=some (.arr 1 (rowsOf cG z.2.2.2))∧z.2.2.1≠ai∧RI iv z.2.1 D (S0 m)∧RI iv z.2.1 z.2.2.2 ((T0 m).take z.1)∧((D++z.2.2.2).map (·.1)).Nodup)
    (fun z=>m.ae.length - z.1) (0,os++[.arr 1 []],os.length,[]) ⟨aD _,rfl,a7 f0 _,a7 fa _,Vf,fun e=>by have h2:=(aS.1 fa).1;dsimp only at e;omega,hR.app _,by rw[lx];exact RI.nil,by simpa using bR⟩ ?_ ?_
  · refine aA.trans (aA.nil 11 1 (by simp only[Kc,simprocAttr]) (by decide)) ?_
    exact Xv X0
  clear f0 fa hR bR Vf os
  rintro ⟨i,os,bi,E⟩ ⟨hi,hE,f0,fa,fb,lp,Cs,Cu,bR⟩ Ql ak aq
  dsimp only at hi hE f0 fa fb lp Cs Cu bR ⊢
  have e0:=a7 f0
  have eb:=a7 fb
  have sb:=fj fb
  by_cases hi':i<m.ae.length
  · have tD:=jn b9.pr _ (az (d:=default) hi')
    have wi:=(Cr tD b9)
    have Jw:=U7 (m.ae.getD i default).ax (by omega)
    have Jx:(0:Nat)≠bi:=fun e=>by rw[← e,f0] at fb;cases fb
    rw[fB,sA] at bR
    obtain ⟨g1,g2,g3,g4⟩:=RI.step fb (by simp) Cu bR.2.1 (dm (m.ae.getD i default).ax) (.arr 1 [[.ref os.length 2 0 (dm (m.ae.getD i default).ax).length]]) (.arr 1 (rowsOf cG (E++[(os.length,(dm (m.ae.getD i default).ax).length)])))
    have cS:(T0 m).take (i+1)=(T0 m).take i++[dm (m.ae.getD i default).ax]:=by
      rw[eu (by unfold T0;rw[dU];exact hi')]
      unfold T0;rw[iu _ _ _ hi']
    have adp:=(Cs.kill (y:=.gone) fb (by simp)).app [.arr 2 (rowsOf iv (dm (m.ae.getD i default).ax)),.arr 1 [[.ref os.length 2 0 (dm (m.ae.getD i default).ax).length]],.arr 1 (rowsOf cG (E++[(os.length,(dm (m.ae.getD i default).ax).length)]))]
    have adq:((D++(E++[(os.length,(dm (m.ae.getD i default).ax).length)])).map (·.1)).Nodup:=by
      rw[fB,sA]
      refine⟨bR.1,g3,fun a ha b hb=>?_⟩
      rw[fB,cy] at hb
      rcases hb with hb | hb
      · exact bR.2.2 a ha b hb
      · simp only[List.map_cons,jJ,ek] at hb
        subst hb
        exact fun e=>Cs.fresh (Nat.le_refl _) (e ▸ ha)
    have fal:=(aS.1 fa).1
    generalize bT:m.ae.getD i default=p at *
    ((repeat' (first|refine Va (X5 @f0 @fb @e0 @eb (X3 @bT @aV.eq_1 @cZ)) ?_|(refine Xi ?_ ?_<;>try intro ht)|exact Xx|fail))<;>try with_reducible intro K hK)
    refine ic [] Jw (by simp) trivial ⟨.pure rfl,trivial⟩ ?_
    ((try revert hK K);((refine Va (X5 @f0 @fb @e0 @eb (X5 @sb @bT @aV.eq_1 @cZ (X5 @cI.{0} @iC @g7 @EE (X2 @bJ.{0} @bm.{0})))) ?_)))
    refine ak _ (i+1,_,os.length+2,E++[(os.length,(dm p.ax).length)]) ⟨by dsimp only;omega,by simp;omega,g4 _ _ f0 Jx,g4 _ _ fa lp.symm,g1,by dsimp only;omega,adp,by rw[cS];exact g2,adq⟩ (by dsimp only;omega) ?_
    exact Xv X0
  rw[dC (by unfold T0;rw[dU];omega)] at Cu
  have hEl:E.length=m.ae.length:=by omega
  ((repeat' (first|refine Va (X4 @f0 @fa @e0 @eb) ?_|(refine Xi ?_ ?_<;>try intro ht)|exact Xx|fail)))
  refine aq _ _ rfl ?_;clear ak aq Ql
  repeat (refine Xu ?_)
  refine Va (X2 @f0 @fa) ?_
  clear hi hi' hE e0 eb sb
  have iz:LO iv [(0,.var (ar m)),(ai,.arr 1 (rowsOf cG D)),(bi,.arr 1 (rowsOf cG E))] D E (S0 m) (T0 m) os:=⟨fun b hb=>by
    simp only[bZ,kC,or_false] at hb
    rcases hb with rfl | rfl | rfl
    · exact⟨f0,by simp⟩
    · exact⟨fa,by simp⟩
    · exact⟨fb,by simp⟩,Cs,Cu,bR⟩
  refine aI (fun z:Nat × List Ob=>(⟨av [(1,.tree 1 (rowsOf aE left)),(2,.tree 4 (rowsOf fO l)),(3,.ptr 0 0 0),(10,.ref ai 1 0 D.length),(11,.ref bi 1 0 E.length),(14,.lit (.int .i64 z.1))],z.2⟩:St))
    (fun z=>z.1≤l.length∧LO iv [(0,.var (ar m)),(ai,.arr 1 (rowsOf cG D)),(bi,.arr 1 (rowsOf cG E))] D E (iW m (l.take z.1) (S0 m,T0 m)).1 (iW m (l.take z.1) (S0 m,T0 m)).2 z.2)
    (fun z=>l.length - z.1) (0,os) ⟨aD _,iz⟩ (Xv X0) ?_
  clear f0 fa fb Cs Cu bR iz os
  rintro ⟨i,os⟩ ⟨hi,iz⟩ Ql ak aq
  dsimp only at hi iz ⊢
  have f0:=(iz.base (0,.var (ar m)) (by simp)).1
  have fa:=(iz.base (ai,.arr 1 (rowsOf cG D)) (by simp)).1
  have fb:=(iz.base (bi,.arr 1 (rowsOf cG E)) (by simp)).1
  have e0:=a7 f0
  have ea:=a7 fa
  have eb:=a7 fb
  dsimp only at f0 fa fb e0 ea eb
  by_cases hi':i<l.length
  · have uI:=az (d:=default) hi'
    have mK:=fq _ uI
    have cS:iW m (l.take (i+1)) (S0 m,T0 m)=kL m (l.getD i default) (iW m (l.take i) (S0 m,T0 m)):=by rw[eu hi',aaY]
    have jU:=EI b9 (l.take i) (fun x hx=>fq x (p8 hx))
    rw[ez,Nat.min_eq_left (by omega)] at jU
    generalize iW m (l.take i) (S0 m,T0 m)=g at *
    generalize bA:l.getD i default=x at *
    have Jy:=mK
    unfold kK at Jy
    rw[bh,decide_eq_true_eq] at Jy
    obtain ⟨⟨x1,x2,x3,x4,x5,x6⟩,qT⟩:=Jy
    obtain ⟨o1,o2,o3,o4⟩:=iy.1 qT
    have dJ:=jn b9.pr _ (az (l:=m.ae) (i:=x.pair.toNat) (d:=default) (by omega))
    obtain ⟨Vg,Vh,Vi,Fv⟩:=Jv dJ
    have hlF:=b9.opt _ (az (l:=m.cls) (i:=(m.ae.getD x.pair.toNat default).fst.toNat) (d:=default) (by omega))
    have hlS:=b9.opt _ (az (l:=m.cls) (i:=(m.ae.getD x.pair.toNat default).snd.toNat) (d:=default) (by omega))
    obtain ⟨uN,Fw⟩:=iz.rE.row x.pair.toNat (by omega)
    obtain ⟨pV,z8⟩:=iz.rD.row (kq m x).toNat (by omega)
    have qe:=a7 uN
    have qd:=a7 pV
    have Fx:=jU.sl (kq m x).toNat (by omega)
    have Cv:=jU.tl x.pair.toNat (by omega)
    have aho:(List.getD E x.pair.toNat default).1=(List.getD E x.pair.toNat default).1:=rfl
    by_cases hs:x.side=0
    · have hc:kq m x=(m.ae.getD x.pair.toNat default).fst:=by unfold kq;rw[if_pos hs]
      rw[hc] at pV z8 qd Fx o1 o2 o4
      have sd:=fj pV
      have qw:=(s0 jU.sb (m.ae.getD x.pair.toNat default).fst.toNat).get (by omega) x.opt.toNat
      have hF:pQ m x=(fun k:Nat=>(x.opt * (m.cls.getD (m.ae.getD x.pair.toNat default).snd.toNat default).length+k).toNat,(m.cls.getD (m.ae.getD x.pair.toNat default).snd.toNat default).length):=by unfold pQ;rw[if_pos hs]
      have uO:kL m x g=(g.1.set (m.ae.getD x.pair.toNat default).fst.toNat (mQ (g.1.getD (m.ae.getD x.pair.toNat default).fst.toNat default) x.opt.toNat x.gK),g.2.set x.pair.toNat (jS (pQ m x).1 x.gK (pQ m x).2 (g.2.getD x.pair.toNat default))):=by unfold kL;rw[hc]
      have Jz:=(iz.OH (j:=(m.ae.getD x.pair.toNat default).fst.toNat) (by omega) (r:=mQ (g.1.getD (m.ae.getD x.pair.toNat default).fst.toNat default) x.opt.toNat x.gK) (zJ _ _ _)).vars (bm ..) (.var (fO x)) (.var (aV (m.ae.getD x.pair.toNat default))) (by simp) (by simp)
      generalize bT:m.ae.getD x.pair.toNat default=p at *
      generalize JA:(m.cls.getD p.snd.toNat default).length=jt at *
      ((repeat' (first|refine Va (X5 @f0 @fa @fb @e0 (X5 @ea @eb @bA @bT (X5 @JA @fO.eq_1 @aV.eq_1 @bn.eq_1 (X5 @cG.eq_1 @iv.eq_1 @uN @pV (X5 @qe @qd @sd @cZ (X5 @EF @cI.{0} @iC @g7 @bJ.{0})))))) ?_|(refine Xi ?_ ?_<;>try intro ht)|exact Xx|fail)))
      rw[hF] at uO
      dsimp only at uO
      refine aI (fun z:Nat × List Ob=>(⟨av [(1,.tree 1 (rowsOf aE left)),(2,.tree 4 (rowsOf fO l)),(3,.ptr 0 0 0),(10,.ref ai 1 0 D.length),(11,.ref bi 1 0 E.length),(14,.lit (.int .i64 i)),(15,.ptr os.length 0 0),(18,.lit (.int .i64 jt)),(19,.ref (E.getD x.pair.toNat default).1 2 0 (E.getD x.pair.toNat default).2),(20,.lit (.int .i64 z.1))],z.2⟩:St))
        (fun z=>z.1≤jt∧LO iv ((os.length,.var (fO x))::(os.length+1,.var (aV p))::[(0,.var (ar m)),(ai,.arr 1 (rowsOf cG D)),(bi,.arr 1 (rowsOf cG E))]) D E (g.1.set p.fst.toNat (mQ (g.1.getD p.fst.toNat default) x.opt.toNat x.gK)) (g.2.set x.pair.toNat (jS (fun k:Nat=>(x.opt * jt+k).toNat) x.gK z.1 (g.2.getD x.pair.toNat default))) z.2)
        (fun z=>jt - z.1) (0,_) ⟨aD _,by rw[jS,Ii];exact Jz⟩ (Xv X0) ?_
      rintro ⟨k,ok⟩ ⟨hk,pW⟩ cP a5 a8
      dsimp only at hk pW ⊢
      have fx:=(pW.base (os.length,.var (fO x)) (by simp)).1
      dsimp only at fx
      obtain ⟨Cw,JB⟩:=pW.rE.row x.pair.toNat (by omega)
      have Cy:x.pair.toNat<g.2.length:=by rw[jU.t];omega
      rw[zF _ _ _ Cy] at Cw JB
      have fL:=BJ (fun k:Nat=>(x.opt * jt+k).toNat) x.gK k (g.2.getD x.pair.toNat default)
      have Vj:=((s0 jU.tb x.pair.toNat).sub (by omega) (fun k:Nat=>(x.opt * jt+k).toNat) (a:=x.gK) (by omega) k).get (by omega) (x.opt * jt+k:Int).toNat
      by_cases aP:k<jt
      · have sg:=pW.OI (j:=x.pair.toNat) (by omega) (r:=mQ (jS (fun k:Nat=>(x.opt * jt+k).toNat) x.gK k (g.2.getD x.pair.toNat default)) (x.opt * jt+k:Int).toNat (-x.gK)) (by rw[zF _ _ _ Cy];exact zJ _ _ _)
        rw[wG] at sg
        obtain ⟨ix1,ix2,ix3,ix4⟩:=Ve (a:=x.opt) (k:=(k:Int)) (c:=(jt:Int)) (n:=((m.cls.getD p.fst.toNat default).length:Int)) ⟨o3,o4⟩ (by omega) (by omega) (by omega)
        generalize Cz:(x.opt * jt+k:Int)=ix at *
        generalize km:jS (fun k:Nat=>(x.opt * jt+k).toNat) x.gK k (g.2.getD x.pair.toNat default)=tk at *
        ((repeat' (first|refine Va (X5 @fx @bA @Cw @fO.eq_1 (X4 @iv.eq_1 @EF @Cz @Int.sub_eq_add_neg)) ?_|(refine Xi ?_ ?_<;>try intro ht)|exact Xx|fail)))
        refine a5 _ (k+1,_) ⟨by dsimp only;omega,by rw[jS,km,Cz];exact sg⟩ (by dsimp only;omega) ?_
        exact Xv X0
      · have x7:k=jt:=by omega
        rw[x7] at pW
        ((repeat' (first|refine Va X0 ?_|(refine Xi ?_ ?_<;>try intro ht)|exact Xx|fail)))
        refine a8 _ _ rfl ?_
        clear a5 a8 cP
        repeat (refine Xu ?_)
        refine Va X0 ?_
        refine ak _ (i+1,_) ⟨by dsimp only;omega,by rw[cS,uO];exact pW.sub (by simp)⟩ (by dsimp only;omega) ?_
        exact Xv X0
    · have hc:kq m x=(m.ae.getD x.pair.toNat default).snd:=by unfold kq;rw[if_neg hs]
      rw[hc] at pV z8 qd Fx o1 o2 o4
      have sd:=fj pV
      have qw:=(s0 jU.sb (m.ae.getD x.pair.toNat default).snd.toNat).get (by omega) x.opt.toNat
      have hF:pQ m x=(fun k:Nat=>((k:Int) * (m.cls.getD (m.ae.getD x.pair.toNat default).snd.toNat default).length+x.opt).toNat,(m.cls.getD (m.ae.getD x.pair.toNat default).fst.toNat default).length):=by unfold pQ;rw[if_neg hs]
      have uO:kL m x g=(g.1.set (m.ae.getD x.pair.toNat default).snd.toNat (mQ (g.1.getD (m.ae.getD x.pair.toNat default).snd.toNat default) x.opt.toNat x.gK),g.2.set x.pair.toNat (jS (pQ m x).1 x.gK (pQ m x).2 (g.2.getD x.pair.toNat default))):=by unfold kL;rw[hc]
      have Jz:=(iz.OH (j:=(m.ae.getD x.pair.toNat default).snd.toNat) (by omega) (r:=mQ (g.1.getD (m.ae.getD x.pair.toNat default).snd.toNat default) x.opt.toNat x.gK) (zJ _ _ _)).vars (bm ..) (.var (fO x)) (.var (aV (m.ae.getD x.pair.toNat default))) (by simp) (by simp)
      generalize bT:m.ae.getD x.pair.toNat default=p at *
      generalize JA:(m.cls.getD p.snd.toNat default).length=jt at *
      generalize adv:(m.cls.getD p.fst.toNat default).length=rows at *
      ((repeat' (first|refine Va (X5 @f0 @fa @fb @e0 (X5 @ea @eb @bA @bT (X5 @JA @adv @fO.eq_1 @aV.eq_1 (X5 @bn.eq_1 @cG.eq_1 @iv.eq_1 @uN (X5 @pV @qe @qd @sd (X5 @cZ @EF @cI.{0} @iC (X2 @g7 @bJ.{0}))))))) ?_|(refine Xi ?_ ?_<;>try intro ht)|exact Xx|fail)))
      rw[hF] at uO
      dsimp only at uO
      refine aI (fun z:Nat × List Ob=>(⟨av [(1,.tree 1 (rowsOf aE left)),(2,.tree 4 (rowsOf fO l)),(3,.ptr 0 0 0),(10,.ref ai 1 0 D.length),(11,.ref bi 1 0 E.length),(14,.lit (.int .i64 i)),(15,.ptr os.length 0 0),(17,.lit (.int .i64 rows)),(18,.lit (.int .i64 jt)),(19,.ref (E.getD x.pair.toNat default).1 2 0 (E.getD x.pair.toNat default).2),(21,.lit (.int .i64 z.1))],z.2⟩:St))
        (fun z=>z.1≤rows∧LO iv ((os.length,.var (fO x))::(os.length+1,.var (aV p))::[(0,.var (ar m)),(ai,.arr 1 (rowsOf cG D)),(bi,.arr 1 (rowsOf cG E))]) D E (g.1.set p.snd.toNat (mQ (g.1.getD p.snd.toNat default) x.opt.toNat x.gK)) (g.2.set x.pair.toNat (jS (fun k:Nat=>((k:Int) * jt+x.opt).toNat) x.gK z.1 (g.2.getD x.pair.toNat default))) z.2)
        (fun z=>rows - z.1) (0,_) ⟨aD _,by rw[jS,Ii];exact Jz⟩ (Xv X0) ?_
      rintro ⟨k,ok⟩ ⟨hk,pW⟩ cP a5 a8
      dsimp only at hk pW ⊢
      have fx:=(pW.base (os.length,.var (fO x)) (by simp)).1
      dsimp only at fx
      obtain ⟨Cw,JB⟩:=pW.rE.row x.pair.toNat (by omega)
      have Cy:x.pair.toNat<g.2.length:=by rw[jU.t];omega
      rw[zF _ _ _ Cy] at Cw JB
      have fL:=BJ (fun k:Nat=>((k:Int) * jt+x.opt).toNat) x.gK k (g.2.getD x.pair.toNat default)
      have Vj:=((s0 jU.tb x.pair.toNat).sub (by omega) (fun k:Nat=>((k:Int) * jt+x.opt).toNat) (a:=x.gK) (by omega) k).get (by omega) ((k:Int) * jt+x.opt).toNat
      by_cases aP:k<rows
      · have sg:=pW.OI (j:=x.pair.toNat) (by omega) (r:=mQ (jS (fun k:Nat=>((k:Int) * jt+x.opt).toNat) x.gK k (g.2.getD x.pair.toNat default)) ((k:Int) * jt+x.opt).toNat (-x.gK)) (by rw[zF _ _ _ Cy];exact zJ _ _ _)
        rw[wG] at sg
        obtain ⟨ix1,ix2,ix3,ix4⟩:=Ve (a:=(k:Int)) (k:=x.opt) (c:=(jt:Int)) (n:=(rows:Int)) (by omega) ⟨o3,o4⟩ (by omega) (by omega)
        generalize Cz:((k:Int) * jt+x.opt)=ix at *
        generalize km:jS (fun k:Nat=>((k:Int) * jt+x.opt).toNat) x.gK k (g.2.getD x.pair.toNat default)=tk at *
        ((repeat' (first|refine Va (X5 @fx @bA @Cw @fO.eq_1 (X4 @iv.eq_1 @EF @Cz @Int.sub_eq_add_neg)) ?_|(refine Xi ?_ ?_<;>try intro ht)|exact Xx|fail)))
        refine a5 _ (k+1,_) ⟨by dsimp only;omega,by rw[jS,km,Cz];exact sg⟩ (by dsimp only;omega) ?_
        exact Xv X0
      · have x7:k=rows:=by omega
        rw[x7] at pW
        ((repeat' (first|refine Va X0 ?_|(refine Xi ?_ ?_<;>try intro ht)|exact Xx|fail)))
        refine a8 _ _ rfl ?_
        clear a5 a8 cP
        repeat (refine Xu ?_)
        refine Va X0 ?_
        refine ak _ (i+1,_) ⟨by dsimp only;omega,by rw[cS,uO];exact pW.sub (by simp)⟩ (by dsimp only;omega) ?_
        exact Xv X0
  rw[dC (by omega)] at iz
  have jU:=EI b9 l fq
  have ahp:l.length≤2000:=by omega
  generalize iW m l (S0 m,T0 m)=g at *
  have z9:(∀ r∈g.1,NB kM r)∧∀ r∈g.2,NB kM r:=⟨fun r hr=>(jU.sb r hr).mono (by unfold kM;omega),fun r hr=>(jU.tb r hr).mono (by unfold kM;omega)⟩
  ((repeat' (first|refine Va @f0 ?_|(refine Xi ?_ ?_<;>try intro ht)|exact Xx|fail)))
  refine aq _ _ rfl ?_;clear ak aq Ql
  repeat (refine Xu ?_)
  refine Va @f0 ?_
  have eW:=hf.1
  refine aI (fun i:Nat=>(⟨av [(1,.tree 1 (rowsOf aE left)),(3,.ptr 0 0 0),(10,.ref ai 1 0 D.length),(11,.ref bi 1 0 E.length),(22,.lit (.int .i64 (bH (PC left g.1 i) (0,false)).1)),(23,.lit (.bool (bH (PC left g.1 i) (0,false)).2)),(24,.lit (.int .i64 i))],os⟩:St))
    (fun i=>i≤m.cls.length) (fun i=>m.cls.length - i) 0 (aD _) (Xv (X5 @PC.eq_1 @bH.eq_1 @KR @jJ.{0,0} @wI.{0,0})) ?_
  rintro i hi Ql ak aq
  by_cases hi':i<m.cls.length
  · have jm:=vR _ (0,false) (Ik (left:=left) (by unfold kM;decide) z9.1 i)
    rw[zK] at jm
    have hlen:=hf.2 i (by omega)
    have cK:=jU.sl i hi'
    have gU:=U8 (g.1.getD i default) (left.getD i default) (by omega) (by have:=b9.opt _ (az (d:=default) hi');omega)
    have l6:=BK (g.1.getD i default) (left.getD i default) (0,false) (s0 z9.1 i) (by unfold kM;decide)
    have dP:bH (PC left g.1 (i+1)) (0,false)=((bH (PC left g.1 i) (0,false)).1+(c9 (g.1.getD i default) (left.getD i default) (0,false)).1,(bH (PC left g.1 i) (0,false)).2 || !(c9 (g.1.getD i default) (left.getD i default) (0,false)).2):=by
      rw[show PC left g.1 (i+1)=PC left g.1 i++[c9 (g.1.getD i default) (left.getD i default) (0,false)] from xH _ i,zI]
    obtain ⟨pV,z8⟩:=iz.rD.row i (by omega)
    generalize bH (PC left g.1 i) (0,false)=z at *
    obtain ⟨z1,z2⟩:=z
    generalize c9 (g.1.getD i default) (left.getD i default) (0,false)=q at *
    obtain ⟨q1,q2⟩:=q
    unfold kM at jm l6
    dsimp only at *
    generalize fA:left.getD i default=ll at *
    ((repeat' (first|refine Va (X5 @f0 @fa @pV @cG.eq_1 (X2 @fA @aE.eq_1)) ?_|(refine Xi ?_ ?_<;>try intro ht)|exact Xx|fail))<;>try with_reducible intro K hK)
    cases z2<;>cases q2
    all_goals
      refine nR [] gU (by simp) trivial ⟨aN.fz pV (by rw[b5];exact z8.symm) (by simp),.pure rfl,trivial⟩ rfl (by simp) ?_
      ((try revert hK K);(repeat' (first|refine Va (X4 @f0 @fa @gQ @jx) ?_|fail)))
      refine ak _ (i+1) (by omega) (by omega) ?_
      simp only[dP]
      exact Xv X0
  have Fy:i=m.cls.length:=by omega
  rw[Fy]
  have Fz:=vR _ (0,false) (Ik (left:=left) (by unfold kM;decide) z9.1 m.cls.length)
  rw[zK] at Fz
  unfold mR at an
  generalize bH (PC left g.1 m.cls.length) (0,false)=zc at *
  ((repeat' (first|refine Va @f0 ?_|(refine Xi ?_ ?_<;>try intro ht)|exact Xx|fail)))
  refine aq _ _ rfl ?_;clear ak aq Ql
  repeat (refine Xu ?_)
  refine Va @f0 ?_
  clear hi hi'
  have Vk:LO iv [(0,.var (ar m)),(bi,.arr 1 (rowsOf cG E))] D E g.1 g.2 os:=iz.sub (by simp)
  refine aI (fun z:Nat × List Ob=>(⟨av [(1,.tree 1 (rowsOf aE left)),(3,.ptr 0 0 0),(11,.ref bi 1 0 E.length),(22,.lit (.int .i64 (bH (PP m left g.2 z.1) zc).1)),(23,.lit (.bool (bH (PP m left g.2 z.1) zc).2)),(27,.lit (.int .i64 z.1))],z.2⟩:St))
    (fun z=>z.1≤m.ae.length∧LO iv [(0,.var (ar m)),(bi,.arr 1 (rowsOf cG E))] D E g.1 g.2 z.2) (fun z=>m.ae.length - z.1) (0,os) ⟨aD _,Vk⟩ (Xv (X5 @PP.eq_1 @bH.eq_1 @KR @jJ.{0,0} @wI.{0,0})) ?_
  clear iz Vk f0 fa fb e0 ea eb os
  rintro ⟨i,os⟩ ⟨hi,iz⟩ Ql ak aq
  dsimp only at hi iz ⊢
  have f0:=(iz.base (0,.var (ar m)) (by simp)).1
  have fb:=(iz.base (bi,.arr 1 (rowsOf cG E)) (by simp)).1
  dsimp only at f0 fb
  have e0:=a7 f0
  have eb:=a7 fb
  by_cases hi':i<m.ae.length
  · have dJ:=jn b9.pr _ (az (d:=default) hi')
    obtain ⟨Vg,Vh,Vi,Fv⟩:=Jv dJ
    have jm:=vR _ zc (Il (m:=m) (left:=left) (by unfold kM;decide) z9.2 i)
    rw[BL] at jm
    have dP:bH (PP m left g.2 (i+1)) zc=((bH (PP m left g.2 i) zc).1+(c9 (g.2.getD i default) (gL m left i) (0,false)).1,(bH (PP m left g.2 i) zc).2 || !(c9 (g.2.getD i default) (gL m left i) (0,false)).2):=by
      rw[show PP m left g.2 (i+1)=PP m left g.2 i++[c9 (g.2.getD i default) (gL m left i) (0,false)] from xH _ i,zI]
    have l6:=BK (g.2.getD i default) (gL m left i) (0,false) (s0 z9.2 i) (by unfold kM;decide)
    have z4:=hf.2 (m.ae.getD i default).fst.toNat (by omega)
    have tx:=hf.2 (m.ae.getD i default).snd.toNat (by omega)
    have hoa:=b9.opt _ (az (l:=m.cls) (i:=(m.ae.getD i default).fst.toNat) (d:=default) (by omega))
    have aZ:=b9.opt _ (az (l:=m.cls) (i:=(m.ae.getD i default).snd.toNat) (d:=default) (by omega))
    have cK:=jU.tl i hi'
    have uw:(g.2.getD i default).length=(gL m left i).length:=by
      unfold gL;rw[BM,z4,tx,cK]
      have:=Fv
      rw[← Int.natCast_mul] at this
      exact Int.ofNat_inj.1 this
    have wi:=Cr dJ b9
    have gU:=U8 (g.2.getD i default) (gL m left i) uw (by omega)
    have JC:gL m left i=oZ (left.getD (m.ae.getD i default).fst.toNat default) (left.getD (m.ae.getD i default).snd.toNat default):=rfl
    generalize c9 (g.2.getD i default) (gL m left i) (0,false)=q at *
    generalize bH (PP m left g.2 i) zc=z at *
    generalize gL m left i=pb at *
    generalize bT:m.ae.getD i default=p at *
    generalize CE:left.getD p.fst.toNat default=la at *
    generalize CF:left.getD p.snd.toNat default=lb at *
    obtain ⟨z1,z2⟩:=z
    obtain ⟨q1,q2⟩:=q
    unfold kM at jm l6 Fz
    dsimp only at dP jm l6 gU ⊢
    ((repeat' (first|refine Va (X4 @f0 @fb @bT @cZ) ?_|(refine Xi ?_ ?_<;>try intro ht)|exact Xx|fail)))
    have Vl:LO iv ((os.length,.var (aV p))::[(0,.var (ar m)),(bi,.arr 1 (rowsOf cG E))]) D E g.1 g.2 ((os++[.var (aV p)])++[.arr 1 []]):=((iz.app _).app _).add (a7 (jO _ _ _) _) (by simp)
    refine aI (fun y:Nat × List Ob × Nat × List Bool=>(⟨av [(1,.tree 1 (rowsOf aE left)),(3,.ptr 0 0 0),(11,.ref bi 1 0 E.length),(22,.lit (.int .i64 z1)),(23,.lit (.bool z2)),(27,.lit (.int .i64 i)),(28,.ptr os.length 0 0),(29,.ref y.2.2.1 1 0 y.2.2.2.length),(30,.lit (.int .i64 y.1))],y.2.1⟩:St))
      (fun y=>y.1≤la.length∧LO iv ((os.length,.var (aV p))::[(0,.var (ar m)),(bi,.arr 1 (rowsOf cG E))]) D E g.1 g.2 y.2.1∧y.2.1[y.2.2.1]?=some (.arr 1 (bg y.2.2.2))∧os.length<y.2.2.1∧y.2.2.2=oZ (la.take y.1) lb)
      (fun y=>la.length - y.1) (0,(os++[.var (aV p)])++[.arr 1 []],(os++[Ob.var (aV p)]).length,[]) ⟨aD _,Vl,jO _ _ _,by simp,rfl⟩ ?_ ?_
    · refine aA.trans (aA.nil 29 1 (by simp only[Kc,simprocAttr]) (by decide)) ?_
      exact Xv X0
    clear Vl
    rintro ⟨a,oy,ti,bs⟩ ⟨ha,z',eD,jW,k7⟩ cP a5 a8
    dsimp only at ha z' eD jW k7 ⊢
    have fp:=(z'.base (os.length,.var (aV p)) (by simp)).1
    have Vm:=(z'.base (bi,.arr 1 (rowsOf cG E)) (by simp)).1
    have bil:=(aS.1 fb).1
    have osl:=(aS.1 f0).1
    dsimp only at fp Vm
    by_cases mh:a<la.length
    · ((repeat' (first|refine Va (X5 @fp @bT @CE @aE.eq_1 @aV.eq_1) ?_|(refine Xi ?_ ?_<;>try intro ht)|exact Xx|fail)))
      have hta:=eu mh
      refine aI (fun y:Nat × List Ob × Nat × List Bool=>(⟨av [(1,.tree 1 (rowsOf aE left)),(3,.ptr 0 0 0),(11,.ref bi 1 0 E.length),(22,.lit (.int .i64 z1)),(23,.lit (.bool z2)),(27,.lit (.int .i64 i)),(28,.ptr os.length 0 0),(29,.ref y.2.2.1 1 0 y.2.2.2.length),(30,.lit (.int .i64 a)),(31,.lit (.int .i64 y.1))],y.2.1⟩:St))
        (fun y=>y.1≤lb.length∧LO iv ((os.length,.var (aV p))::[(0,.var (ar m)),(bi,.arr 1 (rowsOf cG E))]) D E g.1 g.2 y.2.1∧y.2.1[y.2.2.1]?=some (.arr 1 (bg y.2.2.2))∧os.length<y.2.2.1∧y.2.2.2=bs++(lb.take y.1).map (la.getD a default && ·))
        (fun y=>lb.length - y.1) (0,oy,ti,bs) ⟨aD _,z',eD,jW,by simp⟩ (Xv X0) ?_
      rintro ⟨b,ob,tb,cs⟩ ⟨cU,FA,x8,Vn,gk⟩ lH fl eX
      dsimp only at cU FA x8 Vn gk ⊢
      have CG:=(FA.base (os.length,.var (aV p)) (by simp)).1
      dsimp only at CG
      have pX:=a7 x8
      have epb:=a7 CG
      have stb:=fj x8
      have ca:cs.length≤24 * 24+24:=by
        rw[gk,k7,bJ,BM,dU,ez,ez]
        have:=Dd (show min a la.length≤24 by omega) (show lb.length≤24 by omega)
        omega
      by_cases qI:b<lb.length
      · have adA:=eu qI
        have Vo:=((FA.kill (y:=.gone) x8 (by simp) (by simp only[bZ,kC,or_false,forall_eq_or_imp,forall_eq];omega)).app [.arr 1 [[.lit (.bool (la.getD a false && lb.getD b false))]],.arr 1 (bg (cs++[la.getD a false && lb.getD b false]))])
        have eB:cs++[la.getD a false && lb.getD b false]=bs++(lb.take (b+1)).map (la.getD a default && ·):=by rw[adA,fB,← cI,← gk];rfl
        have ahs:=(aS.1 x8).1
        generalize hxa:la.getD a false=xa at *
        generalize adC:lb.getD b false=xb at *
        cases xa
        all_goals
          simp only[qc,g9] at Vo eB
          ((repeat' (first|refine Va (X5 @CG @x8 @pX @epb (X5 @stb @bT @CE @CF (X5 @hxa @adC @aE.eq_1 @aV.eq_1 (X5 @cZ @cI.{0} @iC @g7 (X3 @bJ.{0} @bm.{0} @GY))))) ?_|(refine Xi ?_ ?_<;>try intro ht)|exact Xx|fail)))
          refine fl _ (b+1,_,ob.length+1,_) ⟨by dsimp only;omega,Vo,xG _ _ _ _ _,by dsimp only;omega,eB⟩ (by dsimp only;omega) ?_
          exact Xv X0
      · rw[dC (by omega)] at gk
        ((repeat' (first|refine Va (X5 @CG @bT @CF @aE.eq_1 @aV.eq_1) ?_|(refine V2 (X5 @CG @bT @CF @aE.eq_1 @aV.eq_1) ?_ ?_<;>try with_reducible intro hb)|(refine Xi ?_ ?_<;>try intro ht)|exact Xx|fail)))
        refine eX _ _ rfl ?_
        clear fl eX lH
        repeat (refine Xu ?_)
        refine Va X0 ?_
        refine a5 _ (a+1,ob,tb,cs) ⟨by dsimp only;omega,FA,x8,Vn,by rw[hta,aa1,← k7];exact gk⟩ (by dsimp only;omega) ?_
        exact Xv X0
    · rw[dC (by omega),← JC] at k7
      subst k7
      obtain ⟨uN,Fw⟩:=z'.rE.row i (by omega)
      ((repeat' (first|refine Va (X5 @fp @bT @CE @aE.eq_1 @aV.eq_1) ?_|(refine Xi ?_ ?_<;>try intro ht)|exact Xx|fail)))
      refine a8 _ _ rfl ?_
      clear a5 a8 cP
      repeat (refine Xu ?_)
      ((refine Va (X3 @Vm @uN @cG.eq_1) ?_)<;>try with_reducible intro K hK)
      cases z2<;>cases q2
      all_goals
        refine nR [] gU (by simp) trivial ⟨aN.fz uN (by rw[b5];exact Fw.symm) (by simp),aN.fz eD (by rw[yP]) (by simp),trivial⟩ rfl (by simp) ?_
        ((try revert hK K);(repeat' (first|refine Va (X2 @gQ @jx) ?_|fail)))
        refine ak _ (i+1,oy) ⟨by dsimp only;omega,z'.sub (by simp)⟩ (by dsimp only;omega) ?_
        simp only[dP]
        exact Xv X0
  have FB:i=m.ae.length:=by omega
  rw[FB]
  have JD:=vR _ zc (Il (m:=m) (left:=left) (by unfold kM;decide) z9.2 m.ae.length)
  rw[BL] at JD
  generalize bH (PP m left g.2 m.ae.length) zc=zp at *
  ((repeat' (first|refine Va @f0 ?_|(refine Xi ?_ ?_<;>try intro ht)|exact Xx|fail)))
  refine aq _ _ rfl ?_;clear ak aq Ql
  repeat (refine Xu ?_)
  refine Va @f0 ?_
  clear hi hi'
  refine aI (fun i:Nat=>(⟨av [(1,.tree 1 (rowsOf aE left)),(3,.ptr 0 0 0),(22,.lit (.int .i64 (bH (PK m left i) zp).1)),(23,.lit (.bool (bH (PK m left i) zp).2)),(34,.lit (.int .i64 i))],os⟩:St))
    (fun i=>i≤m.au.length) (fun i=>m.au.length - i) 0 (aD _) (Xv (X5 @PK.eq_1 @bH.eq_1 @KR @jJ.{0,0} @wI.{0,0})) ?_
  rintro i hi Ql ak aq
  unfold kM at Fz JD
  dsimp only at Fz JD
  by_cases hi':i<m.au.length
  · have fY:=az (d:=default) hi'
    obtain ⟨q1,q2,q3,q4⟩:=Vp b9 hf fY
    have h3:=adD m left _ b9 hf fY
    have xC:=Ix (fun x hx=>(q1 x hx).2) left
    have h4:=TK (jR (m.au.getD i default).aK 0 left 0 - (m.au.getD i default).most) (m.au.getD i default).bE (by omega) q3
    rw[Vq q3] at h4
    have jm:=vR _ zp (Im b9 (left:=left) i)
    rw[EJ] at jm
    have hvr:=OO (m.au.getD i default).most (m.au.getD i default).bE (jR (m.au.getD i default).aK 0 left 0) q2 q3.1
    have dP:bH (PK m left (i+1)) zp=((bH (PK m left i) zp).1+lk left (m.au.getD i default),(bH (PK m left i) zp).2 || !!(decide ((m.au.getD i default).bE=1099511627776) && decide (0<lk left (m.au.getD i default)))):=by
      rw[show PK m left (i+1)=PK m left i++[(lk left (m.au.getD i default),!(decide ((m.au.getD i default).bE=1099511627776) && decide (0<lk left (m.au.getD i default))))] from xH _ i,zI]
    unfold lk at dP
    generalize bH (PK m left i) zp=z at *
    obtain ⟨z1,z2⟩:=z
    generalize aO:m.au.getD i default=c at *
    generalize kP c.most c.bE (jR c.aK 0 left 0)=v at *
    dsimp only at dP jm ⊢
    by_cases Js:c.bE=1099511627776
    all_goals
      by_cases Vr:0<v
    all_goals
      simp only[Js,Vr,decide_true,decide_false,Bool.and_true,Bool.and_false,gQ,jx,Bool.or_true,Bool.or_false] at dP
      cases z2
    all_goals
      ((repeat' (first|refine Vc (X3 @f0 @aO @aU.eq_1) (X2 h3 h4) ?_|(refine V2 (X3 @f0 @aO @aU.eq_1) ?_ ?_<;>try with_reducible intro hb)|(refine Xi ?_ ?_<;>try intro ht)|exact Xx|fail)))
      refine ak _ (i+1) (by omega) (by omega) ?_
      simp only[dP]
      exact Xv (X4 @gt_iff_lt.{0} @Vr @decide_true @decide_false)
  · have JE:i=m.au.length:=by omega
    rw[JE]
    have Vs:=vR _ zp (Im b9 (left:=left) m.au.length)
    rw[EJ] at Vs
    generalize bH (PK m left m.au.length) zp=zk at *
    obtain ⟨k1,k2⟩:=zk
    dsimp only at an Vs ⊢
    ((repeat' (first|refine Va @f0 ?_|(refine Xi ?_ ?_<;>try intro ht)|exact Xx|fail)))
    refine aq _ _ rfl ?_;clear ak aq Ql
    repeat (refine Xu ?_)
    cases k2
    · simp only[Bool.false_eq_true,if_false] at an
      subst an
      ((repeat' (first|refine Vb @f0 ?_|(refine Xi ?_ ?_<;>try intro ht)|exact Xx|fail)))
      exact aC rfl rfl
    · simp only[if_true] at an
      subst an
      ((repeat' (first|refine Vb @f0 ?_|(refine Xi ?_ ?_<;>try intro ht)|exact Xx|fail)))
      exact aC rfl rfl
end T

