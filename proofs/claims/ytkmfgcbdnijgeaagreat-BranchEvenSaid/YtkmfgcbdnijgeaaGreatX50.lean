import Derived.Test.YtkmfgcbdnijgeaaGreatX48
import Derived.Test.YtkmfgcbdnijgeaaGreatX47
set_option linter.unusedVariables false
set_option linter.unusedSimpArgs false
set_option linter.unnecessarySimpa false
set_option linter.unusedSectionVars false
set_option maxHeartbeats 64000000
set_option maxRecDepth 20000
open Go Go.Am Go.Proofs
open Nat (reduceEqDiff reduceAdd reduceLeDiff reduceMul)
open Int (reduceNeg reduceLE reduceToNat)
namespace T
theorem cellF_iff {m:Mdl} {g:List Int} {l:List (Int × Int)} {k:Nat} {c o:Int} (h:l.getD k default=(c,o)):cellF m g l k=(g.contains c && optB m c o && (l.take k).all (apB m (c,o))):=by unfold cellF;rw[h]
theorem take_allF {l:List (Int × Int)} {k:Nat} {f:Int × Int→Bool} (hk:k≤l.length) (h:∀ j,j<k→f (l.getD j default)=true):(l.take k).all f=true:=by
  rw[List.all_eq_true]
  intro x hx
  obtain ⟨j,hj,rfl⟩:=List.getElem_of_mem hx
  rw[List.length_take] at hj
  have:=h j (by omega)
  rw[List.getD_eq_getElem?_getD,List.getElem?_eq_getElem (show j<l.length by omega)] at this
  rw[List.getElem_take];exact this
theorem take_badF {l:List (Int × Int)} {k j:Nat} {f:Int × Int→Bool} (hk:k≤l.length) (hj:j<k) (h:f (l.getD j default)=false):(l.take k).all f=false:=by
  refine all_false (x:=l.getD j default) ?_ h
  rw[List.getD_eq_getElem?_getD,List.getElem?_eq_getElem (show j<l.length by omega),List.mem_take_iff_getElem]
  exact⟨j,by omega,rfl⟩
theorem cov_any (cells:List (List (Int × Int))) (f:Int × Int→Bool):(cells.any fun l=>l.any f)=cells.flatten.any f:=by
  induction cells with
  | nil=>rfl
  | cons x r ih=>rw[List.any_cons,List.flatten_cons,List.any_append,ih]
theorem flat_take {cells:List (List (Int × Int))} {a:Nat} (h:a<cells.length):(cells.take (a+1)).flatten=(cells.take a).flatten++cells.getD a default:=by
  rw[take_snoc h,List.flatten_append];simp
theorem right_ok (m:Mdl) (x:Nd) (left:List (List Bool)) (hm:VM m) (hf:FitsP m left) (hg0:x.grp.length<9223372036854775808) (hc0:x.cells.length<9223372036854775808) (hcc0:∀ l∈x.cells,l.length<9223372036854775808) :
    Holds Tryz.prog 78 [.agg (eMdl m),.agg (eNd x),.tree 1 (rowsOf eBs left)] [] (.lit (.bool (crowdedB m x left))) []:=by
  have hc24:=hm.cls
  have hlf:=hf.1
  generalize hres:crowdedB m x left=res
  have cut1:=fun h=>hres.symm.trans (crowded_cut1 (m:=m) (x:=x) (left:=left) h)
  have cut2:=fun h=>hres.symm.trans (crowded_cut2 (m:=m) (x:=x) (left:=left) h)
  have cut3:=fun h=>hres.symm.trans (crowded_cut3 (m:=m) (x:=x) (left:=left) h)
  have cut4:=fun h=>hres.symm.trans (crowded_cut4 (m:=m) (x:=x) (left:=left) h)
  have ctrue:=fun h1 h2 h3 h4=>hres.symm.trans (crowded_true (m:=m) (x:=x) (left:=left) h1 h2 h3 h4)
  obtain ⟨xc,xk,xm,g,cells⟩:=x
  dsimp only at hg0 hc0 hcc0 cut1 cut2 cut3 cut4 ctrue
  refine Holds.of_body' (fn:=Tryz.f78) 208 0 [.tmp 6] Tryz.func78 rfl rfl rfl rfl rfl (by simp) ?_
  by_cases hlt:cells.length<g.length
  rotate_left
  · have hr:=cut2 hlt
    subst hr
    ((repeat' (first|refine Vb @eNd.eq_1 ?_|(refine Xi ?_ ?_<;>try intro ht)|exact Xx|fail)))
    exact RetOK_pure' rfl rfl
  ((repeat' (first|refine Va @eNd.eq_1 ?_|(refine Xi ?_ ?_<;>try intro ht)|exact Xx|fail)))
  have hN0:NB1 [(3,.arr 1 []),(0,.var (eMdl m)),(1,.var (eNd ⟨xc,xk,xm,g,cells⟩)),(2,.arr 1 (bools (List.replicate m.cls.length false)))] [] [] [.var (eMdl m),.var (eNd ⟨xc,xk,xm,g,cells⟩),.arr 1 (bools (List.replicate m.cls.length false)),.arr 1 []] :=
    ⟨by simp,rfl,by simp,(show ([3,0,1,2]:List Nat).Nodup by decide)⟩
  refine W_loopS (fun z:Nat × List (List Bool) × List Ob × Nat × List (Nat × Nat)=>(⟨slots [(2,.tree 1 (rowsOf eBs left)),(3,.ptr 0 0 0),(4,.ptr 1 0 0),(7,.ref 2 1 0 m.cls.length),(8,.ref z.2.2.2.1 1 0 z.2.2.2.2.length),(9,.lit (.int .i64 z.1))],z.2.2.1⟩:St))
    (fun z=>z.1≤m.cls.length∧z.2.1=(covR m []).take z.1∧NB1 [(z.2.2.2.1,.arr 1 (rowsOf eRb z.2.2.2.2)),(0,.var (eMdl m)),(1,.var (eNd ⟨xc,xk,xm,g,cells⟩)),(2,.arr 1 (bools (List.replicate m.cls.length false)))] z.2.2.2.2 z.2.1 z.2.2.1) (fun z=>m.cls.length - z.1) (0,[],[.var (eMdl m),.var (eNd ⟨xc,xk,xm,g,cells⟩),.arr 1 (bools (List.replicate m.cls.length false)),.arr 1 []],3,[]) ⟨Nat.zero_le _,rfl,hN0⟩ ?_ ?_
  · refine Turns.trans (Turns.nil 8 1 (by simp only[Kc,simprocAttr]) (by decide)) ?_
    exact Xv @eNd.eq_1
  rintro ⟨i,S,os,oi,D⟩ ⟨hi,hS,hB⟩ Ql hnl hel
  dsimp only at hi hS hB ⊢
  have hDl:=hB.len
  have fo:=hB.b0
  have fm:=hB.b1
  have fx:=hB.b2
  dsimp only at fm fo fx
  have hcl:=covR_len m []
  by_cases hi':i<m.cls.length
  · have hSl:S.length=i:=by rw[hS,List.length_take];omega
    have hts:(covR m []).take (i+1)=S++[List.replicate (m.cls.getD i default).length false]:=by
      rw[take_snoc (by omega),← hS,covR_nil,map_getD _ _ _ hi']
    have hl24:=hm.opt _ (getD_mem (l:=m.cls) (i:=i) (d:=default) hi')
    generalize hcc:m.cls.getD i default=c at *
    ((repeat' (first|refine Va (X5 @fm @hcc @eCls.eq_1 @fo (X5 (oLo fo) (oSo fo) @eRb_app @Oc2 (X3 @List.append_assoc.{0} @List.length_append.{0} @List.length_set.{0}))) ?_|(refine Xi ?_ ?_<;>try intro ht)|exact Xx|fail)))
    have hol:oi<os.length:=(List.getElem?_eq_some_iff.1 fo).1
    have hB2:=((hB.app [.arr 1 (bools (List.replicate c.length false))]).add (oL0 _ _ _) (hB.fresh (Nat.le_refl _))).snoc
    rw[List.length_replicate] at hB2
    obtain ⟨hB4,hfr⟩:=hB2.drop
    refine hnl _ (i+1,S++[List.replicate c.length false],os.set oi .gone++[.arr 1 (bools (List.replicate c.length false)),.arr 1 [[.ref os.length 1 0 c.length]],.arr 1 (rowsOf eRb (D++[(os.length,c.length)]))],os.length+2,D++[(os.length,c.length)]) ⟨by dsimp only;omega,hts.symm,?_⟩ (by dsimp only;omega) ?_
    · have hB5:=(hB4.other hfr .gone).app [.arr 1 [[.ref os.length 1 0 c.length]],.arr 1 (rowsOf eRb (D++[(os.length,c.length)]))]
      have hfr5:=(hB4.other hfr .gone).fresh (p:=os.length+2) (by simp)
      rw[List.set_append_left _ _ hol,List.append_assoc] at hB5
      refine hB5.add ?_ hfr5
      have hl3:(os.set oi Ob.gone).length=os.length:=List.length_set ..
      rw[← hl3,oLk];rfl
    · exact Xv X0
  · rw[List.take_of_length_le (by omega)] at hS
    subst hS
    ((repeat' (first|refine Va (X2 @fm @eNd.eq_1) ?_|(refine Xi ?_ ?_<;>try intro ht)|exact Xx|fail)))
    refine hel _ _ rfl ?_;clear hnl hel Ql
    repeat (refine Xu ?_)
    have hB1:NB1 [(2,.arr 1 (bools (inV m []))),(oi,.arr 1 (rowsOf eRb D)),(0,.var (eMdl m)),(1,.var (eNd ⟨xc,xk,xm,g,cells⟩))] D (covR m []) os:=by
      rw[inV_nil]
      have hp:[(oi,Ob.arr 1 (rowsOf eRb D)),(0,.var (eMdl m)),(1,.var (eNd ⟨xc,xk,xm,g,cells⟩)),(2,.arr 1 (bools (List.replicate m.cls.length false)))].Perm [(2,.arr 1 (bools (List.replicate m.cls.length false))),(oi,Ob.arr 1 (rowsOf eRb D)),(0,.var (eMdl m)),(1,.var (eNd ⟨xc,xk,xm,g,cells⟩))]:=List.perm_append_comm (l₁:=[_,_,_]) (l₂:=[_])
      exact⟨fun b hb=>hB.base b (hp.mem_iff.2 hb),hB.len,hB.row,(((hp.map (·.1)).append_right _).nodup_iff).1 hB.nd⟩
    have hD:D.length=m.cls.length:=by rw[hDl,hcl]
    rw[hD]
    clear hB fo fm fx hDl
    refine Va X0 ?_
    refine W_loopS (fun z:Nat × List Ob=>(⟨slots [(2,.tree 1 (rowsOf eBs left)),(3,.ptr 0 0 0),(4,.ptr 1 0 0),(7,.ref 2 1 0 m.cls.length),(8,.ref oi 1 0 m.cls.length),(10,.lit (.int .i64 z.1))],z.2⟩:St))
      (fun z=>z.1≤g.length∧(∀ a,a<z.1→decide (0≤g.getD a 0∧g.getD a 0<m.cls.length∧(a=0∨g.getD (a - 1) 0<g.getD a 0))=true)∧NB1 [(2,.arr 1 (bools (inV m (g.take z.1)))),(oi,.arr 1 (rowsOf eRb D)),(0,.var (eMdl m)),(1,.var (eNd ⟨xc,xk,xm,g,cells⟩))] D (covR m []) z.2) (fun z=>g.length - z.1) (0,os) ⟨Nat.zero_le _,fun a ha=>absurd ha (Nat.not_lt_zero _),hB1⟩ (Xv X0) ?_
    rintro ⟨i,os1⟩ ⟨hi,hall,hB2⟩ Ql hnl hel
    dsimp only at hi hall hB2 ⊢
    have f2:=hB2.b0
    have fo:=hB2.b1
    have fm:=hB2.b2
    have fx:=hB2.b3
    dsimp only at f2 fo fm fx
    by_cases hi':i<g.length
    · have hbad:=range_false (f:=fun i=>decide (0≤g.getD i 0∧g.getD i 0<m.cls.length∧(i=0∨g.getD (i - 1) 0<g.getD i 0))) hi'
      have hgo:decide (0≤g.getD i 0∧g.getD i 0<m.cls.length∧(i=0∨g.getD (i - 1) 0<g.getD i 0))=true→∀ a,a<i+1→decide (0≤g.getD a 0∧g.getD a 0<m.cls.length∧(a=0∨g.getD (a - 1) 0<g.getD a 0))=true:=fun h a ha=>by
        by_cases e:a=i
        · subst e;exact h
        · exact hall a (by omega)
      have hpr:0<i→((i:Int) - 1).toNat=i - 1∧i - 1<g.length:=fun h=>⟨by omega,by omega⟩
      have hix:0<i→g.getD ((i:Int) - 1).toNat 0=g.getD (i - 1) 0:=fun h=>by rw[(hpr h).1]
      have hts:g.take (i+1)=g.take i++[g.getD i 0]:=take_snoc hi'
      generalize hcc:g.getD i 0=c at *
      generalize hqq:g.getD (i - 1) 0=q at *
      have hil:=inV_len m (g.take i)
      by_cases hok:0≤c∧c<m.cls.length∧(i=0∨q<c)
      · obtain ⟨hok1,hok2,hok3⟩:=hok
        obtain ⟨c,rfl⟩:=Int.eq_ofNat_of_zero_le hok1
        rcases Nat.eq_zero_or_pos i with h0 | h0
        · ((repeat' (first|refine Va (X5 @eNd.eq_1 @fm @fx @hcc (X3 @f2 @hil @bools_set)) ?_|(refine V2 (X5 @eNd.eq_1 @fm @fx @hcc (X3 @f2 @hil @bools_set)) ?_ ?_<;>try with_reducible intro hb)|(refine Xi ?_ ?_<;>try intro ht)|exact Xx|fail)))
          refine hnl _ (i+1,os1.set 2 (.arr 1 (bools ((inV m (g.take i)).set c true)))) ⟨by dsimp only;omega,hgo (decide_eq_true ⟨hok1,hok2,hok3⟩),?_⟩ (by dsimp only;omega) (Xv @eNd.eq_1)
          dsimp only
          rw[hts,inV_snoc _ (by omega)]
          exact hB2.put _
        · have hix:=hix h0
          obtain ⟨hp1,hp2⟩:=hpr h0
          ((repeat' (first|refine Va (X5 @eNd.eq_1 @fm @fx @hcc (X4 @f2 @hil @bools_set @hix)) ?_|(refine V2 (X5 @eNd.eq_1 @fm @fx @hcc (X4 @f2 @hil @bools_set @hix)) ?_ ?_<;>try with_reducible intro hb)|(refine Xi ?_ ?_<;>try intro ht)|exact Xx|fail)))
          refine hnl _ (i+1,os1.set 2 (.arr 1 (bools ((inV m (g.take i)).set c true)))) ⟨by dsimp only;omega,hgo (decide_eq_true ⟨hok1,hok2,hok3⟩),?_⟩ (by dsimp only;omega) (Xv @eNd.eq_1)
          dsimp only
          rw[hts,inV_snoc _ (by omega)]
          exact hB2.put _
      · have hr:=cut1 (hbad (decide_eq_false hok))
        rcases Nat.eq_zero_or_pos i with h0 | h0
        · ((repeat' (first|refine Va (X5 @eNd.eq_1 @fm @fx @hcc (X2 @f2 @hil)) ?_|(refine V2 (X5 @eNd.eq_1 @fm @fx @hcc (X2 @f2 @hil)) ?_ ?_<;>try with_reducible intro hb)|(refine Xi ?_ ?_<;>try intro ht)|exact Xx|fail)))
          all_goals
            repeat (refine Xu ?_)
            ((repeat' (first|refine Vb X0 ?_|fail)))
            exact RetOK_pure' rfl (by rw[hr])
        · have hix:=hix h0
          obtain ⟨hp1,hp2⟩:=hpr h0
          ((repeat' (first|refine Va (X5 @eNd.eq_1 @fm @fx @hcc (X3 @f2 @hil @hix)) ?_|(refine V2 (X5 @eNd.eq_1 @fm @fx @hcc (X3 @f2 @hil @hix)) ?_ ?_<;>try with_reducible intro hb)|(refine Xi ?_ ?_<;>try intro ht)|exact Xx|fail)))
          all_goals
            repeat (refine Xu ?_)
            ((repeat' (first|refine Vb X0 ?_|fail)))
            exact RetOK_pure' rfl (by rw[hr])
    obtain rfl:i=g.length:=by omega
    have hgr:grB m g=true:=all_range.2 hall
    have hgm:=gr_mem hgr
    rw[List.take_length] at *
    clear hall cut1 cut2
    have ctrue:=ctrue hgr hlt
    ((repeat' (first|refine Va (X2 @fx @eNd.eq_1) ?_|(refine V2 (X2 @fx @eNd.eq_1) ?_ ?_<;>try with_reducible intro hb)|(refine Xi ?_ ?_<;>try intro ht)|exact Xx|fail)))
    refine hel _ _ rfl ?_;clear hnl hel Ql
    repeat (refine Xu ?_)
    clear fm fx f2 fo hB1
    refine Va X0 ?_
    refine W_loopS (fun z:Nat × List Ob=>(⟨slots [(2,.tree 1 (rowsOf eBs left)),(3,.ptr 0 0 0),(4,.ptr 1 0 0),(7,.ref 2 1 0 m.cls.length),(8,.ref oi 1 0 m.cls.length),(12,.lit (.int .i64 z.1))],z.2⟩:St))
      (fun z=>z.1≤cells.length∧(∀ a,a<z.1→cellB m g (cells.getD a default)=true)∧NB1 [(2,.arr 1 (bools (inV m g))),(oi,.arr 1 (rowsOf eRb D)),(0,.var (eMdl m)),(1,.var (eNd ⟨xc,xk,xm,g,cells⟩))] D (covR m (cells.take z.1).flatten) z.2) (fun z=>cells.length - z.1) (0,os1) ⟨Nat.zero_le _,fun a ha=>absurd ha (Nat.not_lt_zero _),hB2⟩ (Xv X0) ?_
    clear hB2 os1
    rintro ⟨a,os2⟩ ⟨ha,hca,hB3⟩ Ql hnl hel
    dsimp only at ha hca hB3 ⊢
    have fx:=hB3.b3
    dsimp only at fx
    by_cases ha':a<cells.length
    · have hmem:=getD_mem (l:=cells) (i:=a) (d:=default) ha'
      have hlb:=hcc0 _ hmem
      have hbad:cellB m g (cells.getD a default)=false→false=res:=fun h=>(cut3 (all_false hmem h)).symm
      have hts:=flat_take ha'
      have hgo:cellB m g (cells.getD a default)=true→∀ b,b<a+1→cellB m g (cells.getD b default)=true:=fun h b hb=>by
        by_cases e:b=a
        · subst e;exact h
        · exact hca b (by omega)
      generalize hll:cells.getD a default=l at *
      generalize (cells.take a).flatten=L0 at *
      ((repeat' (first|refine Va (X3 @fx @eNd.eq_1 @hll) ?_|(refine Xi ?_ ?_<;>try intro ht)|exact Xx|fail)))
      refine W_loopS (fun z:Nat × List Ob=>(⟨slots [(2,.tree 1 (rowsOf eBs left)),(3,.ptr 0 0 0),(4,.ptr 1 0 0),(7,.ref 2 1 0 m.cls.length),(8,.ref oi 1 0 m.cls.length),(12,.lit (.int .i64 a)),(13,.tree 2 (rowsOf eCh l)),(14,.lit (.int .i64 z.1))],z.2⟩:St))
        (fun z=>z.1≤l.length∧(∀ b,b<z.1→cellF m g l b=true)∧NB1 [(2,.arr 1 (bools (inV m g))),(oi,.arr 1 (rowsOf eRb D)),(0,.var (eMdl m)),(1,.var (eNd ⟨xc,xk,xm,g,cells⟩))] D (covR m (L0++l.take z.1)) z.2) (fun z=>l.length - z.1) (0,os2) ⟨Nat.zero_le _,fun a ha=>absurd ha (Nat.not_lt_zero _),by rw[List.take_zero,List.append_nil];exact hB3⟩ (Xv X0) ?_
      clear hB3 fx
      rintro ⟨k,os3⟩ ⟨hk,hfk,hB4⟩ Ql2 hnl2 hel2
      dsimp only at hk hfk hB4 ⊢
      have f2:=hB4.b0
      have fo:=hB4.b1
      have fm:=hB4.b2
      have fx:=hB4.b3
      dsimp only at f2 fo fm fx
      by_cases hk':k<l.length
      · have hbad2:cellF m g l k=false→false=res:=fun h=>hbad (range_false hk' h)
        have hts2:L0++l.take (k+1)=L0++l.take k++[l.getD k default]:=by rw[take_snoc hk',List.append_assoc]
        have hgo2:cellF m g l k=true→∀ b,b<k+1→cellF m g l b=true:=fun h b hb=>by
          by_cases e:b=k
          · subst e;exact h
          · exact hfk b (by omega)
        rcases hlk:l.getD k default with ⟨c,o⟩
        rw[hlk] at hts2
        rw[cellF_iff hlk] at hbad2 hgo2
        have hop:=refOption_ok m c o
        have hil:=inV_len m g
        cases hb:optB m c o
        · rw[hb] at hop
          have hr:=hbad2 (by rw[hb];simp)
          ((repeat' (first|refine Vc (X5 @eNd.eq_1 @fm @fx @hlk @eCh.eq_1) hop ?_|(refine Xi ?_ ?_<;>try intro ht)|exact Xx|fail)))
          all_goals
            repeat (refine Xu ?_)
            refine Vb X0 ?_
            exact RetOK_pure' rfl (by rw[hr])
        rw[hb] at hop
        obtain ⟨h01,h02,h03,h04⟩:=optB_iff.1 hb
        obtain ⟨c,rfl⟩:=Int.eq_ofNat_of_zero_le h01
        obtain ⟨o,rfl⟩:=Int.eq_ofNat_of_zero_le h03
        rw[Int.toNat_natCast] at h04
        have hig:=inV_get (m:=m) g (c:=c) (by omega)
        cases hin:g.contains (c:Int)
        · have hr:=hbad2 (by rw[hin];rfl)
          rw[hin] at hig
          ((repeat' (first|refine Vc (X5 @eNd.eq_1 @fm @fx @hlk (X4 @eCh.eq_1 @f2 @hil @hig)) hop ?_|(refine Xi ?_ ?_<;>try intro ht)|exact Xx|fail)))
          all_goals
            repeat (refine Xu ?_)
            refine Vb X0 ?_
            exact RetOK_pure' rfl (by rw[hr])
        rw[hin] at hig
        rw[hb,hin,Bool.true_and,Bool.true_and] at hbad2 hgo2
        have hcl:=covR_len m (L0++l.take k)
        have hDg:=eRb_D hB4 (j:=c) (by omega)
        obtain ⟨hrow,hrl⟩:=hB4.row c (by omega)
        have hcrl:((covR m (L0++l.take k)).getD c default).length=(m.cls.getD c default).length:=by rw[covR_row _ (by omega)];simp
        have hB5:=hB4.setRow (j:=c) (by omega) (r:=((covR m (L0++l.take k)).getD c default).set o true) (List.length_set ..)
        rw[← covR_snoc _ (by omega) (by omega),← hts2] at hB5
        generalize hrw:(covR m (L0++l.take k)).getD c default=row at *
        generalize hdd:D.getD c default=dd at *
        obtain ⟨dp,dn⟩:=dd
        dsimp only at hrow hDg hB5 hrl
        ((repeat' (first|refine Vc (X5 @eNd.eq_1 @fm @fx @hlk (X5 @eCh.eq_1 @f2 @hil @hig (X5 @fo @hDg @hrow @hcrl @bools_set))) hop ?_|(refine Xi ?_ ?_<;>try intro ht)|exact Xx|fail)))
        generalize os3.set dp (.arr 1 (bools (row.set o true)))=os4 at *
        have fm:=hB5.b2
        have fx:=hB5.b3
        dsimp only at fm fx
        refine W_loopS (fun z:Nat=>(⟨slots [(2,.tree 1 (rowsOf eBs left)),(3,.ptr 0 0 0),(4,.ptr 1 0 0),(7,.ref 2 1 0 m.cls.length),(8,.ref oi 1 0 m.cls.length),(12,.lit (.int .i64 a)),(13,.tree 2 (rowsOf eCh l)),(14,.lit (.int .i64 k)),(15,.lit (.int .i64 z))],os4⟩:St))
          (fun z=>z≤k∧∀ b,b<z→apB m (c,o) (l.getD b default)=true) (fun z=>k - z) 0 ⟨Nat.zero_le _,fun a ha=>absurd ha (Nat.not_lt_zero _)⟩ (Xv X0) ?_
        rintro j ⟨hj,hap⟩ Ql3 hnl3 hel3
        by_cases hj':j<k
        · have hbad3:apB m (c,o) (l.getD j default)=false→false=res:=fun h=>hbad2 (take_badF hk hj' h)
          have hgo3:apB m (c,o) (l.getD j default)=true→∀ b,b<j+1→apB m (c,o) (l.getD b default)=true:=fun h b hb=>by
            by_cases e:b=j
            · subst e;exact h
            · exact hap b (by omega)
          have hfj:=hfk j hj'
          rcases hlj:l.getD j default with ⟨d,p⟩
          rw[hlj] at hbad3 hgo3
          rw[cellF_iff hlj,Bool.and_eq_true,Bool.and_eq_true] at hfj
          have hex:=excluded_ok m d p c o hm hfj.1.2 hb
          by_cases hdc:d=c
          · subst hdc
            ((repeat' (first|refine Va (X5 @eNd.eq_1 @hlk @hlj @eCh.eq_1 @bne_self_eq_false.{0}) ?_|(refine Xi ?_ ?_<;>try intro ht)|exact Xx|fail)))
            exact hnl3 _ (j+1) ⟨by omega,hgo3 (by simp[apB])⟩ (by omega) (Xv X0)
          · have hap1:apB m ((c:Int),(o:Int)) (d,p)=clV m d p c o:=by
              unfold apB
              rw[decide_eq_false (fun h=>hdc h.symm),Bool.false_or]
              exact clV_comm (fun h=>hdc h.symm)
            rw[hap1] at hbad3 hgo3
            cases hcv:clV m d p c o
            · have hr:=hbad3 hcv
              rw[hcv] at hex
              ((repeat' (first|refine Vc (X5 @eNd.eq_1 @hlk @hlj @eCh.eq_1 @fm) hex ?_|(refine V2 (X5 @eNd.eq_1 @hlk @hlj @eCh.eq_1 @fm) ?_ ?_<;>try with_reducible intro hb)|(refine Xi ?_ ?_<;>try intro ht)|exact Xx|fail)))
              all_goals
                repeat (refine Xu ?_)
                refine Vb X0 ?_
                exact RetOK_pure' rfl (by rw[hr])
            · rw[hcv] at hex
              ((repeat' (first|refine Vc (X5 @eNd.eq_1 @hlk @hlj @eCh.eq_1 @fm) hex ?_|(refine V2 (X5 @eNd.eq_1 @hlk @hlj @eCh.eq_1 @fm) ?_ ?_<;>try with_reducible intro hb)|(refine Xi ?_ ?_<;>try intro ht)|exact Xx|fail)))
              exact hnl3 _ (j+1) ⟨by omega,hgo3 hcv⟩ (by omega) (Xv X0)
        · obtain rfl:j=k:=by omega
          ((repeat' (first|refine Va X0 ?_|(refine V2 X0 ?_ ?_<;>try with_reducible intro hb)|(refine Xi ?_ ?_<;>try intro ht)|exact Xx|fail)))
          refine hel3 _ _ rfl ?_
          clear hnl3 hel3 Ql3
          repeat (refine Xu ?_)
          refine Va X0 ?_
          exact hnl2 _ (j+1,os4) ⟨by dsimp only;omega,hgo2 (take_allF hk hap),hB5⟩ (by dsimp only;omega) (Xv X0)
      · obtain rfl:k=l.length:=by omega
        ((repeat' (first|refine Va X0 ?_|(refine Xi ?_ ?_<;>try intro ht)|exact Xx|fail)))
        refine hel2 _ _ rfl ?_
        clear hnl2 hel2 Ql2
        repeat (refine Xu ?_)
        refine Va X0 ?_
        rw[List.take_length,← hts] at hB4
        exact hnl _ (a+1,os3) ⟨by dsimp only;omega,hgo (all_range.2 hfk),hB4⟩ (by dsimp only;omega) (Xv X0)
    obtain rfl:a=cells.length:=by omega
    have hcells:cells.all (cellB m g)=true:=by
      rw[List.all_eq_true]
      intro c hc
      obtain ⟨b,hb,rfl⟩:=List.getElem_of_mem hc
      have:=hca b hb
      rwa [List.getD_eq_getElem?_getD,List.getElem?_eq_getElem hb] at this
    rw[List.take_length] at *
    clear hca cut3
    have ctrue:=ctrue hcells
    ((repeat' (first|refine Va (X2 @fx @eNd.eq_1) ?_|(refine Xi ?_ ?_<;>try intro ht)|exact Xx|fail)))
    refine hel _ _ rfl ?_;clear hnl hel Ql
    repeat (refine Xu ?_)
    have fo:=hB3.b1
    have fm:=hB3.b2
    dsimp only at fo fm
    have hcl:=covR_len m cells.flatten
    refine Va X0 ?_
    refine W_loopS (fun i:Nat=>(⟨slots [(2,.tree 1 (rowsOf eBs left)),(3,.ptr 0 0 0),(4,.ptr 1 0 0),(7,.ref 2 1 0 m.cls.length),(8,.ref oi 1 0 m.cls.length),(16,.lit (.int .i64 i))],os2⟩:St))
      (fun i=>i≤g.length∧∀ a,a<i→covB left cells (g.getD a 0)=true) (fun i=>g.length - i) 0 ⟨Nat.zero_le _,fun a ha=>absurd ha (Nat.not_lt_zero _)⟩ (Xv X0) ?_
    rintro i ⟨hi,hall⟩ Ql hnl hel
    by_cases hi':i<g.length
    · have hmem:=getD_mem (l:=g) (i:=i) (d:=0) hi'
      have hbad:covB left cells (g.getD i 0)=false→false=res:=fun h=>(cut4 (all_false hmem h)).symm
      have hcr:=hgm _ hmem
      have hgo:covB left cells (g.getD i 0)=true→∀ a,a<i+1→covB left cells (g.getD a 0)=true:=fun h a ha=>by
        by_cases e:a=i
        · subst e;exact h
        · exact hall a (by omega)
      generalize hcc:g.getD i 0=c at *
      obtain ⟨c,rfl⟩:=Int.eq_ofNat_of_zero_le hcr.1
      have hc1:c<m.cls.length:=by omega
      have hr24:=hf.row hm _ (getD_mem (l:=left) (i:=c) (d:=default) (by omega))
      have hlr:=hf.2 c (by omega)
      unfold covB at hbad hgo
      rw[Int.toNat_natCast] at hbad hgo
      have hDg:=eRb_D hB3 (j:=c) (by omega)
      obtain ⟨hrow,hrl⟩:=hB3.row c (by omega)
      have hcrl:((covR m cells.flatten).getD c default).length=(m.cls.getD c default).length:=by rw[covR_row _ (by omega)];simp
      have hcg:=fun o=>covR_get (m:=m) cells.flatten (o:=o) hc1
      rw[← hlr] at hcrl hcg
      generalize hrr:left.getD c default=row at *
      generalize hdd:D.getD c default=dd at *
      obtain ⟨dp,dn⟩:=dd
      dsimp only at hrow hDg hrl
      generalize hrw:(covR m cells.flatten).getD c default=crow at *
      ((repeat' (first|refine Va (X5 @eNd.eq_1 @hcc @fx @fo (X2 @hDg @hcrl)) ?_|(refine Xi ?_ ?_<;>try intro ht)|exact Xx|fail)))
      refine W_loopS (fun o:Nat=>(⟨slots [(2,.tree 1 (rowsOf eBs left)),(3,.ptr 0 0 0),(4,.ptr 1 0 0),(7,.ref 2 1 0 m.cls.length),(8,.ref oi 1 0 m.cls.length),(16,.lit (.int .i64 i)),(17,.lit (.int .i64 c)),(18,.lit (.int .i64 o))],os2⟩:St))
        (fun o=>o≤row.length∧∀ a,a<o→(!row.getD a false || cells.any fun l=>l.any (isC c a))=true) (fun o=>row.length - o) 0 ⟨Nat.zero_le _,fun a ha=>absurd ha (Nat.not_lt_zero _)⟩ (Xv @eNd.eq_1) ?_
      rintro o ⟨ho,hao⟩ Ql2 hnl2 hel2
      by_cases ho':o<row.length
      · have hbad2:=fun h=>hbad (range_false (f:=fun o:Nat=>!row.getD o false || cells.any fun l=>l.any (isC c o)) ho' h)
        have hgo2:(!row.getD o false || cells.any fun l=>l.any (isC c o))=true→∀ a,a<o+1→(!row.getD a false || cells.any fun l=>l.any (isC c a))=true:=fun h a ha=>by
          by_cases e:a=o
          · subst e;exact h
          · exact hao a (by omega)
        have hcg:=hcg o ho'
        rw[← cov_any] at hcg
        generalize hbb:row.getD o false=b at *
        generalize cells.any (fun l=>l.any (isC c o))=cov at *
        cases b
        · ((repeat' (first|refine Va (X5 @eNd.eq_1 @eBs.eq_1 @hrr @hbb (X4 @fo @hDg @hrow @hcrl)) ?_|(refine Xi ?_ ?_<;>try intro ht)|exact Xx|fail)))
          exact hnl2 _ (o+1) ⟨by omega,hgo2 rfl⟩ (by omega) (Xv @eNd.eq_1)
        · cases cov
          · have hr:=hbad2 rfl
            ((repeat' (first|refine Va (X5 @eNd.eq_1 @eBs.eq_1 @hrr @hbb (X5 @fo @hDg @hrow @hcrl @hcg)) ?_|(refine Xi ?_ ?_<;>try intro ht)|exact Xx|fail)))
            all_goals
              repeat (refine Xu ?_)
              refine Vb X0 ?_
              exact RetOK_pure' rfl (by rw[hr])
          · ((repeat' (first|refine Va (X5 @eNd.eq_1 @eBs.eq_1 @hrr @hbb (X5 @fo @hDg @hrow @hcrl @hcg)) ?_|(refine Xi ?_ ?_<;>try intro ht)|exact Xx|fail)))
            exact hnl2 _ (o+1) ⟨by omega,hgo2 rfl⟩ (by omega) (Xv @eNd.eq_1)
      · obtain rfl:o=row.length:=by omega
        ((repeat' (first|refine Va (X4 @fo @hDg @hrow @hcrl) ?_|(refine Xi ?_ ?_<;>try intro ht)|exact Xx|fail)))
        refine hel2 _ _ rfl ?_
        clear hnl2 hel2 Ql2
        repeat (refine Xu ?_)
        refine Va @eNd.eq_1 ?_
        exact hnl _ (i+1) ⟨by omega,hgo (all_range.2 hao)⟩ (by omega) (Xv X0)
    · obtain rfl:i=g.length:=by omega
      have hr:=ctrue (by
        rw[List.all_eq_true]
        intro c hc
        obtain ⟨a,ha,rfl⟩:=List.getElem_of_mem hc
        have:=hall a ha
        rwa [List.getD_eq_getElem?_getD,List.getElem?_eq_getElem ha] at this)
      ((repeat' (first|refine Va (X2 @fx @eNd.eq_1) ?_|(refine Xi ?_ ?_<;>try intro ht)|exact Xx|fail)))
      refine hel _ _ rfl ?_;clear hnl hel Ql
      repeat (refine Xu ?_)
      refine Vb X0 ?_
      exact RetOK_pure' rfl (by rw[hr])
end T

