import Derived.Test.YtfoopmojjjpapaaGreatX33
set_option linter.all false
set_option maxHeartbeats 0
set_option maxRecDepth 20000
open Nat renaming zero_le→aT,le_refl→bb
open List renaming getElem?_eq_some_iff→aR,length_take→e8,append_nil→pP,append_assoc→bC,length_append→bF,length_set→bK,take_of_length_le→c8,length_singleton→AL
open Bool renaming false_eq_true→iS
open Go Go.Am Go.Proofs
namespace T
def agY{m:ah}(hm:VM m){gi ai bi:Nat}{D E:List (Nat×Nat)}{S T:List (List Nm)}{os:List Ob}(h:LO aW (GB m gi ai bi D E) D E S T os){B:Int}(hg:LG m B (S,T)){left:List (List Bool)}(hf:df m left)(c:Nat)(hc:c<m.cls.length):
  cQ Tryz.prog 115 [.ptr gi 0 0,N0 c,.tree 1 (rowsOf aA left)] os λr ob=>gF os ob/\∃ id,r=.ref id 2 0 (jD (S.getD c default) (left.getD c default)).length/\ob[id]?=some (.arr 2 (rowsOf aW (jD (S.getD c default) (left.getD c default)))):=by
 obtain⟨fg,fa,fb⟩:=zV h;have hD:=h.rD.len;have jH:S.length=m.cls.length:=hg.s;have qH:=hm.cls;have iy:=hf.1;obtain⟨lz,yI⟩:=h.rD.row c Ix;have Hb:(S.getD c default).length=(m.cls.getD c default).length:=hg.sl c hc;have fh:=hf.2 c Ix;have Hf:=hm.opt _ (aG (l:=m.cls) (i:=c) (d:=default) hc);generalize bN:S.getD c default=row at *;generalize jt:left.getD c default=lc at *;refine cQ.aK 36 os.length [.tmp 6] Tryz.func115 ?_;refine Vb (X5 @fg @fa @gC.eq_1 @lz @cy.eq_1) ?_;have vS:(D.getD c default).2=row.length:=yI.symm;refine aU (λz:Nat×List Ob×Nat×List Nm=>(⟨an [(1,N0 c),(2,.tree 1 (rowsOf aA left)),(7,.ref z.2.2.1 2 0 z.2.2.2.length),(16,.ref (D.getD c default).1 2 0 row.length),(17,N0 row.length),(18,N0 z.1)],z.2.1⟩:St))
  (λz=>z.1<=row.length/\gF os z.2.1/\z.2.1[z.2.2.1]?=some (.arr 2 (rowsOf aW z.2.2.2))/\os.length<=z.2.2.1/\z.2.2.2=jD (row.take z.1) (lc.take z.1)/\z.2.2.2.length<=z.1)
  (λz=>row.length-z.1) (0,os++[.arr 2 []],os.length,[]) ⟨aT _,(gF.refl os).app _,kq _ _ _,bb _,rfl,bb _⟩ ?_ ?_
 ·refine aF.trans (aF.nil 7 2 (by simp only[Kc,simprocAttr]) NI) ?_;exact Xv @vS
 rintro⟨i,ob,ti,xs⟩⟨hi,aX,eL,ka,dq,qF⟩Ql ak ar;dsimp only at hi aX eL ka dq qF ⊢;have r1:=aX _ _ lz;have Hk:=aL r1;have rJ:=aL eL;have DV:=iD eL;have nk:=(aR.1 eL).1;by_cases aq:i<row.length
 ·have h1:=eZ aq;have h2:=eZ (l:=lc) (k:=i) Ix;have h3:=KG (row.getD i default) (lc.getD i default) (row.take i) (lc.take i) (by rw[e8,e8];omega);rw[<- h1,<- h2,<- dq]at h3;have sW:lc.getD i default=lc.getD i false:=rfl;rw[sW]at h3;generalize cu:row.getD i default=p at *;generalize vP:lc.getD i false=is at *;cases is
  ·simp only[iS,if_false,pP]at h3;((repeat'(first|refine Va (X5 @r1 @Hk @aW.eq_1 @cu (X4 @jt @vP @aA.eq_1 @bE)) ?_|(refine Xi ?_ ?_<;>try intro ht)|exact Xx|fail)))
   refine ak _ (i+1,ob++[.var (aW p)],ti,xs) ⟨NQ,aX.app _,rJ _,ka,h3.symm,NQ⟩ NQ ?_;exact Xv X0
  ·simp only[if_true]at h3;have L5:rowsOf aW xs++[[AV.lit (.int .i64 p.1),.lit (.bool p.2)]]=rowsOf aW (xs++[p]):=by simp[rowsOf,aW]
   ((repeat'(first|refine Va (X5 @r1 @Hk @eL @rJ (X5 @DV @aW.eq_1 @cu @jt (X5 @vP @aA.eq_1 @L5 @bE (X3 @bC.{0} @bF.{0} @bK.{0})))) ?_|(refine Xi ?_ ?_<;>try intro ht)|exact Xx|fail)))
   refine ak _ (i+1,ob.set ti .gone++[.var (aW p),.arr 2 [aW p],.arr 2 (rowsOf aW (xs++[p]))],ob.length+2,xs++[p]) ⟨NQ,(aX.set ka).app _,oH _ _ _ _ _,by dsimp only;have:=aX.len;omega,h3.symm,NS⟩ NQ ?_;exact Xv @aW.eq_1
 ·rw[c8 Ix,c8 Ix]at dq;((repeat'(first|refine Va X0 ?_|(refine Xi ?_ ?_<;>try intro ht)|exact Xx|fail)))
  refine ar _ _ rfl ?_;clear ak ar Ql;repeat(refine Xu ?_)
  refine Vb X0 ?_;unfold eH;simp only[dx,dv];simp(disch:=omega)only[Ac,↓Pc,simprocAttr];rw[<- dq];exact⟨_,_,⟨aX,ti,rfl,eL⟩,ed rfl aX.len rfl⟩
def ag0 {m:ah} (hm:VM m) {gi ai bi:Nat} {D E:List (Nat×Nat)} {S T:List (List Nm)} {os:List Ob} (h:LO aW (GB m gi ai bi D E) D E S T os) {B:Int} (hg:LG m B (S,T)) {left:List (List Bool)} (hf:df m left) (c:Nat) (hc:c<m.ae.length) :
    cQ Tryz.prog 116 [.ptr gi 0 0,N0 c,.tree 1 (rowsOf aA left)] os λr ob=>gF os ob/\∃ id,r=.ref id 2 0 (jD (T.getD c default) (ik m left c)).length/\ob[id]?=some (.arr 2 (rowsOf aW (jD (T.getD c default) (ik m left c)))):=by
  obtain ⟨fg,fa,fb⟩:=zV h
  have eg:=aL fg
  have ea:=aL fa
  have eb:=aL fb
  have hD:=h.rD.len
  have hE:=h.rE.len
  have jH:S.length=m.cls.length:=hg.s
  have ht1:T.length=m.ae.length:=hg.t
  have qH:=hm.cls
  have oL:=hm.ae
  have iy:=hf.1
  obtain ⟨rL,D2⟩:=h.rE.row c Ix
  have BT:(T.getD c default).length=(m.ae.getD c default).ax.length:=hg.tl c hc
  have dO:=jP hm.pr _ (aG (d:=default) hc)
  obtain ⟨LH,LI,LJ,D1⟩:=DY dO
  have nk:=BX dO hm
  have He:=hf.2 (m.ae.getD c default).fst.toNat Ix
  have rG:=hf.2 (m.ae.getD c default).snd.toNat Ix
  have hoa:=hm.opt _ (aG (l:=m.cls) (i:=(m.ae.getD c default).fst.toNat) (d:=default) Ix)
  have bI:=hm.opt _ (aG (l:=m.cls) (i:=(m.ae.getD c default).snd.toNat) (d:=default) Ix)
  obtain ⟨Hg,LX⟩:=h.rD.row (m.ae.getD c default).snd.toNat Ix
  have G5:(S.getD (m.ae.getD c default).snd.toNat default).length=(m.cls.getD (m.ae.getD c default).snd.toNat default).length:=hg.sl _ Ix
  have LS:ik m left c=qD (left.getD (m.ae.getD c default).fst.toNat default) (left.getD (m.ae.getD c default).snd.toNat default):=rfl
  have pK:=DA (left.getD (m.ae.getD c default).snd.toNat default) (left.getD (m.ae.getD c default).fst.toNat default)
  have YO:=GQ (left.getD (m.ae.getD c default).snd.toNat default) (left.getD (m.ae.getD c default).fst.toNat default)
  rw[<- LS] at pK YO
  generalize bN:T.getD c default=row at *
  generalize cu:m.ae.getD c default=p at *
  generalize D5:left.getD p.fst.toNat default=la at *
  generalize vR:left.getD p.snd.toNat default=lb at *
  generalize ik m left c=pb at *
  have w5:(D.getD p.snd.toNat default).2=lb.length:=by rw[<- LX,G5,rG]
  have bx:row.length=pb.length:=by
    rw[pK,He,rG,BT]
    have:=D1
    rw[<- Int.natCast_mul] at this
    exact Int.ofNat_inj.1 this
  have vS:(E.getD c default).2=row.length:=D2.symm
  have qp:=aL Hg
  have qe:=aL rL
  refine cQ.aK 70 os.length [.tmp 6] Tryz.func116 ?_
  (((refine Vb (X5 @fg @fa @fb @eg (X5 @ea @eb @gC.eq_1 @Hg (X5 @qp @rL @qe @cy.eq_1 (X5 @cu @aH.eq_1 @bE @w5 @vS)))) ?_)))
  refine aU (λz:Nat×List Ob×Nat×List Nm=>(⟨an [(2,.tree 1 (rowsOf aA left)),(7,.ptr os.length 0 0),(8,N0 lb.length),(9,.ref z.2.2.1 2 0 z.2.2.2.length),(35,.ref (E.getD c default).1 2 0 row.length),(36,N0 row.length),(37,N0 z.1)],z.2.1⟩:St))
    (λz=>z.1<=row.length/\gF (os++[.var (aH p)]) z.2.1/\z.2.1[z.2.2.1]?=some (.arr 2 (rowsOf aW z.2.2.2))/\os.length<z.2.2.1/\z.2.2.2=jD (row.take z.1) (pb.take z.1)/\z.2.2.2.length<=z.1)
    (λz=>row.length - z.1) (0,(os++[.var (aH p)])++[.arr 2 []],(os++[Ob.var (aH p)]).length,[]) ⟨aT _,(gF.refl _).app _,kq _ _ _,Iy,rfl,bb _⟩ ?_ ?_
  · refine aF.trans (aF.nil 9 2 (by simp only[Kc,simprocAttr]) NI) ?_
    exact Xv (X2 @vS @w5)
  rintro ⟨i,ob,ti,xs⟩ ⟨hi,aX,eL,ka,dq,qF⟩ Ql ak ar
  dsimp only at hi aX eL ka dq qF ⊢
  have r1:=aX _ _ (qe [.var (aH p)])
  have rv:ob[os.length]?=some (.var (aH p)):=aX _ _ (kq _ _ _)
  have Hk:=aL r1
  have erv:=aL rv
  have rJ:=aL eL
  have DV:=iD eL
  have amr:=(aR.1 eL).1
  have eW:=aX.len
  rw[bF,AL] at eW
  by_cases aq:i<row.length
  · have h1:=eZ aq
    have h2:=eZ (l:=pb) (k:=i) Ix
    have h3:=KG (row.getD i default) (pb.getD i default) (row.take i) (pb.take i) (by rw[e8,e8];omega)
    rw[<- h1,<- h2,<- dq] at h3
    have sW:pb.getD i default=(la.getD (i / lb.length) false && lb.getD (i % lb.length) false):=YO i Ix
    rw[sW] at h3
    have YP:0<lb.length:=by
      rcases Nat.eq_zero_or_pos lb.length with h0 | h0
      · rw[h0,Nat.mul_zero] at pK;omega
      · exact h0
    have hdiv:i / lb.length<la.length:=by rw[Nat.div_lt_iff_lt_mul YP];omega
    have sJ:=Nat.mod_lt i YP
    have hq:((i:Int).tdiv lb.length)=((i / lb.length:Nat):Int):=by rw[Int.tdiv_eq_ediv_of_nonneg Ix];simp
    have hr:((i:Int).tmod lb.length)=((i % lb.length:Nat):Int):=by rw[Int.tmod_eq_emod_of_nonneg Ix];simp
    have Hl:((i:Int) / (lb.length:Int))=((i / lb.length:Nat):Int):=Iy
    have jL:((i:Int) % (lb.length:Int))=((i % lb.length:Nat):Int):=Iy
    generalize hdd:i / lb.length=dd at *
    generalize wZ:i % lb.length=mm at *
    generalize Ag:row.getD i default=q at *
    generalize CR:la.getD dd false=ia at *
    generalize JH:lb.getD mm false=ib at *
    have L5:rowsOf aW xs++[[AV.lit (.int .i64 q.1),.lit (.bool q.2)]]=rowsOf aW (xs++[q]):=by simp[rowsOf,aW]
    cases ia<;>cases ib
    all_goals
      simp only[Bool.false_and,Bool.true_and,iS,if_false,if_true,pP] at h3
      ((repeat' (first|refine Va (X5 @r1 @Hk @rv @erv (X5 @eL @rJ @DV @aW.eq_1 (X5 @aH.eq_1 @Ag @D5 @vR (X5 @hq @hr @Hl @jL (X5 @CR @JH @aA.eq_1 @L5 (X5 @bE @Int.toNat_natCast @bC.{0} @bF.{0} @bK.{0})))))) ?_|(refine Xi ?_ ?_<;>try intro ht)|exact Xx|fail)))
    all_goals first
      | (refine ak _ (i+1,ob++[.var (aW q)],ti,xs) ⟨NQ,aX.app _,rJ _,ka,h3.symm,NQ⟩ NQ ?_
         exact Xv @aW.eq_1;done)
      | (refine ak _ (i+1,ob.set ti .gone++[.var (aW q),.arr 2 [aW q],.arr 2 (rowsOf aW (xs++[q]))],ob.length+2,xs++[q]) ⟨NQ,(aX.set (by rw[bF,AL];omega)).app _,oH _ _ _ _ _,NQ,h3.symm,NS⟩ NQ ?_
         exact Xv @aW.eq_1;done)
  · rw[c8 Ix,c8 Ix] at dq
    ((repeat' (first|refine Va X0 ?_|(refine Xi ?_ ?_<;>try intro ht)|exact Xx|fail)))
    refine ar _ _ rfl ?_;clear ak ar Ql
    repeat (refine Xu ?_)
    refine Vb X0 ?_
    unfold eH
    simp only[dx,dv]
    simp (disch:=omega) only[Ac,↓Pc,simprocAttr]
    rw[<- dq]
    refine⟨_,ob,⟨λk o hk=>aX k o (aL hk _),ti,rfl,eL⟩,ed rfl Ix rfl⟩
end T

