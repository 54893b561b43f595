import Derived.Test.YtfoopmojjjpapaaGreatX33
set_option linter.all false
set_option maxHeartbeats 0
set_option maxRecDepth 20000
open Nat renaming zero_le→aT,le_refl→bc
open List renaming getElem?_eq_some_iff→aR,length_take→e8,append_nil→pO,append_assoc→bC,length_append→bE,length_set→bK,take_of_length_le→c8,length_singleton→AI
open Bool renaming false_eq_true→iS
open Go Go.Am Go.Proofs
namespace T
def agU{m:ah}(hm:VM m){gi ai bi:Nat}{D E:List (Nat×Nat)}{S T:List (List Nm)}{os:List Ob}(h:LO aW (GB m gi ai bi D E) D E S T os){B:Int}(hg:LG m B (S,T)){left:List (List Bool)}(hf:df m left)(c:Nat)(hc:c<m.cls.length):
  cL Tryz.prog 115 [.ptr gi 0 0,NX c,.tree 1 (rowsOf aA left)] os λr ob=>gF os ob/\∃ id,r=.ref id 2 0 (jD (S.getD c default) (left.getD c default)).length/\ob[id]?=some (.arr 2 (rowsOf aW (jD (S.getD c default) (left.getD c default)))):=by
 obtain⟨fg,fa,fb⟩:=zT h;have hD:=h.rD.len;have jI:S.length=m.cls.length:=hg.s;have qG:=hm.cls;have iy:=hf.1;obtain⟨lz,yG⟩:=h.rD.row c Iv;have G9:(S.getD c default).length=(m.cls.getD c default).length:=hg.sl c hc;have fh:=hf.2 c Iv;have Hb:=hm.opt _ (aG (l:=m.cls) (i:=c) (d:=default) hc);generalize bN:S.getD c default=row at *;generalize jt:left.getD c default=lc at *;refine cL.aK 36 os.length [.tmp 6] Tryz.func115 ?_;refine Vb (X5 @fg @fa @gC.eq_1 @lz @cu.eq_1) ?_;have vQ:(D.getD c default).2=row.length:=yG.symm;refine aU (λz:Nat×List Ob×Nat×List Nm=>(⟨an [(1,NX c),(2,.tree 1 (rowsOf aA left)),(7,.ref z.2.2.1 2 0 z.2.2.2.length),(16,.ref (D.getD c default).1 2 0 row.length),(17,NX row.length),(18,NX z.1)],z.2.1⟩:St))
  (λz=>z.1<=row.length/\gF os z.2.1/\z.2.1[z.2.2.1]?=some (.arr 2 (rowsOf aW z.2.2.2))/\os.length<=z.2.2.1/\z.2.2.2=jD (row.take z.1) (lc.take z.1)/\z.2.2.2.length<=z.1)
  (λz=>row.length-z.1) (0,os++[.arr 2 []],os.length,[]) ⟨aT _,(gF.refl os).app _,kq _ _ _,bc _,rfl,bc _⟩ ?_ ?_
 ·refine aF.trans (aF.nil 7 2 (by simp only[Kc,simprocAttr]) NF) ?_;exact Xv @vQ
 rintro⟨i,ob,ti,xs⟩⟨hi,aX,eL,kd,dp,qE⟩Ql ak ar;dsimp only at hi aX eL kd dp qE ⊢;have r1:=aX _ _ lz;have Hh:=aM r1;have rJ:=aM eL;have DR:=iN eL;have nk:=(aR.1 eL).1;by_cases aq:i<row.length
 ·have h1:=eZ aq;have h2:=eZ (l:=lc) (k:=i) Iv;have h3:=KE (row.getD i default) (lc.getD i default) (row.take i) (lc.take i) (by rw[e8,e8];omega);rw[<- h1,<- h2,<- dp]at h3;have sV:lc.getD i default=lc.getD i false:=rfl;rw[sV]at h3;generalize cr:row.getD i default=p at *;generalize vN:lc.getD i false=is at *;cases is
  ·simp only[iS,if_false,pO]at h3;((repeat'(first|refine Va (X5 @r1 @Hh @aW.eq_1 @cr (X4 @jt @vN @aA.eq_1 @bF)) ?_|(refine Xi ?_ ?_<;>try intro ht)|exact Xx|fail)))
   refine ak _ (i+1,ob++[.var (aW p)],ti,xs) ⟨NN,aX.app _,rJ _,kd,h3.symm,NN⟩ NN ?_;exact Xv X0
  ·simp only[if_true]at h3;have L1:rowsOf aW xs++[[AV.lit (.int .i64 p.1),.lit (.bool p.2)]]=rowsOf aW (xs++[p]):=by simp[rowsOf,aW]
   ((repeat'(first|refine Va (X5 @r1 @Hh @eL @rJ (X5 @DR @aW.eq_1 @cr @jt (X5 @vN @aA.eq_1 @L1 @bF (X3 @bC.{0} @bE.{0} @bK.{0})))) ?_|(refine Xi ?_ ?_<;>try intro ht)|exact Xx|fail)))
   refine ak _ (i+1,ob.set ti .gone++[.var (aW p),.arr 2 [aW p],.arr 2 (rowsOf aW (xs++[p]))],ob.length+2,xs++[p]) ⟨NN,(aX.set kd).app _,oH _ _ _ _ _,by dsimp only;have:=aX.len;omega,h3.symm,NP⟩ NN ?_;exact Xv @aW.eq_1
 ·rw[c8 Iv,c8 Iv]at dp;((repeat'(first|refine Va X0 ?_|(refine Xi ?_ ?_<;>try intro ht)|exact Xx|fail)))
  refine ar _ _ rfl ?_;clear ak ar Ql;repeat(refine Xu ?_)
  refine Vb X0 ?_;unfold eH;simp only[dx,du];simp(disch:=omega)only[Ac,↓Pc,simprocAttr];rw[<- dp];exact⟨_,_,⟨aX,ti,rfl,eL⟩,ed rfl aX.len rfl⟩
def agW {m:ah} (hm:VM m) {gi ai bi:Nat} {D E:List (Nat×Nat)} {S T:List (List Nm)} {os:List Ob} (h:LO aW (GB m gi ai bi D E) D E S T os) {B:Int} (hg:LG m B (S,T)) {left:List (List Bool)} (hf:df m left) (c:Nat) (hc:c<m.ae.length) :
    cL Tryz.prog 116 [.ptr gi 0 0,NX c,.tree 1 (rowsOf aA left)] os λr ob=>gF os ob/\∃ id,r=.ref id 2 0 (jD (T.getD c default) (ik m left c)).length/\ob[id]?=some (.arr 2 (rowsOf aW (jD (T.getD c default) (ik m left c)))):=by
  obtain ⟨fg,fa,fb⟩:=zT h
  have eg:=aM fg
  have ea:=aM fa
  have eb:=aM fb
  have hD:=h.rD.len
  have hE:=h.rE.len
  have jI:S.length=m.cls.length:=hg.s
  have ht1:T.length=m.ae.length:=hg.t
  have qG:=hm.cls
  have oL:=hm.ae
  have iy:=hf.1
  obtain ⟨rL,DZ⟩:=h.rE.row c Iv
  have BO:(T.getD c default).length=(m.ae.getD c default).ax.length:=hg.tl c hc
  have dN:=jQ hm.pr _ (aG (d:=default) hc)
  obtain ⟨LC,LD,LF,DY⟩:=DV dN
  have nk:=BT dN hm
  have Ha:=hf.2 (m.ae.getD c default).fst.toNat Iv
  have rG:=hf.2 (m.ae.getD c default).snd.toNat Iv
  have hoa:=hm.opt _ (aG (l:=m.cls) (i:=(m.ae.getD c default).fst.toNat) (d:=default) Iv)
  have bI:=hm.opt _ (aG (l:=m.cls) (i:=(m.ae.getD c default).snd.toNat) (d:=default) Iv)
  obtain ⟨Hd,LU⟩:=h.rD.row (m.ae.getD c default).snd.toNat Iv
  have G2:(S.getD (m.ae.getD c default).snd.toNat default).length=(m.cls.getD (m.ae.getD c default).snd.toNat default).length:=hg.sl _ Iv
  have LN:ik m left c=qC (left.getD (m.ae.getD c default).fst.toNat default) (left.getD (m.ae.getD c default).snd.toNat default):=rfl
  have pJ:=Dy (left.getD (m.ae.getD c default).snd.toNat default) (left.getD (m.ae.getD c default).fst.toNat default)
  have YK:=GN (left.getD (m.ae.getD c default).snd.toNat default) (left.getD (m.ae.getD c default).fst.toNat default)
  rw[<- LN] at pJ YK
  generalize bN:T.getD c default=row at *
  generalize cr:m.ae.getD c default=p at *
  generalize D2:left.getD p.fst.toNat default=la at *
  generalize vP:left.getD p.snd.toNat default=lb at *
  generalize ik m left c=pb at *
  have wY:(D.getD p.snd.toNat default).2=lb.length:=by rw[<- LU,G2,rG]
  have bx:row.length=pb.length:=by
    rw[pJ,Ha,rG,BO]
    have:=DY
    rw[<- Int.natCast_mul] at this
    exact Int.ofNat_inj.1 this
  have vQ:(E.getD c default).2=row.length:=DZ.symm
  have qp:=aM Hd
  have qe:=aM rL
  refine cL.aK 70 os.length [.tmp 6] Tryz.func116 ?_
  (((refine Vb (X5 @fg @fa @fb @eg (X5 @ea @eb @gC.eq_1 @Hd (X5 @qp @rL @qe @cu.eq_1 (X5 @cr @aH.eq_1 @bF @wY @vQ)))) ?_)))
  refine aU (λz:Nat×List Ob×Nat×List Nm=>(⟨an [(2,.tree 1 (rowsOf aA left)),(7,.ptr os.length 0 0),(8,NX lb.length),(9,.ref z.2.2.1 2 0 z.2.2.2.length),(35,.ref (E.getD c default).1 2 0 row.length),(36,NX row.length),(37,NX z.1)],z.2.1⟩:St))
    (λz=>z.1<=row.length/\gF (os++[.var (aH p)]) z.2.1/\z.2.1[z.2.2.1]?=some (.arr 2 (rowsOf aW z.2.2.2))/\os.length<z.2.2.1/\z.2.2.2=jD (row.take z.1) (pb.take z.1)/\z.2.2.2.length<=z.1)
    (λz=>row.length - z.1) (0,(os++[.var (aH p)])++[.arr 2 []],(os++[Ob.var (aH p)]).length,[]) ⟨aT _,(gF.refl _).app _,kq _ _ _,Iw,rfl,bc _⟩ ?_ ?_
  · refine aF.trans (aF.nil 9 2 (by simp only[Kc,simprocAttr]) NF) ?_
    exact Xv (X2 @vQ @wY)
  rintro ⟨i,ob,ti,xs⟩ ⟨hi,aX,eL,kd,dp,qE⟩ Ql ak ar
  dsimp only at hi aX eL kd dp qE ⊢
  have r1:=aX _ _ (qe [.var (aH p)])
  have rv:ob[os.length]?=some (.var (aH p)):=aX _ _ (kq _ _ _)
  have Hh:=aM r1
  have erv:=aM rv
  have rJ:=aM eL
  have DR:=iN eL
  have amp:=(aR.1 eL).1
  have eW:=aX.len
  rw[bE,AI] at eW
  by_cases aq:i<row.length
  · have h1:=eZ aq
    have h2:=eZ (l:=pb) (k:=i) Iv
    have h3:=KE (row.getD i default) (pb.getD i default) (row.take i) (pb.take i) (by rw[e8,e8];omega)
    rw[<- h1,<- h2,<- dp] at h3
    have sV:pb.getD i default=(la.getD (i / lb.length) false && lb.getD (i % lb.length) false):=YK i Iv
    rw[sV] at h3
    have YL:0<lb.length:=by
      rcases Nat.eq_zero_or_pos lb.length with h0 | h0
      · rw[h0,Nat.mul_zero] at pJ;omega
      · exact h0
    have hdiv:i / lb.length<la.length:=by rw[Nat.div_lt_iff_lt_mul YL];omega
    have sI:=Nat.mod_lt i YL
    have hq:((i:Int).tdiv lb.length)=((i / lb.length:Nat):Int):=by rw[Int.tdiv_eq_ediv_of_nonneg Iv];simp
    have hr:((i:Int).tmod lb.length)=((i % lb.length:Nat):Int):=by rw[Int.tmod_eq_emod_of_nonneg Iv];simp
    have Hi:((i:Int) / (lb.length:Int))=((i / lb.length:Nat):Int):=Iw
    have jM:((i:Int) % (lb.length:Int))=((i % lb.length:Nat):Int):=Iw
    generalize hdd:i / lb.length=dd at *
    generalize wW:i % lb.length=mm at *
    generalize Ae:row.getD i default=q at *
    generalize CP:la.getD dd false=ia at *
    generalize JF:lb.getD mm false=ib at *
    have L1:rowsOf aW xs++[[AV.lit (.int .i64 q.1),.lit (.bool q.2)]]=rowsOf aW (xs++[q]):=by simp[rowsOf,aW]
    cases ia<;>cases ib
    all_goals
      simp only[Bool.false_and,Bool.true_and,iS,if_false,if_true,pO] at h3
      ((repeat' (first|refine Va (X5 @r1 @Hh @rv @erv (X5 @eL @rJ @DR @aW.eq_1 (X5 @aH.eq_1 @Ae @D2 @vP (X5 @hq @hr @Hi @jM (X5 @CP @JF @aA.eq_1 @L1 (X5 @bF @Int.toNat_natCast @bC.{0} @bE.{0} @bK.{0})))))) ?_|(refine Xi ?_ ?_<;>try intro ht)|exact Xx|fail)))
    all_goals first
      | (refine ak _ (i+1,ob++[.var (aW q)],ti,xs) ⟨NN,aX.app _,rJ _,kd,h3.symm,NN⟩ NN ?_
         exact Xv @aW.eq_1;done)
      | (refine ak _ (i+1,ob.set ti .gone++[.var (aW q),.arr 2 [aW q],.arr 2 (rowsOf aW (xs++[q]))],ob.length+2,xs++[q]) ⟨NN,(aX.set (by rw[bE,AI];omega)).app _,oH _ _ _ _ _,NN,h3.symm,NP⟩ NN ?_
         exact Xv @aW.eq_1;done)
  · rw[c8 Iv,c8 Iv] at dp
    ((repeat' (first|refine Va X0 ?_|(refine Xi ?_ ?_<;>try intro ht)|exact Xx|fail)))
    refine ar _ _ rfl ?_;clear ak ar Ql
    repeat (refine Xu ?_)
    refine Vb X0 ?_
    unfold eH
    simp only[dx,du]
    simp (disch:=omega) only[Ac,↓Pc,simprocAttr]
    rw[<- dp]
    refine⟨_,ob,⟨λk o hk=>aX k o (aM hk _),ti,rfl,eL⟩,ed rfl Iv rfl⟩
end T

