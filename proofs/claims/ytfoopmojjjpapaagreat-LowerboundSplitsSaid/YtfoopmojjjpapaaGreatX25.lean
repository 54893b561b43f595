import Derived.Test.YtfoopmojjjpapaaGreatX24
set_option linter.all false
set_option maxHeartbeats 0
set_option maxRecDepth 20000
open Nat renaming zero_le→aP,le_refl→aZ,eq_zero_or_pos→pD,min_eq_left→yr
open List renaming getElem?_eq_some_iff→aY,length_take→e9,append_nil→n9,append_assoc→bH,length_append→bN,length_set→bJ,take_of_length_le→dt,length_singleton→yv,length_map→gD,map_append→dU,take→jd,drop→eQ,mem_append→cG,mem_singleton→cS,replicate→aK,map_take→Hh,map_replicate→KT
open Bool renaming false_eq_true→jB,not_false→kP
open And renaming intro→cD
open Go Go.Am Go.Proofs
namespace T
def ajo{m:ah}(hm:VM m){gi ai bi:Nat}{D E:List (Nat×Nat)}{S T:List (List Nm)}{os:List Ob}(h:LO bb (GB m gi ai bi D E) D E S T os){B:Int}(hg:LG m B (S,T)){left:List (List Bool)}(hf:cK m left)(c:Nat)(hc:c<m.cls.length):
  dv Tryz.prog 115 [.ptr gi 0 0,QM c,.tree 1 (rowsOf aA left)] os λr ob=>iG os ob/\∃ id,r=.ref id 2 0 (kk (S.getD c default) (left.getD c default)).length/\ob[id]?=some (.arr 2 (rowsOf bb (kk (S.getD c default) (left.getD c default)))):=by
 obtain⟨fg,fa,fb⟩:=BZ h;have hD:=h.rD.len;have jD:S.length=m.cls.length:=hg.s;have sL:=hm.cls;have jg:=hf.1;obtain⟨mN,Ao⟩:=h.rD.row c Ey;have FQ:(S.getD c default).length=(m.cls.getD c default).length:=hg.sl c hc;have eY:=hf.2 c Ey;have I2:=hm.opt _ (aF (l:=m.cls) (i:=c) (d:=default) hc);generalize bK:S.getD c default=row at *;generalize j6:left.getD c default=lc at *;refine dv.aM 36 os.length [.tmp 6] Tryz.func115 ?_;refine Vb (X5 @fg @fa @gC.eq_1 @mN @cL.eq_1) ?_;have xM:(D.getD c default).2=row.length:=Ao.symm;refine aQ (λz:Nat×List Ob×Nat×List Nm=>(⟨ar [(1,QM c),(2,.tree 1 (rowsOf aA left)),(7,.ref z.2.2.1 2 0 z.2.2.2.length),(16,.ref (D.getD c default).1 2 0 row.length),(17,QM row.length),(18,QM z.1)],z.2.1⟩:St))
  (λz=>z.1<=row.length/\iG os z.2.1/\z.2.1[z.2.2.1]?=some (.arr 2 (rowsOf bb z.2.2.2))/\os.length<=z.2.2.1/\z.2.2.2=kk (row.take z.1) (lc.take z.1)/\z.2.2.2.length<=z.1)
  (λz=>row.length-z.1) (0,os++[.arr 2 []],os.length,[]) ⟨aP _,(iG.refl os).app _,kF _ _ _,aZ _,rfl,aZ _⟩ ?_ ?_
 ·refine aD.trans (aD.nil 7 2 (by simp only[Kc,simprocAttr]) Hg) ?_;exact Xv @xM
 rintro⟨i,ob,ti,xs⟩⟨hi,bk,fD,lg,cJ,uP⟩Ql ak aq;dsimp only at hi bk fD lg cJ uP ⊢;have r1:=bk _ _ mN;have I3:=aR r1;have tJ:=aR fD;have FR:=jm fD;have oJ:=(aY.1 fD).1;by_cases au:i<row.length
 ·have h1:=ep au;have h2:=ep (l:=lc) (k:=i) Ey;have h3:=NK (row.getD i default) (lc.getD i default) (row.take i) (lc.take i) (by rw[e9,e9];omega);rw[<- h1,<- h2,<- cJ]at h3;have u5:lc.getD i default=lc.getD i false:=rfl;rw[u5]at h3;generalize cu:row.getD i default=p at *;generalize py:lc.getD i false=is at *;cases is
  ·simp only[jB,if_false,n9]at h3;((repeat'(first|refine Va (X5 @r1 @I3 @bb.eq_1 @cu (X4 @j6 @py @aA.eq_1 @bT)) ?_|(refine Xi ?_ ?_<;>try intro ht)|exact Xx|fail)))
   refine ak _ (i+1,ob++[.var (bb p)],ti,xs) ⟨Hi,bk.app _,tJ _,lg,h3.symm,Hi⟩ Hi ?_;exact Xv X0
  ·simp only[if_true]at h3;have NS:rowsOf bb xs++[[AV.lit (.int .i64 p.1),.lit (.bool p.2)]]=rowsOf bb (xs++[p]):=by simp[rowsOf,bb]
   ((repeat'(first|refine Va (X5 @r1 @I3 @fD @tJ (X5 @FR @bb.eq_1 @cu @j6 (X5 @py @aA.eq_1 @NS @bT (X3 @bH.{0} @bN.{0} @bJ.{0})))) ?_|(refine Xi ?_ ?_<;>try intro ht)|exact Xx|fail)))
   refine ak _ (i+1,ob.set ti .gone++[.var (bb p),.arr 2 [bb p],.arr 2 (rowsOf bb (xs++[p]))],ob.length+2,xs++[p]) ⟨Hi,(bk.set lg).app _,q7 _ _ _ _ _,by dsimp only;have:=bk.len;omega,h3.symm,Hj⟩ Hi ?_;exact Xv @bb.eq_1
 ·rw[dt Ey,dt Ey]at cJ;((repeat'(first|refine Va X0 ?_|(refine Xi ?_ ?_<;>try intro ht)|exact Xx|fail)))
  refine aq _ _ rfl ?_;clear ak aq Ql;repeat(refine Xu ?_)
  refine Vb X0 ?_;unfold fU;simp only[dV,dP];simp(disch:=omega)only[Ac,↓Pc,simprocAttr];rw[<- cJ];exact⟨_,_,⟨bk,ti,rfl,fD⟩,eN rfl bk.len rfl⟩
def ajp {m:ah} (hm:VM m) {gi ai bi:Nat} {D E:List (Nat×Nat)} {S T:List (List Nm)} {os:List Ob} (h:LO bb (GB m gi ai bi D E) D E S T os) {B:Int} (hg:LG m B (S,T)) {left:List (List Bool)} (hf:cK m left) (c:Nat) (hc:c<m.ae.length) :
    dv Tryz.prog 116 [.ptr gi 0 0,QM c,.tree 1 (rowsOf aA left)] os λr ob=>iG os ob/\∃ id,r=.ref id 2 0 (kk (T.getD c default) (jb m left c)).length/\ob[id]?=some (.arr 2 (rowsOf bb (kk (T.getD c default) (jb m left c)))):=by
  obtain ⟨fg,fa,fb⟩:=BZ h
  have eg:=aR fg
  have ea:=aR fa
  have eb:=aR fb
  have hD:=h.rD.len
  have hE:=h.rE.len
  have jD:S.length=m.cls.length:=hg.s
  have ht1:T.length=m.ae.length:=hg.t
  have sL:=hm.cls
  have p6:=hm.ae
  have jg:=hf.1
  obtain ⟨tK,FT⟩:=h.rE.row c Ey
  have DU:(T.getD c default).length=(m.ae.getD c default).aB.length:=hg.tl c hc
  have dY:=kC hm.pr _ (aF (d:=default) hc)
  obtain ⟨NT,NU,NV,FU⟩:=FV dY
  have oJ:=DV dY hm
  have I4:=hf.2 (m.ae.getD c default).fst.toNat Ey
  have xF:=hf.2 (m.ae.getD c default).snd.toNat Ey
  have hoa:=hm.opt _ (aF (l:=m.cls) (i:=(m.ae.getD c default).fst.toNat) (d:=default) Ey)
  have bS:=hm.opt _ (aF (l:=m.cls) (i:=(m.ae.getD c default).snd.toNat) (d:=default) Ey)
  obtain ⟨I5,NW⟩:=h.rD.row (m.ae.getD c default).snd.toNat Ey
  have I6:(S.getD (m.ae.getD c default).snd.toNat default).length=(m.cls.getD (m.ae.getD c default).snd.toNat default).length:=hg.sl _ Ey
  have NX:jb m left c=sK (left.getD (m.ae.getD c default).fst.toNat default) (left.getD (m.ae.getD c default).snd.toNat default):=rfl
  have yV:=DQ (left.getD (m.ae.getD c default).snd.toNat default) (left.getD (m.ae.getD c default).fst.toNat default)
  have yW:=FY (left.getD (m.ae.getD c default).snd.toNat default) (left.getD (m.ae.getD c default).fst.toNat default)
  rw[<- NX] at yV yW
  generalize bK:T.getD c default=row at *
  generalize cu:m.ae.getD c default=p at *
  generalize FZ:left.getD p.fst.toNat default=la at *
  generalize xT:left.getD p.snd.toNat default=lb at *
  generalize jb m left c=pb at *
  have yO:(D.getD p.snd.toNat default).2=lb.length:=by rw[<- NW,I6,xF]
  have bm:row.length=pb.length:=by
    rw[yV,I4,xF,DU]
    have:=FU
    rw[<- Int.natCast_mul] at this
    exact Int.ofNat_inj.1 this
  have xM:(E.getD c default).2=row.length:=FT.symm
  have qp:=aR I5
  have qe:=aR tK
  refine dv.aM 70 os.length [.tmp 6] Tryz.func116 ?_
  (((refine Vb (X5 @fg @fa @fb @eg (X5 @ea @eb @gC.eq_1 @I5 (X5 @qp @tK @qe @cL.eq_1 (X5 @cu @aI.eq_1 @bT @yO @xM)))) ?_)))
  refine aQ (λz:Nat×List Ob×Nat×List Nm=>(⟨ar [(2,.tree 1 (rowsOf aA left)),(7,.ptr os.length 0 0),(8,QM lb.length),(9,.ref z.2.2.1 2 0 z.2.2.2.length),(35,.ref (E.getD c default).1 2 0 row.length),(36,QM row.length),(37,QM z.1)],z.2.1⟩:St))
    (λz=>z.1<=row.length/\iG (os++[.var (aI p)]) z.2.1/\z.2.1[z.2.2.1]?=some (.arr 2 (rowsOf bb z.2.2.2))/\os.length<z.2.2.1/\z.2.2.2=kk (row.take z.1) (pb.take z.1)/\z.2.2.2.length<=z.1)
    (λz=>row.length - z.1) (0,(os++[.var (aI p)])++[.arr 2 []],(os++[Ob.var (aI p)]).length,[]) ⟨aP _,(iG.refl _).app _,kF _ _ _,G9,rfl,aZ _⟩ ?_ ?_
  · refine aD.trans (aD.nil 9 2 (by simp only[Kc,simprocAttr]) Hg) ?_
    exact Xv (X2 @xM @yO)
  rintro ⟨i,ob,ti,xs⟩ ⟨hi,bk,fD,lg,cJ,uP⟩ Ql ak aq
  dsimp only at hi bk fD lg cJ uP ⊢
  have r1:=bk _ _ (qe [.var (aI p)])
  have rv:ob[os.length]?=some (.var (aI p)):=bk _ _ (kF _ _ _)
  have I3:=aR r1
  have erv:=aR rv
  have tJ:=aR fD
  have FR:=jm fD
  have aqp:=(aY.1 fD).1
  have eF:=bk.len
  rw[bN,yv] at eF
  by_cases au:i<row.length
  · have h1:=ep au
    have h2:=ep (l:=pb) (k:=i) Ey
    have h3:=NK (row.getD i default) (pb.getD i default) (row.take i) (pb.take i) (by rw[e9,e9];omega)
    rw[<- h1,<- h2,<- cJ] at h3
    have u5:pb.getD i default=(la.getD (i / lb.length) false && lb.getD (i % lb.length) false):=yW i Ey
    rw[u5] at h3
    have aaK:0<lb.length:=by
      rcases pD lb.length with h0 | h0
      · rw[h0,Nat.mul_zero] at yV;omega
      · exact h0
    have hdiv:i / lb.length<la.length:=by rw[Nat.div_lt_iff_lt_mul aaK];omega
    have uF:=Nat.mod_lt i aaK
    have hq:((i:Int).tdiv lb.length)=((i / lb.length:Nat):Int):=by rw[Int.tdiv_eq_ediv_of_nonneg Ey];simp
    have hr:((i:Int).tmod lb.length)=((i % lb.length:Nat):Int):=by rw[Int.tmod_eq_emod_of_nonneg Ey];simp
    have Ip:((i:Int) / (lb.length:Int))=((i / lb.length:Nat):Int):=G9
    have eR:((i:Int) % (lb.length:Int))=((i % lb.length:Nat):Int):=G9
    generalize hdd:i / lb.length=dd at *
    generalize yM:i % lb.length=mm at *
    generalize yI:row.getD i default=q at *
    generalize EY:la.getD dd false=ia at *
    generalize Me:lb.getD mm false=ib at *
    have NS:rowsOf bb xs++[[AV.lit (.int .i64 q.1),.lit (.bool q.2)]]=rowsOf bb (xs++[q]):=by simp[rowsOf,bb]
    cases ia<;>cases ib
    all_goals
      simp only[Bool.false_and,Bool.true_and,jB,if_false,if_true,n9] at h3
      ((repeat' (first|refine Va (X5 @r1 @I3 @rv @erv (X5 @fD @tJ @FR @bb.eq_1 (X5 @aI.eq_1 @yI @FZ @xT (X5 @hq @hr @Ip @eR (X5 @EY @Me @aA.eq_1 @NS (X5 @bT @Int.toNat_natCast @bH.{0} @bN.{0} @bJ.{0})))))) ?_|(refine Xi ?_ ?_<;>try intro ht)|exact Xx|fail)))
    all_goals first
      | (refine ak _ (i+1,ob++[.var (bb q)],ti,xs) ⟨Hi,bk.app _,tJ _,lg,h3.symm,Hi⟩ Hi ?_
         exact Xv @bb.eq_1;done)
      | (refine ak _ (i+1,ob.set ti .gone++[.var (bb q),.arr 2 [bb q],.arr 2 (rowsOf bb (xs++[q]))],ob.length+2,xs++[q]) ⟨Hi,(bk.set (by rw[bN,yv];omega)).app _,q7 _ _ _ _ _,Hi,h3.symm,Hj⟩ Hi ?_
         exact Xv @bb.eq_1;done)
  · rw[dt Ey,dt Ey] at cJ
    ((repeat' (first|refine Va X0 ?_|(refine Xi ?_ ?_<;>try intro ht)|exact Xx|fail)))
    refine aq _ _ rfl ?_;clear ak aq Ql
    repeat (refine Xu ?_)
    refine Vb X0 ?_
    unfold fU
    simp only[dV,dP]
    simp (disch:=omega) only[Ac,↓Pc,simprocAttr]
    rw[<- cJ]
    refine⟨_,ob,⟨λk o hk=>bk k o (aR hk _),ti,rfl,fD⟩,eN rfl Ey rfl⟩
def aaM(xs:List Nm)(q:Nm):rowsOf bb xs++[[AV.lit (.int .i64 q.1),.lit (.bool q.2)]]=rowsOf bb (xs++[q]):=by simp[rowsOf,bb]
def ajs{m:ah}(hm:VM m){gi ai bi:Nat}{D E:List (Nat×Nat)}{S T:List (List Nm)}{os:List Ob}(h:LO bb (GB m gi ai bi D E) D E S T os)(hg:LG m mM (S,T)){left:List (List Bool)}(hf:cK m left):
  dv Tryz.prog 81 [.ptr gi 0 0,.tree 1 (rowsOf aA left)] os λr ob=>r=QM (mL m left (S,T))/\os.length<=ob.length:=by
 obtain⟨fg,fa,fb⟩:=BZ h;have eg:=aR fg;have ea:=aR fa;have eb:=aR fb;have hD:=h.rD.len;have hE:=h.rE.len;have jD:S.length=m.cls.length:=hg.s;have ht1:T.length=m.ae.length:=hg.t;have sL:=hm.cls;have p6:=hm.ae;have uN:=hm.aE;have jg:=hf.1;rw[ajt];refine dv.aM 80 os.length [.tmp 4] Tryz.func81 ?_;refine Vb (X3 @fg @fa @gC.eq_1) ?_;have B4:D.length=m.cls.length:=Ey;refine aQ (λz:Nat×List Ob×Nat×List Nm=>(⟨ar [(0,.ptr gi 0 0),(1,.tree 1 (rowsOf aA left)),(5,.ref z.2.2.1 2 0 z.2.2.2.length),(17,QM m.cls.length),(18,QM z.1)],z.2.1⟩:St))
  (λz=>z.1<=m.cls.length/\iG os z.2.1/\z.2.1[z.2.2.1]?=some (.arr 2 (rowsOf bb z.2.2.2))/\os.length<=z.2.2.1/\z.2.2.2=(PC left S z.1).map xU)
  (λz=>m.cls.length-z.1) (0,os++[.arr 2 []],os.length,[]) ⟨aP _,(iG.refl _).app _,kF _ _ _,aZ _,rfl⟩ ?_ ?_
 ·refine aD.trans (aD.nil 5 2 (by simp only[Kc,simprocAttr]) Hg) ?_;exact Xv @B4
 rintro⟨i,ob,ti,ps⟩⟨hi,bk,fD,lg,hJ⟩Ql ak aq;dsimp only at hi bk fD lg hJ ⊢;have dG:ps.length=i:=by rw[hJ,gD,DP]
 by_cases au:i<m.cls.length
 ·have nq:=ajo hm (h.eA bk) hg hf i au;have dF:(PC left S (i+1)).map xU=ps++[u7 (kk (S.getD i default) (left.getD i default))]:=by
   rw[show PC left S (i+1)=PC left S i++[cW (S.getD i default) (left.getD i default) (0,false)] from Ak _ i,dU,<- hJ,aaN];rfl
  have yX:=aaO (kk (S.getD i default) (left.getD i default)) (by have:=NY (S.getD i default) (left.getD i default);have:=hg.sl i au;have:=hm.opt _ (aF (d:=default) au);dsimp only at *;omega);generalize kk (S.getD i default) (left.getD i default)=NZ at *;generalize u7 NZ=q at *;repeat'(first|((fail_if_success (first|refine dW 5 ?_|refine dX 5 ?_));refine Xr X0 ?_;intro K hK)|(refine hK _ ?_;clear hK K)|(refine Xi ?_ ?_<;>try intro ht)|refine Xy ?_|exact Xx|fail)
  refine oC 4 Hg _ rfl ?_;intro K hK;simp(disch:=omega)only[Ac,↓Pc,simprocAttr,jd,eQ];refine⟨rfl,(show kd Tryz.prog 115 [.ptr gi 0 0,QM i,.tree 1 (rowsOf aA left)] (some 25) _ _ from ?_)⟩;refine sw nq ?_;rintro r yY⟨bw,id,rfl,bZ⟩;refine⟨bw.len,?_⟩;have B5:=bw _ _ fD;have N0:=aR B5;have N2:=jm B5;have eF:=(bk.trans bw).len;simp(disch:=omega)only[Ac,↓Pc,simprocAttr,eQ];refine ug [] yX G9 trivial ⟨a7.fz bZ (by rw[cF]) G9,trivial⟩ rfl G9 ?_;simp(disch:=omega)only[Ac,↓Pc,simprocAttr,B5,N0,N2,bb,aaM,bT,bH,bN,bJ];repeat'(first|with_reducible refine cD ?_ ?_|omega)
  refine hK _ ?_;clear hK K;repeat(refine Xu ?_)
  refine Va X0 ?_;refine ak _ (i+1,yY.set ti .gone++[.arr 2 [bb q],.arr 2 (rowsOf bb (ps++[q]))],yY.length+1,ps++[q]) ⟨Hi,((bk.trans bw).set lg).app _,q7 _ _ _ _ _,Hi,dF.symm⟩ Hi ?_;exact Xv @bb.eq_1
 have I7:i=m.cls.length:=Ey;rw[I7]at hJ;have kg:=bk _ _ fg;have kb:=bk _ _ fb;have aju:E.length=m.ae.length:=Ey;((repeat'(first|refine Va X0 ?_|(refine Xi ?_ ?_<;>try intro ht)|exact Xx|fail)))
 refine aq _ _ rfl ?_;clear ak aq Ql;repeat(refine Xu ?_)
 refine Va (X3 @kg @kb @gC.eq_1) ?_;refine aQ (λz:Nat×List Ob×Nat×List Nm=>(⟨ar [(0,.ptr gi 0 0),(1,.tree 1 (rowsOf aA left)),(5,.ref z.2.2.1 2 0 z.2.2.2.length),(34,QM m.ae.length),(35,QM z.1)],z.2.1⟩:St))
  (λz=>z.1<=m.ae.length/\iG os z.2.1/\z.2.1[z.2.2.1]?=some (.arr 2 (rowsOf bb z.2.2.2))/\os.length<=z.2.2.1/\z.2.2.2=(PC left S m.cls.length++PP m left T z.1).map xU)
  (λz=>m.ae.length-z.1) (0,ob,ti,ps) ⟨aP _,bk,fD,lg,by rw[hJ];simp[PP]⟩ (Xv @aju) ?_
 clear bk fD lg hJ dG I7 kg kb hi au ti ps;rintro⟨i,ob,ti,ps⟩⟨hi,bk,fD,lg,hJ⟩Ql ak aq;dsimp only at hi bk fD lg hJ ⊢;have dG:ps.length=m.cls.length+i:=by rw[hJ,gD,bN,DP,FN]
 by_cases au:i<m.ae.length
 ·have nq:=ajp hm (h.eA bk) hg hf i au;have dF:(PC left S m.cls.length++PP m left T (i+1)).map xU=ps++[u7 (kk (T.getD i default) (jb m left i))]:=by
   rw[show PP m left T (i+1)=PP m left T i++[cW (T.getD i default) (jb m left i) (0,false)] from Ak _ i,<- bH,dU,<- hJ,aaN];rfl
  have yX:=aaO (kk (T.getD i default) (jb m left i)) (by have:=NY (T.getD i default) (jb m left i);have:=hg.tl i au;have:=DV (kC hm.pr _ (aF (d:=default) au)) hm;dsimp only at *;omega);generalize kk (T.getD i default) (jb m left i)=NZ at *;generalize u7 NZ=q at *;repeat'(first|((fail_if_success (first|refine dW 10 ?_|refine dX 10 ?_));refine Xr X0 ?_;intro K hK)|(refine hK _ ?_;clear hK K)|(refine Xi ?_ ?_<;>try intro ht)|refine Xy ?_|exact Xx|fail)
  refine oC 4 Hg _ rfl ?_;intro K hK;simp(disch:=omega)only[Ac,↓Pc,simprocAttr,jd,eQ];refine⟨rfl,(show kd Tryz.prog 116 [.ptr gi 0 0,QM i,.tree 1 (rowsOf aA left)] (some 42) _ _ from ?_)⟩;refine sw nq ?_;rintro r yY⟨bw,id,rfl,bZ⟩;refine⟨bw.len,?_⟩;have B5:=bw _ _ fD;have N0:=aR B5;have N2:=jm B5;have eF:=(bk.trans bw).len;simp(disch:=omega)only[Ac,↓Pc,simprocAttr,eQ];refine ug [] yX G9 trivial ⟨a7.fz bZ (by rw[cF]) G9,trivial⟩ rfl G9 ?_;simp(disch:=omega)only[Ac,↓Pc,simprocAttr,B5,N0,N2,bb,aaM,bT,bH,bN,bJ];repeat'(first|with_reducible refine cD ?_ ?_|omega)
  refine hK _ ?_;clear hK K;repeat(refine Xu ?_)
  refine Va X0 ?_;refine ak _ (i+1,yY.set ti .gone++[.arr 2 [bb q],.arr 2 (rowsOf bb (ps++[q]))],yY.length+1,ps++[q]) ⟨Hi,((bk.trans bw).set lg).app _,q7 _ _ _ _ _,Hi,dF.symm⟩ Hi ?_;exact Xv @bb.eq_1
 have I8:i=m.ae.length:=Ey;rw[I8]at hJ;have kg:=bk _ _ fg;((repeat'(first|refine Va X0 ?_|(refine Xi ?_ ?_<;>try intro ht)|exact Xx|fail)))
 refine aq _ _ rfl ?_;clear ak aq Ql;repeat(refine Xu ?_)
 refine Va (X2 @kg @gC.eq_1) ?_;refine aQ (λz:Nat×List Ob×Nat×List Nm=>(⟨ar [(1,.tree 1 (rowsOf aA left)),(5,.ref z.2.2.1 2 0 z.2.2.2.length),(51,.tree 4 (rowsOf dz m.aE)),(52,QM m.aE.length),(53,QM z.1)],z.2.1⟩:St))
  (λz=>z.1<=m.aE.length/\iG os z.2.1/\z.2.1[z.2.2.1]?=some (.arr 2 (rowsOf bb z.2.2.2))/\os.length<=z.2.2.1/\z.2.2.2=(PC left S m.cls.length++PP m left T m.ae.length++PK m left z.1).map xU)
  (λz=>m.aE.length-z.1) (0,ob,ti,ps) ⟨aP _,bk,fD,lg,by rw[hJ];simp[PK]⟩ (Xv X0) ?_
 clear bk fD lg hJ dG I8 kg hi au ti ps;rintro⟨i,ob,ti,ps⟩⟨hi,bk,fD,lg,hJ⟩Ql ak aq;dsimp only at hi bk fD lg hJ ⊢;have dG:ps.length=m.cls.length+m.ae.length+i:=by rw[hJ,gD,bN,bN,DP,FN,I0]
 by_cases au:i<m.aE.length
 ·have jU:=aF (d:=default) au;obtain⟨q1,q2,q3,q4⟩:=N3 hm hf jU;have h1:=ajv (m.aE.getD i default) left left.length (aZ _) q1 Ey (λr hr=>by have:=hf.row hm r hr;omega) Ey q2 q3;have h2:=N4 (ju left (m.aE.getD i default));have dF:(PC left S m.cls.length++PP m left T m.ae.length++PK m left (i+1)).map xU=ps++[e8 (ju left (m.aE.getD i default))]:=by
   rw[show PK m left (i+1)=PK m left i++[(ju left (m.aE.getD i default),!(decide ((m.aE.getD i default).cA=1099511627776)&&decide (0<ju left (m.aE.getD i default))))] from Ak _ i,<- bH,dU,<- hJ];congr 1;simp only[List.map_cons,List.map_nil,xU,e8,Bool.not_not];rw[ajw hm jg jU (λx hx=>(q1 x hx).2)]
  have tJ:=aR fD;have FR:=jm fD;have oJ:=(aY.1 fD).1;have eF:=bk.len;generalize ju left (m.aE.getD i default)=v at *;generalize a6:m.aE.getD i default=c at *;((repeat'(first|refine Vc (X5 @fD @tJ @FR @a6 (X5 @dz.eq_1 @bb.eq_1 @e8.eq_1 @N5 (X4 @bT @bH.{0} @bN.{0} @bJ.{0}))) (X2 h1 h2) ?_|(refine Xi ?_ ?_<;>try intro ht)|exact Xx|fail)))
  refine ak _ (i+1,ob.set ti .gone++[.var (dz c),.arr 2 [bb (e8 v)],.arr 2 (rowsOf bb (ps++[e8 v]))],ob.length+2,ps++[e8 v]) ⟨Hi,(bk.set lg).app _,q7 _ _ _ _ _,Hi,dF.symm⟩ Hi ?_;exact Xv (X3 @bb.eq_1 @e8.eq_1 @dz.eq_1)
 have N6:i=m.aE.length:=Ey;rw[N6]at hJ dG;rw[show PC left S m.cls.length++PP m left T m.ae.length++PK m left m.aE.length=yZ m left (S,T) from rfl]at hJ;have I6:(yZ m left (S,T)).length=m.cls.length+m.ae.length+m.aE.length:=by unfold yZ;rw[bN,bN,DP,FN,I0]
 have hPr:∀ p∈yZ m left (S,T),-mM<=p.1/\p.1<=mM:=λp hp=>by
  unfold yZ at hp;rw[cG,cG]at hp;rcases hp with(hp|hp)|hp
  ·exact NM (by unfold mM;decide) hg.sb _ p hp
  ·exact NN (by unfold mM;decide) hg.tb _ p hp
  ·have:=NO hm _ p hp;unfold mM;omega
 generalize yZ m left (S,T)=P at *;((repeat'(first|refine Va X0 ?_|(refine Xi ?_ ?_<;>try intro ht)|exact Xx|fail)))
 refine aq _ _ rfl ?_;clear ak aq Ql;repeat(refine Xu ?_)
 refine Va @fD ?_;refine aQ (λz:Nat×List Ob=>(⟨ar [(10,QM (bV (P.take z.1) (0,false)).1),(65,.ref ti 2 0 ps.length),(66,QM ps.length),(67,QM z.1)],z.2⟩:St))
  (λz=>z.1<=P.length/\iG os z.2/\z.2[ti]?=some (.arr 2 (rowsOf bb ps))/\(bV (P.take z.1) (0,false)).2=false)
  (λz=>P.length-z.1) (0,ob) ⟨aP _,bk,fD,rfl⟩ (Xv (X3 @List.take_zero.{0} @bV.eq_1 @List.foldl_nil.{0,0})) ?_
 clear bk fD;rintro⟨j,ob⟩⟨hj,bk,fD,I9⟩Ql ak aq;dsimp only at hj bk fD I9 ⊢;have eF:=bk.len;have aqq:ps.length=P.length:=by rw[hJ,gD]
 by_cases fI:j<P.length
 ·have ik:=ep fI;have eX:=DO (P.take j) (P.getD j default) (0,false);rw[<- ik,I9,Bool.false_or]at eX;have Br:ps.getD j default=xU (P.getD j default):=by rw[hJ,kD _ _ _ fI]
  have mf:=Al (P.take j) (0,false) (λp hp=>hPr p (List.mem_of_mem_take hp));rw[e9,yr hj]at mf;have hrq:=hPr _ (aF (d:=default) fI);have ajx:=aF (l:=P) (d:=default) fI;unfold mM at mf hrq;dsimp only at mf;generalize (bV (P.take j) (0,false)).1=s at *;generalize P.getD j default=q at *;obtain⟨v,b⟩:=q;unfold xU at Br;dsimp only at Br eX hrq;have tJ:=aR fD;cases b
  ·have yL:(bV P (0,false)).2=true:=(aaR P 0).2 ⟨_,ajx,rfl⟩;((repeat'(first|refine Va (X5 @fD @tJ @Br @bb.eq_1 (X2 @bT @kP)) ?_|(refine Xi ?_ ?_<;>try intro ht)|exact Xx|fail)))
   repeat(refine Xu ?_)
   ((skip))
   unfold fU;simp only[dV,dP];simp(disch:=omega)only[Ac,↓Pc,simprocAttr];rw[if_pos yL];exact⟨_,_,⟨rfl,by rw[bN];omega⟩,eN rfl (by rw[bN];omega) rfl⟩
  ·((repeat'(first|refine Va (X5 @fD @tJ @Br @bb.eq_1 (X2 @bT @Bool.not_true)) ?_|(refine Xi ?_ ?_<;>try intro ht)|exact Xx|fail)))
   refine ak _ (j+1,_) ⟨Hi,bk.app [.var (bb (v,false))],tJ _,by rw[eX];rfl⟩ Hi ?_;simp only[eX];exact Xv @bb.eq_1
 ·rw[dt Ey]at I9;have ajy:¬ (bV P (0,false)).2=true:=by rw[I9];simp
  ((repeat'(first|refine Va (dt (show P.length<=j by omega)) ?_|(refine Xi ?_ ?_<;>try intro ht)|exact Xx|fail)))
  refine aq _ _ rfl ?_;clear ak aq Ql;repeat(refine Xu ?_)
  refine Vb X0 ?_;unfold fU;simp only[dV,dP];simp(disch:=omega)only[Ac,↓Pc,simprocAttr];rw[if_neg ajy];exact⟨_,ob,⟨rfl,eF⟩,eN rfl eF rfl⟩
def LG.mono{m:ah}{B C:Int}{g:Lg}(h:LG m B g)(hc:B<=C):LG m C g:=⟨h.s,h.t,h.sl,h.tl,λr hr=>(h.sb r hr).mono hc,λr hr=>(h.tb r hr).mono hc⟩
def aaS(m:ah)(left:List (List Bool))(l:List Mv)(hm:VM m)(hf:cK m left)(hl:l.length<9223372036854775808):Holds Tryz.prog 42 [.agg (ao m),.tree 1 (rowsOf aA left),.tree 4 (rowsOf aU l)] [] (.bC [QM (gZ m left l).1,QM (gZ m left l).2]) []:=by
 generalize an:gZ m left l=res;unfold gZ at an;refine Holds.aM 33 0 [.tmp 6,.tmp 7] Tryz.func42 ?_;by_cases hlen:2000<l.length
 ·rw[if_pos hlen]at an;subst an;((repeat'(first|refine Vb X0 ?_|(refine Xi ?_ ?_<;>try intro ht)|exact Xx|fail)))
  all_goals exact aN rfl rfl
 rw[if_neg hlen]at an;repeat'(first|((fail_if_success (first|refine dW 3 ?_|refine dX 3 ?_));refine Xr X0 ?_;intro K hK)|(refine hK _ ?_;clear hK K)|(refine Xi ?_ ?_<;>try intro ht)|refine XY ?_|exact Xx|fail)
 refine oC 1 Hg _ rfl ?_;intro K hK;simp(disch:=omega)only[Ac,↓Pc,simprocAttr,jd,eQ];refine⟨rfl,(show kd Tryz.prog 78 [.agg (ao m)] (some 15) _ _ from ?_)⟩;refine sw (ajz hm [.var (ao m)]) ?_;rintro r os⟨gi,ai,bi,D,E,rfl,jn,bk⟩;refine⟨bk.len,?_⟩;have f0:=bk 0 _ rfl;simp(disch:=omega)only[Ac,↓Pc,simprocAttr,eQ];refine hK _ ?_;clear hK K;repeat(refine Xu ?_)
 refine Va X0 ?_;refine aQ (λz:Nat×List Ob=>(⟨ar [(1,.tree 1 (rowsOf aA left)),(8,.ptr gi 0 0),(16,.tree 4 (rowsOf aU l)),(17,QM l.length),(18,QM z.1)],z.2⟩:St))
  (λz=>z.1<=l.length/\LO bb (GB m gi ai bi D E) D E (j1 m (l.take z.1) (S0 m,T0 m)).1 (j1 m (l.take z.1) (S0 m,T0 m)).2 z.2/\∀ x∈l.take z.1,jx m x=true)
  (λz=>l.length-z.1) (0,os) ⟨aP _,jn,G9⟩ (Xv X0) ?_
 clear jn bk f0;rintro⟨i,ob⟩⟨hi,jn,dS⟩Ql ak aq;dsimp only at hi jn dS ⊢;have lH:=(IZ hm (l.take i) dS);rw[e9,yr hi]at lH;by_cases au:i<l.length
 ·have eu:j1 m (l.take (i+1)) (S0 m,T0 m)=kl m (l.getD i default) (j1 m (l.take i) (S0 m,T0 m)):=by rw[ep au,aap]
  have ik:=ep au;have bR:=aF (d:=default) au;generalize j1 m (l.take i) (S0 m,T0 m)=g at *;generalize cd:l.getD i default=x at *;have hval:=ajA hm (jn.app [.var (aU x)]) lH x;have aqr:ob.length<(ob++[Ob.var (aU x)]).length:=G9;have hvx:(ob++[Ob.var (aU x)])[ob.length]?=some (.var (aU x)):=kF _ _ _;repeat'(first|((fail_if_success (first|refine dW 7 ?_|refine dX 7 ?_));refine Xr (X3 @cd @aU.eq_1 @bT) ?_;intro K hK)|(refine hK _ ?_;clear hK K)|(refine Xi ?_ ?_<;>try intro ht)|refine Xy ?_|refine Xd ?_ ?_|exact Xx|fail)
  refine oC 2 Hg _ rfl ?_;intro K hK;simp(disch:=omega)only[Ac,↓Pc,simprocAttr,jd,eQ,bT];refine⟨rfl,(show kd Tryz.prog 79 [.ptr gi 0 0,.agg (aU x)] (some 24) _ _ from ?_)⟩;refine sw hval ?_;rintro r yY⟨rfl,lx,rfl⟩;refine⟨G9,?_⟩;simp(disch:=omega)only[Ac,↓Pc,simprocAttr,eQ];refine hK _ ?_;clear hK K;repeat(refine Xu ?_)
  by_cases hx:jx m x=true
  ·rw[hx];have qj:=ajC hm (jn.app (.var (aU x)::lx)) (B:=1099511627776+268435456*25*i) Ey lH x hx;have evx:=aR hvx;repeat'(first|(refine Xi ?_ ?_<;>try intro ht)|refine Xy ?_|exact Xx|fail)
   refine oC 2 Hg _ rfl ?_;intro K hK;simp(disch:=omega)only[Ac,↓Pc,simprocAttr,jd,eQ,bT,aU,bH];refine⟨rfl,(show kd Tryz.prog 80 [.ptr gi 0 0,.agg (aU x)] (some 28) _ _ from ?_)⟩;refine sw qj ?_;rintro r kG⟨rfl,ns,nm⟩;refine⟨nm,?_⟩;simp(disch:=omega)only[Ac,↓Pc,simprocAttr,eQ];refine hK _ ?_;clear hK K;repeat(refine Xu ?_)
   refine Va X0 ?_;refine ak _ (i+1,kG) ⟨Hi,by rw[eu];exact ns,λy hy=>by
    dsimp only at hy;rw[ik]at hy;rcases cG.1 hy with hy|hy
    ·exact dS y hy
    ·simp only[cS]at hy;subst hy;exact hx⟩ Hi ?_
   exact Xv X0
  ·have cf:jx m x=false:=by simpa using hx
   rw[cf];rw[if_pos (by rw[List.all_eq_false];exact⟨x,bR,hx⟩)]at an;((repeat'(first|refine Va @kP ?_|(refine Xi ?_ ?_<;>try intro ht)|exact Xx|fail)))
   repeat(refine Xu ?_)
   refine Vb X0 ?_;exact aN rfl (by rw[<- an])
 ·rw[dt Ey]at jn lH dS;rw[if_neg (by rw[Bool.not_eq_false];exact List.all_eq_true.2 dS)]at an;generalize j1 m l (S0 m,T0 m)=g at *;obtain⟨g1,g2⟩:=g;dsimp only at jn;have hval:=ajs hm jn (lH.mono (by unfold mM;omega)) hf;((repeat'(first|refine Va X0 ?_|(refine Xi ?_ ?_<;>try intro ht)|exact Xx|fail)))
  refine aq _ _ rfl ?_;clear ak aq Ql;repeat(refine Xu ?_)
  refine Xy ?_;refine oC 2 Hg _ rfl ?_;intro K hK;simp(disch:=omega)only[Ac,↓Pc,simprocAttr,jd,eQ];refine⟨rfl,(show kd Tryz.prog 81 [.ptr gi 0 0,.tree 1 (rowsOf aA left)] (some 32) _ _ from ?_)⟩;refine sw hval ?_;rintro r kG⟨rfl,nm⟩;refine⟨nm,?_⟩;simp(disch:=omega)only[Ac,↓Pc,simprocAttr,eQ];refine hK _ ?_;clear hK K;repeat(refine Xu ?_)
  subst an;refine Vb X0 ?_;exact aN rfl rfl
def aaT(m:ah)(left:List (List Bool))(l:List Mv)(hm:MB m)(hb:BB left)(hl:l.length<9223372036854775808):Holds Tryz.prog 17 [.agg (ao m),.tree 1 (rowsOf aA left),.tree 4 (rowsOf aU l)] [] (.bC [QM (cp m left l).1,QM (cp m left l).2]) []:=by
 have h1:=ajD m left hm hb;generalize an:cp m left l=res;unfold cp at an;refine Holds.aM 21 0 [.tmp 6,.tmp 7] Tryz.func17 ?_;by_cases hs:kj m left=0
 ·obtain⟨hv,hf⟩:=NJ hs;rw[if_neg (by rw[hs];simp)]at an;rw[hs]at h1;have h2:=aaS m left l hv hf hl;generalize gZ m left l=v at *;subst an;((try revert hK K);(repeat'(first|refine Vd @bne_self_eq_false.{0} (X2 h1 h2) ?_|(refine V2 @bne_self_eq_false.{0} ?_ ?_<;>try with_reducible intro hb)|(refine Xi ?_ ?_<;>try intro ht)|refine VD ?_ ?_|exact Xx|fail))<;>try with_reducible intro K hK)
  all_goals try(exfalso;omega)
  all_goals exact aN rfl rfl
 ·rw[if_pos hs]at an;generalize kj m left=e at *;subst an;((try revert hK K);(repeat'(first|refine Vd X0 h1 ?_|(refine V2 X0 ?_ ?_<;>try with_reducible intro hb)|(refine Xi ?_ ?_<;>try intro ht)|refine VD ?_ ?_|exact Xx|fail))<;>try with_reducible intro K hK)
  all_goals try(exfalso;omega)
  all_goals exact aN rfl rfl
def mO(b:Bool):List AV:=[.lit (.bool b)]
instance:Row mO 1:=⟨λ_=>rfl,λb v hv=>by
 simp only[mO,cS]at hv;subst hv;exact .inl ⟨_,rfl,rfl⟩⟩
def aaU(xs:List Bool):rowsOf mO xs=aV xs:=by simp[rowsOf,mO,aV]
def tL(n i:Nat)(s:Bool):List Bool:=aK i s++aK (n-i) false
def ajE{n i j:Nat}{s:Bool}(h:j<=i):(rowsOf mO (tL n i s)).take j=rowsOf mO (aK j s):=by
 unfold tL rowsOf;rw[<- Hh,List.take_append_of_le_length Hj,List.take_replicate,yr h]
def ajF{n i j:Nat}{s:Bool}(h:i+j<=n)(hj:j<=i):rowsOf mO (aK i s)++jd j (rowsOf mO (aK i s))++eQ (i+j) (rowsOf mO (tL n i s))=rowsOf mO (tL n (i+j) s):=by
 unfold tL rowsOf;rw[<- Hh,<- List.map_drop,<- dU,<- dU,List.take_replicate,yr hj,List.drop_append,List.drop_eq_nil_of_le G9,List.drop_replicate,List.nil_append,List.replicate_append_replicate];congr 3;simp;omega
def ajG{n i:Nat}{s:Bool}(h:i<=n):(tL n i s).length=n:=by simp[tL];omega
def aaV(s:Bool)(n:Nat)(hn:n<=1048576):Holds Tryz.prog 84 [.tree 1 [mO s],QM (n:Nat)] [] (.ref 0 1 0 n) [.arr 1 (rowsOf mO (aK n s))]:=by
 have hm:=ajH n Ey;refine Holds.aM 48 0 [.tmp 4] Tryz.func84 ?_;((repeat'(first|refine Vc (X5 @I' @Ja @unI @unU (X4 @aaW @ajK @Option.isSome_some.{0} @Tt)) hm ?_|(refine Xi ?_ ?_<;>try intro ht)|exact Xx|fail)))
 have e0:jd (min 1 n) [mO s]++eQ (min 1 n) (aK n [AV.lit (Value.bool false)])=rowsOf mO (tL n (min 1 n) s):=by
  unfold tL rowsOf;rw[List.drop_replicate];rcases pD n with h|h
  ·subst h;rfl
  ·rw[yr h,dU,KT,KT];rfl
 have e0':jd (min 1 n) [mO s]++eQ (min 1 n) (aV (aK n false))=rowsOf mO (tL n (min 1 n) s):=by
  rw[<- e0];simp[aV]
 first|rw[e0]|rw[e0']
 refine aQ (λi:Nat=>(⟨ar [(7,.ref 0 1 0 n),(8,QM i)],[.arr 1 (rowsOf mO (tL n i s))]⟩:St)) (λi=>i<=n/\(i=0->n=0)) (λi=>n-i) (min 1 n) ⟨Ey,Ey⟩ (Xv X0) ?_;rintro i⟨hi,hr⟩Ql ak aq;by_cases au:i<n
 ·have e1:i+min i (n-i)<=n:=Ey;have hl:=ajG (s:=s) hi;have Dw:=λn s=>ajE (n:=n) (s:=s) (aZ i);((repeat'(first|refine Va (X5 @Option.map_none.{0,0} @List.drop_zero.{0} @Dw @cF (X3 @List.length_replicate.{0} @Mu @hl)) ?_|(refine Xi ?_ ?_<;>try intro ht)|exact Xx|fail)))
  rw[ajF e1 (Nat.min_le_left _ _)];exact ak _ (i+min i (n-i)) ⟨Ey,Ey⟩ Ey (Xv X0)
 ·obtain rfl:i=n:=Ey;((repeat'(first|refine Va X0 ?_|(refine Xi ?_ ?_<;>try intro ht)|exact Xx|fail)))
  refine aq _ _ rfl ?_;clear ak aq Ql;repeat(refine Xu ?_)
  refine Vb X0 ?_;have e2:tL i i s=aK i s:=by simp[tL]
  rw[e2];exact Xw false [0] X0
def fZ(m:ah):List (List Bool):=m.cls.map λl=>aK l.length true
def b9(m:ah):List (List Bool):=if gv m=0 then fZ m else []
def Iv(xs:List (List Bool))(b:List Bool):rowsOf aA xs++[[AV.tree 1 (aV b)]]=rowsOf aA (xs++[b]):=by simp[rowsOf,aA]
def aaX(m:ah)(hm:MB m):Holds Tryz.prog 51 [.agg (ao m)] [] (.tree 1 (rowsOf aA (b9 m))) []:=by
 have h1:=Fp m hm;have sr:=hm.cls;generalize an:b9 m=res;unfold b9 at an;refine Holds.aM 25 0 [.tmp 2] Tryz.func51 ?_;by_cases hv:gv m=0;rotate_left
 ·rw[if_neg hv]at an;rw[<- an];generalize gv m=e at *;((repeat'(first|refine Vd X0 h1 ?_|(refine Xi ?_ ?_<;>try intro ht)|exact Xx|fail)))
  exact iJ [] true Hg trivial Hg Hg a7.nil
 rw[if_pos hv]at an;rw[hv]at h1;have b8:=kf.1 hv;have np:=b8.cls;((repeat'(first|refine Vd @bne_self_eq_false.{0} h1 ?_|(refine Xi ?_ ?_<;>try intro ht)|exact Xx|fail)))
 refine aQ (λz:Nat×List (List Bool)=>(⟨ar [(1,.ptr 0 0 0),(3,.ref 1 1 0 z.2.length),(10,.tree 1 (rowsOf aT m.cls)),(11,QM m.cls.length),(12,QM z.1)],[.var (ao m),.arr 1 (rowsOf aA z.2)]⟩:St))
  (λz=>z.1<=m.cls.length/\z.2=(fZ m).take z.1) (λz=>m.cls.length-z.1) (0,[]) ⟨aP _,rfl⟩ ?_ ?_
 ·refine aD.trans (aD.nil 3 1 (by simp only[Kc,simprocAttr]) Hg) ?_;exact Xv X0
 rintro⟨i,xs⟩⟨hi,cJ⟩Ql ak aq;dsimp only at hi cJ ⊢;have nh:(fZ m).length=m.cls.length:=by simp[fZ]
 by_cases au:i<m.cls.length
 ·have uP:xs.length=i:=by rw[cJ,e9];omega
  have eu:(fZ m).take (i+1)=xs++[aK (m.cls.getD i default).length true]:=by
   rw[ep Ey,<- cJ];unfold fZ;rw[kD _ _ _ au]
  have p8:=b8.opt _ (aF (d:=default) au);generalize a6:m.cls.getD i default=c at *;have F1:=aaV true c.length Ey;repeat'(first|((fail_if_success (first|refine dW 7 ?_|refine dX 7 ?_));refine Xr (X2 @a6 @aT.eq_1) ?_;intro K hK)|(refine hK _ ?_;clear hK K)|(refine Xi ?_ ?_<;>try intro ht)|refine Xy ?_|refine Xd ?_ ?_|exact Xx|fail)
  refine IG 5 Hg ?_;intro K K1 hK wG;simp(disch:=omega)only[Ac,↓Pc,simprocAttr,jd];refine ug [] F1 Hg trivial ⟨a7.fz (rows:=rowsOf mO [true]) rfl rfl G9,.pure rfl,trivial⟩ rfl (by simp[CW,mO,rowsOf,flat]) ?_;simp(disch:=omega)only[Ac,↓Pc,simprocAttr];refine wG _ ⟨ar [(1,.ptr 0 0 0),(3,.ref 1 1 0 xs.length),(10,.tree 1 (rowsOf aT m.cls)),(11,QM m.cls.length),(12,QM i),(16,.ref 1 1 0 xs.length),(20,.tree 1 (aV (aK c.length true)))],[.var (ao m),.arr 1 (rowsOf aA xs)]⟩ ?_ ?_
  ·rw[<- aaU];exact Xs true [0,1] X0
  clear wG K1;simp(disch:=omega)only[Ac,↓Pc,simprocAttr,eQ,Iv];repeat'(first|with_reducible refine cD ?_ ?_|omega)
  refine hK _ ?_;clear hK K;repeat(refine Xu ?_)
  refine Va X0 ?_;refine ak _ (i+1,xs++[aK c.length true]) ⟨Hi,eu.symm⟩ Hi ?_;exact Xs false [0,3] X0
 ·rw[dt Ey]at cJ;((repeat'(first|refine Va X0 ?_|(refine Xi ?_ ?_<;>try intro ht)|exact Xx|fail)))
  refine aq _ _ rfl ?_;clear ak aq Ql;repeat(refine Xu ?_)
  refine Vb X0 ?_;rw[cJ,an];exact Xw true [] X0
end T

