import Derived.Test.YtdipcmigdbnheaaGreatX20
import Derived.Test.YtdipcmigdbnheaaGreatX15
set_option linter.all false
set_option maxHeartbeats 0
set_option maxRecDepth 20000
open Nat renaming zero_le→aQ,le_refl→aG
open List renaming getElem?_eq_some_iff→aM,length_take→iL,append_nil→gb,append_assoc→dC,length_append→bR,length_set→bE,take_of_length_le→fP,length_singleton→vI
open Bool renaming false_eq_true→jy
open Go Go.Am Go.Proofs
namespace T
def ab1{m:aj}(hm:VM m){gi ai bi:Nat}{D E:List (Nat×Nat)}{S T:List (List Nm)}{os:List Ob}(h:LO bx (GB m gi ai bi D E) D E S T os){B:Int}(hg:LG m B (S,T)){left:List (List Bool)}(hf:ej m left)(c:Nat)(hc:c<m.cls.length):
  ez Tryz.prog 178 [.ptr gi 0 0,aa3 c,.tree 1 (rowsOf bd left)] os λr ob=>fO os ob/\∃ id,r=.ref id 2 0 (iW (S.getD c default) (left.getD c default)).length/\ob[id]?=some (.arr 2 (rowsOf bx (iW (S.getD c default) (left.getD c default)))):=by
 obtain⟨fg,fa,fb⟩:=Hw h;have hD:=h.rD.len;have kf:S.length=m.cls.length:=hg.s;have HH:=hm.cls;have eA:=hf.1;obtain⟨Tf,rD2⟩:=h.rD.row c I6;have Tg:(S.getD c default).length=(m.cls.getD c default).length:=hg.sl c hc;have iT:=hf.2 c I6;have ae6:=hm.opt _ (aC (l:=m.cls) (i:=c) (d:=default) hc);generalize aZ:S.getD c default=row at *;generalize kI:left.getD c default=lc at *;refine ez.aF 36 os.length [.tmp 6] Tryz.func178 ?_;refine Vb (X5 @fg @fa @gC.eq_1 @Tf @gy.eq_1) ?_;have wX:(D.getD c default).2=row.length:=rD2.symm;refine aW (λz:Nat×List Ob×Nat×List Nm=>(⟨ax [(1,aa3 c),(2,.tree 1 (rowsOf bd left)),(7,.ref z.2.2.1 2 0 z.2.2.2.length),(16,.ref (D.getD c default).1 2 0 row.length),(17,aa3 row.length),(18,aa3 z.1)],z.2.1⟩:St))
  (λz=>z.1<=row.length/\fO os z.2.1/\z.2.1[z.2.2.1]?=some (.arr 2 (rowsOf bx z.2.2.2))/\os.length<=z.2.2.1/\z.2.2.2=iW (row.take z.1) (lc.take z.1)/\z.2.2.2.length<=z.1)
  (λz=>row.length-z.1) (0,os++[.arr 2 []],os.length,[]) ⟨aQ _,(fO.refl os).app _,lR _ _ _,aG _,rfl,aG _⟩ ?_ ?_
 ·refine aB.trans (aB.nil 7 2 (by simp only[Kc,simprocAttr]) aab) ?_;exact Xv @wX
 rintro⟨i,ob,ti,xs⟩⟨hi,bI,fh,kT,ec,pj⟩Ql aq au;dsimp only at hi bI fh kT ec pj ⊢;have r1:=bI _ _ Tf;have DZ:=bC r1;have ry:=bC fh;have HR:=gP fh;have yR:=(aM.1 fh).1;by_cases hi':i<row.length
 ·have h1:=iB hi';have h2:=iB (l:=lc) (k:=i) I6;have h3:=Hu (row.getD i default) (lc.getD i default) (row.take i) (lc.take i) (by rw[iL,iL];omega);rw[<- h1,<- h2,<- ec]at h3;have rV:lc.getD i default=lc.getD i false:=rfl;rw[rV]at h3;generalize cG:row.getD i default=p at *;generalize Th:lc.getD i false=is at *;cases is
  ·simp only[jy,if_false,gb]at h3;((repeat'(first|refine Va (X5 @r1 @DZ @bx.eq_1 @cG (X4 @kI @Th @bd.eq_1 @dr)) ?_|(refine Xi ?_ ?_<;>try intro ht)|exact Xx|fail)))
   refine aq _ (i+1,ob++[.var (bx p)],ti,xs) ⟨aaK,bI.app _,ry _,kT,h3.symm,aaK⟩ aaK ?_;exact Xv X0
  ·simp only[if_true]at h3;have HS:rowsOf bx xs++[[AV.lit (.int .i64 p.1),.lit (.bool p.2)]]=rowsOf bx (xs++[p]):=by simp[rowsOf,bx]
   ((repeat'(first|refine Va (X5 @r1 @DZ @fh @ry (X5 @HR @bx.eq_1 @cG @kI (X5 @Th @bd.eq_1 @HS @dr (X3 @dC.{0} @bR.{0} @bE.{0})))) ?_|(refine Xi ?_ ?_<;>try intro ht)|exact Xx|fail)))
   refine aq _ (i+1,ob.set ti .gone++[.var (bx p),.arr 2 [bx p],.arr 2 (rowsOf bx (xs++[p]))],ob.length+2,xs++[p]) ⟨aaK,(bI.set kT).app _,yJ _ _ _ _ _,by dsimp only;have:=bI.len;omega,h3.symm,aaZ⟩ aaK ?_;exact Xv @bx.eq_1
 ·rw[fP I6,fP I6]at ec;((repeat'(first|refine Va X0 ?_|(refine Xi ?_ ?_<;>try intro ht)|exact Xx|fail)))
  refine au _ _ rfl ?_;clear aq au Ql;repeat(refine Xu ?_)
  refine Vb X0 ?_;unfold fJ;simp only[dQ,dK];simp(disch:=omega)only[Ac,↓Pc,simprocAttr];rw[<- ec];exact⟨_,_,⟨bI,ti,rfl,fh⟩,fB rfl bI.len rfl⟩
def ab3 {m:aj} (hm:VM m) {gi ai bi:Nat} {D E:List (Nat×Nat)} {S T:List (List Nm)} {os:List Ob} (h:LO bx (GB m gi ai bi D E) D E S T os) {B:Int} (hg:LG m B (S,T)) {left:List (List Bool)} (hf:ej m left) (c:Nat) (hc:c<m.ae.length) :
    ez Tryz.prog 179 [.ptr gi 0 0,aa3 c,.tree 1 (rowsOf bd left)] os λr ob=>fO os ob/\∃ id,r=.ref id 2 0 (iW (T.getD c default) (kA m left c)).length/\ob[id]?=some (.arr 2 (rowsOf bx (iW (T.getD c default) (kA m left c)))):=by
  obtain ⟨fg,fa,fb⟩:=Hw h
  have eg:=bC fg
  have ea:=bC fa
  have eb:=bC fb
  have hD:=h.rD.len
  have hE:=h.rE.len
  have kf:S.length=m.cls.length:=hg.s
  have HT:T.length=m.ae.length:=hg.t
  have HH:=hm.cls
  have ym:=hm.ae
  have eA:=hf.1
  obtain ⟨Ti,rE2⟩:=h.rE.row c I6
  have yS:(T.getD c default).length=(m.ae.getD c default).ay.length:=hg.tl c hc
  have ef:=jo hm.pr _ (aC (d:=default) hc)
  obtain ⟨pb1,pb2,pb3,pb4⟩:=ab0 ef
  have yR:=HQ ef hm
  have Dd:=hf.2 (m.ae.getD c default).fst.toNat I6
  have wM:=hf.2 (m.ae.getD c default).snd.toNat I6
  have hoa:=hm.opt _ (aC (l:=m.cls) (i:=(m.ae.getD c default).fst.toNat) (d:=default) I6)
  have aP:=hm.opt _ (aC (l:=m.cls) (i:=(m.ae.getD c default).snd.toNat) (d:=default) I6)
  obtain ⟨Tj,rP2⟩:=h.rD.row (m.ae.getD c default).snd.toNat I6
  have Tk:(S.getD (m.ae.getD c default).snd.toNat default).length=(m.cls.getD (m.ae.getD c default).snd.toNat default).length:=hg.sl _ I6
  have ab7:kA m left c=tN (left.getD (m.ae.getD c default).fst.toNat default) (left.getD (m.ae.getD c default).snd.toNat default):=rfl
  have vr:=Hg (left.getD (m.ae.getD c default).snd.toNat default) (left.getD (m.ae.getD c default).fst.toNat default)
  have Tl:=Dt (left.getD (m.ae.getD c default).snd.toNat default) (left.getD (m.ae.getD c default).fst.toNat default)
  rw[<- ab7] at vr Tl
  generalize aZ:T.getD c default=row at *
  generalize cG:m.ae.getD c default=p at *
  generalize hLA:left.getD p.fst.toNat default=la at *
  generalize hLB:left.getD p.snd.toNat default=lb at *
  generalize kA m left c=pb at *
  have Tm:(D.getD p.snd.toNat default).2=lb.length:=by rw[<- rP2,Tk,wM]
  have bQ:row.length=pb.length:=by
    rw[vr,Dd,wM,yS]
    have:=pb4
    rw[<- Int.natCast_mul] at this
    exact Int.ofNat_inj.1 this
  have wX:(E.getD c default).2=row.length:=rE2.symm
  have qp:=bC Tj
  have qe:=bC Ti
  refine ez.aF 70 os.length [.tmp 6] Tryz.func179 ?_
  (((refine Vb (X5 @fg @fa @fb @eg (X5 @ea @eb @gC.eq_1 @Tj (X5 @qp @Ti @qe @gy.eq_1 (X5 @cG @bu.eq_1 @dr @Tm @wX)))) ?_)))
  refine aW (λz:Nat×List Ob×Nat×List Nm=>(⟨ax [(2,.tree 1 (rowsOf bd left)),(7,.ptr os.length 0 0),(8,aa3 lb.length),(9,.ref z.2.2.1 2 0 z.2.2.2.length),(35,.ref (E.getD c default).1 2 0 row.length),(36,aa3 row.length),(37,aa3 z.1)],z.2.1⟩:St))
    (λz=>z.1<=row.length/\fO (os++[.var (bu p)]) z.2.1/\z.2.1[z.2.2.1]?=some (.arr 2 (rowsOf bx z.2.2.2))/\os.length<z.2.2.1/\z.2.2.2=iW (row.take z.1) (pb.take z.1)/\z.2.2.2.length<=z.1)
    (λz=>row.length - z.1) (0,(os++[.var (bu p)])++[.arr 2 []],(os++[Ob.var (bu p)]).length,[]) ⟨aQ _,(fO.refl _).app _,lR _ _ _,Jd,rfl,aG _⟩ ?_ ?_
  · refine aB.trans (aB.nil 9 2 (by simp only[Kc,simprocAttr]) aab) ?_
    exact Xv (X2 @wX @Tm)
  rintro ⟨i,ob,ti,xs⟩ ⟨hi,bI,fh,kT,ec,pj⟩ Ql aq au
  dsimp only at hi bI fh kT ec pj ⊢
  have r1:=bI _ _ (qe [.var (bu p)])
  have rv:ob[os.length]?=some (.var (bu p)):=bI _ _ (lR _ _ _)
  have DZ:=bC r1
  have erv:=bC rv
  have ry:=bC fh
  have HR:=gP fh
  have AZ:=(aM.1 fh).1
  have cr:=bI.len
  rw[bR,vI] at cr
  by_cases hi':i<row.length
  · have h1:=iB hi'
    have h2:=iB (l:=pb) (k:=i) I6
    have h3:=Hu (row.getD i default) (pb.getD i default) (row.take i) (pb.take i) (by rw[iL,iL];omega)
    rw[<- h1,<- h2,<- ec] at h3
    have rV:pb.getD i default=(la.getD (i / lb.length) false && lb.getD (i % lb.length) false):=Tl i I6
    rw[rV] at h3
    have Tn:0<lb.length:=by
      rcases Nat.eq_zero_or_pos lb.length with h0 | h0
      · rw[h0,Nat.mul_zero] at vr;omega
      · exact h0
    have hdiv:i / lb.length<la.length:=by rw[Nat.div_lt_iff_lt_mul Tn];omega
    have uK:=Nat.mod_lt i Tn
    have hq:((i:Int).tdiv lb.length)=((i / lb.length:Nat):Int):=by rw[Int.tdiv_eq_ediv_of_nonneg I6];simp
    have hr:((i:Int).tmod lb.length)=((i % lb.length:Nat):Int):=by rw[Int.tmod_eq_emod_of_nonneg I6];simp
    have sO:((i:Int) / (lb.length:Int))=((i / lb.length:Nat):Int):=Jd
    have hJ:((i:Int) % (lb.length:Int))=((i % lb.length:Nat):Int):=Jd
    generalize hdd:i / lb.length=dd at *
    generalize tM:i % lb.length=mm at *
    generalize sw:row.getD i default=q at *
    generalize zI:la.getD dd false=ia at *
    generalize FO:lb.getD mm false=ib at *
    have HS:rowsOf bx xs++[[AV.lit (.int .i64 q.1),.lit (.bool q.2)]]=rowsOf bx (xs++[q]):=by simp[rowsOf,bx]
    cases ia<;>cases ib
    all_goals
      simp only[Bool.false_and,Bool.true_and,jy,if_false,if_true,gb] at h3
      ((repeat' (first|refine Va (X5 @r1 @DZ @rv @erv (X5 @fh @ry @HR @bx.eq_1 (X5 @bu.eq_1 @sw @hLA @hLB (X5 @hq @hr @sO @hJ (X5 @zI @FO @bd.eq_1 @HS (X5 @dr @Int.toNat_natCast @dC.{0} @bR.{0} @bE.{0})))))) ?_|(refine Xi ?_ ?_<;>try intro ht)|exact Xx|fail)))
    all_goals first
      | (refine aq _ (i+1,ob++[.var (bx q)],ti,xs) ⟨aaK,bI.app _,ry _,kT,h3.symm,aaK⟩ aaK ?_
         exact Xv @bx.eq_1;done)
      | (refine aq _ (i+1,ob.set ti .gone++[.var (bx q),.arr 2 [bx q],.arr 2 (rowsOf bx (xs++[q]))],ob.length+2,xs++[q]) ⟨aaK,(bI.set (by rw[bR,vI];omega)).app _,yJ _ _ _ _ _,aaK,h3.symm,aaZ⟩ aaK ?_
         exact Xv @bx.eq_1;done)
  · rw[fP I6,fP I6] at ec
    ((repeat' (first|refine Va X0 ?_|(refine Xi ?_ ?_<;>try intro ht)|exact Xx|fail)))
    refine au _ _ rfl ?_;clear aq au Ql
    repeat (refine Xu ?_)
    refine Vb X0 ?_
    unfold fJ
    simp only[dQ,dK]
    simp (disch:=omega) only[Ac,↓Pc,simprocAttr]
    rw[<- ec]
    refine⟨_,ob,⟨λk o hk=>bI k o (bC hk _),ti,rfl,fh⟩,fB rfl I6 rfl⟩
end T

