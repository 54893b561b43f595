import Derived.Test.YtdipcmigdbnheaaGreatX20
import Derived.Test.YtdipcmigdbnheaaGreatX15
set_option linter.all false
set_option maxHeartbeats 0
set_option maxRecDepth 20000
open List renaming append_assoc→dC,length_append→bR,cons_append→cW,nil_append→da,set_cons_succ→uk,set_cons_zero→qw,length_cons→dz,length_nil→mq,take_zero→pC,mem_cons→b8,not_mem_nil→k8,length_map→ed,length_take→iL,take_of_length_le→fP,getElem?_eq_some_iff→aM,length_set→bE,getElem?_set_ne→bj
open Nat renaming zero_add→eW,zero_le→aQ,le_refl→aG
open Go Go.Am Go.Proofs
namespace T
def S'(xs:List Nm)(n:Int):rowsOf bx xs++[[AV.lit (.int .i64 n),.lit (.bool (decide (1099511627776<=n)))]]=rowsOf bx (xs++[ga n]):=by simp[rowsOf,bx,ga]
def abS{m:aj}(hm:VM m)(os:List Ob):ez Tryz.prog 132 [.agg (av m)] os λr ob=>∃ gi ai bi D E,r=.ptr gi 0 0/\LO bx (GB m gi ai bi D E) D E (S0 m) (T0 m) ob/\fO os ob:=by
 have HH:=hm.cls;have ym:=hm.ae;refine ez.aF 94 os.length [.tmp 2] Tryz.func132 ?_;refine Vb (X3 @dr @dC.{0} @bR.{0}) ?_;have Ta:(os++[Ob.var (av m),Ob.var (av m++[.lit (.slice none 0 0),.lit (.slice none 0 0)])])[os.length+1]?=some (.var (av m++[.lit (.slice none 0 0),.lit (.slice none 0 0)])):=by rw[mU];rfl
 refine bP (aB.kN (os.length+1) 4 1 Ta rfl aab) ?_;simp only[dC,cW,da,DM,uk,qw,bR,dz,mq,av,eW,Nat.reduceAdd];clear Ta;refine bP (aB.kN (os.length+1) 5 1 (by rw[mU];rfl) rfl aab) ?_;simp only[dC,cW,da,DM,uk,qw,bR,dz,mq,eW,Nat.reduceAdd];have Tb:LO bx [(os.length+1,.var (gC m (os.length+2) (os.length+3) [] [])),(os.length+2,.arr 1 (rowsOf gy [])),(os.length,.var (av m)),(os.length+3,.arr 1 (rowsOf gy []))] [] [] ((S0 m).take 0) [] (os++[.var (av m),.var (gC m (os.length+2) (os.length+3) [] []),.arr 1 [],.arr 1 []]):=by
  refine⟨λb hb=>?_,by rw[pC];exact RI.nil,RI.nil,Jd⟩;simp only[b8,k8,or_false]at hb;rcases hb with rfl|rfl|rfl|rfl
  ·exact⟨by rw[mU];rfl,Jd⟩
  ·exact⟨by rw[mU];rfl,Jd⟩
  ·exact⟨by rw[lR],Jd⟩
  ·exact⟨by rw[mU];rfl,Jd⟩
 refine aW (λz:Nat×List Ob×Nat×List (Nat×Nat)=>(⟨ax [(1,.ptr os.length 0 0),(3,.ptr (os.length+1) 0 0),(21,.tree 1 (rowsOf bD m.cls)),(22,aa3 m.cls.length),(23,aa3 z.1)],z.2.1⟩:St))
  (λz=>z.1<=m.cls.length/\z.2.2.2.length=z.1/\LO bx [(os.length+1,.var (gC m z.2.2.1 (os.length+3) z.2.2.2 [])),(z.2.2.1,.arr 1 (rowsOf gy z.2.2.2)),(os.length,.var (av m)),(os.length+3,.arr 1 (rowsOf gy []))] z.2.2.2 [] ((S0 m).take z.1) [] z.2.1/\fO os z.2.1/\os.length+1<z.2.2.1/\z.2.2.1≠os.length+3)
  (λz=>m.cls.length-z.1) (0,os++[.var (av m),.var (gC m (os.length+2) (os.length+3) [] []),.arr 1 [],.arr 1 []],os.length+2,[]) ⟨aQ _,rfl,Tb,(fO.refl os).app _,aaK,aaK⟩ (Xv X0) ?_
 clear Tb;rintro⟨i,ob,ai,D⟩⟨hi,hD,hL,bI,zZ,HI⟩Ql aq au;dsimp only at hi hD hL bI zZ HI ⊢;by_cases hi':i<m.cls.length
 ·have gK:=aC (d:=default) hi';have vf:=hm.opt _ gK;have ey:(S0 m).take (i+1)=(S0 m).take i++[gN (jE (m.cls.getD i default))]:=by
   rw[iB (by unfold S0;rw[ed];exact hi')];unfold S0;rw[ik _ _ _ hi']
  have eC:=λo ho=>hm.kQ _ gK o ho;have AW:=λo ho=>abT hm gK (o:=o) ho;generalize bb:m.cls.getD i default=c at *;((repeat'(first|refine Va (X2 @bb @bD.eq_1) ?_|(refine Xi ?_ ?_<;>try intro ht)|exact Xx|fail)))
  have DY:(gN (jE c)).length=c.length:=by unfold gN jE;simp
  refine aW (λz:Nat×List Ob×Nat×List Nm=>(⟨ax [(1,.ptr os.length 0 0),(3,.ptr (os.length+1) 0 0),(21,.tree 1 (rowsOf bD m.cls)),(22,aa3 m.cls.length),(23,aa3 i),(6,.ref z.2.2.1 2 0 z.2.2.2.length),(27,.tree 6 (rowsOf cw c)),(28,aa3 c.length),(29,aa3 z.1)],z.2.1⟩:St))
   (λz=>z.1<=c.length/\LO bx [(os.length+1,.var (gC m ai (os.length+3) D [])),(ai,.arr 1 (rowsOf gy D)),(os.length,.var (av m)),(os.length+3,.arr 1 (rowsOf gy []))] D [] ((S0 m).take i) [] z.2.1/\fO os z.2.1/\z.2.1[z.2.2.1]?=some (.arr 2 (rowsOf bx z.2.2.2))/\z.2.2.1 ∉ List.map (λq:Nat×Nat=>q.1) (D++[])/\os.length<=z.2.2.1/\z.2.2.2=(gN (jE c)).take z.1)
   (λz=>c.length-z.1) (0,ob++[.arr 2 []],ob.length,[]) ⟨aQ _,hL.app _,bI.app _,lR _ _ _,hL.fresh (aG _),bI.len,rfl⟩ ?_ ?_
  ·refine aB.trans (aB.nil 6 2 (by simp only[Kc,simprocAttr]) aab) ?_;exact Xv X0
  clear hL bI;rintro⟨k,ok,oi,xs⟩⟨hk,hL,bI,j',dE,AX,ec⟩eR bX bQ;dsimp only at hk hL bI j' dE AX ec ⊢;by_cases aJ:k<c.length
  ·have dZ:=aC (l:=c) (d:=default) aJ;have Td:=Gy (eC _ dZ);have ae5:=AW _ dZ;have An:(gN (jE c)).getD k default=ga (iU (c.getD k default)):=by
    unfold gN jE;rw[List.map_map,ik _ _ _ aJ];rfl
   have yP:=iB (l:=gN (jE c)) (k:=k) I6;rw[An,<- ec]at yP;have pj:xs.length=k:=by rw[ec,iL];omega
   generalize me:c.getD k default=o at *;((repeat'(first|refine Va (X3 @me @dr @cw.eq_1) ?_|(refine Xi ?_ ?_<;>try intro ht)|exact Xx|fail)))
   refine aW (λz:Nat×List Ob=>(⟨ax [(1,.ptr os.length 0 0),(3,.ptr (os.length+1) 0 0),(21,.tree 1 (rowsOf bD m.cls)),(22,aa3 m.cls.length),(23,aa3 i),(6,.ref oi 2 0 xs.length),(27,.tree 6 (rowsOf cw c)),(28,aa3 c.length),(29,aa3 k),(9,aa3 (((o.ch.take z.1).map (·.2)).foldl dx 0)),(34,.tree 2 (rowsOf bz o.ch)),(35,aa3 o.ch.length),(36,aa3 z.1)],z.2⟩:St))
    (λz=>z.1<=o.ch.length/\LO bx [(os.length+1,.var (gC m ai (os.length+3) D [])),(ai,.arr 1 (rowsOf gy D)),(os.length,.var (av m)),(os.length+3,.arr 1 (rowsOf gy []))] D [] ((S0 m).take i) [] z.2/\fO os z.2/\z.2[oi]?=some (.arr 2 (rowsOf bx xs)))
    (λz=>o.ch.length-z.1) (0,ok++[.var (cw o)]) ⟨aQ _,hL.app _,bI.app _,bC j' _⟩ (Xv (X4 @pC.{0} @List.map_nil.{0,0} @List.foldl_nil.{0,0} @cw.eq_1)) ?_
   clear hL bI j';rintro⟨q,oq⟩⟨hq,hL,bI,j'⟩lM gw eK;dsimp only at hq hL bI j' ⊢;have hs:=Db ((o.ch.take q).map (·.2)) 0 (λx hx=>by
    obtain⟨c,jZ,rfl⟩:=List.mem_map.1 hx;exact Td c (List.mem_of_mem_take jZ)) (by unfold bL;decide)
   by_cases yc:q<o.ch.length
   ·have abU:=Td _ (aC (d:=default) yc);have fW:=NQ o.ch q yc;generalize ((o.ch.take q).map (·.2)).foldl dx 0=s at *;have Dc:=GG s (o.ch.getD q default).2 hs abU;generalize mc:o.ch.getD q default=y at *;((repeat'(first|refine Vc (X3 @mc @dr @bz.eq_1) Dc ?_|(refine Xi ?_ ?_<;>try intro ht)|exact Xx|fail)))
    refine gw _ (q+1,oq++[.var (bz y)]) ⟨aaK,hL.app _,bI.app _,bC j' _⟩ aaK ?_;simp only[fW];exact Xv @bz.eq_1
   ·have mg:((o.ch.take q).map (·.2)).foldl dx 0=iU o:=by rw[fP I6];rfl
    rw[mg]at hs;rw[<- mg]at yP;generalize ((o.ch.take q).map (·.2)).foldl dx 0=s at *;have HJ:=SP s;have eoi:=bC j';have HK:=gP j';have iz:=(aM.1 j').1;((repeat'(first|refine Va X0 ?_|(refine Xi ?_ ?_<;>try intro ht)|exact Xx|fail)))
    refine eK _ _ rfl ?_;clear gw eK lM;repeat(refine Xu ?_)
    refine Vc (X5 @j' @eoi @HK @bx.eq_1 (X5 @ga.eq_1 @dr @dC.{0} @bR.{0} (X2 @bE.{0} @S'))) HJ ?_;have AY:=(hL.DP (y:=.gone) dE j').app [.arr 2 [bx (ga s)],.arr 2 (rowsOf bx (xs++[ga s]))];refine bX _ (k+1,oq.set oi .gone++[.arr 2 [bx (ga s)],.arr 2 (rowsOf bx (xs++[ga s]))],oq.length+1,xs++[ga s]) ⟨aaK,AY,(bI.set AX).app _,yJ _ _ _ _ _,(hL.DP (y:=.gone) dE j').fresh (by dsimp only;rw[bE];omega),by dsimp only;have:=bI.len;omega,yP.symm⟩ aaK ?_;exact Xv (X2 @bx.eq_1 @ga.eq_1)
  ·rw[fP I6]at ec;have oa:=(hL.base (os.length+1,.var (gC m ai (os.length+3) D [])) Jd).1;have rq:=(hL.base (ai,.arr 1 (rowsOf gy D)) Jd).1;dsimp only at oa rq;have HL:=bC oa;have HM:=bC rq;have HN:=gP rq;have rX:(ok.set ai .gone)[os.length+1]?=some (.var (gC m ai (os.length+3) D [])):=by rw[bj I6];exact oa
   have ql:=bC rX;have HO:=gP rX;have fW:=hL.step j' dE (by simp only[b8,k8,or_false,forall_eq_or_imp,forall_eq];omega) [.tree 1 (rowsOf bD m.cls),.tree 4 (rowsOf bu m.ae),.tree 4 (rowsOf aK m.ar),aa3 m.rules,.ref (ok.length+1) 1 0 (D.length+1),.ref (os.length+3) 1 0 0] (rowsOf gy (D++[(oi,xs.length)])) (.arr 1 [[.ref oi 2 0 xs.length]]);have HP:gC m (ok.length+1) (os.length+3) (D++[(oi,xs.length)]) []=[.tree 1 (rowsOf bD m.cls),.tree 4 (rowsOf bu m.ae),.tree 4 (rowsOf aK m.ar),aa3 m.rules,.ref (ok.length+1) 1 0 (D.length+1),.ref (os.length+3) 1 0 0]:=by simp[gC]
   have yQ:=(aM.1 (hL.base (os.length+3,.arr 1 (rowsOf gy [])) Jd).1).1;have gp:=(aM.1 rq).1;dsimp only at yQ;((repeat'(first|refine Va X0 ?_|(refine Xi ?_ ?_<;>try intro ht)|exact Xx|fail)))
   refine bQ _ _ rfl ?_;clear bX bQ eR;repeat(refine Xu ?_)
   refine Va (X5 @oa @rq @HL @HM (X5 @HN @ql @HO @gC.eq_1 (X5 @SI @dr @dC.{0} @bR.{0} @bE.{0}))) ?_;refine aq _ (i+1,_,ok.length+1,D++[(oi,xs.length)]) ⟨aaK,aaZ,by dsimp only;rw[ey,<- ec,HP];exact fW,((bI.set I6).set I6).app _,aaK,aaK⟩ aaK ?_;exact Xv X0
 rw[fP (by unfold S0;rw[ed];omega)]at hL;have tZ:=(hL.base (os.length,.var (av m)) Jd).1;dsimp only at tZ;((repeat'(first|refine Va @tZ ?_|(refine Xi ?_ ?_<;>try intro ht)|exact Xx|fail)))
 refine au _ _ rfl ?_;clear aq au Ql;repeat(refine Xu ?_)
 refine Va @tZ ?_;have Te:LO bx [(os.length+1,.var (gC m ai (os.length+3) D [])),(os.length+3,.arr 1 (rowsOf gy [])),(os.length,.var (av m)),(ai,.arr 1 (rowsOf gy D))] [] D ((T0 m).take 0) (S0 m) ob:=hL.swap.sub (by simp only[b8,k8,or_false];intro b hb;rcases hb with rfl|rfl|rfl|rfl<;>simp);refine aW (λz:Nat×List Ob×Nat×List (Nat×Nat)=>(⟨ax [(1,.ptr os.length 0 0),(3,.ptr (os.length+1) 0 0),(63,.tree 4 (rowsOf bu m.ae)),(64,aa3 m.ae.length),(65,aa3 z.1)],z.2.1⟩:St))
  (λz=>z.1<=m.ae.length/\z.2.2.2.length=z.1/\LO bx [(os.length+1,.var (gC m ai z.2.2.1 D z.2.2.2)),(z.2.2.1,.arr 1 (rowsOf gy z.2.2.2)),(os.length,.var (av m)),(ai,.arr 1 (rowsOf gy D))] z.2.2.2 D ((T0 m).take z.1) (S0 m) z.2.1/\fO os z.2.1/\os.length+1<z.2.2.1/\ai≠z.2.2.1)
  (λz=>m.ae.length-z.1) (0,ob,os.length+3,[]) ⟨aQ _,rfl,Te,bI,aaK,HI⟩ (Xv X0) ?_
 clear hL Te bI tZ hi hi' HI ob;rintro⟨i,ob,bi,E⟩⟨hi,hE,hL,bI,fC,oJ⟩Ql aq au;dsimp only at hi hE hL bI fC oJ ⊢;by_cases hi':i<m.ae.length
 ·have ef:=jo hm.pr _ (aC (d:=default) hi');have yR:=HQ ef hm;have kT:=C9 ef;have ey:(T0 m).take (i+1)=(T0 m).take i++[gN (m.ae.getD i default).ay]:=by
   rw[iB (by unfold T0;rw[ed];exact hi')];unfold T0;rw[ik _ _ _ hi']
  generalize cG:m.ae.getD i default=p at *;((repeat'(first|refine Va (X3 @cG @dr @bu.eq_1) ?_|(refine Xi ?_ ?_<;>try intro ht)|exact Xx|fail)))
  have DY:(gN p.ay).length=p.ay.length:=by unfold gN;simp
  refine aW (λz:Nat×List Ob×Nat×List Nm=>(⟨ax [(1,.ptr os.length 0 0),(3,.ptr (os.length+1) 0 0),(63,.tree 4 (rowsOf bu m.ae)),(64,aa3 m.ae.length),(65,aa3 i),(14,.ref z.2.2.1 2 0 z.2.2.2.length),(70,.tree 1 (ints p.ay)),(71,aa3 p.ay.length),(72,aa3 z.1)],z.2.1⟩:St))
   (λz=>z.1<=p.ay.length/\LO bx [(os.length+1,.var (gC m ai bi D E)),(bi,.arr 1 (rowsOf gy E)),(os.length,.var (av m)),(ai,.arr 1 (rowsOf gy D))] E D ((T0 m).take i) (S0 m) z.2.1/\fO os z.2.1/\z.2.1[z.2.2.1]?=some (.arr 2 (rowsOf bx z.2.2.2))/\z.2.2.1 ∉ List.map (λq:Nat×Nat=>q.1) (E++D)/\os.length<=z.2.2.1/\z.2.2.2=(gN p.ay).take z.1)
   (λz=>p.ay.length-z.1) (0,(ob++[.var (bu p)])++[.arr 2 []],(ob++[Ob.var (bu p)]).length,[]) ⟨aQ _,(hL.app _).app _,(bI.app _).app _,lR _ _ _,(hL.app [.var (bu p)]).fresh (aG _),by simp;have:=bI.len;omega,rfl⟩ ?_ ?_
  ·refine aB.trans (aB.nil 14 2 (by simp only[Kc,simprocAttr]) aab) ?_;exact Xv X0
  clear hL bI;rintro⟨k,ok,oi,xs⟩⟨hk,hL,bI,j',dE,AX,ec⟩eR bX bQ;dsimp only at hk hL bI j' dE AX ec ⊢;by_cases aJ:k<p.ay.length
  ·have An:(gN p.ay).getD k default=ga (p.ay.getD k 0):=by
    unfold gN;rw[ik _ _ _ aJ];rfl
   have yP:=iB (l:=gN p.ay) (k:=k) I6;rw[An,<- ec]at yP;have pj:xs.length=k:=by rw[ec,iL];omega
   have hs:=kT _ (aC (d:=0) aJ);unfold bL at hs;generalize mc:p.ay.getD k 0=s at *;have HJ:=SP s;have eoi:=bC j';have HK:=gP j';have iz:=(aM.1 j').1;((repeat'(first|refine Vc (X5 @mc @j' @eoi @HK (X5 @bx.eq_1 @ga.eq_1 @dr @dC.{0} (X3 @bR.{0} @bE.{0} @S'))) HJ ?_|(refine Xi ?_ ?_<;>try intro ht)|exact Xx|fail)))
   have AY:=(hL.DP (y:=.gone) dE j').app [.arr 2 [bx (ga s)],.arr 2 (rowsOf bx (xs++[ga s]))];refine bX _ (k+1,ok.set oi .gone++[.arr 2 [bx (ga s)],.arr 2 (rowsOf bx (xs++[ga s]))],ok.length+1,xs++[ga s]) ⟨aaK,AY,(bI.set AX).app _,yJ _ _ _ _ _,(hL.DP (y:=.gone) dE j').fresh (by dsimp only;rw[bE];omega),by dsimp only;have:=bI.len;omega,yP.symm⟩ aaK ?_;exact Xv (X2 @bx.eq_1 @ga.eq_1)
  ·rw[fP I6]at ec;have oa:=(hL.base (os.length+1,.var (gC m ai bi D E)) Jd).1;have rq:=(hL.base (bi,.arr 1 (rowsOf gy E)) Jd).1;have ha3:=(aM.1 (hL.base (ai,.arr 1 (rowsOf gy D)) Jd).1).1;dsimp only at oa rq ha3;have HL:=bC oa;have HM:=bC rq;have HN:=gP rq;have rX:(ok.set bi .gone)[os.length+1]?=some (.var (gC m ai bi D E)):=by rw[bj I6];exact oa
   have ql:=bC rX;have HO:=gP rX;have fW:=hL.step j' dE (by simp only[b8,k8,or_false,forall_eq_or_imp,forall_eq];omega) [.tree 1 (rowsOf bD m.cls),.tree 4 (rowsOf bu m.ae),.tree 4 (rowsOf aK m.ar),aa3 m.rules,.ref ai 1 0 D.length,.ref (ok.length+1) 1 0 (E.length+1)] (rowsOf gy (E++[(oi,xs.length)])) (.arr 1 [[.ref oi 2 0 xs.length]]);have HP:gC m ai (ok.length+1) D (E++[(oi,xs.length)])=[.tree 1 (rowsOf bD m.cls),.tree 4 (rowsOf bu m.ae),.tree 4 (rowsOf aK m.ar),aa3 m.rules,.ref ai 1 0 D.length,.ref (ok.length+1) 1 0 (E.length+1)]:=by simp[gC]
   have gp:=(aM.1 rq).1;((repeat'(first|refine Va X0 ?_|(refine Xi ?_ ?_<;>try intro ht)|exact Xx|fail)))
   refine bQ _ _ rfl ?_;clear bX bQ eR;repeat(refine Xu ?_)
   refine Va (X5 @oa @rq @HL @HM (X5 @HN @ql @HO @gC.eq_1 (X5 @SI @dr @dC.{0} @bR.{0} @bE.{0}))) ?_;refine aq _ (i+1,_,ok.length+1,E++[(oi,xs.length)]) ⟨aaK,aaZ,by dsimp only;rw[ey,<- ec,HP];exact fW,((bI.set I6).set I6).app _,aaK,aaK⟩ aaK ?_;exact Xv X0
 rw[fP (by unfold T0;rw[ed];omega)]at hL;((repeat'(first|refine Va X0 ?_|(refine Xi ?_ ?_<;>try intro ht)|exact Xx|fail)))
 refine au _ _ rfl ?_;clear aq au Ql;repeat(refine Xu ?_)
 refine Vb X0 ?_;unfold fJ;simp only[dQ,dK];simp(disch:=omega)only[Ac,↓Pc,simprocAttr];refine⟨.ptr (os.length+1) 0 0,ob,⟨os.length+1,ai,bi,D,E,rfl,hL.swap.sub ?_,bI⟩,fB rfl bI.len rfl⟩;simp only[b8,k8,or_false];intro b hb;rcases hb with rfl|rfl|rfl<;>simp
def DU:IntKind.u64.min=0:=rfl
def DV:IntKind.u64.max=18446744073709551615:=rfl
def abW:IntKind.u64.bits=64:=rfl
def p32:(2:Int)^(32:Nat)=4294967296:=rfl
def abM{n:Int}(h:0<=n/\n<=18446744073709551615):IntKind.u64.wrap n=n:=uH h
def abN{n:Int}(h : -9223372036854775808<=n/\n<=9223372036854775807):IntKind.i64.wrap n=n:=uH h
def abY{a:Int}(h:0<=a/\a<=18446744073709551615):xZ .u64 a 4294967295=a%4294967296:=by
 unfold xZ;have e:(BitVec.ofInt IntKind.u64.bits a &&& BitVec.ofInt IntKind.u64.bits 4294967295).toNat=a.toNat%4294967296:=by
  rw[BitVec.toNat_and,BitVec.toNat_ofInt,BitVec.toNat_ofInt];have h1:(a%((2^IntKind.u64.bits:Nat):Int)).toNat=a.toNat:=by rw[Int.emod_eq_of_lt h.1 (by show a<18446744073709551616;omega)]
  have h2:((4294967295:Int)%((2^IntKind.u64.bits:Nat):Int)).toNat=2^32-1:=aab;rw[h1,h2,Nat.and_two_pow_sub_one_eq_mod]
 rw[e];rw[uH (by simp only[DU,DV];omega)];omega
def unI:Tryz.prog.underlying 3=some (.int .i64):=by kernel_rfl
def unU:Tryz.prog.underlying 238=some (.int .u64):=by kernel_rfl
def abZ(y:Int)(hy:0<=y/\y<=9223372036854775807):an Tryz.prog 199 [.lit (.int .u64 1),.lit (.int .u64 y)] [] (.bO [.lit (.int .u64 0),.lit (.int .u64 y)]) []:=by
 refine an.aF 51 0 [.tmp 4,.tmp 5] Tryz.func199 ?_;refine Vb (X5 @DU @DV @abW @p32 (X3 @abY @Int.one_mul @Int.zero_mul)) ?_;refine aO rfl ?_;congr 3;all_goals first|rfl|(congr 2;omega)
def abJ(y:Int)(hy:0<=y/\y<=9223372036854775807):an Tryz.prog 184 [.lit (.int .u64 1),.lit (.int .u64 y)] [] (.bO [.lit (.int .u64 0),.lit (.int .u64 y)]) []:=by
 refine an.aF 30 0 [.tmp 4,.tmp 5] Tryz.func184 ?_;((repeat'(first|refine Vd (X2 @DU @DV) (abZ y hy) ?_|(refine Xi ?_ ?_<;>try intro ht)|exact Xx|fail)))
 exact aO rfl rfl
end T

