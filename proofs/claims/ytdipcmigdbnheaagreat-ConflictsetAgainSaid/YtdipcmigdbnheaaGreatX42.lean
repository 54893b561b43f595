import Derived.Test.YtdipcmigdbnheaaGreatX41
set_option linter.all false
set_option maxHeartbeats 0
set_option maxRecDepth 20000
open Nat renaming zero_le→aQ,le_refl→aG,eq_zero_or_pos→mr,lt_succ_self→m5
open List renaming replicate→b6,getElem?_set_ne→bj,getElem_of_mem→rT,getD_eq_getElem?_getD→aA,getElem?_eq_getElem→bT,mem_cons→b8,mem_filter→mz,mem_map→bZ,getElem?_map→cg,length→rS,map_map→uq,map_congr_left→kG,map_cons→dJ,length_set→bE,filter_congr→Jn,mem_range→lz,mem_cons_of_mem→ET
open Int renaming le_refl→dy,toNat_natCast→gA,add_zero→xu
open Bool renaming not_eq_true'→jW,eq_iff_iff→my,and_eq_true→ba
open Go Go.Am Go.Proofs
namespace T
def adt(m:aj)(dH:VM m):an Tryz.prog 102 [.agg (av m)] [] (.ref 0 1 0 (dt m).length) [.arr 1 (rowsOf bd (dt m))]:=by
 have hm:=dH.mb;have h1:=p5 m hm;have vc:=hm.cls;generalize ao:dt m=res;unfold dt at ao;refine an.aF 25 0 [.tmp 2] Tryz.func102 ?_;have hv:eJ m=0:=fc.2 dH;rw[if_pos hv]at ao;rw[hv]at h1;have tE:=dH.cls;((repeat'(first|refine Vd @bne_self_eq_false.{0} h1 ?_|(refine Xi ?_ ?_<;>try intro ht)|exact Xx|fail)))
 refine aW (λz:Nat×List (List Bool)=>(⟨ax [(1,.ptr 0 0 0),(3,.ref 1 1 0 z.2.length),(10,.tree 1 (rowsOf bD m.cls)),(11,aa3 m.cls.length),(12,aa3 z.1)],[.var (av m),.arr 1 (rowsOf bd z.2)]⟩:St))
  (λz=>z.1<=m.cls.length/\z.2=(mj m).take z.1) (λz=>m.cls.length-z.1) (0,[]) ⟨aQ _,rfl⟩ ?_ ?_
 ·refine aB.trans (aB.nil 3 1 (by simp only[Kc,simprocAttr]) aab) ?_;exact Xv X0
 rintro⟨i,xs⟩⟨hi,ec⟩Ql aq au;dsimp only at hi ec ⊢;have gp:(mj m).length=m.cls.length:=by simp[mj]
 by_cases hi':i<m.cls.length
 ·have pj:xs.length=i:=by rw[ec,List.length_take];omega
  have ey:(mj m).take (i+1)=xs++[b6 (m.cls.getD i default).length true]:=by
   rw[iB I6,<- ec];unfold mj;rw[ik _ _ _ hi']
  have vf:=dH.opt _ (aC (d:=default) hi');generalize bb:m.cls.getD i default=c at *;have Aq:=S3 true c.length I6;repeat'(first|((fail_if_success (first|refine eG 7 ?_|refine eH 7 ?_));refine Xr (X2 @bb @bD.eq_1) ?_;intro K hK)|(refine hK _ ?_;clear hK K)|(refine Xi ?_ ?_<;>try intro ht)|refine Xy ?_|refine Xd ?_ ?_|exact Xx|fail)
  refine Gk 5 aab ?_;intro K K1 hK uT;simp(disch:=omega)only[Ac,↓Pc,simprocAttr,List.take];refine n6 [] Aq aab trivial ⟨aE.fz (rows:=rowsOf kD [true]) rfl rfl Jd,.pure rfl,trivial⟩ rfl (by simp[td,kD,rowsOf,flat]) ?_;simp(disch:=omega)only[Ac,↓Pc,simprocAttr];refine uT _ ⟨ax [(1,.ptr 0 0 0),(3,.ref 1 1 0 xs.length),(10,.tree 1 (rowsOf bD m.cls)),(11,aa3 m.cls.length),(12,aa3 i),(16,.ref 1 1 0 xs.length),(20,.tree 1 (aY (b6 c.length true)))],[.var (av m),.arr 1 (rowsOf bd xs)]⟩ ?_ ?_
  ·rw[<- S2];exact Xs true [0,1] X0
  clear uT K1;simp(disch:=omega)only[Ac,↓Pc,simprocAttr,List.drop,S4];repeat'(first|with_reducible refine And.intro ?_ ?_|omega)
  refine hK _ ?_;clear hK K;repeat(refine Xu ?_)
  refine Va X0 ?_;refine aq _ (i+1,xs++[b6 c.length true]) ⟨aaK,ey.symm⟩ aaK ?_;exact Xs false [0,3] X0
 ·rw[List.take_of_length_le I6]at ec;((repeat'(first|refine Va X0 ?_|(refine Xi ?_ ?_<;>try intro ht)|exact Xx|fail)))
  refine au _ _ rfl ?_;clear aq au Ql;repeat(refine Xu ?_)
  refine Vb X0 ?_;rw[ec,ao];exact Xw false [1] X0
def g0(spl:Int)(p0:List Int)(t0:Int):QS:=⟨11,10,[],⟨[],19999,spl,true,p0,t0,1099511627776⟩⟩
def vy(m:aj)(spl:Int)(p0:List Int)(t0:Int):DS:=jS m (m.cls.length+1) 0 (dt m) ⟨[],19999,spl,true,p0,t0,1099511627776⟩
def uV{pv:AV}{t0:Int}{s:DS}(h:eO pv=true):eO (dw pv t0 s)=true:=by
 unfold dw;split
 ·rfl
 ·exact h
def UN(m:aj)(hm:VM m)(spl:Int)(vP:0<=spl/\spl<=1000000)(p0:List Int)(t0:Int)(pv:AV)(Gw:eO pv=true)(fy:b7 pv=true)(b0:Int):
  an Tryz.prog 56 [.agg (av m),.agg [pv,aa3 t0,aa3 b0,.lit (.slice none 0 0)],aa3 spl] []
   (.bO [.agg [dw pv t0 (vy m spl p0 t0),aa3 (vy m spl p0 t0).aU,aa3 (vy m spl p0 t0).bY,.tree 5 (rowsOf cN (vy m spl p0 t0).nodes)],.lit (.bool (vy m spl p0 t0).whole)]) []:=by
 have jQ:=adt m hm;have dT:=DX hm;have tE:=hm.cls;have xW:=Uh m (m.cls.length+1) 0 (dt m) (g0 spl p0 t0) rfl;have Ix:Fc (qB 103 m (dt m) pv t0 (g0 spl p0 t0) [(3,.var [.lit (.slice none 0 0),aa3 0,aa3 0,.lit (.slice none 0 0)])])
   [.var (av m),.var [pv,aa3 t0,aa3 1099511627776,.lit (.slice none 0 0)],.var [aa3 spl],.var [.lit (.slice none 0 0),aa3 0,aa3 0,.lit (.slice none 0 0)],.arr 1 (rowsOf bd (dt m)),.var [.ref 4 1 0 (dt m).length],.var [.lit (.bool true)],.var [aa3 19999],.var [.ref 10 5 0 0],.var [.fn 103 w8],.arr 5 []]:=by
  refine⟨?_,(show([0,1,2,4,5,6,7,9,8,10,3]:List Nat).Nodup by decide)⟩;unfold qB bB rB dw g0 eT;simp[rowsOf]
 have sR:=adu m hm pv t0 (m.cls.length+1) 0 (dt m) _ (g0 spl p0 t0) _ (by rw[dT.1];simp) (aQ _) dT rfl vP ⟨by show(0:Int)<=19999;omega,by show(0:Int)+19999<=1000000;omega⟩ (dy _) Ix _ rfl;have Bg:=Ee (dn:=103) (m:=m) (left:=dt m) (pv:=pv) (t0:=t0) (N:=m.cls.length) (m.cls.length+1) 0 (dt m) (g0 spl p0 t0) _ dT.1 I6 (aQ _) Ix.fk;have cu:vy m spl p0 t0=(ka m (m.cls.length+1) 0 (dt m) (g0 spl p0 t0)).s:=xW.2.symm;have iR:=xW.1;unfold qq at iR;rw[cu];generalize ka m (m.cls.length+1) 0 (dt m) (g0 spl p0 t0)=r at *;have qt:=Bg.fk.canon;have iz:=Bg.ol;have xe:=wN (qB 103 m (dt m) pv t0 r [(3,.var [.lit (.slice none 0 0),aa3 0,aa3 0,.lit (.slice none 0 0)])]) r.n;unfold g0 at sR iz;dsimp only at sR iz;generalize canon (qB 103 m (dt m) pv t0 r [(3,.var [.lit (.slice none 0 0),aa3 0,aa3 0,.lit (.slice none 0 0)])]) r.n=o5 at *;refine an.aF 24 0 [.cell 6 41,.tmp 7] Tryz.func56 ?_;((refine Vb @fy ?_)<;>try with_reducible intro K hK)
 (refine Xn [] (jQ) ?_;simp(disch:=omega)only[Ac,↓Pc,simprocAttr,pU])
 repeat'(first|((fail_if_success (first|refine eG 7 ?_|refine eH 7 ?_));refine Xr (X2 @fy @Eg) ?_;intro K hK)|(refine hK _ ?_;clear hK K)|refine XY ?_|fail)
 refine bP (aB.kN 8 0 5 rfl rfl aab) ?_;refine bP (σ':=⟨ax [(3,.ptr 0 0 0),(4,.ptr 1 0 0),(6,.ptr 3 0 0),(7,.lit (.bool false)),(9,.ptr 6 0 0),(11,.ptr 8 0 0),(12,.ptr 9 0 0)],[.var (av m),.var [pv,aa3 t0,aa3 1099511627776,.lit (.slice none 0 0)],.var [aa3 spl],.var [.lit (.slice none 0 0),aa3 0,aa3 0,.lit (.slice none 0 0)],.arr 1 (rowsOf bd (dt m)),.var [.ref 4 1 0 (dt m).length],.var [.lit (.bool true)],.var [aa3 19999],.var [.ref 10 5 0 0],.var [.fn 103 w8],.arr 5 []]⟩) (Xv X0) ?_;unfold w8 at sR ⊢;((refine Vb @Eg ?_)<;>try with_reducible intro K hK)
 refine lh sR (by rw[xe];exact iz) ?_;have e8:o5[8]?=some (.var [.ref r.p 5 0 r.R.length]):=kZ qt (b:=(8,.var [.ref r.p 5 0 r.R.length])) (by simp[bB]);have e1:o5[1]?=some (.var [dw pv t0 r.s,aa3 r.s.aU,aa3 r.s.bY,.lit (.slice none 0 0)]):=kZ qt (b:=(1,rB pv t0 r.s)) (by simp[bB]);have e6:o5[6]?=some (.var [.lit (.bool r.s.whole)]):=kZ qt (b:=(6,.var [.lit (.bool r.s.whole)])) (by simp[bB]);have e3:o5[3]?=some (.var [.lit (.slice none 0 0),aa3 0,aa3 0,.lit (.slice none 0 0)]):=Ba qt (b:=(3,.var [.lit (.slice none 0 0),aa3 0,aa3 0,.lit (.slice none 0 0)])) Jd;have km:b7 (dw pv t0 r.s)=true:=by unfold dw;split<;>first|rfl|exact fy
 have ow:=uV (t0:=t0) (s:=r.s) Gw;have ub:=qt.perm pt.symm;unfold qB bB at ub;simp only[List.cons_append,List.nil_append]at ub;have Iy:=(((ub.front [_,_]).put (.var [dw pv t0 r.s,aa3 r.s.aU,aa3 r.s.bY,.ref r.p 5 0 r.R.length])).perm (List.Perm.swap _ _ _)).put (.var [dw pv t0 r.s,aa3 r.s.aU,aa3 r.s.bY,.ref r.p 5 0 r.R.length]);have wK:=Iy.at_ (r.p,.arr 5 (rowsOf ca r.R)) Jd;have hfb:∀ b∈eT r.R,_:=λb hb=>Iy.at_ b (by simp[hb]);clear ub qt Iy Bg Ix jQ sR;generalize hP:dw pv t0 r.s=pa at *;have d6:=λx=>(show(o5.set 1 x)[6]?=some (.var [.lit (.bool r.s.whole)]) by rw[bj aab];exact e6);have d1:=λx=>(show(o5.set 1 x)[1]?=some x from iH e1);have d3:=λx=>(show(o5.set 1 x)[3]?=some (.var [.lit (.slice none 0 0),aa3 0,aa3 0,.lit (.slice none 0 0)]) by rw[bj aab];exact e3);have d33:=λx y=>(show((o5.set 1 x).set 3 y)[3]?=some y from iH (d3 x));have d36:=λx y=>(show((o5.set 1 x).set 3 y)[6]?=some (.var [.lit (.bool r.s.whole)]) by rw[bj aab];exact d6 x);simp(disch:=omega)only[Ac,↓Pc,simprocAttr];refine hK _ ?_;clear hK K;repeat(refine Xu ?_)
 refine Vb (X5 @e8 @e1 @d1 @d6 (X4 @d3 @d33 @km @fy)) ?_;refine lg [] (.take 0 (.both 1 (.take 2 (.take 3 .nil)) 2 (.take 1 (.take 3 .nil)))) rfl aab (by decide +kernel) ?_;simp(disch:=omega)only[Ac,↓Pc,simprocAttr,Pw,d1,d6,d3,d33,d36,km,fy];all_goals
  repeat(refine Xu ?_)
  refine Vb (X3 @d33 @km @fy) ?_;simp(disch:=omega)only[Ac,↓Pc,simprocAttr,rowOf,d33]
 all_goals
  refine du [] true aab trivial aab aab (aE.qF (aE.agg _ _ rfl (dS.spec (R:=aE _ _ _ _) (cs:=[pa,aa3 r.s.aU,aa3 r.s.bY,.tree 5 (rowsOf cN r.s.nodes)]) (ds:=[pa,aa3 r.s.aU,aa3 r.s.bY,.ref r.p 5 0 r.R.length]) ⟨.pure ow,.pure rfl,.pure rfl,.snap _ _ rfl ?_,trivial⟩).2) (.pure rfl));rw[iR];exact oo wK hfb (λi h=>by obtain⟨j,hj,_⟩:=h;cases hj)
def tD(s:DS):AV:=.agg [dw (.lit (.slice none 0 0)) 1099511627776 s,aa3 s.aU,aa3 s.bY,.tree 5 (rowsOf cN s.nodes)]
def wJ:AV:=.agg [.lit (.slice none 0 0),aa3 0,aa3 0,.lit (.slice none 0 0)]
def NG(m:aj)(hm:VM m)(hw:(bw m).whole=true):an Tryz.prog 39 [.agg (av m)] [] (.bO [tD (bw m),aa3 0]) []:=by
 have h1:=p5 m hm.mb;rw[fc.2 hm]at h1;have hg:=UN m hm 20000 aab [] 1099511627776 (.lit (.slice none 0 0)) rfl rfl 0;rw[show vy m 20000 [] 1099511627776=bw m from rfl,hw]at hg;unfold tD;generalize bw m=s at *;have km:b7 (dw (.lit (.slice none 0 0)) 1099511627776 s)=true:=by unfold dw;split<;>rfl
 have ow:=uV (pv:=.lit (.slice none 0 0)) (t0:=1099511627776) (s:=s) rfl;have jn:∀ ρ,aX ρ (dw (.lit (.slice none 0 0)) 1099511627776 s)=dw (.lit (.slice none 0 0)) 1099511627776 s:=λρ=>by unfold dw;split<;>rfl
 generalize dw (.lit (.slice none 0 0)) 1099511627776 s=pa at *;refine an.aF 23 0 [.cell 2 41,.tmp 3] Tryz.func39 ?_;((repeat'(first|refine Vd (X2 @km @bne_self_eq_false.{0}) h1 ?_|(refine Xi ?_ ?_<;>try intro ht)|exact Xx|fail))<;>try with_reducible intro K hK)
 (refine Xn [] (hg) ?_;simp(disch:=omega)only[Ac,↓Pc,simprocAttr,jn])
 ((try revert hK K);(repeat'(first|refine Vb (X3 @km @jn @Bool.not_true) ?_|(refine Xi ?_ ?_<;>try intro ht)|exact Xx|fail)))
 all_goals try(exfalso;simp_all;done)
 all_goals
  simp(disch:=omega)only[Ac,↓Pc,simprocAttr,rowOf];exact aO (by simp[eO,gF,ow]) rfl
def NH(m:aj)(hm:VM m)(hw:(bw m).whole=false):an Tryz.prog 39 [.agg (av m)] [] (.bO [wJ,aa3 61]) []:=by
 have h1:=p5 m hm.mb;rw[fc.2 hm]at h1;have hg:=UN m hm 20000 aab [] 1099511627776 (.lit (.slice none 0 0)) rfl rfl 0;rw[show vy m 20000 [] 1099511627776=bw m from rfl,hw]at hg;unfold wJ;generalize bw m=s at *;have km:b7 (dw (.lit (.slice none 0 0)) 1099511627776 s)=true:=by unfold dw;split<;>rfl
 have ow:=uV (pv:=.lit (.slice none 0 0)) (t0:=1099511627776) (s:=s) rfl;have jn:∀ ρ,aX ρ (dw (.lit (.slice none 0 0)) 1099511627776 s)=dw (.lit (.slice none 0 0)) 1099511627776 s:=λρ=>by unfold dw;split<;>rfl
 generalize dw (.lit (.slice none 0 0)) 1099511627776 s=pa at *;refine an.aF 23 0 [.cell 2 41,.tmp 3] Tryz.func39 ?_;((repeat'(first|refine Vd (X2 @km @bne_self_eq_false.{0}) h1 ?_|(refine Xi ?_ ?_<;>try intro ht)|exact Xx|fail))<;>try with_reducible intro K hK)
 (refine Xn [] (hg) ?_;simp(disch:=omega)only[Ac,↓Pc,simprocAttr,jn])
 ((try revert hK K);(repeat'(first|refine Vb (X3 @km @jn @Bool.not_false) ?_|(refine Xi ?_ ?_<;>try intro ht)|exact Xx|fail)))
 all_goals try(exfalso;simp_all;done)
 all_goals
  simp(disch:=omega)only[Ac,↓Pc,simprocAttr,rowOf];exact aO rfl rfl
def oA(m:aj)(p0:List Int)(t0:Int):Prop:=(p0=[]/\t0=1099511627776)\/(FP m p0/\fM m p0=t0/\t0<1099511627776)
def oA.top{m:aj}{p:List Int}{t:Int}(h:oA m p t):t<=1099511627776:=by
 rcases h with⟨_,h⟩|⟨_,_,h⟩<;>omega
def Bh(spl:Int)(p0:List Int)(t0:Int):DS:=⟨[],19999,spl,true,p0,t0,1099511627776⟩
variable {m:aj} {left:List (List Bool)} {p:List Int}
def UO{f:List (List Bool)->DS->DS}{c:Nat}{N:Nat}(hf:∀ k s,k<N->oA m s.plan s.aU->oA m (f (bN left c k) s).plan (f (bN left c k) s).aU):
  ∀ (w o:Nat) (s:DS) (ks:List Int),o+w=N->oA m s.plan s.aU->oA m (fi f left c w o s ks).1.plan (fi f left c w o s ks).1.aU
 |0,o,s,ks,ho,h=>h
 |w+1,o,s,ks,ho,h=>by
  rw[fi];exact UO hf w (o+1) _ _ I6 (hf o s I6 h)
def UP(hm:VM m):∀ (f:Nat) (left:List (List Bool)) (p:List Int) (s:DS),left.length+1<=f+p.length->Dn m left p->oA m s.plan s.aU->oA m (jS m f p.length left s).plan (jS m f p.length left s).aU
 |0,left,p,s,hf,h,hk=>by have:=h.bp.len;rw[<- h.fit.1]at this;omega
 |f+1,left,p,s,hf,h,hk=>by
  obtain⟨r,h1,h2,h3⟩:=Dn.skip (left:=left) _ p rfl h;obtain⟨g1,g2,g3,g4⟩:=wY (left:=left) _ p.length rfl;have cE:p.length<=left.length:=by rw[h.fit.1];exact h.bp.len
  have dT:=h.fit;have RS:=hk.top;rw[jS];split
  ·exact hk
  rename_i hv;split
  ·rename_i he;have qJ:(p++r).length=m.cls.length:=by rw[h2,he,dT.1]
   refine .inr ⟨?_,?_,?_⟩
   ·show FP m (iD left);rw[h1.H0 qJ];exact h1.bp.fp qJ
   ·show fM m (iD left)=dI m left;rw[h1.H0 qJ];exact(h1.exact hm qJ).symm
   ·show dI m left<_;omega
  rename_i he;split
  ·exact hk
  rw[<- h2]at he ⊢;have bq:(p++r).length<m.cls.length:=by
   have:=h1.bp.len;rw[dT.1]at he;omega
  have aZ:(left.getD (p++r).length default).length=(m.cls.getD (p++r).length default).length:=dT.2 _ (by rw[dT.1];exact bq);have H2:p.length<=(p++r).length:=Jd;generalize hP:p++r=P at *;exact UO (m:=m) (left:=left) (c:=P.length) (f:=jS m f (P.length+1)) (N:=(left.getD P.length default).length) (λk s' bK hs=>by
   have:=UP hm f (bN left P.length k) (P++[(k:Int)]) s' (by rw[show(bN left P.length k).length=left.length by unfold bN;simp];simp;omega) (h1.next bq I6) hs;rwa [show(P++[(k:Int)]).length=P.length+1 by simp]at this) _ 0 (jR left P.length (dI m left) s) [] I6 hk
def adw(h:FP m p):[] ∉ m.cls:=by
 intro he;obtain⟨i,hi,hg⟩:=rT he;obtain⟨_,_,h1,h2⟩:=gV.1 (h.get i (by rw[h.len];exact hi));rw[gA,aA (l:=m.cls),bT hi,Option.getD_some,hg]at h2;have:p.getD i 0<0:=h2;omega
def ly(m:aj)(spl:Int)(p0:List Int)(t0:Int):DS:=jS m (m.cls.length+1) 0 (dt m) (Bh spl p0 t0)
def adx(hm:VM m){P:List Nd}{v:List Int}(hv:Tr m P 0 P.length (dt m) [] v)(hl:P.length<=20000):PB P:=by
 have hn:=hv.vt.yT;have hf:=hv.vt.flat;have fD:∀ x∈P,∃ i,i<P.length/\nd P i=x:=λx hx=>by
  obtain⟨i,hi,rfl⟩:=rT hx;exact⟨i,hi,by unfold nd;rw[aA,bT hi];rfl⟩
 refine⟨I6,λx hx=>?_,λx hx=>?_,λx hx=>?_,λx hx=>?_,λx hx l hl=>?_⟩;all_goals
  obtain⟨i,hi,rfl⟩:=fD x hx;obtain⟨f1,f2,f3⟩:=hf i (aQ _) hi;obtain⟨n1,_⟩:=hn i (aQ _) hi
 ·have:=DH hm n1;omega
 ·omega
 ·rw[f2];decide
 ·rw[f3];decide
 ·rw[f3]at hl;cases hl
def yj(hm:VM m){spl:Int}(hs:0<=spl){p0:List Int}{t0:Int}(hk:oA m p0 t0):
  oA m (ly m spl p0 t0).plan (ly m spl p0 t0).aU/\(ly m spl p0 t0).aU<=t0/\((ly m spl p0 t0).aU=1099511627776->0<m.cls.length) /\
  (ly m spl p0 t0).bY<=(ly m spl p0 t0).aU/\lL m (ly m spl p0 t0).nodes=((ly m spl p0 t0).bY,true)/\PB (ly m spl p0 t0).nodes /\
  (fo m<=spl->fo m<=4096->(ly m spl p0 t0).bY=(ly m spl p0 t0).aU):=by
 have hr:=Dn.root hm;have hd:=D4 hm (m.cls.length+1) (dt m) [] (Bh spl p0 t0) (by rw[hr.fit.1];simp) hr;have uW:oA m (ly m spl p0 t0).plan (ly m spl p0 t0).aU:=UP hm (m.cls.length+1) (dt m) [] (Bh spl p0 t0) (by rw[hr.fit.1];simp) hr hk;have RS:=hk.top;have hw:fo m<=spl->fo m<=4096->(ly m spl p0 t0).whole=true:=by
  intro w1 w2;by_cases he:[]∈m.cls
  ·have ht:t0=1099511627776:=by
    rcases hk with⟨_,h⟩|⟨h,_⟩
    ·exact h
    ·exact absurd he (adw h)
   unfold ly;rw[jS,TN he,if_pos (by show t0<=_;omega)];rfl
  ·have mV:∀ l∈m.cls,1<=l.length:=λl hl=>by
    cases l with
    |nil=>exact absurd hl he
    |cons a b=>simp
   have hc:jH m m.cls.length=kX m.cls:=by rw[H6 m _ (aG _),Nat.sub_self,List.drop_zero]
   unfold fo at w1 w2;rw[if_pos (fc.2 hm),show(1:Int)=((1:Nat):Int) from rfl,H5 _ _ he I6,Nat.one_mul,<- hc]at w1 w2;refine(H4 hm mV (m.cls.length+1) (dt m) [] (Bh spl p0 t0) (by rw[hr.fit.1];simp) hr rfl ?_ ?_).1
   ·show(2*jH m m.cls.length-2:Int)<=19999;omega
   ·show(jH m m.cls.length-1:Int)<=spl;omega
 change DL m (dt m) [] (Bh spl p0 t0) (ly m spl p0 t0) at hd;have h0:(ly m spl p0 t0).aU=1099511627776->0<m.cls.length:=λht=>by
  rcases mr m.cls.length with h|h
  ·exfalso;have hx:=(Dn.root hm).exact hm (by rw[h];rfl);rw[acn hm h]at hx;have hl:(dt m).length=0:=by rw[hr.fit.1,h]
   have Un:cC (dt m) 0=(dt m).length:=by rw[D1 I6,hl]
   unfold ly at ht;rw[jS,hx]at ht;split at ht
   ·rename_i h1;have:t0=1099511627776:=ht;have:t0<=0:=h1;omega
   ·have:(0:Int)=1099511627776:=ht;omega
  ·exact h
 generalize ly m spl p0 t0=r at *;obtain⟨d1,d2,d3,d4,d5,d6,d7,d8,d9⟩:=hd;change r.aU<=t0 at d1;change r.bY<=1099511627776 at d2;change r.aU<t0->r.bY<=r.aU at d3;change (r.nodes.length:Int)+r.room=0+19999+1 at d5;have d6:0<=r.room:=d6 (by show(0:Int)<=19999;omega);obtain⟨v,hv,rz⟩:=d9 [] (λx hx=>by cases hx);have rz:r.bY=kW v 1099511627776:=rz;have hv:Tr m r.nodes 0 r.nodes.length (dt m) [] v:=hv;have eC:=Tr.dU (P:=r.nodes) hm hv I6;rw[<- rz]at eC;have hle:r.bY<=r.aU:=by
  rcases uW with⟨_,h⟩|⟨h1,h2,_⟩
  ·omega
  ·have:=acy eC h1;unfold fM at h2;omega
 refine⟨uW,d1,h0,hle,eC,adx hm hv I6,λw1 w2=>?_⟩;have:=(d4 (hw w1 w2)).2.2;change min 1099511627776 r.aU<=r.bY at this;omega
def Eh{f:Nat->Int}:∀ (n:Nat),(∀ i,i<n->Zf (f i))->1099511627776<=bf f n->∃ i,i<n/\1099511627776<=f i
 |0,_,h=>by have:(1099511627776:Int)<=0:=h;omega
 |n+1,hz,h=>by
  rw[bf]at h;have h1:=vu n λi hi=>hz i I6;have h2:=hz n (m5 n);unfold Zf at h1 h2;rcases h2 with h2|h2
  ·obtain⟨i,hi,h3⟩:=Eh n (λi hi=>hz i I6) I6;exact⟨i,I6,h3⟩
  ·exact⟨n,m5 n,h2⟩
def UQ:∀ (l:List Int) (a:Int),(∀ x∈l,0<=x)->0<=a->(1099511627776<=a\/1099511627776∈l)->1099511627776<=l.foldl dx a
 |[],a,_,_,h=>by
  rcases h with h|h
  ·exact h
  ·cases h
 |x::l,a,hl,ha,h=>by
  have hx:=hl x Jd;refine UQ l _ (λy hy=>hl y (by simp[hy])) (by unfold dx;omega) ?_;rcases h with h|h
  ·left;unfold dx;omega
  ·rcases b8.1 h with h|h
   ·left;rw[<- h];unfold dx;omega
   ·exact .inr h
def UR{R:Int}{o:br}(hc:db R none o.ch=true)(h:1099511627776<=iU (fA o)):1099511627776<=iU o:=by
 have cR:1099511627776∈o.ch.map (·.2):=by
  by_cases he:(fA o).ch=[]
  ·unfold iU at h;rw[he]at h;have:(1099511627776:Int)<=0:=h;omega
  ·obtain⟨c,gK⟩:=List.exists_mem_of_ne_nil _ he;obtain⟨h1,h2⟩:=mz.1 gK;unfold jU at h2;rw[decide_eq_true_eq]at h2;exact bZ.2 ⟨c,h1,h2⟩
 unfold iU;refine UQ _ 0 (λx hx=>?_) (dy _) (.inr cR);obtain⟨c,h1,rfl⟩:=bZ.1 hx;exact(lN (u9 hc c h1).2).1
def US{m:aj}{q:List Int}(h:FP m q):FP (aH m) q:=⟨by rw[oz];exact h.len,λj hj=>by rw[Ak];exact h.get j hj⟩
def ady{m:aj}(hm:VM m){q:List Int}(hq:FP m q)(h:1099511627776<=fM (aH m) q):1099511627776<=fM m q:=by
 have hqh:=US hq;unfold fM at *;rw[yC (sy hm) hqh]at h;rw[yC hm hq];have hA:=wS _ λi hi=>T4 hm hq (j:=i) hi;have hB:=wS _ λi hi=>T5 hm q (i:=i) hi;have hC:=wS _ λi hi=>T6 hm q (i:=i) hi;have z1:∀ i,i<(aH m).cls.length->Zf (kx (aH m) q i)/\(1099511627776<=kx (aH m) q i->1099511627776<=kx m q i):=λi hi=>by
  rw[oz]at hi;have hg:=gV.1 (hq.get i (by rw[hq.len];exact hi));rw[gA]at hg;have hl:=aC (l:=m.cls) (i:=i) (d:=default) hi;have hc:(aH m).cls.getD i default=(m.cls.getD i default).map fA:=ik _ _ _ hi;unfold kx;rw[hc,ik _ _ _ I6];exact⟨H9 _,UR (hm.kQ _ hl _ (aC I6))⟩
 have z2:∀ i,i<(aH m).ae.length->Zf (iX (aH m) q ((aH m).ae.getD i default))/\(1099511627776<=iX (aH m) q ((aH m).ae.getD i default)->1099511627776<=iX m q (m.ae.getD i default)):=λi hi=>by
  have hc:(aH m).ae.getD i default=gZ (m.ae.getD i default):=ik _ _ _ (by simpa [aH] using hi);rw[hc];clear hc;generalize m.ae.getD i default=p;unfold iX mP;rw[show(gZ p).fst=p.fst from rfl,show(gZ p).snd=p.snd from rfl,w0];generalize (q.getD p.fst.toNat 0*((m.cls.getD p.snd.toNat default).length:Int)+q.getD p.snd.toNat 0).toNat=k;have e:(gZ p).ay.getD k 0=kY (p.ay.getD k 0):=by
   show(p.ay.map kY).getD k 0=_;rw[aA,cg,aA];cases p.ay[k]?<;>rfl
  rw[e];unfold kY Zf;split<;>omega
 have z3:∀ i,i<(aH m).ar.length->Zf (gM q ((aH m).ar.getD i default))/\(1099511627776<=gM q ((aH m).ar.getD i default)->∃ j,j<m.ar.length/\1099511627776<=gM q (m.ar.getD j default)):=λi hi=>by
  obtain⟨h1,h2⟩:=mz.1 (aC (l:=(aH m).ar) (d:=default) hi);unfold jU at h2;rw[decide_eq_true_eq]at h2;generalize (aH m).ar.getD i default=c at *;refine⟨?_,λh=>?_⟩
  ·unfold gM jP;rw[h2];split
   ·exact .inl rfl
   ·right;omega
  ·obtain⟨j,hj,rfl⟩:=rT h1;exact⟨j,hj,by rw[aA,bT hj];exact h⟩
 have s1:=vu _ λi hi=>(z1 i hi).1;have s2:=vu _ λi hi=>(z2 i hi).1;have s3:=vu _ λi hi=>(z3 i hi).1;have FH:1099511627776<=bf (kx (aH m) q) (aH m).cls.length\/1099511627776<=bf (λi=>iX (aH m) q ((aH m).ae.getD i default)) (aH m).ae.length\/1099511627776<=bf (λi=>gM q ((aH m).ar.getD i default)) (aH m).ar.length:=by
  unfold Zf at s1 s2 s3;omega
 rcases FH with h|h|h
 ·obtain⟨i,hi,h4⟩:=Eh _ (λi hi=>(z1 i hi).1) h;have:=(z1 i hi).2 h4;have:=hA.2 i (by rwa [oz]at hi);omega
 ·obtain⟨i,hi,h4⟩:=Eh _ (λi hi=>(z2 i hi).1) h;have:=(z2 i hi).2 h4;have:=hB.2 i (by simpa [aH] using hi);omega
 ·obtain⟨i,hi,h4⟩:=Eh _ (λi hi=>(z3 i hi).1) h;obtain⟨j,hj,h5⟩:=(z3 i hi).2 h4;have:=hC.2 j hj;omega
def adA{m k:aj}(hm:VM m)(hk:VM k)(h:k.cls.map rS=m.cls.map rS):fo k=fo m:=by
 unfold fo;rw[if_pos (fc.2 hm),if_pos (fc.2 hk)];exact H' _ _ _ h
def yh{m:aj}(hm:VM m)(l:List Int):fo (bA m l)=fo m:=by
 refine adA hm (sv hm _) ?_;unfold bA fX;dsimp only;rw[uq];exact kG λx _=>Jd
def Ag{r:aj}(hr:VM r)(hp:fo r<=1000):mM r=0/\(tryD r).aU<=1099511627776/\((tryD r).aU=1099511627776↔¬ (gX r r.cls.length []).2<1099511627776):=by
 have hh:=sy hr;obtain⟨a1,a2,a3,a4,a5⟩:=D6 hh (D7 hh (by rw[TW hr];exact hp));obtain⟨b1,b2,b3,b4,b5⟩:=D6 hr (D7 hr hp);have ah:(bw (aH r)).aU=(gX (aH r) (aH r).cls.length []).2:=congrArg Prod.snd a2;have bh:(bw r).aU=(gX r r.cls.length []).2:=congrArg Prod.snd b2;have hle:=Tx r r.cls.length [];have hz:=acp hr;have hb:=@TT r;have hl:=@H8 r;refine⟨?_,?_,?_⟩
 ·unfold mM;rw[if_neg (show ¬ (bw (aH r)).whole=false by rw[a1];simp),if_neg (show ¬ (bw r).whole=false by rw[b1];simp)];split<;>rfl
 ·unfold tryD;split
  ·rw[ah];omega
  ·rw[bh];exact hle
 ·unfold tryD;by_cases hc:uX r
  ·rw[if_pos hc];by_cases ht:(bw (aH r)).aU=1099511627776
   ·refine⟨λ_ bq=>?_,λ_=>ht⟩;obtain⟨h1,h2⟩:=hb bq;have h3:=H8 (US h1);have:=ady hr h1 I6;omega
   ·refine⟨λh=>absurd h ht,λh=>?_⟩;exfalso;refine h ?_;have h1:=hc.resolve_left ht;have uW:=(yj hh (spl:=20000) aab (p0:=[]) (t0:=1099511627776) (.inl ⟨rfl,rfl⟩)).1;obtain⟨h2,_,_⟩:=uW.resolve_left (λe=>ht e.2);have h3:FP r (bw (aH r)).plan:=⟨by rw[<- oz r];exact h2.len,λj hj=>by rw[<- Ak r];exact h2.get j hj⟩;have:=hl h3;omega
  ·rw[if_neg hc,bh];omega
def rC(r:aj):Int:=if mM r=0 then(tryD r).aU else 0
def xf(m:aj):List Int->List Int->List Int×Int
 |[],l=>(l,0)
 |n::ns,l=>if mM (bA m (cY l n))≠0 then([],mM (bA m (cY l n))) else xf m ns (if rC (bA m (cY l n))=1099511627776 then cY l n else l)
def ic(m:aj):List Int×Int :=
 if mM (bA m (fq m))≠0 then([],mM (bA m (fq m))) else if rC (bA m (fq m))<1099511627776 then([],60) else xf m (fq m) (fq m)
def ig(m:aj):List Int×Int:=if eJ m≠0 then([],eJ m) else ic m
def iA(m:aj)(l:List Int):Bool:=decide ((gX (bA m l) (bA m l).cls.length []).2<1099511627776)
def pw(m:aj):List Int->List Int->List Int
 |[],l=>l
 |n::ns,l=>pw m ns (if iA m (cY l n)=true then l else cY l n)
def Ei(m:aj):List Int×Int:=if iA m (cY (fq m) (-1))=true then([],60) else(pw m (fq m) (fq m),0)
def Iz{l:List Int}{n:Int}(h:n ∉ l):cY l n=l:=List.filter_eq_self.2 λx hx=>by
 simp only[jW,beq_eq_false_iff_ne,ne_eq];exact λe=>h (e▸hx)
def IA{m:aj}:(-1:Int) ∉ fq m:=λh=>by
 unfold fq at h;obtain⟨i,_,hi⟩:=bZ.1 h;omega
def UT{m:aj}(hm:VM m)(hp:fo m<=1000)(l:List Int):mM (bA m l)=0/\rC (bA m l)<=1099511627776/\(rC (bA m l)=1099511627776↔iA m l=false):=by
 obtain⟨h1,h2,h3⟩:=Ag (sv hm (gv m.rules l)) (by
  have:=yh hm l;unfold bA at this;omega)
 refine⟨h1,?_,?_⟩
 ·unfold rC bA at *;rw[if_pos h1];exact h2
 ·unfold rC iA bA at *;rw[if_pos h1,h3,decide_eq_false_iff_not]
def UU{m:aj}(hm:VM m)(hp:fo m<=1000):∀ (ns l:List Int),xf m ns l=(pw m ns l,0)
 |[],l=>rfl
 |n::ns,l=>by
  obtain⟨h1,h2,h3⟩:=UT hm hp (cY l n);rw[xf,pw,if_neg I6,UU hm hp ns];cases hb:iA m (cY l n)
  ·rw[if_pos (h3.2 hb)];rfl
  ·rw[if_neg (λh=>by rw[h3.1 h]at hb;cases hb)];rfl
def Gm{m:aj}(hm:VM m)(hp:fo m<=1000):ic m=Ei m:=by
 obtain⟨h1,h2,h3⟩:=UT hm hp (fq m);unfold ic Ei;rw[if_neg I6,Iz IA,UU hm hp];cases hb:iA m (fq m)
 ·have:=h3.2 hb;rw[if_neg I6,if_neg Jd]
 ·rw[if_pos (by
   have:rC (bA m (fq m))≠1099511627776:=λh=>by rw[h3.1 h]at hb;cases hb
   omega),if_pos rfl]
def sS(a b:Int):Prop:=(a=0\/a=1099511627776)/\(a=1099511627776->b=1099511627776)
def sS.min{a b x y:Int}(h:sS a b)(hx:x=0\/x=1099511627776)(pQ:x=1099511627776->1099511627776<=y):sS (min a x) (min b y):=by
 obtain⟨h1,h2⟩:=h;refine⟨I6,λe=>?_⟩;have:=h2 I6;have:=pQ I6;omega
def UW{α:Type}{f g:α->Int}:∀ (xs:List α) (s:List Bool) (a b:Int),(∀ x∈xs,(f x=0\/f x=1099511627776)/\(f x=1099511627776->1099511627776<=g x))->sS a b->sS (iG (xs.map f) s a) (iG (xs.map g) s b)
 |[],s,a,b,_,h=>by cases s<;>exact h
 |x::r,[],a,b,_,h=>h
 |x::r,i::s,a,b,hx,h=>by
  rw[dJ,dJ,iG,iG];refine UW r s _ _ (λy hy=>hx y (by simp[hy])) ?_;split
  ·exact h.min (hx x Jd).1 (hx x Jd).2
  ·exact h
def adB(ay:List Int)(i:Nat):(ay.map kY).getD i 0=kY (ay.getD i 0):=G2 _ _ _ _ _ aab
def UX{ay:List Int}{w i:Nat}{x:Bool}:∀ (r:List Bool) (k:Nat) (a b:Int),sS a b->sS (q8 (ay.map kY) w i x k r a) (q8 ay w i x k r b)
 |[],k,a,b,h=>h
 |y::r,k,a,b,h=>by
  rw[q8,q8,adB];refine UX r (k+1) _ _ ?_;split
  ·refine h.min ?_ ?_
   ·unfold kY;split<;>simp
   ·unfold kY;split<;>omega
  ·exact h
def UY{ay:List Int}{w:Nat}{rb:List Bool}:∀ (r:List Bool) (i:Nat) (a b:Int),sS a b->sS (p9 (ay.map kY) w rb i r a) (p9 ay w rb i r b)
 |[],i,a,b,h=>h
 |x::r,i,a,b,h=>by
  rw[p9,p9];exact UY r (i+1) _ _ (UX rb 0 a b h)
def UZ:∀ (l:List Int) (a:Int),a<=1099511627776->l.foldl dx a<=1099511627776
 |[],a,h=>h
 |x::l,a,h=>UZ l _ (by unfold dx;omega)
def adC{R:Int}{o:br}(hc:db R none o.ch=true):(iU (fA o)=0\/iU (fA o)=1099511627776)/\(iU (fA o)=1099511627776->1099511627776<=iU o):=by
 have h1:=H9 o;have h2:iU (fA o)<=1099511627776:=UZ _ _ aab;unfold Zf at h1;exact⟨I6,λh=>UR hc I6⟩
def U0{R:Int}{left:List (List Bool)}:∀ (l:List (List br)) (i:Nat) (a b:Int),(∀ c∈l,∀ o∈c,db R none o.ch=true)->(lO left i (l.map λc=>c.map fA) a=none->lO left i l b=none)/\(∀ k,lO left i (l.map λc=>c.map fA) a=some k->k=a)
 |[],i,a,b,_=>⟨λh=>(by cases h),λk h=>(by cases h;rfl)⟩
 |c::r,i,a,b,hc=>by
  have hr:=UW (f:=λo=>iU (fA o)) (g:=iU) c (left.getD i default) 1099511627776 1099511627776 (λo ho=>adC (hc c Jd o ho)) ⟨.inr rfl,λ_=>rfl⟩;have e1:jE (c.map fA)=c.map λo=>iU (fA o):=by unfold jE;rw[uq];rfl
  have e2:jE c=c.map iU:=rfl;rw[<- e1,<- e2]at hr;rw[dJ,lO,lO];rcases hr.1 with h|h
  ·rw[h,if_neg aab,xu];obtain⟨h1,h2⟩:=U0 (R:=R) (left:=left) r (i+1) a (b+iG (jE c) (left.getD i default) 1099511627776) (λc' h'=>hc c' (by simp[h']));refine⟨λhn=>?_,h2⟩;split
   ·rfl
   ·exact h1 hn
  ·rw[if_pos h,if_pos (hr.2 h)];exact⟨λ_=>rfl,λk hk=>(by cases hk)⟩
def U1{m:aj}{left:List (List Bool)}:∀ (l:List Pr) (a b:Int),(mf (aH m) left (l.map gZ) a=none->mf m left l b=none)/\(∀ k,mf (aH m) left (l.map gZ) a=some k->k=a)
 |[],a,b=>⟨λh=>(by cases h),λk h=>(by cases h;rfl)⟩
 |p::r,a,b=>by
  have hr:sS (nK (aH m) left (gZ p)) (nK m left p):=by
   unfold nK;rw[show(gZ p).snd=p.snd from rfl,show(gZ p).fst=p.fst from rfl,show(gZ p).ay=p.ay.map kY from rfl,w0];exact UY _ 0 _ _ ⟨.inr rfl,λ_=>rfl⟩
  rw[dJ,mf,mf];rcases hr.1 with h|h
  ·rw[h,if_neg aab,xu];obtain⟨h1,h2⟩:=U1 (m:=m) (left:=left) r a (b+nK m left p);refine⟨λhn=>?_,h2⟩;split
   ·rfl
   ·exact h1 hn
  ·rw[if_pos h,if_pos (hr.2 h)];exact⟨λ_=>rfl,λk hk=>(by cases hk)⟩
def IB{left:List (List Bool)}:∀ (l:List Ct) (a b:Int),(lP left (l.filter λc=>jU c.bM) a=none->lP left l b=none)/\(∀ k,lP left (l.filter λc=>jU c.bM) a=some k->k=a)
 |[],a,b=>⟨λh=>(by cases h),λk h=>(by cases h;rfl)⟩
 |c::r,a,b=>by
  rw[List.filter_cons];by_cases hF:jU c.bM=true
  ·rw[if_pos hF,lP,lP];by_cases h:mN left c=1099511627776
   ·rw[if_pos h,if_pos h];exact⟨λ_=>rfl,λk hk=>(by cases hk)⟩
   ·have h0:mN left c=0:=by
     unfold jU at hF;rw[decide_eq_true_eq]at hF;unfold mN wL at h ⊢;generalize o9 c.aS left none c.aS (-c.most)=g at *;rw[hF]at h ⊢;by_cases hg:0<max g 0
     ·rw[if_pos ⟨hg,rfl⟩]at h;exact absurd rfl h
     ·rw[if_neg (λe=>hg e.1),show max g 0=0 by omega];decide
    rw[h0,if_neg aab,if_neg aab,xu,xu];exact IB r a b
  ·rw[if_neg hF,lP];obtain⟨h1,h2⟩:=IB (left:=left) r a (b+mN left c);refine⟨λhn=>?_,h2⟩;split
   ·rfl
   ·exact h1 hn
def adD{m:aj}(hm:VM m){left:List (List Bool)}(h:dI (aH m) left=1099511627776):dI m left=1099511627776:=by
 have h1:=λa b=>U0 (R:=m.rules) (left:=left) m.cls 0 a b hm.kQ;have h2:=λa b=>U1 (m:=m) (left:=left) m.ae a b;have h3:=λa b=>IB (left:=left) m.ar a b;unfold dI at h ⊢;rw[show(aH m).cls=m.cls.map λc=>c.map fA from rfl]at h;cases e1:lO left 0 (m.cls.map λc=>c.map fA) 0 with
 |none=>rw[(h1 0 0).1 e1];rfl
 |some k =>
  rw[e1]at h;have:=(h1 0 0).2 k e1;subst this;cases e2:mf (aH m) left (m.ae.map gZ) 0 with
  |none =>
   cases e4:lO left 0 m.cls 0 with
   |none=>rfl
   |some b=>rw[show uZ m left (some b)=mf m left m.ae b from rfl,(h2 0 b).1 e2];rfl
  |some k2 =>
   rw[show uZ (aH m) left (some 0)=mf (aH m) left (m.ae.map gZ) 0 from rfl,e2]at h;have:=(h2 0 0).2 k2 e2;subst this;cases e3:lP left (m.ar.filter λc=>jU c.bM) 0 with
   |none =>
    cases e4:uZ m left (lO left 0 m.cls 0) with
    |none=>rfl
    |some b=>rw[show u3 m left (some b)=lP left m.ar b from rfl,(h3 0 b).1 e3];rfl
   |some k3 =>
    rw[show u3 (aH m) left (some 0)=lP left (m.ar.filter λc=>jU c.bM) 0 from rfl,e3]at h;have:=(h3 0 0).2 k3 e3;subst this;exact absurd h aab
def adE{m:aj}{left:List (List Bool)}(h:ej m left):ej (aH m) left:=⟨by rw[oz];exact h.1,λi hi=>by rw[w0];exact h.2 i hi⟩
def adF{m:aj}(hm:VM m){left:List (List Bool)}(hf:ej m left)(h:1099511627776<=sQ (aH m) left):sQ m left=1099511627776:=by
 unfold sQ at *;rw[<- AK (sy hm) (adE hf)]at h;rw[<- AK hm hf];have:=acj (aH m) left;exact adD hm I6
def adG{m:aj}{left:List (List Bool)}(h:ej m left)(c o:Nat):ej m (bN left c o):=by
 unfold bN;refine⟨by rw[bE];exact h.1,λi hi=>?_⟩;rw[bE]at hi;by_cases e:c=i
 ·subst e;rw[aA,List.getElem?_set_self hi];show(lq _ _).length=_;rw[C7];exact h.2 _ hi
 ·rw[aA,bj e,<- aA];exact h.2 i hi
mutual
def Tr.Bi{m:aj}(hm:VM m){P:List Nd}{lo hi:Nat}{left:List (List Bool)}{ab v:List Int}:Tr (aH m) P lo hi left ab v->ej m left->(∀ x∈v,1099511627776<=x)->∃ w,Tr m P lo hi left ab w/\∀ x∈w,x=1099511627776
 |.leaf _ _ _ h ha,hf,hv=>⟨_,.leaf _ _ _ h ha,λx hx=>by
  rw[List.mem_singleton.1 hx];exact adF hm hf (hv _ Jd)⟩
 |.node _ _ _ _ c ks vs h hc ha hk hs,hf,hv=>by
  obtain⟨w,h1,h2⟩:=jT.Bi hm hs hf hv;exact⟨w,.node _ _ _ _ c ks w h (by rw[<- oz m];exact hc) ha (by rw[<- w0 m];exact hk) h1,h2⟩
def jT.Bi{m:aj}(hm:VM m){P:List Nd}{lo hi:Nat}{left:List (List Bool)}{c:Nat}{ab:List Int}{o:Nat}{ks v:List Int}:jT (aH m) P lo hi left c ab o ks v->ej m left->(∀ x∈v,1099511627776<=x)->∃ w,jT m P lo hi left c ab o ks w/\∀ x∈w,x=1099511627776
 |.nil _ _ _ _ _,_,_=>⟨[],.nil _ _ _ _ _,λx hx=>(by cases hx)⟩
 |.cons _ mid _ _ _ _ _ _ _ _ h hs,hf,hv=>by
  obtain⟨w1,a1,a2⟩:=Tr.Bi hm h (adG hf _ _) λx hx=>hv x (by simp[hx]);obtain⟨w2,b1,b2⟩:=jT.Bi hm hs hf λx hx=>hv x (by simp[hx]);exact⟨w1++w2,.cons _ mid _ _ _ _ _ _ _ _ a1 b1,λx hx=>(List.mem_append.1 hx).elim (a2 x) (b2 x)⟩
end
def IC(R:Int)(l:List Int)(r:Int):dj (gv R l) r=(decide (r.toNat<R.toNat)&&l.contains ((r.toNat:Nat):Int)):=by
 unfold dj gv;rw[aA,cg];by_cases h:r.toNat<R.toNat
 ·rw[List.getElem?_range h,decide_eq_true h];simp
 ·rw[List.getElem?_eq_none (by simpa using h),decide_eq_false h];simp
def ID{α:Type}{p q s:α->Bool}(h:∀ x,s x=(p x&&q x))(l:List α):(l.filter p).filter q=l.filter s:=by
 rw[List.filter_filter];exact Jn λx _=>by rw[h,Bool.and_comm]
def adH{m:aj}{k1 k2 k3:List Bool}(h:∀ r,dj k3 r=(dj k1 r&&dj k2 r)):fX (fX m k1) k2=fX m k3:=by
 unfold fX;dsimp only;rw[uq,ID (s:=λp:Pr=>dj k3 p.aV) (λp=>h p.aV),ID (s:=λc:Ct=>dj k3 c.aV) (λc:Ct=>h c.aV)];congr 1;refine kG λl _=>?_;rw[Function.comp_apply,uq];refine kG λo _=>?_;rw[Function.comp_apply];unfold jF;dsimp only;rw[ID (s:=λc:Int×Int=>dj k3 c.1) (λc:Int×Int=>h c.1)]
def U2(m:aj){l l1 l2:List Int}(h:∀ x,x∈l2↔x∈l1/\x∈l):bA (bA m l1) l=bA m l2:=by
 unfold bA;refine adH λr=>?_;show _=(_&&dj (gv m.rules l) r);rw[IC,IC,IC];have hx:=h ((r.toNat:Nat):Int);rw[my];simp only[ba,decide_eq_true_eq,List.contains_iff_mem];constructor
 ·rintro⟨a,b⟩;exact⟨⟨a,(hx.1 b).1⟩,a,(hx.1 b).2⟩
 ·rintro⟨⟨a,b⟩,_,c⟩;exact⟨a,hx.2 ⟨b,c⟩⟩
def IE{m:aj}{l q:List Int}:FP (bA m l) q↔FP m q:=by
 unfold bA;exact⟨λh=>⟨by rw[h.len,AE],λj hj=>by rw[<- G6 m (gv m.rules l)];exact h.get j hj⟩,λh=>⟨by rw[AE];exact h.len,λj hj=>by rw[G6];exact h.get j hj⟩⟩
def U3{m:aj}{l:List Int}:iA m l=true↔∃ q,FP m q/\fM (bA m l) q<1099511627776:=by
 unfold iA;rw[decide_eq_true_eq];constructor
 ·intro h;obtain⟨h1,h2⟩:=TT h;exact⟨_,IE.1 h1,by rw[h2];exact h⟩
 ·rintro⟨q,h1,h2⟩;have:=H8 (m:=bA m l) (IE.2 h1);omega
def adI{m:aj}(hm:VM m){l l':List Int}(h:∀ x∈l,x∈l')(hp:iA m l'=true):iA m l=true:=by
 obtain⟨q,h1,h2⟩:=U3.1 hp;refine U3.2 ⟨q,h1,Int.lt_of_le_of_lt ?_ h2⟩;rw[<- U2 m (l1:=l') (l:=l) (l2:=l) λx=>⟨λhx=>⟨h x hx,hx⟩,λhx=>hx.2⟩];exact(sv hm _:VM (bA m l')) |> λhv=>Cut.total hv _ q
def yZ{l:List Int}{n x:Int}:x∈cY l n↔x∈l/\x≠n:=by
 unfold cY;rw[mz];simp
def IF{m:aj}(hm:VM m):∀ (ns A:List Int),iA m A=false->iA m (pw m ns A)=false/\(∃ p:Int->Bool,pw m ns A=A.filter p)/\∀ x∈pw m ns A,x∈ns->iA m (cY (pw m ns A) x)=true
 |[],A,h=>⟨h,⟨λ_=>true,(List.filter_eq_self.2 λ_ _=>rfl).symm⟩,λx _ hx=>by cases hx⟩
 |n::ns,A,h=>by
  rw[pw];by_cases hp:iA m (cY A n)=true
  ·rw[if_pos hp];obtain⟨h1,⟨p,h2⟩,h3⟩:=IF hm ns A h;refine⟨h1,⟨p,h2⟩,λx hx hn=>?_⟩;rcases b8.1 hn with e|e
   ·rw[e];refine adI hm (l':=cY A n) (λy hy=>?_) hp;rw[yZ]at hy ⊢;rw[h2]at hy;exact⟨(mz.1 hy.1).1,hy.2⟩
   ·exact h3 x hx e
  ·rw[if_neg hp];obtain⟨h1,⟨p,h2⟩,h3⟩:=IF hm ns (cY A n) (by simpa using hp);refine⟨h1,⟨λx=>p x&&!(x==n),?_⟩,λx hx hn=>?_⟩
   ·rw[h2];unfold cY;rw[List.filter_filter]
   ·rcases b8.1 hn with e|e
    ·exfalso;rw[h2,e]at hx;exact(yZ.1 (mz.1 hx).1).2 rfl
    ·exact h3 x hx e
def U4{m:aj}{x:Int}:x∈fq m↔0<=x/\x<m.rules:=by
 unfold fq;rw[bZ];constructor
 ·rintro⟨i,hi,rfl⟩;have:=lz.1 hi;omega
 ·intro h;exact⟨x.toNat,lz.2 I6,I6⟩
def adJ(m:aj):(fq m).Pairwise (· < ·):=by
 unfold fq;rw[List.pairwise_map];exact List.pairwise_lt_range.imp λh=>I6
structure su(m:aj)(l:List Int):Prop where
 no:iA m l=false
 sub :∃p:Int->Bool,l=(fq m).filter p
 one:∀ x∈l,iA m (cY l x)=true
def CX{m:aj}(hm:VM m)(hp:fo m<=1000)(h:(ic m).2=0):su m (ic m).1:=by
 rw[Gm hm hp]at h ⊢;unfold Ei at *;rw[Iz IA]at *;by_cases hb:iA m (fq m)=true
 ·rw[if_pos hb]at h;exact absurd h aab
 ·rw[if_neg hb]at h ⊢;obtain⟨h1,⟨p,h2⟩,h3⟩:=IF hm (fq m) (fq m) (by simpa using hb);refine⟨h1,⟨p,h2⟩,λx hx=>h3 x hx ?_⟩;have hx:x∈pw m (fq m) (fq m):=hx;rw[h2]at hx;exact(mz.1 hx).1
def su.mem{m:aj}{l:List Int}(h:su m l):∀ x∈l,0<=x/\x<m.rules:=by
 obtain⟨p,hp⟩:=h.sub;intro x hx;rw[hp]at hx;exact U4.1 (mz.1 hx).1
def su.asc{m:aj}{l:List Int}(h:su m l):l.Pairwise (· < ·):=by
 obtain⟨p,hp⟩:=h.sub;rw[hp];exact(adJ m).filter p
def su.ru{m:aj}(hm:VM m){l:List Int}(h:su m l):pZ m l:=⟨by
 obtain⟨p,hp⟩:=h.sub;rw[hp];exact Nat.le_trans (List.length_filter_le _ _) (TX hm).1,h.mem⟩
def IG{m:aj}{l:List Int}(h1:∀ A:List Int,(∀ x∈l,x∈A)->∀ n,iA m (cY A n)=decide (n∈l)):∀ (ns A:List Int),(∀ x∈l,x∈A)->pw m ns A=A.filter λy=>decide (y∈l\/y ∉ ns)
 |[],A,_=>by
  rw[pw];exact(List.filter_eq_self.2 λx _=>Jd).symm
 |n::ns,A,hA=>by
  rw[pw,h1 A hA n];by_cases hn:n∈l
  ·rw[decide_eq_true hn,if_pos rfl,IG h1 ns A hA];refine Jn λy _=>?_;rw[decide_eq_decide];constructor
   ·rintro(h|h)
    ·exact .inl h
    ·by_cases e:y=n
     ·exact .inl (e▸hn)
     ·exact .inr λhm=>(b8.1 hm).elim e h
   ·rintro(h|h)
    ·exact .inl h
    ·exact .inr λhm=>h (ET _ hm)
  ·rw[decide_eq_false hn,if_neg Jd,IG h1 ns (cY A n) λx hx=>yZ.2 ⟨hA x hx,λe=>hn (e▸hx)⟩];unfold cY;rw[List.filter_filter];refine Jn λy _=>?_;rw[my];simp only[ba,decide_eq_true_eq,jW,beq_eq_false_iff_ne];constructor
   ·rintro⟨h|h,e⟩
    ·exact .inl h
    ·exact .inr λhm=>(b8.1 hm).elim e h
   ·rintro(h|h)
    ·exact⟨.inl h,λe=>hn (e▸h)⟩
    ·exact⟨.inr λhm=>h (ET _ hm),λe=>h (e▸List.mem_cons_self)⟩
def IH{m:aj}{l A B:List Int}(h:∀ x,x∈B↔x∈l/\x∈A):iA (bA m l) A=iA m B:=by
 unfold iA;rw[U2 m h]
def YZ{m:aj}(hm:VM m)(hp:fo m<=1000)(h:(ic m).2=0):ic (bA m (ic m).1)=((ic m).1,0):=by
 have hr:=CX hm hp h;generalize (ic m).1=l at *;have hv:VM (bA m l):=sv hm _;rw[Gm hv (by rw[yh hm];exact hp)];have jQ:fq (bA m l)=fq m:=rfl;have dL:∀ x∈l,x∈fq m:=λx hx=>U4.2 (hr.mem x hx);unfold Ei;rw[Iz IA,jQ,IH (B:=l) λx=>⟨λhx=>⟨hx,dL x hx⟩,λhx=>hx.1⟩,hr.no,if_neg Jd,IG (l:=l) ?_ _ _ dL]
 ·congr 1;obtain⟨p,cG⟩:=hr.sub;rw[cG];refine Jn λy hy=>?_;rw[my,decide_eq_true_eq,mz];constructor
  ·rintro(h|h)
   ·exact h.2
   ·exact absurd hy h
  ·intro h;exact .inl ⟨hy,h⟩
 ·intro A hA n;by_cases hn:n∈l
  ·rw[decide_eq_true hn,IH (B:=cY l n) λx=>?_]
   ·exact hr.one n hn
   ·rw[yZ,yZ];exact⟨λhx=>⟨hx.1,hA x hx.1,hx.2⟩,λhx=>⟨hx.1,hx.2.2⟩⟩
  ·rw[decide_eq_false hn,IH (B:=l) λx=>?_]
   ·exact hr.no
   ·rw[yZ];exact⟨λhx=>⟨hx,hA x hx,λe=>hn (e▸hx)⟩,λhx=>hx.1⟩
structure tB where
 rules:List Int
 nodes:List Nd
 tC:List (List Int)
def qZ(c:tB):List AV:=[.tree 1 (ints c.rules),.tree 5 (rowsOf cN c.nodes),.tree 1 (fF c.tC)]
def qY:tB:=⟨[],[],[]⟩
def nH(f:Nat->Bool):Nat->Nat->Bool
 |0,_=>true
 |w+1,i=>f i&&nH f w (i+1)
def y6{f:Nat->Bool}:∀ {w i:Nat},nH f w i=true↔∀ j,i<=j->j<i+w->f j=true
 |0,i=>⟨λ_ j h1 h2=>I6,λ_=>rfl⟩
 |w+1,i=>by
  rw[nH,ba,y6 (w:=w)];constructor
  ·rintro⟨h1,h2⟩ j h3 h4;rcases Nat.eq_or_lt_of_le h3 with e|e
   ·exact e▸h1
   ·exact h2 j e I6
  ·intro h;exact⟨h i (aG _) I6,λj h1 h2=>h j I6 I6⟩
def ov(R:Int)(l:List Int)(i:Nat):Bool:=decide (0<=l.getD i 0/\l.getD i 0<R/\(i=0\/l.getD (i-1) 0<l.getD i 0))
def CZ(m:aj)(c:tB)(i:Nat):Bool:=decide (wI m (c.tC.getD i default)=0/\(sx (bA m (cY c.rules (c.rules.getD i 0))) (c.tC.getD i default)).2.2=0/\(sx (bA m (cY c.rules (c.rules.getD i 0))) (c.tC.getD i default)).1<1099511627776)
def CY(m:aj)(c:tB):Bool:=decide (lL (bA m c.rules) c.nodes=(1099511627776,true))
def yg(m:aj)(c:tB):Bool:=decide (eJ m=0/\c.tC.length=c.rules.length)&&(nH (ov m.rules c.rules) c.rules.length 0&&(CY m c&&nH (CZ m c) c.rules.length 0))
def adL{R:Int}{l:List Int}(h:nH (ov R l) l.length 0=true):∀ i:Nat,i<l.length->(i:Int)<=l.getD i 0:=by
 intro i
 induction i with
 |zero =>
  intro hi;have:=y6.1 h 0 (aG _) I6;unfold ov at this;rw[decide_eq_true_eq]at this;exact this.1
 |succ i ih =>
  intro hi;have h1:=ih I6;have:=y6.1 h (i+1) (aQ _) I6;unfold ov at this;rw[decide_eq_true_eq,Nat.add_sub_cancel]at this;omega
def Y1{m:aj}(hm:VM m){l:List Int}(h:nH (ov m.rules l) l.length 0=true):pZ m l:=by
 have hr:=hm.iS;have dL:∀ i,i<l.length->0<=l.getD i 0/\l.getD i 0<m.rules:=λi hi=>by
  have:=y6.1 h i (aQ _) I6;unfold ov at this;rw[decide_eq_true_eq]at this;exact⟨this.1,this.2.1⟩
 refine⟨?_,λx hx=>?_⟩
 ·rcases mr l.length with e|e
  ·omega
  ·have h1:=adL h (l.length-1) I6;have h2:=dL (l.length-1) I6;omega
 ·obtain⟨i,hi,rfl⟩:=List.mem_iff_getElem.1 hx;have:=dL i hi;rw[aA,bT hi]at this;exact this
def adM{m:aj}{l:List Int}(h:l.Pairwise (· < ·))(dL:∀ x∈l,0<=x/\x<m.rules):nH (ov m.rules l) l.length 0=true:=by
 refine y6.2 λj _ hj=>?_;have hj:j<l.length:=I6;unfold ov;rw[decide_eq_true_eq];have h1:=dL _ (aC (d:=(0:Int)) hj);refine⟨h1.1,h1.2,?_⟩;rcases mr j with e|e
 ·exact .inl e
 ·right;have:=List.pairwise_iff_getElem.1 h (j-1) j I6 hj I6;rw[aA,bT I6,aA,bT hj];exact this
def Gn{r:aj}(hr:VM r)(hp:fo r<=1000)(ht:(tryD r).aU≠1099511627776):FP r (tryD r).plan/\fM r (tryD r).plan<1099511627776/\(tryD r).aU<1099511627776:=by
 have hh:=sy hr;have h2:=(Ag hr hp).2.1;have k1:=(yj hh (spl:=20000) aab (p0:=[]) (t0:=1099511627776) (.inl ⟨rfl,rfl⟩)).1;have k2:=(yj hr (spl:=20000) aab (p0:=[]) (t0:=1099511627776) (.inl ⟨rfl,rfl⟩)).1;change oA (aH r) (bw (aH r)).plan (bw (aH r)).aU at k1;change oA r (bw r).plan (bw r).aU at k2;refine⟨?_,?_,I6⟩
 ·unfold tryD at *;split at ht
  ·rename_i hc;rw[if_pos hc];obtain⟨a,_,_⟩:=k1.resolve_left λe=>ht e.2;exact⟨by rw[<- oz r];exact a.len,λj hj=>by rw[<- Ak r];exact a.get j hj⟩
  ·rename_i hc;rw[if_neg hc];exact(k2.resolve_left λe=>ht e.2).1
 ·unfold tryD at *;split at ht
  ·rename_i hc;rw[if_pos hc];exact hc.resolve_left ht
  ·rename_i hc;rw[if_neg hc];obtain⟨_,b,c⟩:=k2.resolve_left λe=>ht e.2;omega
def Nt{r:aj}(hr:VM r)(hp:fo r<=1000):PB (tryD r).nodes/\(tryD r).nodes.length<=20000/\((tryD r).aU=1099511627776->lL r (tryD r).nodes=(1099511627776,true)):=by
 have hh:=sy hr;obtain⟨a1,a2,a3,a4,a5⟩:=D6 hh (D7 hh (by rw[TW hr];exact hp));obtain⟨b1,b2,b3,b4,b5⟩:=D6 hr (D7 hr hp);have s1:=(yj hh (spl:=20000) aab (p0:=[]) (t0:=1099511627776) (.inl ⟨rfl,rfl⟩)).2.2.2.2.2.1;have s2:=(yj hr (spl:=20000) aab (p0:=[]) (t0:=1099511627776) (.inl ⟨rfl,rfl⟩)).2.2.2.2.2.1;change PB (bw (aH r)).nodes at s1;change PB (bw r).nodes at s2;unfold tryD;split
 ·refine⟨s1,a5,λht=>?_⟩;have hd:=D4 hh ((aH r).cls.length+1) (dt (aH r)) [] D5 (by rw[(Dn.root hh).fit.1];simp) (Dn.root hh);obtain⟨v,hv,rz⟩:=hd.tr [] (λx hx=>by cases hx);have rz:(bw (aH r)).bY=kW v 1099511627776:=rz;have hv:Tr (aH r) (bw (aH r)).nodes 0 (bw (aH r)).nodes.length (dt (aH r)) [] v:=hv;rw[a3,ht]at rz;have jQ:dt (aH r)=dt r:=by
   unfold dt;rw[if_pos (fc.2 hh),if_pos (fc.2 hr)];unfold mj aH;dsimp only;rw[uq];exact kG λx _=>Jd
  rw[jQ]at hv;obtain⟨w,h1,h2⟩:=hv.Bi hr (Dn.root hr).fit λx hx=>by
   have:=(D3 v 1099511627776).2.1 x hx;omega
  rw[h1.dU hr a5];have h3:=D3 w 1099511627776;have:kW w 1099511627776=1099511627776:=h3.2.2.elim id λh=>h2 _ h;rw[this]
 ·refine⟨s2,b5,λht=>?_⟩;rw[b4,ht]
def lK(m:aj)(l:List Int):tB:=⟨l,(tryD (bA m l)).nodes,l.map λn=>(tryD (bA m (cY l n))).plan⟩
def oZ(m:aj):tB×Int:=if eJ m≠0 then(qY,eJ m) else if(ic m).2≠0 then(qY,(ic m).2) else(lK m (ic m).1,0)
def YT{m:aj}(hm:VM m)(hp:fo m<=1000){l:List Int}(h:su m l):yg m (lK m l)=true:=by
 have hv:∀ k,VM (bA m k):=λk=>sv hm _;have cE:∀ k,fo (bA m k)<=1000:=λk=>by rw[yh hm];exact hp
 have key:∀ k,(tryD (bA m k)).aU=1099511627776↔iA m k=false:=λk=>by
  have:=(Ag (hv k) (cE k)).2.2;rw[this];unfold iA;rw[decide_eq_false_iff_not]
 unfold yg;rw[show(lK m l).rules=l from rfl,show(lK m l).tC.length=l.length from by unfold lK;simp,adM h.asc h.mem,decide_eq_true ⟨fc.2 hm,rfl⟩];have h1:CY m (lK m l)=true:=by
  unfold CY;rw[decide_eq_true_eq];exact(Nt (hv l) (cE l)).2.2 ((key l).2 h.no)
 rw[h1];simp only[Bool.true_and];refine y6.2 λj _ hj=>?_;have hj:j<l.length:=I6;have hx:=aC (d:=(0:Int)) hj;have hpj:(lK m l).tC.getD j default=(tryD (bA m (cY l (l.getD j 0)))).plan:=by
  unfold lK;dsimp only;rw[aA,cg,bT hj,aA,bT hj];rfl
 unfold CZ;rw[hpj,show(lK m l).rules=l from rfl,decide_eq_true_eq];have jD:=h.one _ hx;generalize l.getD j 0=n at *;obtain⟨a1,a2,a3⟩:=Gn (hv (cY l n)) (cE _) (λe=>by rw[(key _).1 e]at jD;cases jD);have a4:=IE.1 a1;refine⟨abf hm a4,?_⟩;rw[NL (hv _) a1.pm];exact⟨rfl,a2⟩
end T

