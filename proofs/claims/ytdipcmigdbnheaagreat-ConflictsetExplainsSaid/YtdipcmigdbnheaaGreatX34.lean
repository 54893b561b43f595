import Derived.Test.YtdipcmigdbnheaaGreatX33
set_option linter.all false
set_option maxHeartbeats 0
set_option maxRecDepth 20000
open Nat renaming zero_le→aI,le_refl→aN,eq_zero_or_pos→m9,lt_succ_self→ql
open List renaming replicate→bH,getElem?_set_ne→bR,getElem_of_mem→mJ,getD_eq_getElem?_getD→aA,getElem?_eq_getElem→bK,mem_cons→cB,mem_filter→qh,mem_map→cz,getElem?_map→cj,length→oW,map_map→uD,map_congr_left→l8,map_cons→dg,length_set→bF,mem_range→mH
open Int renaming le_refl→eC,toNat_natCast→fq,add_zero→BL
open Bool renaming and_eq_true→bw
open Go Go.Am Go.Proofs
namespace T
def ams(m:aj)(bT:VM m):ao Tryz.prog 102 [.agg (aq m)] [] (.ref 0 1 0 (dH m).length) [.arr 1 (rowsOf aQ (dH m))]:=by
 have hm:=bT.mb;have h1:=tV m hm;have rR:=hm.cls;generalize ak:dH m=res;unfold dH at ak;refine ao.aD 25 0 [.tmp 2] Tryz.func102 ?_;have hv:df m=0:=eK.2 bT;rw[if_pos hv]at ak;rw[hv]at h1;have nu:=bT.cls;((repeat'(first|refine Vd @bne_self_eq_false.{0} h1 ?_|(refine Xi ?_ ?_<;>try intro ht)|exact Xx|fail)))
 refine aM (λz:Nat×List (List Bool)=>(⟨aw [(1,.ptr 0 0 0),(3,.ref 1 1 0 z.2.length),(10,.tree 1 (rowsOf bu m.cls)),(11,aaC m.cls.length),(12,aaC z.1)],[.var (aq m),.arr 1 (rowsOf aQ z.2)]⟩:St))
  (λz=>z.1<=m.cls.length/\z.2=(lX m).take z.1) (λz=>m.cls.length-z.1) (0,[]) ⟨aI _,rfl⟩ ?_ ?_
 ·refine aF.trans (aF.nil 3 1 (by simp only[Kc,simprocAttr]) Px) ?_;exact Xv X0
 rintro⟨i,xs⟩⟨hi,dy⟩Ql an ar;dsimp only at hi dy ⊢;have fX:(lX m).length=m.cls.length:=by simp[lX]
 by_cases hi':i<m.cls.length
 ·have rT:xs.length=i:=by rw[dy,List.length_take];omega
  have cN:(lX m).take (i+1)=xs++[bH (m.cls.getD i default).length true]:=by
   rw[eG GC,<- dy];unfold lX;rw[iR _ _ _ hi']
  have s6:=bT.opt _ (ay (d:=default) hi');generalize aR:m.cls.getD i default=c at *;have EX:=aaT true c.length GC;repeat'(first|((fail_if_success (first|refine eT 7 ?_|refine eU 7 ?_));refine Xr (X2 @aR @bu.eq_1) ?_;intro K hK)|(refine hK _ ?_;clear hK K)|(refine Xi ?_ ?_<;>try intro ht)|refine Xy ?_|refine Xd ?_ ?_|exact Xx|fail)
  refine LR 5 Px ?_;intro K K1 hK zq;simp(disch:=omega)only[Ac,↓Pc,simprocAttr,List.take];refine nM [] EX Px trivial ⟨aJ.fz (rows:=rowsOf m6 [true]) rfl rfl GF,.pure rfl,trivial⟩ rfl (by simp[xB,m6,rowsOf,flat]) ?_;simp(disch:=omega)only[Ac,↓Pc,simprocAttr];refine zq _ ⟨aw [(1,.ptr 0 0 0),(3,.ref 1 1 0 xs.length),(10,.tree 1 (rowsOf bu m.cls)),(11,aaC m.cls.length),(12,aaC i),(16,.ref 1 1 0 xs.length),(20,.tree 1 (aX (bH c.length true)))],[.var (aq m),.arr 1 (rowsOf aQ xs)]⟩ ?_ ?_
  ·rw[<- aaS];exact Xs true [0,1] X0
  clear zq K1;simp(disch:=omega)only[Ac,↓Pc,simprocAttr,List.drop,aaU];repeat'(first|with_reducible refine And.intro ?_ ?_|omega)
  refine hK _ ?_;clear hK K;repeat(refine Xu ?_)
  refine Va X0 ?_;refine an _ (i+1,xs++[bH c.length true]) ⟨PA,cN.symm⟩ PA ?_;exact Xs false [0,3] X0
 ·rw[List.take_of_length_le GC]at dy;((repeat'(first|refine Va X0 ?_|(refine Xi ?_ ?_<;>try intro ht)|exact Xx|fail)))
  refine ar _ _ rfl ?_;clear an ar Ql;repeat(refine Xu ?_)
  refine Vb X0 ?_;rw[dy,ak];exact Xw false [1] X0
def g0(spl:Int)(p0:List Int)(t0:Int):QS:=⟨11,10,[],⟨[],19999,spl,true,p0,t0,1099511627776⟩⟩
def zZ(m:aj)(spl:Int)(p0:List Int)(t0:Int):DS:=lZ m (m.cls.length+1) 0 (dH m) ⟨[],19999,spl,true,p0,t0,1099511627776⟩
def zn{pv:AV}{t0:Int}{s:DS}(h:gL pv=true):gL (eP pv t0 s)=true:=by
 unfold eP;split
 ·rfl
 ·exact h
def acK(m:aj)(hm:VM m)(spl:Int)(z':0<=spl/\spl<=1000000)(p0:List Int)(t0:Int)(pv:AV)(Mm:gL pv=true)(dN:cO pv=true)(b0:Int):
  ao Tryz.prog 56 [.agg (aq m),.agg [pv,aaC t0,aaC b0,.lit (.slice none 0 0)],aaC spl] []
   (.bJ [.agg [eP pv t0 (zZ m spl p0 t0),aaC (zZ m spl p0 t0).bA,aaC (zZ m spl p0 t0).cK,.tree 5 (rowsOf aG (zZ m spl p0 t0).nodes)],.lit (.bool (zZ m spl p0 t0).whole)]) []:=by
 have dF:=ams m hm;have ey:=C5 hm;have nu:=hm.cls;have B9:=aco m (m.cls.length+1) 0 (dH m) (g0 spl p0 t0) rfl;have O0:Fc (qB 103 m (dH m) pv t0 (g0 spl p0 t0) [(3,.var [.lit (.slice none 0 0),aaC 0,aaC 0,.lit (.slice none 0 0)])])
   [.var (aq m),.var [pv,aaC t0,aaC 1099511627776,.lit (.slice none 0 0)],.var [aaC spl],.var [.lit (.slice none 0 0),aaC 0,aaC 0,.lit (.slice none 0 0)],.arr 1 (rowsOf aQ (dH m)),.var [.ref 4 1 0 (dH m).length],.var [.lit (.bool true)],.var [aaC 19999],.var [.ref 10 5 0 0],.var [.fn 103 By],.arr 5 []]:=by
  refine⟨?_,(show([0,1,2,4,5,6,7,9,8,10,3]:List Nat).Nodup by decide)⟩;unfold qB bB vL eP g0 gN;simp[rowsOf]
 have w7:=amu m hm pv t0 (m.cls.length+1) 0 (dH m) _ (g0 spl p0 t0) _ (by rw[ey.1];simp) (aI _) ey rfl z' ⟨by show(0:Int)<=19999;omega,by show(0:Int)+19999<=1000000;omega⟩ (eC _) O0 _ rfl;have Gf:=JJ (dn:=103) (m:=m) (left:=dH m) (pv:=pv) (t0:=t0) (N:=m.cls.length) (m.cls.length+1) 0 (dH m) (g0 spl p0 t0) _ ey.1 GC (aI _) O0.fk;have bX:zZ m spl p0 t0=(mF m (m.cls.length+1) 0 (dH m) (g0 spl p0 t0)).s:=B9.2.symm;have lM:=B9.1;unfold uw at lM;rw[bX];generalize mF m (m.cls.length+1) 0 (dH m) (g0 spl p0 t0)=r at *;have ux:=Gf.fk.canon;have fZ:=Gf.ol;have Bz:=A0 (qB 103 m (dH m) pv t0 r [(3,.var [.lit (.slice none 0 0),aaC 0,aaC 0,.lit (.slice none 0 0)])]) r.n;unfold g0 at w7 fZ;dsimp only at w7 fZ;generalize canon (qB 103 m (dH m) pv t0 r [(3,.var [.lit (.slice none 0 0),aaC 0,aaC 0,.lit (.slice none 0 0)])]) r.n=o5 at *;refine ao.aD 24 0 [.cell 6 41,.tmp 7] Tryz.func56 ?_;((refine Vb @dN ?_)<;>try with_reducible intro K hK)
 (refine Xn [] (dF) ?_;simp(disch:=omega)only[Ac,↓Pc,simprocAttr,tP])
 repeat'(first|((fail_if_success (first|refine eT 7 ?_|refine eU 7 ?_));refine Xr (X2 @dN @JN) ?_;intro K hK)|(refine hK _ ?_;clear hK K)|refine XY ?_|fail)
 refine bY (aF.ni 8 0 5 rfl rfl Px) ?_;refine bY (σ':=⟨aw [(3,.ptr 0 0 0),(4,.ptr 1 0 0),(6,.ptr 3 0 0),(7,.lit (.bool false)),(9,.ptr 6 0 0),(11,.ptr 8 0 0),(12,.ptr 9 0 0)],[.var (aq m),.var [pv,aaC t0,aaC 1099511627776,.lit (.slice none 0 0)],.var [aaC spl],.var [.lit (.slice none 0 0),aaC 0,aaC 0,.lit (.slice none 0 0)],.arr 1 (rowsOf aQ (dH m)),.var [.ref 4 1 0 (dH m).length],.var [.lit (.bool true)],.var [aaC 19999],.var [.ref 10 5 0 0],.var [.fn 103 By],.arr 5 []]⟩) (Xv X0) ?_;unfold By at w7 ⊢;((refine Vb @JN ?_)<;>try with_reducible intro K hK)
 refine ig w7 (by rw[Bz];exact fZ) ?_;have e8:o5[8]?=some (.var [.ref r.p 5 0 r.R.length]):=nH ux (b:=(8,.var [.ref r.p 5 0 r.R.length])) (by simp[bB]);have e1:o5[1]?=some (.var [eP pv t0 r.s,aaC r.s.bA,aaC r.s.cK,.lit (.slice none 0 0)]):=nH ux (b:=(1,vL pv t0 r.s)) (by simp[bB]);have e6:o5[6]?=some (.var [.lit (.bool r.s.whole)]):=nH ux (b:=(6,.var [.lit (.bool r.s.whole)])) (by simp[bB]);have e3:o5[3]?=some (.var [.lit (.slice none 0 0),aaC 0,aaC 0,.lit (.slice none 0 0)]):=Ge ux (b:=(3,.var [.lit (.slice none 0 0),aaC 0,aaC 0,.lit (.slice none 0 0)])) GF;have mP:cO (eP pv t0 r.s)=true:=by unfold eP;split<;>first|rfl|exact dN
 have rW:=zn (t0:=t0) (s:=r.s) Mm;have yB:=ux.perm tu.symm;unfold qB bB at yB;simp only[List.cons_append,List.nil_append]at yB;have O1:=(((yB.front [_,_]).put (.var [eP pv t0 r.s,aaC r.s.bA,aaC r.s.cK,.ref r.p 5 0 r.R.length])).perm (List.Perm.swap _ _ _)).put (.var [eP pv t0 r.s,aaC r.s.bA,aaC r.s.cK,.ref r.p 5 0 r.R.length]);have xX:=O1.at_ (r.p,.arr 5 (rowsOf cS r.R)) GF;have hfb:∀ b∈gN r.R,_:=λb hb=>O1.at_ b (by simp[hb]);clear yB ux O1 Gf O0 dF w7;generalize hP:eP pv t0 r.s=pa at *;have d6:=λx=>(show(o5.set 1 x)[6]?=some (.var [.lit (.bool r.s.whole)]) by rw[bR Px];exact e6);have d1:=λx=>(show(o5.set 1 x)[1]?=some x from kh e1);have d3:=λx=>(show(o5.set 1 x)[3]?=some (.var [.lit (.slice none 0 0),aaC 0,aaC 0,.lit (.slice none 0 0)]) by rw[bR Px];exact e3);have d33:=λx y=>(show((o5.set 1 x).set 3 y)[3]?=some y from kh (d3 x));have d36:=λx y=>(show((o5.set 1 x).set 3 y)[6]?=some (.var [.lit (.bool r.s.whole)]) by rw[bR Px];exact d6 x);simp(disch:=omega)only[Ac,↓Pc,simprocAttr];refine hK _ ?_;clear hK K;repeat(refine Xu ?_)
 refine Vb (X5 @e8 @e1 @d1 @d6 (X4 @d3 @d33 @mP @dN)) ?_;refine kv [] (.take 0 (.both 1 (.take 2 (.take 3 .nil)) 2 (.take 1 (.take 3 .nil)))) rfl Px (by decide +kernel) ?_;simp(disch:=omega)only[Ac,↓Pc,simprocAttr,Pw,d1,d6,d3,d33,d36,mP,dN];all_goals
  repeat(refine Xu ?_)
  refine Vb (X3 @d33 @mP @dN) ?_;simp(disch:=omega)only[Ac,↓Pc,simprocAttr,rowOf,d33]
 all_goals
  refine cZ [] true Px trivial Px Px (aJ.lq (aJ.agg _ _ rfl (fF.spec (R:=aJ _ _ _ _) (cs:=[pa,aaC r.s.bA,aaC r.s.cK,.tree 5 (rowsOf aG r.s.nodes)]) (ds:=[pa,aaC r.s.bA,aaC r.s.cK,.ref r.p 5 0 r.R.length]) ⟨.pure rW,.pure rfl,.pure rfl,.snap _ _ rfl ?_,trivial⟩).2) (.pure rfl));rw[lM];exact mR xX hfb (λi h=>by obtain⟨j,hj,_⟩:=h;cases hj)
def xW(s:DS):AV:=.agg [eP (.lit (.slice none 0 0)) 1099511627776 s,aaC s.bA,aaC s.cK,.tree 5 (rowsOf aG s.nodes)]
def AO:AV:=.agg [.lit (.slice none 0 0),aaC 0,aaC 0,.lit (.slice none 0 0)]
def U0(m:aj)(hm:VM m)(hw:(bW m).whole=true):ao Tryz.prog 39 [.agg (aq m)] [] (.bJ [xW (bW m),aaC 0]) []:=by
 have h1:=tV m hm.mb;rw[eK.2 hm]at h1;have hg:=acK m hm 20000 Px [] 1099511627776 (.lit (.slice none 0 0)) rfl rfl 0;rw[show zZ m 20000 [] 1099511627776=bW m from rfl,hw]at hg;unfold xW;generalize bW m=s at *;have mP:cO (eP (.lit (.slice none 0 0)) 1099511627776 s)=true:=by unfold eP;split<;>rfl
 have rW:=zn (pv:=.lit (.slice none 0 0)) (t0:=1099511627776) (s:=s) rfl;have ja:∀ ρ,bC ρ (eP (.lit (.slice none 0 0)) 1099511627776 s)=eP (.lit (.slice none 0 0)) 1099511627776 s:=λρ=>by unfold eP;split<;>rfl
 generalize eP (.lit (.slice none 0 0)) 1099511627776 s=pa at *;refine ao.aD 23 0 [.cell 2 41,.tmp 3] Tryz.func39 ?_;((repeat'(first|refine Vd (X2 @mP @bne_self_eq_false.{0}) h1 ?_|(refine Xi ?_ ?_<;>try intro ht)|exact Xx|fail))<;>try with_reducible intro K hK)
 (refine Xn [] (hg) ?_;simp(disch:=omega)only[Ac,↓Pc,simprocAttr,ja])
 ((try revert hK K);(repeat'(first|refine Vb (X3 @mP @ja @Bool.not_true) ?_|(refine Xi ?_ ?_<;>try intro ht)|exact Xx|fail)))
 all_goals try(exfalso;simp_all;done)
 all_goals
  simp(disch:=omega)only[Ac,↓Pc,simprocAttr,rowOf];exact aE (by simp[gL,ju,rW]) rfl
def U1(m:aj)(hm:VM m)(hw:(bW m).whole=false):ao Tryz.prog 39 [.agg (aq m)] [] (.bJ [AO,aaC 61]) []:=by
 have h1:=tV m hm.mb;rw[eK.2 hm]at h1;have hg:=acK m hm 20000 Px [] 1099511627776 (.lit (.slice none 0 0)) rfl rfl 0;rw[show zZ m 20000 [] 1099511627776=bW m from rfl,hw]at hg;unfold AO;generalize bW m=s at *;have mP:cO (eP (.lit (.slice none 0 0)) 1099511627776 s)=true:=by unfold eP;split<;>rfl
 have rW:=zn (pv:=.lit (.slice none 0 0)) (t0:=1099511627776) (s:=s) rfl;have ja:∀ ρ,bC ρ (eP (.lit (.slice none 0 0)) 1099511627776 s)=eP (.lit (.slice none 0 0)) 1099511627776 s:=λρ=>by unfold eP;split<;>rfl
 generalize eP (.lit (.slice none 0 0)) 1099511627776 s=pa at *;refine ao.aD 23 0 [.cell 2 41,.tmp 3] Tryz.func39 ?_;((repeat'(first|refine Vd (X2 @mP @bne_self_eq_false.{0}) h1 ?_|(refine Xi ?_ ?_<;>try intro ht)|exact Xx|fail))<;>try with_reducible intro K hK)
 (refine Xn [] (hg) ?_;simp(disch:=omega)only[Ac,↓Pc,simprocAttr,ja])
 ((try revert hK K);(repeat'(first|refine Vb (X3 @mP @ja @Bool.not_false) ?_|(refine Xi ?_ ?_<;>try intro ht)|exact Xx|fail)))
 all_goals try(exfalso;simp_all;done)
 all_goals
  simp(disch:=omega)only[Ac,↓Pc,simprocAttr,rowOf];exact aE rfl rfl
def rZ(m:aj)(p0:List Int)(t0:Int):Prop:=(p0=[]/\t0=1099511627776)\/(FP m p0/\iz m p0=t0/\t0<1099511627776)
def rZ.top{m:aj}{p:List Int}{t:Int}(h:rZ m p t):t<=1099511627776:=by
 rcases h with⟨_,h⟩|⟨_,_,h⟩<;>omega
def Gg(spl:Int)(p0:List Int)(t0:Int):DS:=⟨[],19999,spl,true,p0,t0,1099511627776⟩
variable {m:aj} {left:List (List Bool)} {p:List Int}
def acL{f:List (List Bool)->DS->DS}{c:Nat}{N:Nat}(hf:∀ k s,k<N->rZ m s.plan s.bA->rZ m (f (bV left c k) s).plan (f (bV left c k) s).bA):
  ∀ (w o:Nat) (s:DS) (ks:List Int),o+w=N->rZ m s.plan s.bA->rZ m (g7 f left c w o s ks).1.plan (g7 f left c w o s ks).1.bA
 |0,o,s,ks,ho,h=>h
 |w+1,o,s,ks,ho,h=>by
  rw[g7];exact acL hf w (o+1) _ _ GC (hf o s GC h)
def acM(hm:VM m):∀ (f:Nat) (left:List (List Bool)) (p:List Int) (s:DS),left.length+1<=f+p.length->Dn m left p->rZ m s.plan s.bA->rZ m (lZ m f p.length left s).plan (lZ m f p.length left s).bA
 |0,left,p,s,hf,h,hk=>by have:=h.bp.len;rw[<- h.fit.1]at this;omega
 |f+1,left,p,s,hf,h,hk=>by
  obtain⟨r,h1,h2,h3⟩:=Dn.skip (left:=left) _ p rfl h;obtain⟨g1,g2,g3,g4⟩:=Br (left:=left) _ p.length rfl;have cu:p.length<=left.length:=by rw[h.fit.1];exact h.bp.len
  have ey:=h.fit;have ZB:=hk.top;rw[lZ];split
  ·exact hk
  rename_i hv;split
  ·rename_i he;have uQ:(p++r).length=m.cls.length:=by rw[h2,he,ey.1]
   refine .inr ⟨?_,?_,?_⟩
   ·show FP m (kd left);rw[h1.Ol uQ];exact h1.bp.fp uQ
   ·show iz m (kd left)=fc m left;rw[h1.Ol uQ];exact(h1.exact hm uQ).symm
   ·show fc m left<_;omega
  rename_i he;split
  ·exact hk
  rw[<- h2]at he ⊢;have br:(p++r).length<m.cls.length:=by
   have:=h1.bp.len;rw[ey.1]at he;omega
  have bq:(left.getD (p++r).length default).length=(m.cls.getD (p++r).length default).length:=ey.2 _ (by rw[ey.1];exact br);have Om:p.length<=(p++r).length:=GF;generalize hP:p++r=P at *;exact acL (m:=m) (left:=left) (c:=P.length) (f:=lZ m f (P.length+1)) (N:=(left.getD P.length default).length) (λk s' b9 hs=>by
   have:=acM hm f (bV left P.length k) (P++[(k:Int)]) s' (by rw[show(bV left P.length k).length=left.length by unfold bV;simp];simp;omega) (h1.next br GC) hs;rwa [show(P++[(k:Int)]).length=P.length+1 by simp]at this) _ 0 (lY left P.length (fc m left) s) [] GC hk
def amw(h:FP m p):[] ∉ m.cls:=by
 intro he;obtain⟨i,hi,hg⟩:=mJ he;obtain⟨_,_,h1,h2⟩:=fD.1 (h.get i (by rw[h.len];exact hi));rw[fq,aA (l:=m.cls),bK hi,Option.getD_some,hg]at h2;have:p.getD i 0<0:=h2;omega
def oe(m:aj)(spl:Int)(p0:List Int)(t0:Int):DS:=lZ m (m.cls.length+1) 0 (dH m) (Gg spl p0 t0)
def amx(hm:VM m){P:List Nd}{v:List Int}(hv:Tr m P 0 P.length (dH m) [] v)(hl:P.length<=20000):PB P:=by
 have hn:=hv.zQ.C9;have hf:=hv.zQ.flat;have hU:∀ x∈P,∃ i,i<P.length/\nd P i=x:=λx hx=>by
  obtain⟨i,hi,rfl⟩:=mJ hx;exact⟨i,hi,by unfold nd;rw[aA,bK hi];rfl⟩
 refine⟨GC,λx hx=>?_,λx hx=>?_,λx hx=>?_,λx hx=>?_,λx hx l hl=>?_⟩;all_goals
  obtain⟨i,hi,rfl⟩:=hU x hx;obtain⟨f1,f2,f3⟩:=hf i (aI _) hi;obtain⟨n1,_⟩:=hn i (aI _) hi
 ·have:=Fm hm n1;omega
 ·omega
 ·rw[f2];decide
 ·rw[f3];decide
 ·rw[f3]at hl;cases hl
def Cq(hm:VM m){spl:Int}(hs:0<=spl){p0:List Int}{t0:Int}(hk:rZ m p0 t0):
  rZ m (oe m spl p0 t0).plan (oe m spl p0 t0).bA/\(oe m spl p0 t0).bA<=t0/\((oe m spl p0 t0).bA=1099511627776->0<m.cls.length) /\
  (oe m spl p0 t0).cK<=(oe m spl p0 t0).bA/\jx m (oe m spl p0 t0).nodes=((oe m spl p0 t0).cK,true)/\PB (oe m spl p0 t0).nodes /\
  (gj m<=spl->gj m<=4096->(oe m spl p0 t0).cK=(oe m spl p0 t0).bA):=by
 have hr:=Dn.root hm;have hd:=Ju hm (m.cls.length+1) (dH m) [] (Gg spl p0 t0) (by rw[hr.fit.1];simp) hr;have vj:rZ m (oe m spl p0 t0).plan (oe m spl p0 t0).bA:=acM hm (m.cls.length+1) (dH m) [] (Gg spl p0 t0) (by rw[hr.fit.1];simp) hr hk;have ZB:=hk.top;have hw:gj m<=spl->gj m<=4096->(oe m spl p0 t0).whole=true:=by
  intro w1 w2;by_cases he:[]∈m.cls
  ·have ht:t0=1099511627776:=by
    rcases hk with⟨_,h⟩|⟨h,_⟩
    ·exact h
    ·exact absurd he (amw h)
   unfold oe;rw[lZ,abw he,if_pos (by show t0<=_;omega)];rfl
  ·have p8:∀ l∈m.cls,1<=l.length:=λl hl=>by
    cases l with
    |nil=>exact absurd hl he
    |cons a b=>simp
   have hc:lE m m.cls.length=nq m.cls:=by rw[Ot m _ (aN _),Nat.sub_self,List.drop_zero]
   unfold gj at w1 w2;rw[if_pos (eK.2 hm),show(1:Int)=((1:Nat):Int) from rfl,Oq _ _ he GC,Nat.one_mul,<- hc]at w1 w2;refine(Oo hm p8 (m.cls.length+1) (dH m) [] (Gg spl p0 t0) (by rw[hr.fit.1];simp) hr rfl ?_ ?_).1
   ·show(2*lE m m.cls.length-2:Int)<=19999;omega
   ·show(lE m m.cls.length-1:Int)<=spl;omega
 change DL m (dH m) [] (Gg spl p0 t0) (oe m spl p0 t0) at hd;have h0:(oe m spl p0 t0).bA=1099511627776->0<m.cls.length:=λht=>by
  rcases m9 m.cls.length with h|h
  ·exfalso;have hx:=(Dn.root hm).exact hm (by rw[h];rfl);rw[akG hm h]at hx;have hl:(dH m).length=0:=by rw[hr.fit.1,h]
   have hsk:dr (dH m) 0=(dH m).length:=by rw[Jr GC,hl]
   unfold oe at ht;rw[lZ,hx]at ht;split at ht
   ·rename_i h1;have:t0=1099511627776:=ht;have:t0<=0:=h1;omega
   ·have:(0:Int)=1099511627776:=ht;omega
  ·exact h
 generalize oe m spl p0 t0=r at *;obtain⟨d1,d2,d3,d4,d5,d6,d7,d8,d9⟩:=hd;change r.bA<=t0 at d1;change r.cK<=1099511627776 at d2;change r.bA<t0->r.cK<=r.bA at d3;change (r.nodes.length:Int)+r.room=0+19999+1 at d5;have d6:0<=r.room:=d6 (by show(0:Int)<=19999;omega);obtain⟨v,hv,vI⟩:=d9 [] (λx hx=>by cases hx);have vI:r.cK=nF v 1099511627776:=vI;have hv:Tr m r.nodes 0 r.nodes.length (dH m) [] v:=hv;have ek:=Tr.fG (P:=r.nodes) hm hv GC;rw[<- vI]at ek;have hle:r.cK<=r.bA:=by
  rcases vj with⟨_,h⟩|⟨h1,h2,_⟩
  ·omega
  ·have:=akY ek h1;unfold iz at h2;omega
 refine⟨vj,d1,h0,hle,ek,amx hm hv GC,λw1 w2=>?_⟩;have:=(d4 (hw w1 w2)).2.2;change min 1099511627776 r.bA<=r.cK at this;omega
def JO{f:Nat->Int}:∀ (n:Nat),(∀ i,i<n->Zf (f i))->1099511627776<=bE f n->∃ i,i<n/\1099511627776<=f i
 |0,_,h=>by have:(1099511627776:Int)<=0:=h;omega
 |n+1,hz,h=>by
  rw[bE]at h;have h1:=zR n λi hi=>hz i GC;have h2:=hz n (ql n);unfold Zf at h1 h2;rcases h2 with h2|h2
  ·obtain⟨i,hi,h3⟩:=JO n (λi hi=>hz i GC) GC;exact⟨i,GC,h3⟩
  ·exact⟨n,ql n,h2⟩
def acN:∀ (l:List Int) (a:Int),(∀ x∈l,0<=x)->0<=a->(1099511627776<=a\/1099511627776∈l)->1099511627776<=l.foldl ee a
 |[],a,_,_,h=>by
  rcases h with h|h
  ·exact h
  ·cases h
 |x::l,a,hl,ha,h=>by
  have hx:=hl x GF;refine acN l _ (λy hy=>hl y (by simp[hy])) (by unfold ee;omega) ?_;rcases h with h|h
  ·left;unfold ee;omega
  ·rcases cB.1 h with h|h
   ·left;rw[<- h];unfold ee;omega
   ·exact .inr h
def acO{R:Int}{o:bU}(hc:eo R none o.ch=true)(h:1099511627776<=jZ (iq o)):1099511627776<=jZ o:=by
 have bO:1099511627776∈o.ch.map (·.2):=by
  by_cases he:(iq o).ch=[]
  ·unfold jZ at h;rw[he]at h;have:(1099511627776:Int)<=0:=h;omega
  ·obtain⟨c,fi⟩:=List.exists_mem_of_ne_nil _ he;obtain⟨h1,h2⟩:=qh.1 fi;unfold l5 at h2;rw[decide_eq_true_eq]at h2;exact cz.2 ⟨c,h1,h2⟩
 unfold jZ;refine acN _ 0 (λx hx=>?_) (eC _) (.inr bO);obtain⟨c,h1,rfl⟩:=cz.1 hx;exact(lz (xZ hc c h1).2).1
def acP{m:aj}{q:List Int}(h:FP m q):FP (aU m) q:=⟨by rw[rY];exact h.len,λj hj=>by rw[EM];exact h.get j hj⟩
def amy{m:aj}(hm:VM m){q:List Int}(hq:FP m q)(h:1099511627776<=iz (aU m) q):1099511627776<=iz m q:=by
 have hqh:=acP hq;unfold iz at *;rw[CK (wA hm) hqh]at h;rw[CK hm hq];have hA:=A8 _ λi hi=>abS hm hq (j:=i) hi;have hB:=A8 _ λi hi=>abT hm q (i:=i) hi;have hC:=A8 _ λi hi=>abU hm q (i:=i) hi;have z1:∀ i,i<(aU m).cls.length->Zf (mX (aU m) q i)/\(1099511627776<=mX (aU m) q i->1099511627776<=mX m q i):=λi hi=>by
  rw[rY]at hi;have hg:=fD.1 (hq.get i (by rw[hq.len];exact hi));rw[fq]at hg;have hl:=ay (l:=m.cls) (i:=i) (d:=default) hi;have hc:(aU m).cls.getD i default=(m.cls.getD i default).map iq:=iR _ _ _ hi;unfold mX;rw[hc,iR _ _ _ GC];exact⟨Ow _,acO (hm.mA _ hl _ (ay GC))⟩
 have z2:∀ i,i<(aU m).ae.length->Zf (kB (aU m) q ((aU m).ae.getD i default))/\(1099511627776<=kB (aU m) q ((aU m).ae.getD i default)->1099511627776<=kB m q (m.ae.getD i default)):=λi hi=>by
  have hc:(aU m).ae.getD i default=jP (m.ae.getD i default):=iR _ _ _ (by simpa [aU] using hi);rw[hc];clear hc;generalize m.ae.getD i default=p;unfold kB lV;rw[show(jP p).fst=p.fst from rfl,show(jP p).snd=p.snd from rfl,Bs];generalize (q.getD p.fst.toNat 0*((m.cls.getD p.snd.toNat default).length:Int)+q.getD p.snd.toNat 0).toNat=k;have e:(jP p).aB.getD k 0=nG (p.aB.getD k 0):=by
   show(p.aB.map nG).getD k 0=_;rw[aA,cj,aA];cases p.aB[k]?<;>rfl
  rw[e];unfold nG Zf;split<;>omega
 have z3:∀ i,i<(aU m).av.length->Zf (jz q ((aU m).av.getD i default))/\(1099511627776<=jz q ((aU m).av.getD i default)->∃ j,j<m.av.length/\1099511627776<=jz q (m.av.getD j default)):=λi hi=>by
  obtain⟨h1,h2⟩:=qh.1 (ay (l:=(aU m).av) (d:=default) hi);unfold l5 at h2;rw[decide_eq_true_eq]at h2;generalize (aU m).av.getD i default=c at *;refine⟨?_,λh=>?_⟩
  ·unfold jz j4;rw[h2];split
   ·exact .inl rfl
   ·right;omega
  ·obtain⟨j,hj,rfl⟩:=mJ h1;exact⟨j,hj,by rw[aA,bK hj];exact h⟩
 have s1:=zR _ λi hi=>(z1 i hi).1;have s2:=zR _ λi hi=>(z2 i hi).1;have s3:=zR _ λi hi=>(z3 i hi).1;have Le:1099511627776<=bE (mX (aU m) q) (aU m).cls.length\/1099511627776<=bE (λi=>kB (aU m) q ((aU m).ae.getD i default)) (aU m).ae.length\/1099511627776<=bE (λi=>jz q ((aU m).av.getD i default)) (aU m).av.length:=by
  unfold Zf at s1 s2 s3;omega
 rcases Le with h|h|h
 ·obtain⟨i,hi,h4⟩:=JO _ (λi hi=>(z1 i hi).1) h;have:=(z1 i hi).2 h4;have:=hA.2 i (by rwa [rY]at hi);omega
 ·obtain⟨i,hi,h4⟩:=JO _ (λi hi=>(z2 i hi).1) h;have:=(z2 i hi).2 h4;have:=hB.2 i (by simpa [aU] using hi);omega
 ·obtain⟨i,hi,h4⟩:=JO _ (λi hi=>(z3 i hi).1) h;obtain⟨j,hj,h5⟩:=(z3 i hi).2 h4;have:=hC.2 j hj;omega
def amA{m k:aj}(hm:VM m)(hk:VM k)(h:k.cls.map oW=m.cls.map oW):gj k=gj m:=by
 unfold gj;rw[if_pos (eK.2 hm),if_pos (eK.2 hk)];exact Ox _ _ _ h
def EC{m:aj}(hm:VM m)(l:List Int):gj (bN m l)=gj m:=by
 refine amA hm (vd hm _) ?_;unfold bN iZ;dsimp only;rw[uD];exact l8 λx _=>GF
def ED{r:aj}(hr:VM r)(hp:gj r<=1000):pT r=0/\(tryD r).bA<=1099511627776/\((tryD r).bA=1099511627776↔¬ (fO r r.cls.length []).2<1099511627776):=by
 have hh:=wA hr;obtain⟨a1,a2,a3,a4,a5⟩:=Jw hh (Jx hh (by rw[abE hr];exact hp));obtain⟨b1,b2,b3,b4,b5⟩:=Jw hr (Jx hr hp);have ah:(bW (aU r)).bA=(fO (aU r) (aU r).cls.length []).2:=congrArg Prod.snd a2;have bh:(bW r).bA=(fO r r.cls.length []).2:=congrArg Prod.snd b2;have hle:=abj r r.cls.length [];have hz:=akI hr;have hb:=@abB r;have hl:=@Ov r;refine⟨?_,?_,?_⟩
 ·unfold pT;rw[if_neg (show ¬ (bW (aU r)).whole=false by rw[a1];simp),if_neg (show ¬ (bW r).whole=false by rw[b1];simp)];split<;>rfl
 ·unfold tryD;split
  ·rw[ah];omega
  ·rw[bh];exact hle
 ·unfold tryD;by_cases hc:zs r
  ·rw[if_pos hc];by_cases ht:(bW (aU r)).bA=1099511627776
   ·refine⟨λ_ br=>?_,λ_=>ht⟩;obtain⟨h1,h2⟩:=hb br;have h3:=Ov (acP h1);have:=amy hr h1 GC;omega
   ·refine⟨λh=>absurd h ht,λh=>?_⟩;exfalso;refine h ?_;have h1:=hc.resolve_left ht;have vj:=(Cq hh (spl:=20000) Px (p0:=[]) (t0:=1099511627776) (.inl ⟨rfl,rfl⟩)).1;obtain⟨h2,_,_⟩:=vj.resolve_left (λe=>ht e.2);have h3:FP r (bW (aU r)).plan:=⟨by rw[<- rY r];exact h2.len,λj hj=>by rw[<- EM r];exact h2.get j hj⟩;have:=hl h3;omega
  ·rw[if_neg hc,bh];omega
def vf(r:aj):Int:=if pT r=0 then(tryD r).bA else 0
def AN(m:aj):List Int->List Int->List Int×Int
 |[],l=>(l,0)
 |n::ns,l=>if pT (bN m (cd l n))≠0 then([],pT (bN m (cd l n))) else AN m ns (if vf (bN m (cd l n))=1099511627776 then cd l n else l)
def ly(m:aj):List Int×Int :=
 if pT (bN m (gY m))≠0 then([],pT (bN m (gY m))) else if vf (bN m (gY m))<1099511627776 then([],60) else AN m (gY m) (gY m)
def kc(m:aj):List Int×Int:=if df m≠0 then([],df m) else ly m
def jW(m:aj)(l:List Int):Bool:=decide ((fO (bN m l) (bN m l).cls.length []).2<1099511627776)
def sX(m:aj):List Int->List Int->List Int
 |[],l=>l
 |n::ns,l=>sX m ns (if jW m (cd l n)=true then l else cd l n)
def wv(m:aj):List Int×Int:=if jW m (cd (gY m) (-1))=true then([],60) else(sX m (gY m) (gY m),0)
def wu(m:aj):List Int×Int:=if df m≠0 then([],df m) else wv m
def O2{l:List Int}{n:Int}(h:n ∉ l):cd l n=l:=List.filter_eq_self.2 λx hx=>by
 simp only[Bool.not_eq_true',beq_eq_false_iff_ne,ne_eq];exact λe=>h (e▸hx)
def acQ{m:aj}:(-1:Int) ∉ gY m:=λh=>by
 unfold gY at h;obtain⟨i,_,hi⟩:=cz.1 h;omega
def acR{m:aj}(hm:VM m)(hp:gj m<=1000)(l:List Int):pT (bN m l)=0/\vf (bN m l)<=1099511627776/\(vf (bN m l)=1099511627776↔jW m l=false):=by
 obtain⟨h1,h2,h3⟩:=ED (vd hm (il m.rules l)) (by
  have:=EC hm l;unfold bN at this;omega)
 refine⟨h1,?_,?_⟩
 ·unfold vf bN at *;rw[if_pos h1];exact h2
 ·unfold vf jW bN at *;rw[if_pos h1,h3,decide_eq_false_iff_not]
def acS{m:aj}(hm:VM m)(hp:gj m<=1000):∀ (ns l:List Int),AN m ns l=(sX m ns l,0)
 |[],l=>rfl
 |n::ns,l=>by
  obtain⟨h1,h2,h3⟩:=acR hm hp (cd l n);rw[AN,sX,if_neg GC,acS hm hp ns];cases hb:jW m (cd l n)
  ·rw[if_pos (h3.2 hb)];rfl
  ·rw[if_neg (λh=>by rw[h3.1 h]at hb;cases hb)];rfl
def H5{m:aj}(hm:VM m)(hp:gj m<=1000):ly m=wv m:=by
 obtain⟨h1,h2,h3⟩:=acR hm hp (gY m);unfold ly wv;rw[if_neg GC,O2 acQ,acS hm hp];cases hb:jW m (gY m)
 ·have:=h3.2 hb;rw[if_neg GC,if_neg GF]
 ·rw[if_pos (by
   have:vf (bN m (gY m))≠1099511627776:=λh=>by rw[h3.1 h]at hb;cases hb
   omega),if_pos rfl]
def xd(a b:Int):Prop:=(a=0\/a=1099511627776)/\(a=1099511627776->b=1099511627776)
def xd.min{a b x y:Int}(h:xd a b)(hx:x=0\/x=1099511627776)(oY:x=1099511627776->1099511627776<=y):xd (min a x) (min b y):=by
 obtain⟨h1,h2⟩:=h;refine⟨GC,λe=>?_⟩;have:=h2 GC;have:=oY GC;omega
def acT{α:Type}{f g:α->Int}:∀ (xs:List α) (s:List Bool) (a b:Int),(∀ x∈xs,(f x=0\/f x=1099511627776)/\(f x=1099511627776->1099511627776<=g x))->xd a b->xd (ke (xs.map f) s a) (ke (xs.map g) s b)
 |[],s,a,b,_,h=>by cases s<;>exact h
 |x::r,[],a,b,_,h=>h
 |x::r,i::s,a,b,hx,h=>by
  rw[dg,dg,ke,ke];refine acT r s _ _ (λy hy=>hx y (by simp[hy])) ?_;split
  ·exact h.min (hx x GF).1 (hx x GF).2
  ·exact h
def amB(aB:List Int)(i:Nat):(aB.map nG).getD i 0=nG (aB.getD i 0):=MZ _ _ _ _ _ Px
def acU{aB:List Int}{w i:Nat}{x:Bool}:∀ (r:List Bool) (k:Nat) (a b:Int),xd a b->xd (vt (aB.map nG) w i x k r a) (vt aB w i x k r b)
 |[],k,a,b,h=>h
 |y::r,k,a,b,h=>by
  rw[vt,vt,amB];refine acU r (k+1) _ _ ?_;split
  ·refine h.min ?_ ?_
   ·unfold nG;split<;>simp
   ·unfold nG;split<;>omega
  ·exact h
def acV{aB:List Int}{w:Nat}{rb:List Bool}:∀ (r:List Bool) (i:Nat) (a b:Int),xd a b->xd (ud (aB.map nG) w rb i r a) (ud aB w rb i r b)
 |[],i,a,b,h=>h
 |x::r,i,a,b,h=>by
  rw[ud,ud];exact acV r (i+1) _ _ (acU rb 0 a b h)
def acW:∀ (l:List Int) (a:Int),a<=1099511627776->l.foldl ee a<=1099511627776
 |[],a,h=>h
 |x::l,a,h=>acW l _ (by unfold ee;omega)
def amC{R:Int}{o:bU}(hc:eo R none o.ch=true):(jZ (iq o)=0\/jZ (iq o)=1099511627776)/\(jZ (iq o)=1099511627776->1099511627776<=jZ o):=by
 have h1:=Ow o;have h2:jZ (iq o)<=1099511627776:=acW _ _ Px;unfold Zf at h1;exact⟨GC,λh=>acO hc GC⟩
def acX{R:Int}{left:List (List Bool)}:∀ (l:List (List bU)) (i:Nat) (a b:Int),(∀ c∈l,∀ o∈c,eo R none o.ch=true)->(oK left i (l.map λc=>c.map iq) a=none->oK left i l b=none)/\(∀ k,oK left i (l.map λc=>c.map iq) a=some k->k=a)
 |[],i,a,b,_=>⟨λh=>(by cases h),λk h=>(by cases h;rfl)⟩
 |c::r,i,a,b,hc=>by
  have hr:=acT (f:=λo=>jZ (iq o)) (g:=jZ) c (left.getD i default) 1099511627776 1099511627776 (λo ho=>amC (hc c GF o ho)) ⟨.inr rfl,λ_=>rfl⟩;have e1:gG (c.map iq)=c.map λo=>jZ (iq o):=by unfold gG;rw[uD];rfl
  have e2:gG c=c.map jZ:=rfl;rw[<- e1,<- e2]at hr;rw[dg,oK,oK];rcases hr.1 with h|h
  ·rw[h,if_neg Px,BL];obtain⟨h1,h2⟩:=acX (R:=R) (left:=left) r (i+1) a (b+ke (gG c) (left.getD i default) 1099511627776) (λc' h'=>hc c' (by simp[h']));refine⟨λhn=>?_,h2⟩;split
   ·rfl
   ·exact h1 hn
  ·rw[if_pos h,if_pos (hr.2 h)];exact⟨λ_=>rfl,λk hk=>(by cases hk)⟩
def acY{m:aj}{left:List (List Bool)}:∀ (l:List Pr) (a b:Int),(pk (aU m) left (l.map jP) a=none->pk m left l b=none)/\(∀ k,pk (aU m) left (l.map jP) a=some k->k=a)
 |[],a,b=>⟨λh=>(by cases h),λk h=>(by cases h;rfl)⟩
 |p::r,a,b=>by
  have hr:xd (qO (aU m) left (jP p)) (qO m left p):=by
   unfold qO;rw[show(jP p).snd=p.snd from rfl,show(jP p).fst=p.fst from rfl,show(jP p).aB=p.aB.map nG from rfl,Bs];exact acV _ 0 _ _ ⟨.inr rfl,λ_=>rfl⟩
  rw[dg,pk,pk];rcases hr.1 with h|h
  ·rw[h,if_neg Px,BL];obtain⟨h1,h2⟩:=acY (m:=m) (left:=left) r a (b+qO m left p);refine⟨λhn=>?_,h2⟩;split
   ·rfl
   ·exact h1 hn
  ·rw[if_pos h,if_pos (hr.2 h)];exact⟨λ_=>rfl,λk hk=>(by cases hk)⟩
def O3{left:List (List Bool)}:∀ (l:List Ct) (a b:Int),(oL left (l.filter λc=>l5 c.bM) a=none->oL left l b=none)/\(∀ k,oL left (l.filter λc=>l5 c.bM) a=some k->k=a)
 |[],a,b=>⟨λh=>(by cases h),λk h=>(by cases h;rfl)⟩
 |c::r,a,b=>by
  rw[List.filter_cons];by_cases hF:l5 c.bM=true
  ·rw[if_pos hF,oL,oL];by_cases h:pU left c=1099511627776
   ·rw[if_pos h,if_pos h];exact⟨λ_=>rfl,λk hk=>(by cases hk)⟩
   ·have h0:pU left c=0:=by
     unfold l5 at hF;rw[decide_eq_true_eq]at hF;unfold pU AR at h ⊢;generalize s0 c.aH left none c.aH (-c.most)=g at *;rw[hF]at h ⊢;by_cases hg:0<max g 0
     ·rw[if_pos ⟨hg,rfl⟩]at h;exact absurd rfl h
     ·rw[if_neg (λe=>hg e.1),show max g 0=0 by omega];decide
    rw[h0,if_neg Px,if_neg Px,BL,BL];exact O3 r a b
  ·rw[if_neg hF,oL];obtain⟨h1,h2⟩:=O3 (left:=left) r a (b+pU left c);refine⟨λhn=>?_,h2⟩;split
   ·rfl
   ·exact h1 hn
def amD{m:aj}(hm:VM m){left:List (List Bool)}(h:fc (aU m) left=1099511627776):fc m left=1099511627776:=by
 have h1:=λa b=>acX (R:=m.rules) (left:=left) m.cls 0 a b hm.mA;have h2:=λa b=>acY (m:=m) (left:=left) m.ae a b;have h3:=λa b=>O3 (left:=left) m.av a b;unfold fc at h ⊢;rw[show(aU m).cls=m.cls.map λc=>c.map iq from rfl]at h;cases e1:oK left 0 (m.cls.map λc=>c.map iq) 0 with
 |none=>rw[(h1 0 0).1 e1];rfl
 |some k =>
  rw[e1]at h;have:=(h1 0 0).2 k e1;subst this;cases e2:pk (aU m) left (m.ae.map jP) 0 with
  |none =>
   cases e4:oK left 0 m.cls 0 with
   |none=>rfl
   |some b=>rw[show zu m left (some b)=pk m left m.ae b from rfl,(h2 0 b).1 e2];rfl
  |some k2 =>
   rw[show zu (aU m) left (some 0)=pk (aU m) left (m.ae.map jP) 0 from rfl,e2]at h;have:=(h2 0 0).2 k2 e2;subst this;cases e3:oL left (m.av.filter λc=>l5 c.bM) 0 with
   |none =>
    cases e4:zu m left (oK left 0 m.cls 0) with
    |none=>rfl
    |some b=>rw[show zw m left (some b)=oL left m.av b from rfl,(h3 0 b).1 e3];rfl
   |some k3 =>
    rw[show zw (aU m) left (some 0)=oL left (m.av.filter λc=>l5 c.bM) 0 from rfl,e3]at h;have:=(h3 0 0).2 k3 e3;subst this;exact absurd h Px
def amE{m:aj}{left:List (List Bool)}(h:dD m left):dD (aU m) left:=⟨by rw[rY];exact h.1,λi hi=>by rw[Bs];exact h.2 i hi⟩
def amF{m:aj}(hm:VM m){left:List (List Bool)}(hf:dD m left)(h:1099511627776<=w6 (aU m) left):w6 m left=1099511627776:=by
 unfold w6 at *;rw[<- Fj (wA hm) (amE hf)]at h;rw[<- Fj hm hf];have:=akD (aU m) left;exact amD hm GC
def amG{m:aj}{left:List (List Bool)}(h:dD m left)(c o:Nat):dD m (bV left c o):=by
 unfold bV;refine⟨by rw[bF];exact h.1,λi hi=>?_⟩;rw[bF]at hi;by_cases e:c=i
 ·subst e;rw[aA,List.getElem?_set_self hi];show(mV _ _).length=_;rw[Ij];exact h.2 _ hi
 ·rw[aA,bR e,<- aA];exact h.2 i hi
mutual
def Tr.Gi{m:aj}(hm:VM m){P:List Nd}{lo hi:Nat}{left:List (List Bool)}{ab v:List Int}:Tr (aU m) P lo hi left ab v->dD m left->(∀ x∈v,1099511627776<=x)->∃ w,Tr m P lo hi left ab w/\∀ x∈w,x=1099511627776
 |.leaf _ _ _ h ha,hf,hv=>⟨_,.leaf _ _ _ h ha,λx hx=>by
  rw[List.mem_singleton.1 hx];exact amF hm hf (hv _ GF)⟩
 |.node _ _ _ _ c ks vs h hc ha hk hs,hf,hv=>by
  obtain⟨w,h1,h2⟩:=l4.Gi hm hs hf hv;exact⟨w,.node _ _ _ _ c ks w h (by rw[<- rY m];exact hc) ha (by rw[<- Bs m];exact hk) h1,h2⟩
def l4.Gi{m:aj}(hm:VM m){P:List Nd}{lo hi:Nat}{left:List (List Bool)}{c:Nat}{ab:List Int}{o:Nat}{ks v:List Int}:l4 (aU m) P lo hi left c ab o ks v->dD m left->(∀ x∈v,1099511627776<=x)->∃ w,l4 m P lo hi left c ab o ks w/\∀ x∈w,x=1099511627776
 |.nil _ _ _ _ _,_,_=>⟨[],.nil _ _ _ _ _,λx hx=>(by cases hx)⟩
 |.cons _ mid _ _ _ _ _ _ _ _ h hs,hf,hv=>by
  obtain⟨w1,a1,a2⟩:=Tr.Gi hm h (amG hf _ _) λx hx=>hv x (by simp[hx]);obtain⟨w2,b1,b2⟩:=l4.Gi hm hs hf λx hx=>hv x (by simp[hx]);exact⟨w1++w2,.cons _ mid _ _ _ _ _ _ _ _ a1 b1,λx hx=>(List.mem_append.1 hx).elim (a2 x) (b2 x)⟩
end
def O4(R:Int)(l:List Int)(r:Int):eH (il R l) r=(decide (r.toNat<R.toNat)&&l.contains ((r.toNat:Nat):Int)):=by
 unfold eH il;rw[aA,cj];by_cases h:r.toNat<R.toNat
 ·rw[List.getElem?_range h,decide_eq_true h];simp
 ·rw[List.getElem?_eq_none (by simpa using h),decide_eq_false h];simp
def O5{α:Type}{p q s:α->Bool}(h:∀ x,s x=(p x&&q x))(l:List α):(l.filter p).filter q=l.filter s:=by
 rw[List.filter_filter];exact List.filter_congr λx _=>by rw[h,Bool.and_comm]
def amH{m:aj}{k1 k2 k3:List Bool}(h:∀ r,eH k3 r=(eH k1 r&&eH k2 r)):iZ (iZ m k1) k2=iZ m k3:=by
 unfold iZ;dsimp only;rw[uD,O5 (s:=λp:Pr=>eH k3 p.bz) (λp=>h p.bz),O5 (s:=λc:Ct=>eH k3 c.bz) (λc:Ct=>h c.bz)];congr 1;refine l8 λl _=>?_;rw[Function.comp_apply,uD];refine l8 λo _=>?_;rw[Function.comp_apply];unfold lA;dsimp only;rw[O5 (s:=λc:Int×Int=>eH k3 c.1) (λc:Int×Int=>h c.1)]
def amI(m:aj){l l1 l2:List Int}(h:∀ x,x∈l2↔x∈l1/\x∈l):bN (bN m l1) l=bN m l2:=by
 unfold bN;refine amH λr=>?_;show _=(_&&eH (il m.rules l) r);rw[O4,O4,O4];have hx:=h ((r.toNat:Nat):Int);rw[Bool.eq_iff_iff];simp only[bw,decide_eq_true_eq,List.contains_iff_mem];constructor
 ·rintro⟨a,b⟩;exact⟨⟨a,(hx.1 b).1⟩,a,(hx.1 b).2⟩
 ·rintro⟨⟨a,b⟩,_,c⟩;exact⟨a,hx.2 ⟨b,c⟩⟩
def EI{m:aj}{l q:List Int}:FP (bN m l) q↔FP m q:=by
 unfold bN;exact⟨λh=>⟨by rw[h.len,E9],λj hj=>by rw[<- M4 m (il m.rules l)];exact h.get j hj⟩,λh=>⟨by rw[E9];exact h.len,λj hj=>by rw[M4];exact h.get j hj⟩⟩
def acZ{m:aj}{l:List Int}:jW m l=true↔∃ q,FP m q/\iz (bN m l) q<1099511627776:=by
 unfold jW;rw[decide_eq_true_eq];constructor
 ·intro h;obtain⟨h1,h2⟩:=abB h;exact⟨_,EI.1 h1,by rw[h2];exact h⟩
 ·rintro⟨q,h1,h2⟩;have:=Ov (m:=bN m l) (EI.2 h1);omega
def amJ{m:aj}(hm:VM m){l l':List Int}(h:∀ x∈l,x∈l')(hp:jW m l'=true):jW m l=true:=by
 obtain⟨q,h1,h2⟩:=acZ.1 hp;refine acZ.2 ⟨q,h1,Int.lt_of_le_of_lt ?_ h2⟩;rw[<- amI m (l1:=l') (l:=l) (l2:=l) λx=>⟨λhx=>⟨h x hx,hx⟩,λhx=>hx.2⟩];exact(vd hm _:VM (bN m l')) |> λhv=>Cut.total hv _ q
def ac0{l:List Int}{n x:Int}:x∈cd l n↔x∈l/\x≠n:=by
 unfold cd;rw[qh];simp
def O6{m:aj}(hm:VM m):∀ (ns A:List Int),jW m A=false->jW m (sX m ns A)=false/\(∃ p:Int->Bool,sX m ns A=A.filter p)/\∀ x∈sX m ns A,x∈ns->jW m (cd (sX m ns A) x)=true
 |[],A,h=>⟨h,⟨λ_=>true,(List.filter_eq_self.2 λ_ _=>rfl).symm⟩,λx _ hx=>by cases hx⟩
 |n::ns,A,h=>by
  rw[sX];by_cases hp:jW m (cd A n)=true
  ·rw[if_pos hp];obtain⟨h1,⟨p,h2⟩,h3⟩:=O6 hm ns A h;refine⟨h1,⟨p,h2⟩,λx hx hn=>?_⟩;rcases cB.1 hn with e|e
   ·rw[e];refine amJ hm (l':=cd A n) (λy hy=>?_) hp;rw[ac0]at hy ⊢;rw[h2]at hy;exact⟨(qh.1 hy.1).1,hy.2⟩
   ·exact h3 x hx e
  ·rw[if_neg hp];obtain⟨h1,⟨p,h2⟩,h3⟩:=O6 hm ns (cd A n) (by simpa using hp);refine⟨h1,⟨λx=>p x&&!(x==n),?_⟩,λx hx hn=>?_⟩
   ·rw[h2];unfold cd;rw[List.filter_filter]
   ·rcases cB.1 hn with e|e
    ·exfalso;rw[h2,e]at hx;exact(ac0.1 (qh.1 hx).1).2 rfl
    ·exact h3 x hx e
def amK{m:aj}{x:Int}:x∈gY m↔0<=x/\x<m.rules:=by
 unfold gY;rw[cz];constructor
 ·rintro⟨i,hi,rfl⟩;have:=mH.1 hi;omega
 ·intro h;exact⟨x.toNat,mH.2 GC,GC⟩
def amL(m:aj):(gY m).Pairwise (· < ·):=by
 unfold gY;rw[List.pairwise_map];exact List.pairwise_lt_range.imp λh=>GC
structure wz(m:aj)(l:List Int):Prop where
 no:jW m l=false
 sub :∃p:Int->Bool,l=(gY m).filter p
 one:∀ x∈l,jW m (cd l x)=true
def H2{m:aj}(hm:VM m)(hp:gj m<=1000)(h:(ly m).2=0):wz m (ly m).1:=by
 rw[H5 hm hp]at h ⊢;unfold wv at *;rw[O2 acQ]at *;by_cases hb:jW m (gY m)=true
 ·rw[if_pos hb]at h;exact absurd h Px
 ·rw[if_neg hb]at h ⊢;obtain⟨h1,⟨p,h2⟩,h3⟩:=O6 hm (gY m) (gY m) (by simpa using hb);refine⟨h1,⟨p,h2⟩,λx hx=>h3 x hx ?_⟩;have hx:x∈sX m (gY m) (gY m):=hx;rw[h2]at hx;exact(qh.1 hx).1
def agi{m:aj}(hm:VM m)(hp:gj m<=1000)(h:(ly m).2≠0):ly m=([],60):=by
 rw[H5 hm hp]at h ⊢;unfold wv at *;by_cases hb:jW m (cd (gY m) (-1))=true
 ·rw[if_pos hb]
 ·rw[if_neg hb]at h;exact absurd rfl h
def wz.mem{m:aj}{l:List Int}(h:wz m l):∀ x∈l,0<=x/\x<m.rules:=by
 obtain⟨p,hp⟩:=h.sub;intro x hx;rw[hp]at hx;exact amK.1 (qh.1 hx).1
def wz.asc{m:aj}{l:List Int}(h:wz m l):l.Pairwise (· < ·):=by
 obtain⟨p,hp⟩:=h.sub;rw[hp];exact(amL m).filter p
def wz.ru{m:aj}(hm:VM m){l:List Int}(h:wz m l):pf m l:=⟨by
 obtain⟨p,hp⟩:=h.sub;rw[hp];exact Nat.le_trans (List.length_filter_le _ _) (Md hm).1,h.mem⟩
structure sV where
 rules:List Int
 nodes:List Nd
 qI:List (List Int)
def mS(c:sV):List AV:=[.tree 1 (ints c.rules),.tree 5 (rowsOf aG c.nodes),.tree 1 (ij c.qI)]
def pS:sV:=⟨[],[],[]⟩
def my(f:Nat->Bool):Nat->Nat->Bool
 |0,_=>true
 |w+1,i=>f i&&my f w (i+1)
def Dk{f:Nat->Bool}:∀ {w i:Nat},my f w i=true↔∀ j,i<=j->j<i+w->f j=true
 |0,i=>⟨λ_ j h1 h2=>GC,λ_=>rfl⟩
 |w+1,i=>by
  rw[my,bw,Dk (w:=w)];constructor
  ·rintro⟨h1,h2⟩ j h3 h4;rcases Nat.eq_or_lt_of_le h3 with e|e
   ·exact e▸h1
   ·exact h2 j e GC
  ·intro h;exact⟨h i (aN _) GC,λj h1 h2=>h j GC GC⟩
def nt(R:Int)(l:List Int)(i:Nat):Bool:=decide (0<=l.getD i 0/\l.getD i 0<R/\(i=0\/l.getD (i-1) 0<l.getD i 0))
def AM(m:aj)(c:sV)(i:Nat):Bool:=decide (pg m (c.qI.getD i default)=0/\(ph (bN m (cd c.rules (c.rules.getD i 0))) (c.qI.getD i default)).2.2=0/\(ph (bN m (cd c.rules (c.rules.getD i 0))) (c.qI.getD i default)).1<1099511627776)
def EJ(m:aj)(c:sV):Bool:=decide (jx (bN m c.rules) c.nodes=(1099511627776,true))
def wy(m:aj)(c:sV):Bool:=decide (df m=0/\c.qI.length=c.rules.length)&&(my (nt m.rules c.rules) c.rules.length 0&&(EJ m c&&my (AM m c) c.rules.length 0))
def amN{R:Int}{l:List Int}(h:my (nt R l) l.length 0=true):∀ i:Nat,i<l.length->(i:Int)<=l.getD i 0:=by
 intro i
 induction i with
 |zero =>
  intro hi;have:=Dk.1 h 0 (aN _) GC;unfold nt at this;rw[decide_eq_true_eq]at this;exact this.1
 |succ i ih =>
  intro hi;have h1:=ih GC;have:=Dk.1 h (i+1) (aI _) GC;unfold nt at this;rw[decide_eq_true_eq,Nat.add_sub_cancel]at this;omega
def UR{m:aj}(hm:VM m){l:List Int}(h:my (nt m.rules l) l.length 0=true):pf m l:=by
 have hr:=hm.jq;have ez:∀ i,i<l.length->0<=l.getD i 0/\l.getD i 0<m.rules:=λi hi=>by
  have:=Dk.1 h i (aI _) GC;unfold nt at this;rw[decide_eq_true_eq]at this;exact⟨this.1,this.2.1⟩
 refine⟨?_,λx hx=>?_⟩
 ·rcases m9 l.length with e|e
  ·omega
  ·have h1:=amN h (l.length-1) GC;have h2:=ez (l.length-1) GC;omega
 ·obtain⟨i,hi,rfl⟩:=List.mem_iff_getElem.1 hx;have:=ez i hi;rw[aA,bK hi]at this;exact this
def amO{m:aj}{l:List Int}(h:l.Pairwise (· < ·))(ez:∀ x∈l,0<=x/\x<m.rules):my (nt m.rules l) l.length 0=true:=by
 refine Dk.2 λj _ hj=>?_;have hj:j<l.length:=GC;unfold nt;rw[decide_eq_true_eq];have h1:=ez _ (ay (d:=(0:Int)) hj);refine⟨h1.1,h1.2,?_⟩;rcases m9 j with e|e
 ·exact .inl e
 ·right;have:=List.pairwise_iff_getElem.1 h (j-1) j GC hj GC;rw[aA,bK GC,aA,bK hj];exact this
def LU{r:aj}(hr:VM r)(hp:gj r<=1000)(ht:(tryD r).bA≠1099511627776):FP r (tryD r).plan/\iz r (tryD r).plan<1099511627776/\(tryD r).bA<1099511627776:=by
 have hh:=wA hr;have h2:=(ED hr hp).2.1;have k1:=(Cq hh (spl:=20000) Px (p0:=[]) (t0:=1099511627776) (.inl ⟨rfl,rfl⟩)).1;have k2:=(Cq hr (spl:=20000) Px (p0:=[]) (t0:=1099511627776) (.inl ⟨rfl,rfl⟩)).1;change rZ (aU r) (bW (aU r)).plan (bW (aU r)).bA at k1;change rZ r (bW r).plan (bW r).bA at k2;refine⟨?_,?_,GC⟩
 ·unfold tryD at *;split at ht
  ·rename_i hc;rw[if_pos hc];obtain⟨a,_,_⟩:=k1.resolve_left λe=>ht e.2;exact⟨by rw[<- rY r];exact a.len,λj hj=>by rw[<- EM r];exact a.get j hj⟩
  ·rename_i hc;rw[if_neg hc];exact(k2.resolve_left λe=>ht e.2).1
 ·unfold tryD at *;split at ht
  ·rename_i hc;rw[if_pos hc];exact hc.resolve_left ht
  ·rename_i hc;rw[if_neg hc];obtain⟨_,b,c⟩:=k2.resolve_left λe=>ht e.2;omega
def UH{r:aj}(hr:VM r)(hp:gj r<=1000):PB (tryD r).nodes/\(tryD r).nodes.length<=20000/\((tryD r).bA=1099511627776->jx r (tryD r).nodes=(1099511627776,true)):=by
 have hh:=wA hr;obtain⟨a1,a2,a3,a4,a5⟩:=Jw hh (Jx hh (by rw[abE hr];exact hp));obtain⟨b1,b2,b3,b4,b5⟩:=Jw hr (Jx hr hp);have s1:=(Cq hh (spl:=20000) Px (p0:=[]) (t0:=1099511627776) (.inl ⟨rfl,rfl⟩)).2.2.2.2.2.1;have s2:=(Cq hr (spl:=20000) Px (p0:=[]) (t0:=1099511627776) (.inl ⟨rfl,rfl⟩)).2.2.2.2.2.1;change PB (bW (aU r)).nodes at s1;change PB (bW r).nodes at s2;unfold tryD;split
 ·refine⟨s1,a5,λht=>?_⟩;have hd:=Ju hh ((aU r).cls.length+1) (dH (aU r)) [] Jv (by rw[(Dn.root hh).fit.1];simp) (Dn.root hh);obtain⟨v,hv,vI⟩:=hd.tr [] (λx hx=>by cases hx);have vI:(bW (aU r)).cK=nF v 1099511627776:=vI;have hv:Tr (aU r) (bW (aU r)).nodes 0 (bW (aU r)).nodes.length (dH (aU r)) [] v:=hv;rw[a3,ht]at vI;have dF:dH (aU r)=dH r:=by
   unfold dH;rw[if_pos (eK.2 hh),if_pos (eK.2 hr)];unfold lX aU;dsimp only;rw[uD];exact l8 λx _=>GF
  rw[dF]at hv;obtain⟨w,h1,h2⟩:=hv.Gi hr (Dn.root hr).fit λx hx=>by
   have:=(Jt v 1099511627776).2.1 x hx;omega
  rw[h1.fG hr a5];have h3:=Jt w 1099511627776;have:nF w 1099511627776=1099511627776:=h3.2.2.elim id λh=>h2 _ h;rw[this]
 ·refine⟨s2,b5,λht=>?_⟩;rw[b4,ht]
def nm(m:aj)(l:List Int):sV:=⟨l,(tryD (bN m l)).nodes,l.map λn=>(tryD (bN m (cd l n))).plan⟩
def sU(m:aj):sV×Int:=if df m≠0 then(pS,df m) else if(ly m).2≠0 then(pS,(ly m).2) else(nm m (ly m).1,0)
def UK{m:aj}(hm:VM m)(hp:gj m<=1000){l:List Int}(h:wz m l):wy m (nm m l)=true:=by
 have hv:∀ k,VM (bN m k):=λk=>vd hm _;have cu:∀ k,gj (bN m k)<=1000:=λk=>by rw[EC hm];exact hp
 have key:∀ k,(tryD (bN m k)).bA=1099511627776↔jW m k=false:=λk=>by
  have:=(ED (hv k) (cu k)).2.2;rw[this];unfold jW;rw[decide_eq_false_iff_not]
 unfold wy;rw[show(nm m l).rules=l from rfl,show(nm m l).qI.length=l.length from by unfold nm;simp,amO h.asc h.mem,decide_eq_true ⟨eK.2 hm,rfl⟩];have h1:EJ m (nm m l)=true:=by
  unfold EJ;rw[decide_eq_true_eq];exact(UH (hv l) (cu l)).2.2 ((key l).2 h.no)
 rw[h1];simp only[Bool.true_and];refine Dk.2 λj _ hj=>?_;have hj:j<l.length:=GC;have hx:=ay (d:=(0:Int)) hj;have Oy:(nm m l).qI.getD j default=(tryD (bN m (cd l (l.getD j 0)))).plan:=by
  unfold nm;dsimp only;rw[aA,cj,bK hj,aA,bK hj];rfl
 unfold AM;rw[Oy,show(nm m l).rules=l from rfl,decide_eq_true_eq];have jV:=h.one _ hx;generalize l.getD j 0=n at *;obtain⟨a1,a2,a3⟩:=LU (hv (cd l n)) (cu _) (λe=>by rw[(key _).1 e]at jV;cases jV);have a4:=EI.1 a1;refine⟨L7 hm a4,?_⟩;rw[H8 (hv _) a1.pm];exact⟨rfl,a2⟩
end T

