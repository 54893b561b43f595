import Derived.Test.YtdipcmigdbnheaaGreatX15
import Derived.Test.YtdipcmigdbnheaaGreatX18
set_option linter.all false
set_option maxHeartbeats 0
set_option maxRecDepth 20000
open Nat renaming eq_zero_or_pos→mr,reduceEqDiff→xr,reduceBEq→s0,zero_le→aQ,le_refl→aG,zero_mul→zc
open List renaming eq_nil_of_length_eq_zero→oO,nil_append→da,length_nil→mq,append_nil→gb,all_nil→BB,filter_cons→qx,drop_eq_nil_of_le→cU,filter_nil→zf,replicate→b6,length→rS,ext_getElem?→mZ,getElem?_map→cg,getElem?_set→bV,getElem?_eq_getElem→bT,getElem?_eq_none→eE,mem_map→bZ,getElem?_eq_some_iff→aM,mem_cons→b8,map_cons→dJ,nodup_cons→sX,append_assoc→dC,Perm→pD,range→aN,getElem?_range→oN,length_set→bE,mem_filter→mz
open Option renaming isNone_none→EL,isNone_some→Jh,some→cT,map_some→fR
open Int renaming le_refl→dy
open Go Go.Am Go.Proofs
namespace T
def NM(xs:List Int)(h:0<xs.length)(hl:xs.length<549755813888):an Tryz.prog 90 [.tree 1 (ints xs)] [] (.ref 0 1 0 xs.length) [.arr 1 (ints xs)]:=by
 refine an.aF 8 0 [.tmp 2] Tryz.func90 ?_;((repeat'(first|refine Vb @zs ?_|(refine Xi ?_ ?_<;>try intro ht)|exact Xx|fail)))
 exact Xw false [1] X0
def NN(xs:List Int)(hl:xs.length<549755813888):an Tryz.prog 90 [.tree 1 (ints xs)] [] (.tree 1 (ints xs)) []:=by
 rcases mr xs.length with h|h
 ·obtain rfl:=oO h;refine an.empty (pre:=[]) (post:=[]) (λa cap=>?_);rw[da];cases a with
  |none =>
   refine an.aF 8 0 [.tmp 2] Tryz.func90 ?_;((repeat'(first|refine Vb @EL.{0} ?_|(refine Xi ?_ ?_<;>try intro ht)|exact Xx|fail)))
   all_goals first|(refine du [] true aab trivial aab aab ?_;exact aE.nil)|(exfalso;simp at *;done)
  |some ad =>
   refine an.aF 8 0 [.tmp 2] Tryz.func90 ?_;refine tk aab ?_;intro K hK;simp(disch:=omega)only[Ac,↓Pc,simprocAttr];refine hK _ ?_;clear hK K;refine Wk ?_;intro Q hn he;((refine tk aab ?_);intro K hK;simp(disch:=omega)only[Ac,↓Pc,simprocAttr,Jh];skip);(refine hK _ ?_;clear hK K)
   refine zD (t:=false) (by simp only[l9,Lc,↓reduceIte,xr,s0]) (λht=>by simp at ht) (λht=>?_);refine zC ?_;refine hn _ ?_;(try clear hn;try clear he;try clear Q;clear ht)
   refine bP (aB.CF 0 1 (by(simp only[l9,oB,Rc,↓reduceIte,xr,s0,ev,dM,St.put];exact rfl))) ?_;refine Vb (X3 @mq.{0} @gb.{0} @BB.{0}) ?_;refine du [] true aab trivial aab aab ?_;exact aE.bS (rows:=[]) rfl Jd rfl (gG aab) Jd
 ·refine an.aF 8 0 [.tmp 2] Tryz.func90 ?_;((repeat'(first|refine Vb @zs ?_|(refine Xi ?_ ?_<;>try intro ht)|exact Xx|fail)))
  exact Xw true [] X0
def NO(xs:List Ld)(hl:xs.length<549755813888):an Tryz.prog 91 [.tree 3 (rowsOf gL xs)] [] (.tree 3 (rowsOf gL xs)) []:=by
 rcases mr xs.length with h|h
 ·obtain rfl:=oO h;refine an.empty (pre:=[]) (post:=[]) (λa cap=>?_);rw[da];cases a with
  |none =>
   refine an.aF 8 0 [.tmp 2] Tryz.func91 ?_;((repeat'(first|refine Vb @EL.{0} ?_|(refine Xi ?_ ?_<;>try intro ht)|exact Xx|fail)))
   all_goals first|(refine du [] true aab trivial aab aab ?_;exact aE.nil)|(exfalso;simp at *;done)
  |some ad =>
   refine an.aF 8 0 [.tmp 2] Tryz.func91 ?_;refine tk aab ?_;intro K hK;simp(disch:=omega)only[Ac,↓Pc,simprocAttr];refine hK _ ?_;clear hK K;refine Wk ?_;intro Q hn he;((refine tk aab ?_);intro K hK;simp(disch:=omega)only[Ac,↓Pc,simprocAttr,Jh];skip);(refine hK _ ?_;clear hK K)
   refine zD (t:=false) (by simp only[l9,Lc,↓reduceIte,xr,s0]) (λht=>by simp at ht) (λht=>?_);refine zC ?_;refine hn _ ?_;(try clear hn;try clear he;try clear Q;clear ht)
   refine bP (aB.CF 0 3 (by(simp only[l9,oB,Rc,↓reduceIte,xr,s0,ev,dM,St.put];exact rfl))) ?_;refine Vb (X3 @mq.{0} @gb.{0} @BB.{0}) ?_;refine du [] true aab trivial aab aab ?_;exact aE.bS (rows:=[]) rfl Jd rfl (gG aab) Jd
 ·refine an.aF 8 0 [.tmp 2] Tryz.func91 ?_;((repeat'(first|refine Vb @zX ?_|(refine Xi ?_ ?_<;>try intro ht)|exact Xx|fail)))
  exact Xw true [] X0
def Zy(aw:List Bool)(c:(Int×Int))(h:0<=c.1/\c.1<aw.length):an Tryz.prog 113 [.agg (bz c),.ptr 0 0 0] [.var [.tree 1 (aY aw)]] (.lit (.bool (dj aw c.1))) [.var [.tree 1 (aY aw)]]:=by
 refine an.aF 9 1 [.tmp 3] Tryz.func113 ?_;refine Vb X0 ?_;exact Xw false [0] X0
def Zz(c:(Int×Int)):an Tryz.prog 114 [.agg (bz c)] [] (.agg (bz c)) []:=by
 refine an.aF 4 0 [.cell 2 93] Tryz.func114 ?_;refine Vb X0 ?_;all_goals simp(disch:=omega)only[Ac,↓Pc,simprocAttr]
 exact aO rfl rfl
def ZA(aw:List Bool)(l:List (Int×Int))(hl:l.length<1000000)(hr:∀ c∈l,0<=c.1/\c.1<aw.length):
  an Tryz.prog 112 [.tree 2 (rowsOf bz l),.fn 113 [.ptr 0 0 0],.fn 114 []] [.var [.tree 1 (aY aw)]] (.tree 2 (rowsOf bz (l.filter λc=>dj aw c.1))) [.var [.tree 1 (aY aw)]]:=by
 generalize ao:(l.filter λc=>dj aw c.1)=res;refine an.aF 27 1 [.tmp 6] Tryz.func112 ?_;refine Vb X0 ?_;refine aW (λz:Nat×List (Int×Int)=>(⟨ax [(1,.fn 113 [.ptr 0 0 0]),(2,.fn 114 []),(7,.ref 1 2 0 z.2.length),(10,.tree 2 (rowsOf bz l)),(11,aa3 l.length),(12,aa3 z.1)],[.var [.tree 1 (aY aw)],.arr 2 (rowsOf bz z.2)]⟩:St))
  (λz=>z.1<=l.length/\z.2.length<=z.1/\z.2++((l.drop z.1).filter λc=>dj aw c.1)=res) (λz=>l.length-z.1) (0,[]) ⟨aQ _,aG _,ao⟩ (by
   refine aB.trans (aB.nil 7 2 (by simp only[Kc,simprocAttr]) aab) ?_;exact Xv X0) ?_
 rintro⟨k,out⟩⟨hk,ho,cm⟩Ql aq au;dsimp only at hk ho cm ⊢;by_cases aJ:k<l.length
 ·have hd:=cS l k default aJ;have cR:=aC (d:=default) aJ;have hc:=hr _ cR
  skip
  generalize bb:l.getD k default=c at *;rw[hd,qx]at cm;have hp:=Zy aw c hc;generalize sC:dj aw c.1=kb at *;have u4:=Zz c;((repeat'(first|refine Va @bb ?_|(refine Xi ?_ ?_<;>try intro ht)|exact Xx|fail))<;>try with_reducible intro K hK)
  (refine Xn [0] (hp) ?_;simp(disch:=omega)only[Ac,↓Pc,simprocAttr,bb])
  ((try revert hK K);(repeat'(first|refine Vc @bb u4 ?_|(refine Xi ?_ ?_<;>try intro ht)|fail)))
  ·rw[if_pos (by assumption)]at cm;refine aq _ (k+1,out++[c]) ⟨aaK,aaZ,by rw[<- cm];simp⟩ aaK ?_;have e:=jM (enc:=bz) out c;simp only[bz]at e;rw[e];exact Xs false [0,4] X0
  ·rw[if_neg (by simp[*])]at cm;exact aq _ (k+1,out) ⟨aaK,aaK,cm⟩ aaK (Xs false [0,1] X0)
 ·((repeat'(first|refine Va X0 ?_|(refine Xi ?_ ?_<;>try intro ht)|exact Xx|fail)))
  rw[cU I6,zf,gb]at cm;refine au _ _ rfl ?_;clear aq au Ql;repeat(refine Xu ?_)
  refine Vb X0 ?_;rw[<- cm];exact Xw true [0] X0
def ZB(aw:List Bool)(c:Pr)(h:0<=c.aV/\c.aV<aw.length):an Tryz.prog 116 [.agg (bu c),.ptr 0 0 0] [.var [.tree 1 (aY aw)]] (.lit (.bool (dj aw c.aV))) [.var [.tree 1 (aY aw)]]:=by
 refine an.aF 9 1 [.tmp 3] Tryz.func116 ?_;refine Vb X0 ?_;exact Xw false [0] X0
def ZC(c:Pr)(hb:c.ay.length<549755813888):an Tryz.prog 117 [.agg (bu c)] [] (.agg (bu c)) []:=by
 refine an.aF 8 0 [.cell 2 84] Tryz.func117 ?_;refine Vd X0 (NN c.ay hb) ?_;all_goals simp(disch:=omega)only[Ac,↓Pc,simprocAttr]
 exact aO rfl rfl
def ZD(aw:List Bool)(l:List Pr)(hl:l.length<1000000)(hr:∀ c∈l,0<=c.aV/\c.aV<aw.length)(hb:∀ c∈l,c.ay.length<549755813888):
  an Tryz.prog 115 [.tree 4 (rowsOf bu l),.fn 116 [.ptr 0 0 0],.fn 117 []] [.var [.tree 1 (aY aw)]] (.tree 4 (rowsOf bu (l.filter λc=>dj aw c.aV))) [.var [.tree 1 (aY aw)]]:=by
 generalize ao:(l.filter λc=>dj aw c.aV)=res;refine an.aF 27 1 [.tmp 6] Tryz.func115 ?_;refine Vb X0 ?_;refine aW (λz:Nat×List Pr=>(⟨ax [(1,.fn 116 [.ptr 0 0 0]),(2,.fn 117 []),(7,.ref 1 4 0 z.2.length),(10,.tree 4 (rowsOf bu l)),(11,aa3 l.length),(12,aa3 z.1)],[.var [.tree 1 (aY aw)],.arr 4 (rowsOf bu z.2)]⟩:St))
  (λz=>z.1<=l.length/\z.2.length<=z.1/\z.2++((l.drop z.1).filter λc=>dj aw c.aV)=res) (λz=>l.length-z.1) (0,[]) ⟨aQ _,aG _,ao⟩ (by
   refine aB.trans (aB.nil 7 4 (by simp only[Kc,simprocAttr]) aab) ?_;exact Xv X0) ?_
 rintro⟨k,out⟩⟨hk,ho,cm⟩Ql aq au;dsimp only at hk ho cm ⊢;by_cases aJ:k<l.length
 ·have hd:=cS l k default aJ;have cR:=aC (d:=default) aJ;have hc:=hr _ cR;have tG:=hb _ cR;generalize bb:l.getD k default=c at *;rw[hd,qx]at cm;have hp:=ZB aw c hc;generalize sC:dj aw c.aV=kb at *;have u4:=ZC c tG;((repeat'(first|refine Va @bb ?_|(refine Xi ?_ ?_<;>try intro ht)|exact Xx|fail))<;>try with_reducible intro K hK)
  (refine Xn [0] (hp) ?_;simp(disch:=omega)only[Ac,↓Pc,simprocAttr,bb])
  ((try revert hK K);(repeat'(first|refine Vc @bb u4 ?_|(refine Xi ?_ ?_<;>try intro ht)|fail)))
  ·rw[if_pos (by assumption)]at cm;refine aq _ (k+1,out++[c]) ⟨aaK,aaZ,by rw[<- cm];simp⟩ aaK ?_;have e:=jM (enc:=bu) out c;simp only[bu]at e;rw[e];exact Xs false [0,4] X0
  ·rw[if_neg (by simp[*])]at cm;exact aq _ (k+1,out) ⟨aaK,aaK,cm⟩ aaK (Xs false [0,1] X0)
 ·((repeat'(first|refine Va X0 ?_|(refine Xi ?_ ?_<;>try intro ht)|exact Xx|fail)))
  rw[cU I6,zf,gb]at cm;refine au _ _ rfl ?_;clear aq au Ql;repeat(refine Xu ?_)
  refine Vb X0 ?_;rw[<- cm];exact Xw true [0] X0
def ZE(aw:List Bool)(c:Ct)(h:0<=c.aV/\c.aV<aw.length):an Tryz.prog 119 [.agg (aK c),.ptr 0 0 0] [.var [.tree 1 (aY aw)]] (.lit (.bool (dj aw c.aV))) [.var [.tree 1 (aY aw)]]:=by
 refine an.aF 9 1 [.tmp 3] Tryz.func119 ?_;refine Vb X0 ?_;exact Xw false [0] X0
def ZF(c:Ct)(hb:c.aS.length<549755813888):an Tryz.prog 120 [.agg (aK c)] [] (.agg (aK c)) []:=by
 refine an.aF 8 0 [.cell 2 98] Tryz.func120 ?_;refine Vd X0 (NO c.aS hb) ?_;all_goals simp(disch:=omega)only[Ac,↓Pc,simprocAttr]
 exact aO rfl rfl
def ZG(aw:List Bool)(l:List Ct)(hl:l.length<1000000)(hr:∀ c∈l,0<=c.aV/\c.aV<aw.length)(hb:∀ c∈l,c.aS.length<549755813888):
  an Tryz.prog 118 [.tree 4 (rowsOf aK l),.fn 119 [.ptr 0 0 0],.fn 120 []] [.var [.tree 1 (aY aw)]] (.tree 4 (rowsOf aK (l.filter λc=>dj aw c.aV))) [.var [.tree 1 (aY aw)]]:=by
 generalize ao:(l.filter λc=>dj aw c.aV)=res;refine an.aF 27 1 [.tmp 6] Tryz.func118 ?_;refine Vb X0 ?_;refine aW (λz:Nat×List Ct=>(⟨ax [(1,.fn 119 [.ptr 0 0 0]),(2,.fn 120 []),(7,.ref 1 4 0 z.2.length),(10,.tree 4 (rowsOf aK l)),(11,aa3 l.length),(12,aa3 z.1)],[.var [.tree 1 (aY aw)],.arr 4 (rowsOf aK z.2)]⟩:St))
  (λz=>z.1<=l.length/\z.2.length<=z.1/\z.2++((l.drop z.1).filter λc=>dj aw c.aV)=res) (λz=>l.length-z.1) (0,[]) ⟨aQ _,aG _,ao⟩ (by
   refine aB.trans (aB.nil 7 4 (by simp only[Kc,simprocAttr]) aab) ?_;exact Xv X0) ?_
 rintro⟨k,out⟩⟨hk,ho,cm⟩Ql aq au;dsimp only at hk ho cm ⊢;by_cases aJ:k<l.length
 ·have hd:=cS l k default aJ;have cR:=aC (d:=default) aJ;have hc:=hr _ cR;have tG:=hb _ cR;generalize bb:l.getD k default=c at *;rw[hd,qx]at cm;have hp:=ZE aw c hc;generalize sC:dj aw c.aV=kb at *;have u4:=ZF c tG;((repeat'(first|refine Va @bb ?_|(refine Xi ?_ ?_<;>try intro ht)|exact Xx|fail))<;>try with_reducible intro K hK)
  (refine Xn [0] (hp) ?_;simp(disch:=omega)only[Ac,↓Pc,simprocAttr,bb])
  ((try revert hK K);(repeat'(first|refine Vc @bb u4 ?_|(refine Xi ?_ ?_<;>try intro ht)|fail)))
  ·rw[if_pos (by assumption)]at cm;refine aq _ (k+1,out++[c]) ⟨aaK,aaZ,by rw[<- cm];simp⟩ aaK ?_;have e:=jM (enc:=aK) out c;simp only[aK]at e;rw[e];exact Xs false [0,4] X0
  ·rw[if_neg (by simp[*])]at cm;exact aq _ (k+1,out) ⟨aaK,aaK,cm⟩ aaK (Xs false [0,1] X0)
 ·((repeat'(first|refine Va X0 ?_|(refine Xi ?_ ?_<;>try intro ht)|exact Xx|fail)))
  rw[cU I6,zf,gb]at cm;refine au _ _ rfl ?_;clear aq au Ql;repeat(refine Xu ?_)
  refine Vb X0 ?_;rw[<- cm];exact Xw true [0] X0
def ZH:an Tryz.prog 89 [.tree 2 []] [] (.tree 2 []) []:=by
 refine an.empty (pre:=[]) (post:=[]) (λa cap=>?_);rw[da];cases a with
 |none =>
  refine an.aF 8 0 [.tmp 2] Tryz.func89 ?_;((repeat'(first|refine Vb @EL.{0} ?_|(refine Xi ?_ ?_<;>try intro ht)|exact Xx|fail)))
  all_goals first|(refine du [] true aab trivial aab aab ?_;exact aE.nil)|(exfalso;simp at *;done)
 |some ad =>
  refine an.aF 8 0 [.tmp 2] Tryz.func89 ?_;refine tk aab ?_;intro K hK;simp(disch:=omega)only[Ac,↓Pc,simprocAttr];refine hK _ ?_;clear hK K;refine Wk ?_;intro Q hn he;((refine tk aab ?_);intro K hK;simp(disch:=omega)only[Ac,↓Pc,simprocAttr,Jh];skip);(refine hK _ ?_;clear hK K)
  refine zD (t:=false) (by simp only[l9,Lc,↓reduceIte,xr,s0]) (λht=>by simp at ht) (λht=>?_);refine zC ?_;refine hn _ ?_;(try clear hn;try clear he;try clear Q;clear ht)
  refine bP (aB.CF 0 2 (by(simp only[l9,oB,Rc,↓reduceIte,xr,s0,ev,dM,St.put];exact rfl))) ?_;refine Vb (X3 @mq.{0} @gb.{0} @BB.{0}) ?_;refine du [] true aab trivial aab aab ?_;exact aE.bS (rows:=[]) rfl Jd rfl (gG aab) Jd
def ZI(xs:List (Int×Int))(h:0<xs.length)(hl:xs.length<549755813888):an Tryz.prog 89 [.tree 2 (rowsOf bz xs)] [] (.ref 0 2 0 xs.length) [.arr 2 (rowsOf bz xs)]:=by
 refine an.aF 8 0 [.tmp 2] Tryz.func89 ?_;((repeat'(first|refine Vb @zX ?_|(refine Xi ?_ ?_<;>try intro ht)|exact Xx|fail)))
 exact Xw false [1] X0
def lq(w o:Nat):List Bool:=(b6 w false).set o true
def bN(left:List (List Bool))(c o:Nat):List (List Bool):=left.set c (lq (left.getD c default).length o)
def C7(w o:Nat):(lq w o).length=w:=by simp[lq]
def GA(left:List (List Bool))(c o:Nat):(bN left c o).map rS=left.map rS:=by
 unfold bN;apply mZ;intro j;rw[cg,cg,bV];split
 ·rename_i e;subst e;split
  ·rename_i h2;rw[bT h2];simp[C7,h2]
  ·rename_i h2;rw[eE I6]
 ·rfl
def C8{σ:St}{kp:Nat->Prop}{c d:List AV}(h:∀ v∈c,(∃ x,v=AV.lit x)\/∃ s r,v=AV.tree s r)(e:d=c):dS (b9 σ kp) c d:=by
 subst e
 induction d with
 |nil=>trivial
 |cons v l ih =>
  refine⟨?_,ih λx hx=>h x (by simp[hx])⟩;rcases h v Jd with⟨x,rfl⟩|⟨s,r,rfl⟩
  ·exact .lit _
  ·exact .tree _ _
def ZJ{σ:St}{kp:Nat->Prop}{oi k c:Nat}{left:List (List Bool)}{r:List Bool}(hc:c<left.length)(ho:σ.aa[oi]?=some (.arr 1 ((rowsOf bd left).set c [.ref k 1 0 r.length])))(hk:¬ kp oi)(hr:σ.aa[k]?=some (.arr 1 (aY r)))(zn:¬ kp k):
  b9 σ kp (.tree 1 (rowsOf bd (left.set c r))) (.ref oi 1 0 left.length) :=
 b9.mk ho (by simp[rowsOf]) hk (eF _) (jB.yn (f:=λ_=>[]) (g:=λ_=>[]) (by simp[rowsOf]) λj x d hx hd=>by
  unfold rowsOf at hx hd;rw[cg,bV]at hx;rw[bV]at hd;by_cases e:c=j
  ·subst e;rw[if_pos rfl,if_pos hc]at hx;rw[if_pos rfl,if_pos (by simpa using hc)]at hd;cases hx;cases hd;exact⟨ZK hr zn,trivial⟩
  ·rw[if_neg e]at hx hd;rw[cg]at hd;rw[hx]at hd;simp only[cT.injEq]at hd;cases hl:left[j]? with
   |none=>rw[hl]at hx;cases hx
   |some y =>
    rw[hl]at hx;simp only[fR,cT.injEq]at hx;subst hx;exact C8 (λv hv=>by simp only[bd,List.mem_singleton]at hv;exact .inr ⟨_,_,hv⟩) hd.symm)
def ZL(xs:List (List Bool))(h:0<xs.length)(hl:xs.length<549755813888):an Tryz.prog 170 [.tree 1 (rowsOf bd xs)] [] (.ref 0 1 0 xs.length) [.arr 1 (rowsOf bd xs)]:=by
 refine an.aF 8 0 [.tmp 2] Tryz.func170 ?_;((repeat'(first|refine Vb X0 ?_|(refine Xi ?_ ?_<;>try intro ht)|exact Xx|fail)))
 exact Xw false [1] X0
def ZM:an Tryz.prog 90 [.lit (.slice none 0 0)] [] (.lit (.slice none 0 0)) []:=by
 refine an.aF 8 0 [.tmp 2] Tryz.func90 ?_;((repeat'(first|refine Vb @EL.{0} ?_|(refine Xi ?_ ?_<;>try intro ht)|exact Xx|fail)))
 all_goals first|exact aO rfl rfl|(exfalso;simp at *;done)
def ZN(left:List (List Bool))(c o:Nat)(hc:c<left.length)(ho:o<(left.getD c default).length)(hl:left.length<549755813888)(hw:(left.getD c default).length<549755813888):
  an Tryz.prog 126 [.tree 1 (rowsOf bd left),aa3 c,aa3 o] [] (.tree 1 (rowsOf bd (bN left c o))) []:=by
 unfold bN;have gr:∀ r:List AV,((rowsOf bd left).set c r)[c]?=some r:=λr=>by rw[bV,if_pos rfl,if_pos (by simpa [rowsOf] using hc)]
 have fl:∀ r:List AV,((rowsOf bd left).set c r).length=left.length:=λr=>by simp[rowsOf]
 generalize cm:left.getD c default=row at *;have Aq:(b6 row.length false).length=row.length:=List.length_replicate;refine an.aF 26 0 [.tmp 6] Tryz.func126 ?_;((refine Vb X0 ?_)<;>try with_reducible intro K hK)
 (refine Xn [] (ZL left I6 hl) ?_;simp(disch:=omega)only[Ac,↓Pc,simprocAttr,Nat.sub_self,Nat.sub_zero])
 ((try revert hK K);(refine Vb (X5 @cm @bd.eq_1 @E' @gr (X3 @fl @Aq @E8)) ?_))
 refine du [] true aab trivial aab aab (.snap _ _ rfl ?_);have cD:(lq row.length o).length=row.length:=C7 _ _;exact ZJ (k:=1) (r:=lq row.length o) hc (by rw[cD];rfl) (gG aab) rfl (gG aab)
def Gx:∀ (l:List Int) (s:List Bool) (n:Int),(∀ x∈l,0<=x)->0<=n->0<=iG l s n/\iG l s n<=n
 |[],s,n,_,hn=>by cases s<;>exact⟨hn,dy _⟩
 |x::r,[],n,_,hn=>⟨hn,dy _⟩
 |x::r,b::s,n,h,hn=>by
  have hx:=h x Jd;obtain⟨h1,h2⟩:=Gx r s (if b=true then min n x else n) (λy hy=>h y (by simp[hy])) (by split<;>omega);rw[iG];refine⟨h1,Int.le_trans h2 ?_⟩;split<;>omega
def Zx{m:aj}{p:Pr}{left:List (List Bool)}(hm:VM m)(ef:eS m p=true)(hf:ej m left):0<=nK m left p/\nK m left p<=1099511627776:=by
 obtain⟨q1,q2,q3,q4,q5⟩:=lr ef;have h1:=hf.1;have a1:=hf.2 p.fst.toNat I6;have a2:=hf.2 p.snd.toNat I6;unfold nK;rw[GC _ _ _ a2 _ 0 _ (by rw[zc,Nat.zero_add,a1];exact_mod_cast Int.le_of_eq q5.symm),zc,List.drop_zero];exact Gx _ _ _ (λx hx=>(C9 ef x hx).1) I6
def Gz(n:Int):an Tryz.prog 160 [aa3 n] [] (aa3 (min n 1099511627776)) []:=by
 refine an.aF 5 0 [.tmp 2] Tryz.func160 ?_;refine Vb X0 ?_;exact aO rfl rfl
def Zp(n bM:Int)(hn:0<=n/\n<=1048576)(hp:iF bM=true):an Tryz.prog 187 [aa3 n,aa3 bM] [] (aa3 (wL n bM)) []:=by
 have Da:=lN hp;unfold iF at hp;unfold bL at Da;rw[decide_eq_true_eq]at hp;generalize ao:wL n bM=res;unfold wL at ao;have hmul:¬(0<n/\bM=1099511627776)->0<=n*bM/\n*bM<=1099511627776:=λh=>by
  rcases Int.lt_or_eq_of_le hn.1 with h0|h0
  ·have:n*bM<=1048576*1048576:=Int.mul_le_mul hn.2 I6 I6 I6;have:=Int.mul_nonneg hn.1 Da.1;omega
  ·rw[<- h0];simp
 generalize NP:n*bM=np at *;have C6:=Gz np;refine an.aF 15 0 [.tmp 4] Tryz.func187 ?_;by_cases h:0<n/\bM=1099511627776
 ·rw[if_pos h]at ao;((repeat'(first|refine Vb X0 ?_|(refine V2 X0 ?_ ?_<;>try with_reducible intro hb)|(refine Xi ?_ ?_<;>try intro ht)|exact Xx|fail)))
  all_goals exact aO rfl (by rw[ao])
 ·rw[if_neg h]at ao;have hmul:=hmul h;((repeat'(first|refine Vd @NP C6 ?_|(refine V2 @NP ?_ ?_<;>try with_reducible intro hb)|(refine Xi ?_ ?_<;>try intro ht)|exact Xx|fail)))
  all_goals exact aO rfl (by rw[ao])
def Zu(o:br)(hc:∀ c∈o.ch,bL c.2)(hl:o.ch.length<=100):an Tryz.prog 157 [.agg (cw o)] [] (aa3 (iU o)) []:=by
 refine an.aF 20 0 [.tmp 2] Tryz.func157 ?_;refine Vb @cw.eq_1 ?_;refine aW (λk:Nat=>(⟨ax [(3,aa3 (((o.ch.take k).map (·.2)).foldl dx 0)),(7,.tree 2 (rowsOf bz o.ch)),(8,aa3 o.ch.length),(9,aa3 k)],[]⟩:St)) (λk=>k<=o.ch.length) (λk=>o.ch.length-k) 0 (aQ _) (Xs false [] (X3 @List.take_zero.{0} @List.map_nil.{0,0} @List.foldl_nil.{0,0})) ?_;rintro k hk Ql aq au;have hs:=Db ((o.ch.take k).map (·.2)) 0 (λx hx=>by
  obtain⟨c,jZ,rfl⟩:=bZ.1 hx;exact hc c (List.mem_of_mem_take jZ)) (by unfold bL;decide)
 by_cases aJ:k<o.ch.length
 ·have bb:=hc _ (aC (d:=default) aJ);have fW:=NQ o.ch k aJ;generalize ((o.ch.take k).map (·.2)).foldl dx 0=s at *;generalize bG:o.ch.getD k default=x at *;have Dc:=Gz (s+x.2);rw[show min (s+x.2) 1099511627776=dx s x.2 from rfl]at Dc;unfold bL at hs bb;((repeat'(first|refine Vc (X2 @bG @bz.eq_1) Dc ?_|(refine Xi ?_ ?_<;>try intro ht)|exact Xx|fail)))
  exact aq _ (k+1) I6 I6 (by simp only[fW];exact Xs false [] X0)
 ·have mg:((o.ch.take k).map (·.2)).foldl dx 0=iU o:=by rw[List.take_of_length_le I6];rfl
  rw[mg]at hs ⊢;((repeat'(first|refine Va X0 ?_|(refine Xi ?_ ?_<;>try intro ht)|exact Xx|fail)))
  refine au _ _ rfl ?_;clear aq au Ql;repeat(refine Xu ?_)
  refine Vb X0 ?_;exact aO rfl rfl
def ZO(m:aj)(p:Pr)(x y:Int)(ef:eS m p=true)(Ar:∀ l∈m.cls,l.length<=24)(hx:0<=x/\x<(m.cls.getD p.fst.toNat default).length)(hy:0<=y/\y<(m.cls.getD p.snd.toNat default).length):
  an Tryz.prog 185 [.agg (av m),.agg (bu p),aa3 x,aa3 y] [] (aa3 (mP m p x y)) []:=by
 obtain⟨q1,q2,q3,q4,q5⟩:=lr ef;have Dd:=Ar _ (aC (l:=m.cls) (i:=p.fst.toNat) (d:=default) I6);have wM:=Ar _ (aC (l:=m.cls) (i:=p.snd.toNat) (d:=default) I6);have NR:=u5 (x:=x) (y:=y) (a:=(m.cls.getD p.fst.toNat default).length) (b:=(m.cls.getD p.snd.toNat default).length) hx hy I6 I6;unfold mP;rw[<- q5]at NR;generalize gJ:m.cls.getD p.snd.toNat default=lb at *;generalize sE:x*(lb.length:Int)=xm at *;refine an.aF 24 0 [.tmp 8] Tryz.func185 ?_;refine Vb (X2 @gJ @sE) ?_;exact aO rfl rfl
def Zw(m:aj)(p:Pr)(left:List (List Bool))(hm:VM m)(ef:eS m p=true)(hf:ej m left):
  an Tryz.prog 158 [.agg (av m),.agg (bu p),.tree 1 (rowsOf bd left)] [] (aa3 (nK m left p)) []:=by
 obtain⟨q1,q2,q3,q4,q5⟩:=lr ef;have eA:=hf.1;have cy:=hm.cls;have ha:=hf.2 p.fst.toNat I6;have hb:=hf.2 p.snd.toNat I6;have Dd:=hm.opt _ (aC (l:=m.cls) (i:=p.fst.toNat) (d:=default) I6);have wM:=hm.opt _ (aC (l:=m.cls) (i:=p.snd.toNat) (d:=default) I6);have yo:=λx y=>ZO m p x y ef hm.opt;generalize ao:nK m left p=res;unfold nK at ao;unfold mP at yo;generalize ZP:left.getD p.fst.toNat default=ra at *;generalize NS:left.getD p.snd.toNat default=rb at *;generalize m.cls.getD p.fst.toNat default=la at *;generalize m.cls.getD p.snd.toNat default=lb at *;refine an.aF 48 0 [.tmp 6] Tryz.func158 ?_;refine Vb (X3 @ZP @bd.eq_1 @bu.eq_1) ?_;refine aW (λz:Nat×Int=>(⟨ax [(2,.tree 1 (rowsOf bd left)),(3,.ptr 0 0 0),(4,.ptr 1 0 0),(7,aa3 z.2),(16,.tree 1 (aY ra)),(17,aa3 ra.length),(18,aa3 z.1)],[.var (av m),.var (bu p)]⟩:St))
  (λz=>z.1<=ra.length/\p9 p.ay lb.length rb z.1 (ra.drop z.1) z.2=res) (λz=>ra.length-z.1) (0,1099511627776) ⟨aQ _,ao⟩ (Xv @bu.eq_1) ?_
 rintro⟨i,n⟩⟨hi,hr⟩Ql aq au;dsimp only at hi hr ⊢;by_cases hi':i<ra.length
 ·have hd:=cS ra i false hi';generalize yk:ra.getD i false=a at *;rw[hd,p9]at hr;((repeat'(first|refine Va (X4 @yk @NS @bd.eq_1 @bu.eq_1) ?_|(refine Xi ?_ ?_<;>try intro ht)|exact Xx|fail)))
  refine aW (λz:Nat×Int=>(⟨ax [(2,.tree 1 (rowsOf bd left)),(3,.ptr 0 0 0),(4,.ptr 1 0 0),(7,aa3 z.2),(8,aa3 i),(9,.lit (.bool a)),(16,.tree 1 (aY ra)),(17,aa3 ra.length),(18,aa3 i),(27,.tree 1 (aY rb)),(28,aa3 rb.length),(29,aa3 z.1)],[.var (av m),.var (bu p)]⟩:St))
   (λz=>z.1<=rb.length/\p9 p.ay lb.length rb (i+1) (ra.drop (i+1)) (q8 p.ay lb.length i a z.1 (rb.drop z.1) z.2)=res) (λz=>rb.length-z.1) (0,n) ⟨aQ _,hr⟩ (Xv @bu.eq_1) ?_
  rintro⟨k,x⟩⟨hk,hJ⟩eR bX bQ;dsimp only at hk hJ ⊢;by_cases aJ:k<rb.length
  ·have sB:=cS rb k false aJ;generalize gJ:rb.getD k false=b at *;rw[sB,q8]at hJ;have he:=yo i k I6 I6;rw[show((i:Int)*(lb.length:Int)+(k:Int)).toNat=i*lb.length+k by rw[<- Int.natCast_mul,<- Int.natCast_add,Int.toNat_natCast]]at he;generalize p.ay.getD (i*lb.length+k) 0=e at *;cases a<;>cases b
   ·rw[if_neg Jd]at hJ;((repeat'(first|refine Va @gJ ?_|(refine Xi ?_ ?_<;>try intro ht)|exact Xx|fail)))
    all_goals exact bX _ (k+1,x) ⟨aaK,hJ⟩ aaK (Xv X0)
   ·rw[if_neg Jd]at hJ;((repeat'(first|refine Va @gJ ?_|(refine Xi ?_ ?_<;>try intro ht)|exact Xx|fail)))
    all_goals exact bX _ (k+1,x) ⟨aaK,hJ⟩ aaK (Xv X0)
   ·rw[if_neg Jd]at hJ;((repeat'(first|refine Va @gJ ?_|(refine Xi ?_ ?_<;>try intro ht)|exact Xx|fail)))
    all_goals exact bX _ (k+1,x) ⟨aaK,hJ⟩ aaK (Xv X0)
   ·rw[if_pos ⟨rfl,rfl⟩]at hJ;((repeat'(first|refine Vc @gJ he ?_|(refine Xi ?_ ?_<;>try intro ht)|exact Xx|fail)))
    all_goals exact bX _ (k+1,min x e) ⟨aaK,hJ⟩ aaK (Xv X0)
  ·((repeat'(first|refine Va X0 ?_|(refine V2 X0 ?_ ?_<;>try with_reducible intro hb)|(refine Xi ?_ ?_<;>try intro ht)|exact Xx|fail)))
   rw[show rb.drop k=[] from cU I6,q8]at hJ;refine bQ _ _ rfl ?_;clear bX bQ;repeat(refine Xu ?_)
   refine Va X0 ?_;exact aq _ (i+1,x) ⟨aaK,hJ⟩ aaK (Xv X0)
 ·((repeat'(first|refine Va X0 ?_|(refine Xi ?_ ?_<;>try intro ht)|exact Xx|fail)))
  rw[cU I6,p9]at hr;refine au _ _ rfl ?_;clear aq au Ql;repeat(refine Xu ?_)
  refine Vb X0 ?_;exact aO rfl (by rw[hr])
structure Fc(C:List (Nat×Ob))(os:List Ob):Prop where
 at_:∀ b∈C,os[b.1]?=some b.2
 nd:(C.map (·.1)).Nodup
section
variable {C D:List (Nat×Ob)} {os:List Ob}
def Fc.b0{a:Nat×Ob}(h:Fc (a::C) os):os[a.1]?=some a.2:=h.at_ a Jd
def Fc.b1{a b:Nat×Ob}(h:Fc (a::b::C) os):os[b.1]?=some b.2:=h.at_ b Jd
def Fc.b2{a b c:Nat×Ob}(h:Fc (a::b::c::C) os):os[c.1]?=some c.2:=h.at_ c Jd
def Fc.b3{a b c d:Nat×Ob}(h:Fc (a::b::c::d::C) os):os[d.1]?=some d.2:=h.at_ d Jd
def Fc.app(h:Fc C os)(l:List Ob):Fc C (os++l):=⟨λb hb=>bC (h.at_ b hb) l,h.nd⟩
def Fc.perm(h:Fc C os)(hp:C.Perm D):Fc D os:=⟨λb hb=>h.at_ b (hp.mem_iff.2 hb),((hp.map (·.1)).nodup_iff).1 h.nd⟩
def Fc.front{b:Nat×Ob}(A:List (Nat×Ob))(h:Fc (A++b::C) os):Fc (b::(A++C)) os:=h.perm List.perm_middle
def Fc.fresh(h:Fc C os){p:Nat}(hp:os.length<=p):p ∉ C.map (·.1):=λhh=>by
 obtain⟨q,hq,rfl⟩:=bZ.1 hh;have:=(aM.1 (h.at_ q hq)).1;omega
def Fc.other(h:Fc C os){i:Nat}(hi:i ∉ C.map (·.1))(y:Ob):Fc C (os.set i y) :=
 ⟨λb hb=>by rw[List.getElem?_set_ne (λe=>hi (bZ.2 ⟨b,hb,e.symm⟩))];exact h.at_ b hb,h.nd⟩
def Fc.add(h:Fc C os){k:Nat}{x:Ob}(hk:os[k]?=some x)(hf:k ∉ C.map (·.1)):Fc ((k,x)::C) os :=
 ⟨λb hb=>by rcases b8.1 hb with rfl|hb;exact hk;exact h.at_ b hb,by rw[dJ,sX];exact⟨hf,h.nd⟩⟩
def Fc.drop{i:Nat}{x:Ob}(h:Fc ((i,x)::C) os):Fc C os/\i ∉ C.map (·.1):=by
 have hn:=h.nd;rw[dJ,sX]at hn;exact⟨⟨λb hb=>h.at_ b (by simp[hb]),hn.2⟩,hn.1⟩
def Fc.put{i:Nat}{x:Ob}(h:Fc ((i,x)::C) os)(y:Ob):Fc ((i,y)::C) (os.set i y):=by
 obtain⟨h1,h2⟩:=h.drop;exact(h1.other h2 y).add (iH h.b0) h2
def Fc.kill{i:Nat}{x:Ob}(h:Fc ((i,x)::C) os)(y:Ob):Fc C (os.set i y):=by
 obtain⟨h1,h2⟩:=h.drop;exact h1.other h2 y
def Fc.sub(h:Fc (C++D) os):Fc C os:=⟨λb hb=>h.at_ b (List.mem_append_left _ hb),by
 have:=h.nd;rw[List.map_append,List.nodup_append]at this;exact this.1⟩
end
structure Rw where
 c:Int
 yp:Option (Nat×List Int)
 mv:Option (Nat×List Mv)
instance:Inhabited Rw:=⟨⟨0,none,none⟩⟩
def kE:Option (Nat×List Int)->AV
 |none=>.lit (.slice none 0 0)
 |some x=>.ref x.1 1 0 x.2.length
def mE:Option (Nat×List Mv)->AV
 |none=>.lit (.slice none 0 0)
 |some x=>.ref x.1 4 0 x.2.length
def ca(r:Rw):List AV:=[aa3 r.c,kE r.yp,mE r.mv,.lit (.slice none 0 0),.lit (.slice none 0 0)]
def kO:Option (Nat×List Int)->List (Nat×Ob)
 |none=>[]
 |some x=>[(x.1,.arr 1 (ints x.2))]
def mO:Option (Nat×List Mv)->List (Nat×Ob)
 |none=>[]
 |some x=>[(x.1,.arr 4 (rowsOf u6 x.2))]
def lu(r:Rw):List (Nat×Ob):=kO r.yp++mO r.mv
def eT(R:List Rw):List (Nat×Ob):=R.flatMap lu
def cF:Rw:=⟨-1,none,none⟩
def As(A B:List Rw):eT (A++B)=eT A++eT B:=by unfold eT;rw[List.flatMap_append]
def De(r:Rw):eT [r]=lu r:=by simp[eT]
def NT(R:List Rw):(rowsOf ca R).length=R.length:=by simp[rowsOf]
def ZQ(R:List Rw)(r:Rw):rowsOf ca R++[ca r]=rowsOf ca (R++[r]):=by simp[rowsOf]
def Df{α:Type}(a b c:List α):(a++(b++c)).Perm (b++(a++c)):=by
 rw[<- dC,<- dC];exact pD.append_right _ List.perm_append_comm
def NU{R:List Rw}{j:Nat}(hj:j<R.length)(r:Rw):(lu (R.getD j default)++eT (R.set j r)).Perm (lu r++eT R):=by
 have h1:R=R.take j++R.getD j default::R.drop (j+1):=by
  rw[List.getD_eq_getElem?_getD,bT hj,Option.getD_some,List.getElem_cons_drop,List.take_append_drop]
 have h2:R.set j r=R.take j++r::R.drop (j+1):=by rw[List.set_eq_take_append_cons_drop,if_pos hj]
 generalize R.getD j default=x at *;generalize R.take j=A at *;generalize R.drop (j+1)=B at *;rw[h2,h1];have h3:∀ y,eT (A++y::B)=eT A++(lu y++eT B):=λy=>by rw[show A++y::B=A++([y]++B) from rfl,As,As,De]
 rw[h3,h3];generalize eT A=a;generalize eT B=b;generalize lu x=u;generalize lu r=v;exact((pD.append_left u (Df a v b)).trans ((Df u v (a++b)).trans (pD.append_left v (Df u a b))))
def canon(F:List (Nat×Ob))(n:Nat):List Ob:=(aN n).map λj=>((F.find? λb=>b.1==j).map (·.2)).getD .gone
structure FK(F:List (Nat×Ob))(n:Nat):Prop where
 lt:∀ b∈F,b.1<n
 nd:(F.map (·.1)).Nodup
def Fc.fk{F:List (Nat×Ob)}{os:List Ob}(h:Fc F os):FK F os.length:=⟨λb hb=>(aM.1 (h.at_ b hb)).1,h.nd⟩
def wN(F:List (Nat×Ob))(n:Nat):(canon F n).length=n:=by simp[canon]
def Dg:∀ {F:List (Nat×Ob)},(F.map (·.1)).Nodup->∀ b∈F,F.find? (λx=>x.1==b.1)=some b
 |a::F,h,b,hb=>by
  rw[dJ,sX]at h;rcases b8.1 hb with rfl|hb
  ·simp
  ·have:a.1≠b.1:=λe=>h.1 (bZ.2 ⟨b,hb,e.symm⟩);rw[List.find?_cons_of_neg (by simpa using this)];exact Dg h.2 b hb
def FK.canon{F:List (Nat×Ob)}{n:Nat}(h:FK F n):Fc F (canon F n):=⟨λb hb=>by
 unfold T.canon;rw[cg,oN (h.lt b hb),fR,Dg h.nd b hb];rfl,h.nd⟩
def q9:List Nat->List Ob->List Ob
 |[],os=>os
 |j::l,os=>q9 l (os.set j .gone)
def NV:∀ (l:List Nat) (os:List Ob),(q9 l os).length=os.length
 |[],os=>rfl
 |j::l,os=>by rw[q9,NV l,bE]
def NW:∀ (l:List Nat) (os:List Ob) (j:Nat),j<os.length->(q9 l os)[j]?=if j∈l then some .gone else os[j]?
 |[],os,j,hj=>by simp[q9]
 |i::l,os,j,hj=>by
  rw[q9,NW l _ j (by rw[bE];exact hj)];by_cases h1:j∈l
  ·rw[if_pos h1,if_pos (by simp[h1])]
  ·rw[if_neg h1,bV];by_cases h2:i=j
   ·subst h2;rw[if_pos rfl,if_pos hj,if_pos Jd]
   ·rw[if_neg h2,if_neg (by simp only[b8,not_or];exact⟨λe=>h2 e.symm,h1⟩)]
def ZR{F:List (Nat×Ob)}{os:List Ob}(h:Fc F os):q9 ((aN os.length).filter λj=>!(F.map (·.1)).contains j) os=canon F os.length:=by
 apply mZ;intro j;by_cases hj:j<os.length
 ·rw[NW _ _ _ hj];by_cases hm:j∈F.map (·.1)
  ·obtain⟨b,hb,rfl⟩:=bZ.1 hm;rw[if_neg (by simp[mz,hm]),h.fk.canon.at_ b hb,h.at_ b hb]
  ·rw[if_pos (by rw[mz];exact⟨List.mem_range.2 hj,by simp at hm ⊢;exact hm⟩)];unfold canon;rw[cg,oN hj,fR];have:F.find? (λb=>b.1==j)=none:=by
    rw[List.find?_eq_none];intro b hb e;exact hm (bZ.2 ⟨b,hb,by simpa using e⟩)
   rw[this];rfl
 ·rw[eE (by rw[NV];omega),eE (by rw[wN];omega)]
def aB.q9{n0:Nat}:∀ (l:List Nat) (σ:St),aB n0 σ ⟨σ.env,T.q9 l σ.aa⟩
 |[],σ=>by intro os γ0 γ _ hs hf;exact⟨γ,rfl,rfl,hs,hf⟩
 |j::l,σ=>by
  refine aB.trans (σ1:=⟨σ.env,σ.aa.set j .gone⟩) ?_ (aB.q9 l ⟨σ.env,σ.aa.set j .gone⟩);intro os γ0 γ _ hs hf;exact⟨γ,rfl,rfl,hs.kill j,hf.trans (Fr.kill _ _ j)⟩
def aB.canon{n0:Nat}{σ:St}{F:List (Nat×Ob)}(h:Fc F σ.aa):aB n0 σ ⟨σ.env,T.canon F σ.aa.length⟩:=by
 rw[<- ZR h];exact aB.q9 _ σ
section
variable {F G:List (Nat×Ob)} {n:Nat}
def FK.mono(h:FK F n){k:Nat}(hk:n<=k):FK F k:=⟨λb hb=>Nat.lt_of_lt_of_le (h.lt b hb) hk,h.nd⟩
def FK.perm(h:FK F n)(hp:F.Perm G):FK G n:=⟨λb hb=>h.lt b (hp.mem_iff.2 hb),((hp.map (·.1)).nodup_iff).1 h.nd⟩
def FK.add(h:FK F n){i:Nat}{x:Ob}(h1:n<=i){k:Nat}(h2:i<k):FK ((i,x)::F) k:=⟨λb hb=>by
 rcases b8.1 hb with rfl|hb
 ·exact h2
 ·have:=h.lt b hb;omega,by
 rw[dJ,sX];exact⟨λhh=>by obtain⟨b,hb,e⟩:=bZ.1 hh;have:=h.lt b hb;omega,h.nd⟩⟩
def FK.keys(h:FK F n)(hk:G.map (·.1)=F.map (·.1)):FK G n:=⟨λb hb=>by
 have:b.1∈F.map (·.1):=by rw[<- hk];exact bZ.2 ⟨b,hb,rfl⟩
 obtain⟨c,hc,e⟩:=bZ.1 this;rw[<- e];exact h.lt c hc,by rw[hk];exact h.nd⟩
def FK.drop{b:Nat×Ob}(h:FK (b::F) n):FK F n:=⟨λc hc=>h.lt c (by simp[hc]),by have:=h.nd;rw[dJ,sX]at this;exact this.2⟩
end
structure GS where
 n:Nat
 p:Nat
 R:List Rw
 k:Nat
end T

