import Derived.Test.YtdipcmigdbnheaaGreatX14
import Derived.Test.YtdipcmigdbnheaaGreatX17
set_option linter.all false
set_option maxHeartbeats 0
set_option maxRecDepth 20000
open Nat renaming eq_zero_or_pos→m9,reduceEqDiff→BI,reduceBEq→pE,zero_le→aI,le_refl→aN,sub_self→hJ,zero_mul→Dv
open List renaming eq_nil_of_length_eq_zero→rz,nil_append→dY,length_nil→pD,append_nil→g9,all_nil→GH,filter_cons→uC,drop_eq_nil_of_le→cR,filter_nil→Dz,map_cons→dg,cons_append→dS,map_nil→kJ,getElem?_append_left→cT,length_set→bF,getElem?_set_ne→bR,range→aW,take_of_length_le→dJ,append_assoc→cM,length_append→bQ,getElem?_eq_some_iff→a8,getElem?_append_right→fV,replicate→bH,length→oW,ext_getElem?→kq,getElem?_map→cj,getElem?_set→cA,getElem?_eq_getElem→bK,getElem?_eq_none→dW,mem_map→cz,mem_cons→cB,nodup_cons→uA,Perm→tB,getElem?_range→lg,mem_filter→qh
open Option renaming isNone_none→Dy,isNone_some→GM,some→dI,map_some→fl
open Int renaming mul_le_mul→qj,le_refl→eC
open And renaming intro→eR
open Go Go.Am Go.Proofs
namespace T
def U7(xs:List Int)(h:0<xs.length)(hl:xs.length<549755813888):ao Tryz.prog 90 [.tree 1 (ints xs)] [] (.ref 0 1 0 xs.length) [.arr 1 (ints xs)]:=by
 refine ao.aD 8 0 [.tmp 2] Tryz.func90 ?_;((repeat'(first|refine Vb @BT ?_|(refine Xi ?_ ?_<;>try intro ht)|exact Xx|fail)))
 exact Xw false [1] X0
def U8(xs:List Int)(hl:xs.length<549755813888):ao Tryz.prog 90 [.tree 1 (ints xs)] [] (.tree 1 (ints xs)) []:=by
 rcases m9 xs.length with h|h
 ·obtain rfl:=rz h;refine ao.empty (pre:=[]) (post:=[]) (λa cap=>?_);rw[dY];cases a with
  |none =>
   refine ao.aD 8 0 [.tmp 2] Tryz.func90 ?_;((repeat'(first|refine Vb @Dy.{0} ?_|(refine Xi ?_ ?_<;>try intro ht)|exact Xx|fail)))
   all_goals first|(refine cZ [] true Px trivial Px Px ?_;exact aJ.nil)|(exfalso;simp at *;done)
  |some ad =>
   refine ao.aD 8 0 [.tmp 2] Tryz.func90 ?_;refine xG Px ?_;intro K hK;simp(disch:=omega)only[Ac,↓Pc,simprocAttr];refine hK _ ?_;clear hK K;refine Wk ?_;intro Q hn he;((refine xG Px ?_);intro K hK;simp(disch:=omega)only[Ac,↓Pc,simprocAttr,GM];skip);(refine hK _ ?_;clear hK K)
   refine D0 (t:=false) (by simp only[oE,Lc,↓reduceIte,BI,pE]) (λht=>by simp at ht) (λht=>?_);refine DZ ?_;refine hn _ ?_;(try clear hn;try clear he;try clear Q;clear ht)
   refine bY (aF.Ep 0 1 (by(simp only[oE,sc,Rc,↓reduceIte,BI,pE,ev,eZ,St.put];exact rfl))) ?_;refine Vb (X3 @pD.{0} @g9.{0} @GH.{0}) ?_;refine cZ [] true Px trivial Px Px ?_;exact aJ.cC (rows:=[]) rfl GF rfl (iK Px) GF
 ·refine ao.aD 8 0 [.tmp 2] Tryz.func90 ?_;((repeat'(first|refine Vb @BT ?_|(refine Xi ?_ ?_<;>try intro ht)|exact Xx|fail)))
  exact Xw true [] X0
def U9(xs:List Ld)(hl:xs.length<549755813888):ao Tryz.prog 91 [.tree 3 (rowsOf iM xs)] [] (.tree 3 (rowsOf iM xs)) []:=by
 rcases m9 xs.length with h|h
 ·obtain rfl:=rz h;refine ao.empty (pre:=[]) (post:=[]) (λa cap=>?_);rw[dY];cases a with
  |none =>
   refine ao.aD 8 0 [.tmp 2] Tryz.func91 ?_;((repeat'(first|refine Vb @Dy.{0} ?_|(refine Xi ?_ ?_<;>try intro ht)|exact Xx|fail)))
   all_goals first|(refine cZ [] true Px trivial Px Px ?_;exact aJ.nil)|(exfalso;simp at *;done)
  |some ad =>
   refine ao.aD 8 0 [.tmp 2] Tryz.func91 ?_;refine xG Px ?_;intro K hK;simp(disch:=omega)only[Ac,↓Pc,simprocAttr];refine hK _ ?_;clear hK K;refine Wk ?_;intro Q hn he;((refine xG Px ?_);intro K hK;simp(disch:=omega)only[Ac,↓Pc,simprocAttr,GM];skip);(refine hK _ ?_;clear hK K)
   refine D0 (t:=false) (by simp only[oE,Lc,↓reduceIte,BI,pE]) (λht=>by simp at ht) (λht=>?_);refine DZ ?_;refine hn _ ?_;(try clear hn;try clear he;try clear Q;clear ht)
   refine bY (aF.Ep 0 3 (by(simp only[oE,sc,Rc,↓reduceIte,BI,pE,ev,eZ,St.put];exact rfl))) ?_;refine Vb (X3 @pD.{0} @g9.{0} @GH.{0}) ?_;refine cZ [] true Px trivial Px Px ?_;exact aJ.cC (rows:=[]) rfl GF rfl (iK Px) GF
 ·refine ao.aD 8 0 [.tmp 2] Tryz.func91 ?_;((repeat'(first|refine Vb @Em ?_|(refine Xi ?_ ?_<;>try intro ht)|exact Xx|fail)))
  exact Xw true [] X0
def ag9(az:List Bool)(c:(Int×Int))(h:0<=c.1/\c.1<az.length):ao Tryz.prog 113 [.agg (aL c),.ptr 0 0 0] [.var [.tree 1 (aX az)]] (.lit (.bool (eH az c.1))) [.var [.tree 1 (aX az)]]:=by
 refine ao.aD 9 1 [.tmp 3] Tryz.func113 ?_;refine Vb X0 ?_;exact Xw false [0] X0
def aha(c:(Int×Int)):ao Tryz.prog 114 [.agg (aL c)] [] (.agg (aL c)) []:=by
 refine ao.aD 4 0 [.cell 2 93] Tryz.func114 ?_;refine Vb X0 ?_;all_goals simp(disch:=omega)only[Ac,↓Pc,simprocAttr]
 exact aE rfl rfl
def ahb(az:List Bool)(l:List (Int×Int))(hl:l.length<1000000)(hr:∀ c∈l,0<=c.1/\c.1<az.length):
  ao Tryz.prog 112 [.tree 2 (rowsOf aL l),.fn 113 [.ptr 0 0 0],.fn 114 []] [.var [.tree 1 (aX az)]] (.tree 2 (rowsOf aL (l.filter λc=>eH az c.1))) [.var [.tree 1 (aX az)]]:=by
 generalize ak:(l.filter λc=>eH az c.1)=res;refine ao.aD 27 1 [.tmp 6] Tryz.func112 ?_;refine Vb X0 ?_;refine aM (λz:Nat×List (Int×Int)=>(⟨aw [(1,.fn 113 [.ptr 0 0 0]),(2,.fn 114 []),(7,.ref 1 2 0 z.2.length),(10,.tree 2 (rowsOf aL l)),(11,aaC l.length),(12,aaC z.1)],[.var [.tree 1 (aX az)],.arr 2 (rowsOf aL z.2)]⟩:St))
  (λz=>z.1<=l.length/\z.2.length<=z.1/\z.2++((l.drop z.1).filter λc=>eH az c.1)=res) (λz=>l.length-z.1) (0,[]) ⟨aI _,aN _,ak⟩ (by
   refine aF.trans (aF.nil 7 2 (by simp only[Kc,simprocAttr]) Px) ?_;exact Xv X0) ?_
 rintro⟨k,out⟩⟨hk,ho,cE⟩Ql an ar;dsimp only at hk ho cE ⊢;by_cases aK:k<l.length
 ·have hd:=cP l k default aK;have bO:=ay (d:=default) aK;have hc:=hr _ bO
  skip
  generalize aR:l.getD k default=c at *;rw[hd,uC]at cE;have hp:=ag9 az c hc;generalize pW:eH az c.1=kb at *;have vo:=aha c;((repeat'(first|refine Va @aR ?_|(refine Xi ?_ ?_<;>try intro ht)|exact Xx|fail))<;>try with_reducible intro K hK)
  (refine Xn [0] (hp) ?_;simp(disch:=omega)only[Ac,↓Pc,simprocAttr,aR])
  ((try revert hK K);(repeat'(first|refine Vc @aR vo ?_|(refine Xi ?_ ?_<;>try intro ht)|fail)))
  ·rw[if_pos (by assumption)]at cE;refine an _ (k+1,out++[c]) ⟨PA,aar,by rw[<- cE];simp⟩ PA ?_;have e:=lO (enc:=aL) out c;simp only[aL]at e;rw[e];exact Xs false [0,4] X0
  ·rw[if_neg (by simp[*])]at cE;exact an _ (k+1,out) ⟨PA,PA,cE⟩ PA (Xs false [0,1] X0)
 ·((repeat'(first|refine Va X0 ?_|(refine Xi ?_ ?_<;>try intro ht)|exact Xx|fail)))
  rw[cR GC,Dz,g9]at cE;refine ar _ _ rfl ?_;clear an ar Ql;repeat(refine Xu ?_)
  refine Vb X0 ?_;rw[<- cE];exact Xw true [0] X0
def ahc(az:List Bool)(c:Pr)(h:0<=c.bz/\c.bz<az.length):ao Tryz.prog 116 [.agg (aP c),.ptr 0 0 0] [.var [.tree 1 (aX az)]] (.lit (.bool (eH az c.bz))) [.var [.tree 1 (aX az)]]:=by
 refine ao.aD 9 1 [.tmp 3] Tryz.func116 ?_;refine Vb X0 ?_;exact Xw false [0] X0
def ahd(c:Pr)(hb:c.aB.length<549755813888):ao Tryz.prog 117 [.agg (aP c)] [] (.agg (aP c)) []:=by
 refine ao.aD 8 0 [.cell 2 84] Tryz.func117 ?_;refine Vd X0 (U8 c.aB hb) ?_;all_goals simp(disch:=omega)only[Ac,↓Pc,simprocAttr]
 exact aE rfl rfl
def ahe(az:List Bool)(l:List Pr)(hl:l.length<1000000)(hr:∀ c∈l,0<=c.bz/\c.bz<az.length)(hb:∀ c∈l,c.aB.length<549755813888):
  ao Tryz.prog 115 [.tree 4 (rowsOf aP l),.fn 116 [.ptr 0 0 0],.fn 117 []] [.var [.tree 1 (aX az)]] (.tree 4 (rowsOf aP (l.filter λc=>eH az c.bz))) [.var [.tree 1 (aX az)]]:=by
 generalize ak:(l.filter λc=>eH az c.bz)=res;refine ao.aD 27 1 [.tmp 6] Tryz.func115 ?_;refine Vb X0 ?_;refine aM (λz:Nat×List Pr=>(⟨aw [(1,.fn 116 [.ptr 0 0 0]),(2,.fn 117 []),(7,.ref 1 4 0 z.2.length),(10,.tree 4 (rowsOf aP l)),(11,aaC l.length),(12,aaC z.1)],[.var [.tree 1 (aX az)],.arr 4 (rowsOf aP z.2)]⟩:St))
  (λz=>z.1<=l.length/\z.2.length<=z.1/\z.2++((l.drop z.1).filter λc=>eH az c.bz)=res) (λz=>l.length-z.1) (0,[]) ⟨aI _,aN _,ak⟩ (by
   refine aF.trans (aF.nil 7 4 (by simp only[Kc,simprocAttr]) Px) ?_;exact Xv X0) ?_
 rintro⟨k,out⟩⟨hk,ho,cE⟩Ql an ar;dsimp only at hk ho cE ⊢;by_cases aK:k<l.length
 ·have hd:=cP l k default aK;have bO:=ay (d:=default) aK;have hc:=hr _ bO;have oJ:=hb _ bO;generalize aR:l.getD k default=c at *;rw[hd,uC]at cE;have hp:=ahc az c hc;generalize pW:eH az c.bz=kb at *;have vo:=ahd c oJ;((repeat'(first|refine Va @aR ?_|(refine Xi ?_ ?_<;>try intro ht)|exact Xx|fail))<;>try with_reducible intro K hK)
  (refine Xn [0] (hp) ?_;simp(disch:=omega)only[Ac,↓Pc,simprocAttr,aR])
  ((try revert hK K);(repeat'(first|refine Vc @aR vo ?_|(refine Xi ?_ ?_<;>try intro ht)|fail)))
  ·rw[if_pos (by assumption)]at cE;refine an _ (k+1,out++[c]) ⟨PA,aar,by rw[<- cE];simp⟩ PA ?_;have e:=lO (enc:=aP) out c;simp only[aP]at e;rw[e];exact Xs false [0,4] X0
  ·rw[if_neg (by simp[*])]at cE;exact an _ (k+1,out) ⟨PA,PA,cE⟩ PA (Xs false [0,1] X0)
 ·((repeat'(first|refine Va X0 ?_|(refine Xi ?_ ?_<;>try intro ht)|exact Xx|fail)))
  rw[cR GC,Dz,g9]at cE;refine ar _ _ rfl ?_;clear an ar Ql;repeat(refine Xu ?_)
  refine Vb X0 ?_;rw[<- cE];exact Xw true [0] X0
def ahf(az:List Bool)(c:Ct)(h:0<=c.bz/\c.bz<az.length):ao Tryz.prog 119 [.agg (aV c),.ptr 0 0 0] [.var [.tree 1 (aX az)]] (.lit (.bool (eH az c.bz))) [.var [.tree 1 (aX az)]]:=by
 refine ao.aD 9 1 [.tmp 3] Tryz.func119 ?_;refine Vb X0 ?_;exact Xw false [0] X0
def ahg(c:Ct)(hb:c.aH.length<549755813888):ao Tryz.prog 120 [.agg (aV c)] [] (.agg (aV c)) []:=by
 refine ao.aD 8 0 [.cell 2 98] Tryz.func120 ?_;refine Vd X0 (U9 c.aH hb) ?_;all_goals simp(disch:=omega)only[Ac,↓Pc,simprocAttr]
 exact aE rfl rfl
def ahh(az:List Bool)(l:List Ct)(hl:l.length<1000000)(hr:∀ c∈l,0<=c.bz/\c.bz<az.length)(hb:∀ c∈l,c.aH.length<549755813888):
  ao Tryz.prog 118 [.tree 4 (rowsOf aV l),.fn 119 [.ptr 0 0 0],.fn 120 []] [.var [.tree 1 (aX az)]] (.tree 4 (rowsOf aV (l.filter λc=>eH az c.bz))) [.var [.tree 1 (aX az)]]:=by
 generalize ak:(l.filter λc=>eH az c.bz)=res;refine ao.aD 27 1 [.tmp 6] Tryz.func118 ?_;refine Vb X0 ?_;refine aM (λz:Nat×List Ct=>(⟨aw [(1,.fn 119 [.ptr 0 0 0]),(2,.fn 120 []),(7,.ref 1 4 0 z.2.length),(10,.tree 4 (rowsOf aV l)),(11,aaC l.length),(12,aaC z.1)],[.var [.tree 1 (aX az)],.arr 4 (rowsOf aV z.2)]⟩:St))
  (λz=>z.1<=l.length/\z.2.length<=z.1/\z.2++((l.drop z.1).filter λc=>eH az c.bz)=res) (λz=>l.length-z.1) (0,[]) ⟨aI _,aN _,ak⟩ (by
   refine aF.trans (aF.nil 7 4 (by simp only[Kc,simprocAttr]) Px) ?_;exact Xv X0) ?_
 rintro⟨k,out⟩⟨hk,ho,cE⟩Ql an ar;dsimp only at hk ho cE ⊢;by_cases aK:k<l.length
 ·have hd:=cP l k default aK;have bO:=ay (d:=default) aK;have hc:=hr _ bO;have oJ:=hb _ bO;generalize aR:l.getD k default=c at *;rw[hd,uC]at cE;have hp:=ahf az c hc;generalize pW:eH az c.bz=kb at *;have vo:=ahg c oJ;((repeat'(first|refine Va @aR ?_|(refine Xi ?_ ?_<;>try intro ht)|exact Xx|fail))<;>try with_reducible intro K hK)
  (refine Xn [0] (hp) ?_;simp(disch:=omega)only[Ac,↓Pc,simprocAttr,aR])
  ((try revert hK K);(repeat'(first|refine Vc @aR vo ?_|(refine Xi ?_ ?_<;>try intro ht)|fail)))
  ·rw[if_pos (by assumption)]at cE;refine an _ (k+1,out++[c]) ⟨PA,aar,by rw[<- cE];simp⟩ PA ?_;have e:=lO (enc:=aV) out c;simp only[aV]at e;rw[e];exact Xs false [0,4] X0
  ·rw[if_neg (by simp[*])]at cE;exact an _ (k+1,out) ⟨PA,PA,cE⟩ PA (Xs false [0,1] X0)
 ·((repeat'(first|refine Va X0 ?_|(refine Xi ?_ ?_<;>try intro ht)|exact Xx|fail)))
  rw[cR GC,Dz,g9]at cE;refine ar _ _ rfl ?_;clear an ar Ql;repeat(refine Xu ?_)
  refine Vb X0 ?_;rw[<- cE];exact Xw true [0] X0
def ahi:ao Tryz.prog 89 [.tree 2 []] [] (.tree 2 []) []:=by
 refine ao.empty (pre:=[]) (post:=[]) (λa cap=>?_);rw[dY];cases a with
 |none =>
  refine ao.aD 8 0 [.tmp 2] Tryz.func89 ?_;((repeat'(first|refine Vb @Dy.{0} ?_|(refine Xi ?_ ?_<;>try intro ht)|exact Xx|fail)))
  all_goals first|(refine cZ [] true Px trivial Px Px ?_;exact aJ.nil)|(exfalso;simp at *;done)
 |some ad =>
  refine ao.aD 8 0 [.tmp 2] Tryz.func89 ?_;refine xG Px ?_;intro K hK;simp(disch:=omega)only[Ac,↓Pc,simprocAttr];refine hK _ ?_;clear hK K;refine Wk ?_;intro Q hn he;((refine xG Px ?_);intro K hK;simp(disch:=omega)only[Ac,↓Pc,simprocAttr,GM];skip);(refine hK _ ?_;clear hK K)
  refine D0 (t:=false) (by simp only[oE,Lc,↓reduceIte,BI,pE]) (λht=>by simp at ht) (λht=>?_);refine DZ ?_;refine hn _ ?_;(try clear hn;try clear he;try clear Q;clear ht)
  refine bY (aF.Ep 0 2 (by(simp only[oE,sc,Rc,↓reduceIte,BI,pE,ev,eZ,St.put];exact rfl))) ?_;refine Vb (X3 @pD.{0} @g9.{0} @GH.{0}) ?_;refine cZ [] true Px trivial Px Px ?_;exact aJ.cC (rows:=[]) rfl GF rfl (iK Px) GF
def ahj(xs:List (Int×Int))(h:0<xs.length)(hl:xs.length<549755813888):ao Tryz.prog 89 [.tree 2 (rowsOf aL xs)] [] (.ref 0 2 0 xs.length) [.arr 2 (rowsOf aL xs)]:=by
 refine ao.aD 8 0 [.tmp 2] Tryz.func89 ?_;((repeat'(first|refine Vb @Em ?_|(refine Xi ?_ ?_<;>try intro ht)|exact Xx|fail)))
 exact Xw false [1] X0
def Cu{σ:St}{kp:Nat->Prop}{ρ:Nat->Nat}(e:Int):aJ σ kp ρ true (.bJ [.agg (aq Ic),aaC e]) (.bJ [.agg [.lit (.slice none 0 0),.lit (.slice none 0 0),.lit (.slice none 0 0),aaC 0],aaC e]) :=
 .lq (.agg _ _ rfl (fF.spec (R:=aJ σ kp ρ true) (cs:=aq Ic) (ds:=[.lit (.slice none 0 0),.lit (.slice none 0 0),.lit (.slice none 0 0),aaC 0]) ⟨.nil,.nil,.nil,.pure rfl,trivial⟩).2) (.pure rfl)
def U'{m:aj}(hm:VM m){l:List bU}(hl:l∈m.cls){o:bU}(ho:o∈l):o.ch.length<=56/\∀ c∈o.ch,0<=c.1/\c.1<m.rules:=by
 have h:=hm.mA l hl o ho;refine⟨by have:=EP hm.jq.1 h;have:=hm.jq;omega,λc hc=>?_⟩;have:=(xZ h c hc).1;rwa [jI,decide_eq_true_eq]at this
def Mp{m:aj}(h:VM m){p:Pr}(hp:p∈m.ae):p.aB.length<=576:=by
 obtain⟨_,h1,h2,h3,h4⟩:=lT (iA h.pr p hp);have a:=h.opt _ (ay (l:=m.cls) (i:=p.fst.toNat) (d:=default) GC);have b:=h.opt _ (ay (l:=m.cls) (i:=p.snd.toNat) (d:=default) GC);have:((m.cls.getD p.fst.toNat default).length:Int)*(m.cls.getD p.snd.toNat default).length<=24*24:=qj GC GC GC GC;omega
def ahk(az:List Bool)(o:bU):(lA az o).wk=o.wk/\(lA az o).day=o.day/\(lA az o).st=o.st/\(lA az o).len=o.len/\(lA az o).room=o.room/\(lA az o).ch=o.ch.filter λc=>eH az c.1:=⟨rfl,rfl,rfl,rfl,rfl,rfl⟩
def sg(m:aj)(az:List Bool)(cls:List (List bU)):List Ob :=
 [.var (aq m),.var [.tree 1 (aX az)],.var [.lit (.slice none 0 0),.lit (.slice none 0 0),.lit (.slice none 0 0),aaC 0],
  .var [.ref 4 1 0 cls.length,.lit (.slice none 0 0),.lit (.slice none 0 0),aaC m.rules],.arr 1 (rowsOf bu cls)]
def agL(m:aj)(az:List Bool)(hb:MB m)(hk:az.length<9223372036854775808):ao Tryz.prog 69 [.agg (aq m),.tree 1 (aX az)] [] (.bJ [.agg (aq (tW m az).1),aaC (tW m az).2]) []:=by
 generalize ak:tW m az=res;unfold tW at ak;have hval:=tV m hb;by_cases hv:df m=0;rotate_left
 ·rw[if_pos hv]at ak;subst ak;refine ao.aD 72 0 [.cell 4 29,.tmp 5] Tryz.func69 ?_;((try revert hK K);(repeat'(first|refine Vd X0 hval ?_|(refine V2 X0 ?_ ?_<;>try with_reducible intro hb)|(refine Xi ?_ ?_<;>try intro ht)|refine VD ?_ ?_|exact Xx|fail))<;>try with_reducible intro K hK)
  all_goals try(exfalso;omega)
  simp(disch:=omega)only[Ac,↓Pc,simprocAttr];exact cZ [] true Px trivial Px Px (Cu _)
 rw[if_neg GC]at ak;rw[hv]at hval;by_cases cI:(az.length:Int)=m.rules;rotate_left
 ·rw[if_pos cI]at ak;subst ak;refine ao.aD 72 0 [.cell 4 29,.tmp 5] Tryz.func69 ?_;((try revert hK K);(repeat'(first|refine Vd X0 hval ?_|(refine V2 X0 ?_ ?_<;>try with_reducible intro hb)|(refine Xi ?_ ?_<;>try intro ht)|refine VD ?_ ?_|exact Xx|fail))<;>try with_reducible intro K hK)
  all_goals try(exfalso;omega)
  simp(disch:=omega)only[Ac,↓Pc,simprocAttr];exact cZ [] true Px trivial Px Px (Cu _)
 rw[if_neg GC]at ak;have hm:=eK.1 hv;have zx:=hm.cls;have ky:=ahe az m.ae (by have:=hm.ae;omega) (λc hc=>by have:=lT (iA hm.pr c hc);omega) (λc hc=>by have:=Mp hm hc;omega);have oM:=ahh az m.av (by have:=hm.av;omega) (λc hc=>by have:=lS (hm.ct c hc);omega) (λc hc=>by have:=AQ hm (lS (hm.ct c hc)).2.2.2;omega);unfold iZ at ak;generalize fi:(m.cls.map λl=>l.map (lA az))=Mq at *;generalize (m.ae.filter λp=>eH az p.bz)=Ve at *;generalize (m.av.filter λc=>eH az c.bz)=Vf at *;subst ak;refine ao.aD 72 0 [.cell 4 29,.tmp 5] Tryz.func69 ?_;((try revert hK K);(repeat'(first|refine Vd X0 hval ?_|(refine V2 X0 ?_ ?_<;>try with_reducible intro hb)|(refine Xi ?_ ?_<;>try intro ht)|refine VD ?_ ?_|exact Xx|fail))<;>try with_reducible intro K hK)
 all_goals try(exfalso;omega)
 refine aM (λz:Nat×List (List bU)=>(⟨aw [(2,.ptr 0 0 0),(3,.ptr 1 0 0),(4,.ptr 2 0 0),(7,.ptr 3 0 0),(30,.tree 1 (rowsOf bu m.cls)),(31,aaC m.cls.length),(32,aaC z.1)],sg m az z.2⟩:St))
  (λz=>z.1<=m.cls.length/\z.2.length=z.1/\z.2++(m.cls.drop z.1).map (λl=>l.map (lA az))=Mq) (λz=>m.cls.length-z.1) (0,[]) ⟨aI _,rfl,fi⟩ (by
   refine aF.trans (aF.ni 3 0 1 rfl rfl Px) ?_;unfold sg;exact Xv X0) ?_
 rintro⟨i,cls⟩⟨hi,cm,cE⟩Ql an ar;dsimp only at hi cm cE ⊢;unfold sg;by_cases hi':i<m.cls.length
 ·have hd:=cP m.cls i default hi';have qP:=ay (d:=(default:List bU)) hi';have s6:=hm.opt _ qP;generalize e7:m.cls.getD i default=l at *;rw[hd,dg]at cE;generalize xY:l.map (lA az)=Mr at *;((try revert hK K);(repeat'(first|refine Va @e7 ?_|(refine V2 @e7 ?_ ?_<;>try with_reducible intro hb)|(refine Xi ?_ ?_<;>try intro ht)|refine VD ?_ ?_|exact Xx|fail))<;>try with_reducible intro K hK)
  refine aM (λz:Nat×List bU=>(⟨aw [(2,.ptr 0 0 0),(3,.ptr 1 0 0),(4,.ptr 2 0 0),(7,.ptr 3 0 0),(30,.tree 1 (rowsOf bu m.cls)),(31,aaC m.cls.length),(32,aaC i),(10,.ref 5 6 0 z.2.length),(36,.tree 6 (rowsOf cQ l)),(37,aaC l.length),(38,aaC z.1)],sg m az cls++[.arr 6 (rowsOf cQ z.2)]⟩:St))
   (λz=>z.1<=l.length/\z.2.length=z.1/\z.2++(l.drop z.1).map (lA az)=Mr) (λz=>l.length-z.1) (0,[]) ⟨aI _,rfl,xY⟩ (by
    refine aF.trans (aF.nil 10 6 (by simp only[Kc,simprocAttr]) Px) ?_;unfold sg;exact Xv X0) ?_
  rintro⟨k,ol⟩⟨iO,fZ,vp⟩cJ ba bd;dsimp only at iO fZ vp ⊢;unfold sg;simp only[dS,dY];by_cases aK:k<l.length
  ·have wC:=cP l k default aK;have fj:=ay (d:=(default:bU)) aK;obtain⟨lN,u4⟩:=U' hm qP fj;generalize kY:l.getD k default=o at *;have bm:=ahb az o.ch GC (λc hc=>by have:=u4 c hc;omega);rw[wC,dg]at vp;((try revert hK K);(repeat'(first|refine Va @kY ?_|(refine V2 @kY ?_ ?_<;>try with_reducible intro hb)|(refine Xi ?_ ?_<;>try intro ht)|refine VD ?_ ?_|exact Xx|fail))<;>try with_reducible intro K hK)
   (refine Xn [1] (bm) ?_;simp(disch:=omega)only[Ac,↓Pc,simprocAttr,kY])
   ((try revert hK K);(repeat'(first|refine Va X0 ?_|(refine V2 X0 ?_ ?_<;>try with_reducible intro hb)|(refine Xi ?_ ?_<;>try intro ht)|refine VD ?_ ?_|exact Xx|fail))<;>try with_reducible intro K hK)
   refine ba _ (k+1,ol++[lA az o]) ⟨PA,aar,by rw[<- vp];simp⟩ PA ?_;have e:=lO (enc:=cQ) ol (lA az o);simp only[cQ,ahk]at e;rw[e];unfold sg;simp only[dS,dY];exact Xs false [0,1,2,3,4,8] X0
  ·((try revert hK K);(repeat'(first|refine Va X0 ?_|(refine V2 X0 ?_ ?_<;>try with_reducible intro hb)|(refine Xi ?_ ?_<;>try intro ht)|refine VD ?_ ?_|exact Xx|fail))<;>try with_reducible intro K hK)
   rw[cR GC,kJ,g9]at vp;subst vp;refine bd _ _ rfl ?_;clear ba bd cJ;repeat(first|refine Xu ?_)
   refine bY (σ':=⟨aw [(2,.ptr 0 0 0),(3,.ptr 1 0 0),(4,.ptr 2 0 0),(7,.ptr 3 0 0),(30,.tree 1 (rowsOf bu m.cls)),(31,aaC m.cls.length),(32,aaC i),(10,.tree 6 (rowsOf cQ ol))],sg m az cls⟩) (by unfold sg;exact Xs true [0,1,2,3,4] X0) ?_;unfold sg;((try revert hK K);(repeat'(first|refine Va X0 ?_|(refine V2 X0 ?_ ?_<;>try with_reducible intro hb)|(refine Xi ?_ ?_<;>try intro ht)|refine VD ?_ ?_|exact Xx|fail))<;>try with_reducible intro K hK)
   refine an _ (i+1,cls++[ol]) ⟨PA,aar,by rw[<- cE];simp⟩ PA ?_;have e:=lO (enc:=bu) cls ol;simp only[bu]at e;rw[e];unfold sg;exact Xs false [0,1,2,3,6] X0
 ·((try revert hK K);(repeat'(first|refine Va X0 ?_|(refine V2 X0 ?_ ?_<;>try with_reducible intro hb)|(refine Xi ?_ ?_<;>try intro ht)|refine VD ?_ ?_|exact Xx|fail))<;>try with_reducible intro K hK)
  rw[cR GC,kJ,g9]at cE;refine ar _ _ rfl ?_;clear an ar Ql;repeat(first|refine Xu ?_)
  refine bY (σ':=⟨aw [(2,.ptr 0 0 0),(3,.ptr 1 0 0),(4,.ptr 2 0 0),(7,.ptr 3 0 0)],sg m az cls⟩) (by unfold sg;exact Xv X0) ?_;unfold sg;refine bY (aF.wg 4 3 0 1 rfl rfl (by rw[b8];rfl) (gr _) (kW _)) ?_;((try revert hK K);(repeat'(first|refine Vb X0 ?_|(refine V2 X0 ?_ ?_<;>try with_reducible intro hb)|(refine Xi ?_ ?_<;>try intro ht)|refine VD ?_ ?_|exact Xx|fail))<;>try with_reducible intro K hK)
  (refine Xn [1] (ky) ?_;simp(disch:=omega)only[Ac,↓Pc,simprocAttr])
  ((try revert hK K);(repeat'(first|refine Vb X0 ?_|(refine V2 X0 ?_ ?_<;>try with_reducible intro hb)|(refine Xi ?_ ?_<;>try intro ht)|refine VD ?_ ?_|exact Xx|fail))<;>try with_reducible intro K hK)
  (refine Xn [1] (oM) ?_;simp(disch:=omega)only[Ac,↓Pc,simprocAttr])
  ((try revert hK K);(repeat'(first|refine Vb X0 ?_|(refine V2 X0 ?_ ?_<;>try with_reducible intro hb)|(refine Xi ?_ ?_<;>try intro ht)|refine VD ?_ ?_|exact Xx|fail))<;>try with_reducible intro K hK)
  simp(disch:=omega)only[Ac,↓Pc,simprocAttr];rw[<- cE];exact aE rfl rfl
def zM:List AV:=[.lit (.slice none 0 0),.lit (.slice none 0 0),.lit (.slice none 0 0),aaC 0]
def TwO(m:aj)(a b d:Nat)(os:List Ob):Prop :=
 ∃ h1 C l2 h2 C2,Cv m.cls os a 1 h1 m.cls.length C/\ES m.ae os b l2 h2 m.ae.length C2/\a<l2/\os[d]?=some (.arr 4 (rowsOf aV m.av))/\b<d
def Vg{w:Nat}{os:List Ob}{l r b:Nat}{X:List (List AV)}(h:os[b]?=some (.arr w X))(hl:l<=b)(hr:b<r)(hw:∀ row∈X,row.length=w):iP w os l r (.ref b w 0 X.length) X :=
 .inr ⟨b,[],rfl,hl,hr,by rw[g9];exact h,by rw[g9];exact hw⟩
def Vh{m:aj}(hm:VM m){c:List bU}(hc:c∈m.cls){o:bU}(ho:o∈c):o.ch.length<=100:=by
 have h:=hm.mA c hc o ho;have hr:=hm.jq;cases ek:o.ch with
 |nil=>simp
 |cons x r =>
  rw[ek,eo]at h;simp only[Bool.and_eq_true,decide_eq_true_eq,jI]at h;rcases Ie h.2 with rfl|h2
  ·simp
  ·simp only[List.length_cons];omega
def gy.Ms{m b:Nat}{ot:List Ob}(hb:m<=b)(hl:m<=ot.length)(y:Ob)(L:List Ob):gy 4 m ot ((ot.set b .gone).set 3 y++L):=λi h1 h2=>by
 rw[cT (by rw[bF,bF];omega),bR GC,bR GC]
def AS{α:Type}(f:Nat->α)(n:Nat):((aW n).map f).length=n:=GF
def Mt{α:Type}(f:Nat->α)(n:Nat):((aW n).map f).take n=(aW n).map f:=dJ GF
def ahm(m:aj)(hm:VM m):fh Tryz.prog 46 [.agg (aq m)] [.var zM] (λr os=>os[0]?=some (.var zM)/\∃ a b d,r=.agg [.ref a 1 0 m.cls.length,.ref b 4 0 m.ae.length,.ref d 4 0 m.av.length,aaC m.rules]/\TwO m a b d os):=by
 have nu:=hm.cls;have s5:=hm.ae;have ht4:=hm.av;unfold zM;refine fh.aD 83 1 [.cell 2 29] Tryz.func46 ?_;repeat'(first|((fail_if_success (first|refine eT 2 ?_|refine eU 2 ?_));refine Xr @aq.eq_1 ?_;intro K hK)|(refine hK _ ?_;clear hK K)|refine Xy ?_|fail)
 refine bY (aF.mR 1 1 (cells:=aq m) aau (by simp only[Kc,simprocAttr]) (by simp[aq])) ?_;refine bY (aF.ni 3 0 1 aau rfl Px) ?_;refine bY (σ':=⟨aw [(1,.cq (aq m)),(2,.ptr 2 0 0),(3,.ptr 3 0 0)],[.var zM,.gone,.var zM,.var [.ref 4 1 0 0,.lit (.slice none 0 0),.lit (.slice none 0 0),aaC m.rules],.arr 1 []]⟩) (Xv X0) ?_;refine Va @aq.eq_1 ?_;have Vi:∀ o:bU,j3 o=[aaC o.wk,aaC o.day,aaC o.st,aaC o.len,aaC o.room]:=λ_=>rfl;refine aM (λz:Nat×List Ob=>(⟨aw [(1,.cq (aq m)),(2,.ptr 2 0 0),(3,.ptr 3 0 0),(17,.tree 1 (rowsOf bu m.cls)),(18,aaC m.cls.length),(19,aaC z.1)],z.2⟩:St))
  (λz=>z.1<=m.cls.length/\z.2[0]?=some (.var zM)/\z.2[2]?=some (.var zM)/\∃ a hi C,z.2[3]?=some (.var [.ref a 1 0 z.1,.lit (.slice none 0 0),.lit (.slice none 0 0),aaC m.rules])/\Cv m.cls z.2 a 4 hi z.1 C)
  (λz=>m.cls.length-z.1) (0,[.var zM,.gone,.var zM,.var [.ref 4 1 0 0,.lit (.slice none 0 0),.lit (.slice none 0 0),aaC m.rules],.arr 1 []])
  ⟨aI _,rfl,rfl,4,4,λ_=>.undef,rfl,cX.nil rfl 4 (aN _) _ _⟩ (Xv @aq.eq_1) ?_
 rintro⟨i,os⟩⟨hi,f0,f2,a,Cd,C,f3,hC⟩Ql an ar;dsimp only at hi f0 f2 f3 hC ⊢;by_cases hi':i<m.cls.length
 ·have fi:=ay (d:=default) hi';have s6:=hm.opt _ fi;have ET:=λo ho=>Vh hm fi (o:=o) ho;generalize aR:m.cls.getD i default=l at *;((repeat'(first|refine Va (X2 @aR @bu.eq_1) ?_|(refine Xi ?_ ?_<;>try intro ht)|exact Xx|fail)))
  refine aM (λz:Nat×Nat×List Ob=>(⟨aw [(1,.cq (aq m)),(2,.ptr 2 0 0),(3,.ptr 3 0 0),(17,.tree 1 (rowsOf bu m.cls)),(18,aaC m.cls.length),(19,aaC i),(6,.ref z.2.1 6 0 z.1),(23,.tree 6 (rowsOf cQ l)),(24,aaC l.length),(25,aaC z.1)],z.2.2⟩:St))
   (λz=>z.1<=l.length/\gy 0 os.length os z.2.2/\∃ hi C,cX 6 (λk=>x7 (l.getD k default).ch) z.2.2 z.2.1 os.length hi z.1 (λk=>j3 (l.getD k default)) C)
   (λz=>l.length-z.1) (0,os.length,os++[.arr 6 []]) ⟨aI _,gy.app (aN _) _ _,os.length,λ_=>.undef,cX.nil (kf _ _ _) _ (aN _) _ _⟩ ?_ ?_
  ·refine aF.trans (aF.nil 6 6 (by simp only[Kc,simprocAttr]) Px) ?_;exact Xv X0
  rintro⟨k,b,ot⟩⟨hk,jy,oD,C2,hR⟩cJ ba bd;dsimp only at hk jy hR ⊢;by_cases aK:k<l.length
  ·have fj:=ay (l:=l) (d:=default) aK;have cm:=ET _ fj;have jm:=hR.arr;have x8:=hR.len;have Ig:=hR.at_;have Ih:=hR.tZ;have AT:=λX v h2=>hR.app (λk=>Ii _) X (v:=v) x8 (aN _) rfl h2;have gM:=AS (λk=>j3 (l.getD k default)++[C2 k]) k;have zy:=Mt (λk=>j3 (l.getD k default)++[C2 k]) k;generalize qQ:(aW k).map (λk=>j3 (l.getD k default)++[C2 k])=R at *;generalize kY:l.getD k default=o at *;repeat'(first|((fail_if_success (first|refine eT 1 ?_|refine eU 1 ?_));refine Xr (X3 @kY @cy @cQ.eq_1) ?_;intro K hK)|(refine hK _ ?_;clear hK K)|(refine Xi ?_ ?_<;>try intro ht)|refine Xy ?_|refine Xd ?_ ?_|exact Xx|fail)
   refine bY (aF.mR 8 ot.length (cells:=cQ o) (by simp(disch:=omega)only[Ac,↓Pc,simprocAttr,cy,cQ]) (by simp only[Kc,simprocAttr]) (by simp[cQ])) ?_;rw[zz];have fX:=bg jm;have fM:=λl y=>fP jm l (y:=y);rcases m9 o.ch.length with h0|h0
   ·have EU:=rz h0;have e9:ao Tryz.prog 89 [.tree 2 (rowsOf aL [])] [] (.tree 2 (rowsOf aL [])) []:=ahi;refine kv [2,4] (.take 0 (.take 3 (.take 4 (.both 1 (.take 2 (.take 5 (.take 6 (.take 7 (.take 8 (.take 9 .nil)))))) 5 (.take 1 (.take 2 (.take 6 (.take 7 (.take 8 (.take 9 .nil)))))))))) rfl Px (by decide +kernel) ?_;simp(disch:=omega)only[Ac,↓Pc,simprocAttr,Pw,↓Lq,cQ,EU];(with_reducible refine eR ?_ ?_)
    all_goals
     (refine Xn [] (e9) ?_;simp(disch:=omega)only[Ac,↓Pc,simprocAttr,Pw,↓Lq,cy,cM,bQ,fX,fM,gM,zy])
     repeat'(first|with_reducible refine eR ?_ ?_|omega)
    all_goals
     repeat(refine Xu ?_)
     ((repeat'(first|refine Va X0 ?_|fail)))
     have hq:=AT [Ob.gone,Ob.arr 6 [j3 o++[AV.tree 2 (rowsOf aL [])]]] (AV.tree 2 (rowsOf aL [])) (λos' _=>by
      show x7 o.ch _ _ _ _;rw[EU];exact .inl ⟨rfl,rfl⟩)
     exact ba _ (k+1,ot.length+2,ot.set b Ob.gone++[Ob.gone,Ob.arr 6 [j3 o++[AV.tree 2 (rowsOf aL [])]],Ob.arr 6 (R++[j3 o++[AV.tree 2 (rowsOf aL [])]])]) ⟨PA,jy.trans (gy.kill GC x8 _),_,_,hq⟩ PA (Xv @Vi)
   ·have e9:=ahj o.ch h0 GC;refine kv [2,4] (.take 0 (.take 3 (.take 4 (.both 1 (.take 2 (.take 5 (.take 6 (.take 7 (.take 8 (.take 9 .nil)))))) 5 (.take 1 (.take 2 (.take 6 (.take 7 (.take 8 (.take 9 .nil)))))))))) rfl Px (by decide +kernel) ?_;simp(disch:=omega)only[Ac,↓Pc,simprocAttr,Pw,↓Lq,cQ];(with_reducible refine eR ?_ ?_)
    all_goals
     (refine Xn [] (e9) ?_;simp(disch:=omega)only[Ac,↓Pc,simprocAttr,Pw,↓Lq,cy,cM,bQ,fX,fM,gM,zy])
     repeat'(first|with_reducible refine eR ?_ ?_|omega)
    all_goals
     repeat(refine Xu ?_)
     ((repeat'(first|refine Va X0 ?_|fail)))
     have hq:=AT [Ob.gone,Ob.arr 2 (rowsOf aL o.ch),Ob.arr 6 [j3 o++[AV.ref (ot.length+1) 2 0 o.ch.length]]] (AV.ref (ot.length+1) 2 0 o.ch.length) (λos' jg=>by
      show iP 2 os' ot.length (ot.length+3) (.ref (ot.length+1) 2 0 o.ch.length) (rowsOf aL o.ch);rw[<- b8 (enc:=aL)];refine Vg (b:=ot.length+1) ?_ GC GF (gr _);rw[jg _ GC GF,nX];rfl)
     exact ba _ (k+1,ot.length+3,ot.set b Ob.gone++[Ob.gone,Ob.arr 2 (rowsOf aL o.ch),Ob.arr 6 [j3 o++[AV.ref (ot.length+1) 2 0 o.ch.length]],Ob.arr 6 (R++[j3 o++[AV.ref (ot.length+1) 2 0 o.ch.length]])]) ⟨PA,jy.trans (gy.kill GC x8 _),_,_,hq⟩ PA (Xv @Vi)
  ·obtain rfl:k=l.length:=GC;have x8:=hR.len;have Ig:=hR.at_;have Ih:=hR.tZ;have EV:=hC.len;have Vj:=hC.at_;have aho:=hC.tZ;have Vk:=(a8.1 f3).1;have k0:ot[0]?=some (.var zM):=(jy 0 GC GC).trans f0;have k2:ot[2]?=some (.var zM):=(jy 2 GC GC).trans f2;have k3:ot[3]?=some (.var [.ref a 1 0 i,.lit (.slice none 0 0),.lit (.slice none 0 0),aaC m.rules]):=(jy 3 GC Vk).trans f3;have Vl:Cv m.cls ot a 4 Cd i C:=cX.same (λc=>wD _) hC (jy.mono GC GC) (jy a GC EV);have AT:=λX v h2=>cX.app (λc=>wD _) Vl X (v:=v) (l0:=os.length) EV GC rfl h2;have jm:=Vl.arr;have gM:=AS (λk=>([]:List AV)++[C k]) i;have zy:=Mt (λk=>([]:List AV)++[C k]) i;generalize qQ:(aW i).map (λk=>([]:List AV)++[C k])=R at *;have fX:=bg jm;have fM:=λl y=>fP jm l (y:=y);have nw:(ot.set a .gone)[3]?=_:=(bR GC).trans k3;have cI:=bg k3;have AU:=bg nw;have AW:=λl y=>fP nw l (y:=y);((repeat'(first|refine Va X0 ?_|(refine Xi ?_ ?_<;>try intro ht)|exact Xx|fail)))
   refine bd _ _ rfl ?_;clear ba bd;repeat(refine Xu ?_)
   refine Va (X5 @cy @cM.{0} @bQ.{0} @fX (X5 @fM @gM @zy @k3 (X4 @nw @cI @AU @AW))) ?_;have hq:=AT [Ob.arr 1 [[AV.ref b 6 0 l.length]]] (AV.ref b 6 0 l.length) (λos' jg=>by
    show x9 (m.cls.getD i default) os' os.length (ot.length+1) (.ref b 6 0 l.length);rw[aR];have jC:∀ j,os.length<=j->j<ot.length->os'[j]?=ot[j]?:=λj h1 h2=>(jg j h1 GC).trans (cT h2);exact⟨b,oD,C2,rfl,GC,hR.same (λk=>Ii _) (λj h1 h2=>jC j h1 GC) (jC b GC x8)⟩)
   have wE:=cX.EW (λc=>wD _) hq (q:=3) GC (Ob.var [.ref (ot.length+1) 1 0 (i+1),.lit (.slice none 0 0),.lit (.slice none 0 0),aaC m.rules]);rw[fP nw]at wE;exact an _ (i+1,(ot.set a Ob.gone).set 3 (Ob.var [.ref (ot.length+1) 1 0 (i+1),.lit (.slice none 0 0),.lit (.slice none 0 0),aaC m.rules])++[Ob.arr 1 [[AV.ref b 6 0 l.length]],Ob.arr 1 (R++[[AV.ref b 6 0 l.length]])])
    ⟨PA,bg ((bR GC).trans ((bR GC).trans k0)) _,bg ((bR GC).trans ((bR GC).trans k2)) _,ot.length+1,_,_,bg (kh nw) _,wE⟩ PA (Xv @aq.eq_1)
 obtain rfl:i=m.cls.length:=GC;have EV:=hC.len;have Vj:=hC.at_;have aho:=hC.tZ;have Vk:=(a8.1 f3).1;((repeat'(first|refine Va X0 ?_|(refine Xi ?_ ?_<;>try intro ht)|exact Xx|fail)))
 refine ar _ _ rfl ?_;clear an ar Ql;repeat(refine Xu ?_)
 refine Va @aq.eq_1 ?_;refine bY (aF.ni 3 1 4 f3 rfl Px) ?_;rw[fP f3];have wc:∀ Y:Ob,(os.set 3 Y++[Ob.arr 4 []])[os.length]?=some (.arr 4 []):=λY=>by
  rw[fV (by rw[bF];exact aN _),bF,hJ];rfl
 have xO:∀ Y:Ob,gy 4 os.length os (os.set 3 Y++[Ob.arr 4 []]):=λY j h1 h2=>by
  rw[cT (by rw[bF];exact h2),bR GC]
 refine aM (λz:Nat×List Ob=>(⟨aw [(1,.cq (aq m)),(2,.ptr 2 0 0),(3,.ptr 3 0 0),(47,.tree 4 (rowsOf aP m.ae)),(48,aaC m.ae.length),(49,aaC z.1)],z.2⟩:St))
  (λz=>z.1<=m.ae.length/\z.2[0]?=some (.var zM)/\z.2[2]?=some (.var zM)/\gy 4 os.length os z.2/\∃ b hi C,z.2[3]?=some (.var [.ref a 1 0 m.cls.length,.ref b 4 0 z.1,.lit (.slice none 0 0),aaC m.rules])/\ES m.ae z.2 b os.length hi z.1 C)
  (λz=>m.ae.length-z.1) (0,os.set 3 (.var [.ref a 1 0 m.cls.length,.ref os.length 4 0 0,.lit (.slice none 0 0),aaC m.rules])++[Ob.arr 4 []])
  ⟨aI _,bg ((bR GC).trans f0) _,bg ((bR GC).trans f2) _,xO _,os.length,os.length,λ_=>.undef,bg (kh f3) _,cX.nil (wc _) _ (aN _) _ _⟩ (Xv @aq.eq_1) ?_
 rintro⟨i,ot⟩⟨hi,k0,k2,jy,b,oD,C2,k3,hP⟩Ql an ar;dsimp only at hi k0 k2 jy k3 hP ⊢;by_cases hi':i<m.ae.length
 ·have uc:=ay (l:=m.ae) (d:=default) hi';have cu:=Mp hm uc;have x8:=hP.len;have Ig:=hP.at_;have Ih:=hP.tZ;have AT:=λX v h2=>cX.app (λc=>ya _) hP X (v:=v) x8 (aN _) rfl h2;have jm:=hP.arr;have gM:=AS (λk=>kz (m.ae.getD k default)++[C2 k]) i;have zy:=Mt (λk=>kz (m.ae.getD k default)++[C2 k]) i;generalize qQ:(aW i).map (λk=>kz (m.ae.getD k default)++[C2 k])=R at *;generalize b6:m.ae.getD i default=p at *;have Vm:∀ p:Pr,kz p=[aaC p.fst,aaC p.snd,aaC p.bz]:=λ_=>rfl;have fX:=bg jm;have fM:=λl y=>fP jm l (y:=y);have nw:(ot.set b .gone)[3]?=_:=(bR GC).trans k3;have cI:=bg k3;have AU:=bg nw;have AW:=λl y=>fP nw l (y:=y);rcases m9 p.aB.length with h0|h0
  ·have ht0:=rz h0;have e9:=U8 [] Px;((repeat'(first|refine Vc (X5 @b6 @aP.eq_1 @ht0 @cy (X5 @cM.{0} @bQ.{0} @fX @fM (X5 @gM @zy @k3 @nw (X3 @cI @AU @AW)))) e9 ?_|(refine Xi ?_ ?_<;>try intro ht)|exact Xx|fail)))
   have hq:=AT [Ob.var (kz p++[AV.tree 1 (ints [])]),Ob.arr 4 [kz p++[AV.tree 1 (ints [])]]] (AV.tree 1 (ints [])) (λos' _=>by
    show wF p.aB _ _ _ _;rw[ht0];exact .inl ⟨rfl,rfl⟩)
   have wE:=cX.EW (λc=>ya _) hq (q:=3) GC (Ob.var [.ref a 1 0 m.cls.length,.ref (ot.length+2) 4 0 (i+1),.lit (.slice none 0 0),aaC m.rules]);rw[fP nw]at wE;exact an _ (i+1,(ot.set b Ob.gone).set 3 (Ob.var [.ref a 1 0 m.cls.length,.ref (ot.length+2) 4 0 (i+1),.lit (.slice none 0 0),aaC m.rules])++[Ob.var (kz p++[AV.tree 1 (ints [])]),Ob.arr 4 [kz p++[AV.tree 1 (ints [])]],Ob.arr 4 (R++[kz p++[AV.tree 1 (ints [])]])])
    ⟨PA,bg ((bR GC).trans ((bR GC).trans k0)) _,bg ((bR GC).trans ((bR GC).trans k2)) _,jy.trans (gy.Ms GC GC _ _),ot.length+2,_,_,bg (kh nw) _,wE⟩ PA (Xv (X2 @aq.eq_1 @Vm))
  ·have e9:=U7 p.aB h0 GC;((repeat'(first|refine Va (X5 @b6 @aP.eq_1 @cy @cM.{0} (X5 @bQ.{0} @fX @fM @gM (X5 @zy @k3 @nw @cI (X2 @AU @AW)))) ?_|(refine Xi ?_ ?_<;>try intro ht)|exact Xx|fail))<;>try with_reducible intro K hK)
   (refine Xn [] (e9) ?_;simp(disch:=omega)only[Ac,↓Pc,simprocAttr,cy,cM,bQ])
   ((try revert hK K);((refine Va (X5 @b6 @aP.eq_1 @cy @cM.{0} (X5 @bQ.{0} @fX @fM @gM (X5 @zy @k3 @nw @cI (X2 @AU @AW)))) ?_)))
   have hq:=AT [Ob.var (kz p++[AV.ref (ot.length+1) 1 0 p.aB.length]),Ob.arr 1 (ints p.aB),Ob.arr 4 [kz p++[AV.ref (ot.length+1) 1 0 p.aB.length]]] (AV.ref (ot.length+1) 1 0 p.aB.length) (λos' jg=>by
    show iP 1 os' ot.length (ot.length+3) (.ref (ot.length+1) 1 0 p.aB.length) (ints p.aB);rw[<- lI p.aB];refine Vg (b:=ot.length+1) ?_ GC GC (rH _);rw[jg _ GC GF,nX];rfl)
   have wE:=cX.EW (λc=>ya _) hq (q:=3) GC (Ob.var [.ref a 1 0 m.cls.length,.ref (ot.length+3) 4 0 (i+1),.lit (.slice none 0 0),aaC m.rules]);rw[fP nw]at wE;exact an _ (i+1,(ot.set b Ob.gone).set 3 (Ob.var [.ref a 1 0 m.cls.length,.ref (ot.length+3) 4 0 (i+1),.lit (.slice none 0 0),aaC m.rules])++[Ob.var (kz p++[AV.ref (ot.length+1) 1 0 p.aB.length]),Ob.arr 1 (ints p.aB),Ob.arr 4 [kz p++[AV.ref (ot.length+1) 1 0 p.aB.length]],Ob.arr 4 (R++[kz p++[AV.ref (ot.length+1) 1 0 p.aB.length]])])
    ⟨PA,bg ((bR GC).trans ((bR GC).trans k0)) _,bg ((bR GC).trans ((bR GC).trans k2)) _,jy.trans (gy.Ms GC GC _ _),ot.length+3,_,_,bg (kh nw) _,wE⟩ PA (Xv (X2 @aq.eq_1 @Vm))
 obtain rfl:i=m.ae.length:=GC;have x8:=hP.len;have Ig:=hP.at_;have Ih:=hP.tZ;have anI:=(a8.1 k3).1;((repeat'(first|refine Va X0 ?_|(refine Xi ?_ ?_<;>try intro ht)|exact Xx|fail)))
 refine ar _ _ rfl ?_;clear an ar Ql;repeat(refine Xu ?_)
 refine Va @aq.eq_1 ?_;refine bY (aF.ni 3 2 4 k3 rfl Px) ?_;rw[fP k3];have wc:∀ Y:Ob,(ot.set 3 Y++[Ob.arr 4 []])[ot.length]?=some (.arr 4 []):=λY=>by
  rw[fV (by rw[bF];exact aN _),bF,hJ];rfl
 have xO:∀ Y:Ob,gy 4 ot.length ot (ot.set 3 Y++[Ob.arr 4 []]):=λY j h1 h2=>by
  rw[cT (by rw[bF];exact h2),bR GC]
 refine aM (λz:Nat×List Ob=>(⟨aw [(1,.cq (aq m)),(2,.ptr 2 0 0),(3,.ptr 3 0 0),(65,.tree 4 (rowsOf aV m.av)),(66,aaC m.av.length),(67,aaC z.1)],z.2⟩:St))
  (λz=>z.1<=m.av.length/\z.2[0]?=some (.var zM)/\z.2[2]?=some (.var zM)/\gy 4 ot.length ot z.2/\∃ d,z.2[3]?=some (.var [.ref a 1 0 m.cls.length,.ref b 4 0 m.ae.length,.ref d 4 0 z.1,aaC m.rules])/\ot.length<=d/\z.2[d]?=some (.arr 4 (rowsOf aV (m.av.take z.1))))
  (λz=>m.av.length-z.1) (0,ot.set 3 (.var [.ref a 1 0 m.cls.length,.ref b 4 0 m.ae.length,.ref ot.length 4 0 0,aaC m.rules])++[Ob.arr 4 []])
  ⟨aI _,bg ((bR GC).trans k0) _,bg ((bR GC).trans k2) _,xO _,ot.length,bg (kh k3) _,aN _,wc _⟩ (Xv @aq.eq_1) ?_
 clear xO wc;rintro⟨i,oc⟩⟨hi,g0,g2,oC,d,g3,hd,gd⟩Ql an ar;dsimp only at hi g0 g2 oC g3 gd ⊢;have AX:=(a8.1 gd).1;by_cases hi':i<m.av.length
 ·have fi:=ay (l:=m.av) (d:=default) hi';have xJ:(m.av.getD i default).aH.length<549755813888:=by
   obtain⟨_,_,_,h4⟩:=lS (hm.ct _ fi);have:=AQ hm h4;omega
  have cN:=eG hi';have nW:(rowsOf aV (m.av.take i)).length=i:=by rw[b8,List.length_take];omega
  have im:(rowsOf aV (m.av.take i)).take i=rowsOf aV (m.av.take i):=dJ GC;have lp:=lO (enc:=aV) (m.av.take i) (m.av.getD i default);rw[<- cN]at lp;generalize hR:rowsOf aV (m.av.take i)=R at *;generalize aR:m.av.getD i default=c at *;have e9:=U9 c.aH xJ;have fX:=bg gd;have fM:=λl y=>fP gd l (y:=y);have nw:(oc.set d .gone)[3]?=_:=(bR GC).trans g3;have cI:=bg g3;have AU:=bg nw;have AW:=λl y=>fP nw l (y:=y);((repeat'(first|refine Vc (X5 @aR @aV.eq_1 @cy @cM.{0} (X5 @bQ.{0} @fX @fM @nW (X5 @im @g3 @nw @cI (X2 @AU @AW)))) e9 ?_|(refine Xi ?_ ?_<;>try intro ht)|exact Xx|fail)))
  refine an _ (i+1,(oc.set d Ob.gone).set 3 (Ob.var [.ref a 1 0 m.cls.length,.ref b 4 0 m.ae.length,.ref (oc.length+2) 4 0 (i+1),aaC m.rules])++[Ob.var (aV c),Ob.arr 4 [aV c],Ob.arr 4 (R++[aV c])])
   ⟨PA,bg ((bR GC).trans ((bR GC).trans g0)) _,bg ((bR GC).trans ((bR GC).trans g2)) _,oC.trans (gy.Ms GC GC _ _),oc.length+2,bg (kh nw) _,GC,?_⟩ PA (Xv (X2 @aq.eq_1 @aV.eq_1))
  rw[fV (by rw[bF,bF];omega),bF,bF,Nat.add_sub_cancel_left,<- lp];rfl
 obtain rfl:i=m.av.length:=GC;rw[List.take_length]at gd;((repeat'(first|refine Va X0 ?_|(refine Xi ?_ ?_<;>try intro ht)|exact Xx|fail)))
 refine ar _ _ rfl ?_;clear an ar Ql;repeat(refine Xu ?_)
 refine Va (X3 @g3 @g2 @zM.eq_1) ?_;have g2s:=λy=>kh (y:=y) g2;unfold gu;simp only[eF,ew];simp(disch:=omega)only[Ac,↓Pc,simprocAttr,g2s];have anJ:=(a8.1 g3).1;have e1:=cX.same (λc=>wD _) hC (jy.mono (aN _) GC) (jy a GC EV);have e2:=cX.same (λc=>wD _) e1 (oC.mono (aN _) GC) (oC a GC GC);have e3:=cX.same (λc=>ya _) hP (oC.mono GC GC) (oC b GC x8);refine⟨_,_,⟨(bR GC).trans g0,a,b,d,rfl,Cd,C,os.length,oD,C2,cX.low (cX.EW (λc=>wD _) e2 GC _) GC,cX.EW (λc=>ya _) e3 GC _,EV,(bR GC).trans gd,GC⟩,eu rfl ?_ rfl⟩;rw[bF];omega
def mV(w o:Nat):List Bool:=(bH w false).set o true
def bV(left:List (List Bool))(c o:Nat):List (List Bool):=left.set c (mV (left.getD c default).length o)
def Ij(w o:Nat):(mV w o).length=w:=by simp[mV]
def Ik(left:List (List Bool))(c o:Nat):(bV left c o).map oW=left.map oW:=by
 unfold bV;apply kq;intro j;rw[cj,cj,cA];split
 ·rename_i e;subst e;split
  ·rename_i h2;rw[bK h2];simp[Ij,h2]
  ·rename_i h2;rw[dW GC]
 ·rfl
def Il{σ:St}{kp:Nat->Prop}{c d:List AV}(h:∀ v∈c,(∃ x,v=AV.lit x)\/∃ s r,v=AV.tree s r)(e:d=c):fF (cL σ kp) c d:=by
 subst e
 induction d with
 |nil=>trivial
 |cons v l ih =>
  refine⟨?_,ih λx hx=>h x (by simp[hx])⟩;rcases h v GF with⟨x,rfl⟩|⟨s,r,rfl⟩
  ·exact .lit _
  ·exact .tree _ _
def ahq{σ:St}{kp:Nat->Prop}{oi k c:Nat}{left:List (List Bool)}{r:List Bool}(hc:c<left.length)(ho:σ.aa[oi]?=some (.arr 1 ((rowsOf aQ left).set c [.ref k 1 0 r.length])))(hk:¬ kp oi)(hr:σ.aa[k]?=some (.arr 1 (aX r)))(DJ:¬ kp k):
  cL σ kp (.tree 1 (rowsOf aQ (left.set c r))) (.ref oi 1 0 left.length) :=
 cL.mk ho (by simp[rowsOf]) hk (gr _) (kQ.AY (f:=λ_=>[]) (g:=λ_=>[]) (by simp[rowsOf]) λj x d hx hd=>by
  unfold rowsOf at hx hd;rw[cj,cA]at hx;rw[cA]at hd;by_cases e:c=j
  ·subst e;rw[if_pos rfl,if_pos hc]at hx;rw[if_pos rfl,if_pos (by simpa using hc)]at hd;cases hx;cases hd;exact⟨Vn hr DJ,trivial⟩
  ·rw[if_neg e]at hx hd;rw[cj]at hd;rw[hx]at hd;simp only[dI.injEq]at hd;cases hl:left[j]? with
   |none=>rw[hl]at hx;cases hx
   |some y =>
    rw[hl]at hx;simp only[fl,dI.injEq]at hx;subst hx;exact Il (λv hv=>by simp only[aQ,List.mem_singleton]at hv;exact .inr ⟨_,_,hv⟩) hd.symm)
def ahr(xs:List (List Bool))(h:0<xs.length)(hl:xs.length<549755813888):ao Tryz.prog 170 [.tree 1 (rowsOf aQ xs)] [] (.ref 0 1 0 xs.length) [.arr 1 (rowsOf aQ xs)]:=by
 refine ao.aD 8 0 [.tmp 2] Tryz.func170 ?_;((repeat'(first|refine Vb X0 ?_|(refine Xi ?_ ?_<;>try intro ht)|exact Xx|fail)))
 exact Xw false [1] X0
def ahs:ao Tryz.prog 90 [.lit (.slice none 0 0)] [] (.lit (.slice none 0 0)) []:=by
 refine ao.aD 8 0 [.tmp 2] Tryz.func90 ?_;((repeat'(first|refine Vb @Dy.{0} ?_|(refine Xi ?_ ?_<;>try intro ht)|exact Xx|fail)))
 all_goals first|exact aE rfl rfl|(exfalso;simp at *;done)
def aht(left:List (List Bool))(c o:Nat)(hc:c<left.length)(ho:o<(left.getD c default).length)(hl:left.length<549755813888)(hw:(left.getD c default).length<549755813888):
  ao Tryz.prog 126 [.tree 1 (rowsOf aQ left),aaC c,aaC o] [] (.tree 1 (rowsOf aQ (bV left c o))) []:=by
 unfold bV;have iy:∀ r:List AV,((rowsOf aQ left).set c r)[c]?=some r:=λr=>by rw[cA,if_pos rfl,if_pos (by simpa [rowsOf] using hc)]
 have fM:∀ r:List AV,((rowsOf aQ left).set c r).length=left.length:=λr=>by simp[rowsOf]
 generalize cE:left.getD c default=row at *;have EX:(bH row.length false).length=row.length:=List.length_replicate;refine ao.aD 26 0 [.tmp 6] Tryz.func126 ?_;((refine Vb X0 ?_)<;>try with_reducible intro K hK)
 (refine Xn [] (ahr left GC hl) ?_;simp(disch:=omega)only[Ac,↓Pc,simprocAttr,hJ,Nat.sub_zero])
 ((try revert hK K);(refine Vb (X5 @cE @aQ.eq_1 @KI @iy (X3 @fM @EX @v5)) ?_))
 refine cZ [] true Px trivial Px Px (.snap _ _ rfl ?_);have cD:(mV row.length o).length=row.length:=Ij _ _;exact ahq (k:=1) (r:=mV row.length o) hc (by rw[cD];rfl) (iK Px) rfl (iK Px)
def Mn:∀ (l:List Int) (s:List Bool) (n:Int),(∀ x∈l,0<=x)->0<=n->0<=ke l s n/\ke l s n<=n
 |[],s,n,_,hn=>by cases s<;>exact⟨hn,eC _⟩
 |x::r,[],n,_,hn=>⟨hn,eC _⟩
 |x::r,b::s,n,h,hn=>by
  have hx:=h x GF;obtain⟨h1,h2⟩:=Mn r s (if b=true then min n x else n) (λy hy=>h y (by simp[hy])) (by split<;>omega);rw[ke];refine⟨h1,Int.le_trans h2 ?_⟩;split<;>omega
def ag8{m:aj}{p:Pr}{left:List (List Bool)}(hm:VM m)(dE:gH m p=true)(hf:dD m left):0<=qO m left p/\qO m left p<=1099511627776:=by
 obtain⟨q1,q2,q3,q4,q5⟩:=lT dE;have h1:=hf.1;have a1:=hf.2 p.fst.toNat GC;have a2:=hf.2 p.snd.toNat GC;unfold qO;rw[Mu _ _ _ a2 _ 0 _ (by rw[Dv,Nat.zero_add,a1];exact_mod_cast Int.le_of_eq q5.symm),Dv,List.drop_zero];exact Mn _ _ _ (λx hx=>(Im dE x hx).1) GC
def Mo(n:Int):ao Tryz.prog 160 [aaC n] [] (aaC (min n 1099511627776)) []:=by
 refine ao.aD 5 0 [.tmp 2] Tryz.func160 ?_;refine Vb X0 ?_;exact aE rfl rfl
def ag0(n bM:Int)(hn:0<=n/\n<=1048576)(hp:jY bM=true):ao Tryz.prog 187 [aaC n,aaC bM] [] (aaC (AR n bM)) []:=by
 have Io:=lz hp;unfold jY at hp;unfold b7 at Io;rw[decide_eq_true_eq]at hp;generalize ak:AR n bM=res;unfold AR at ak;have hmul:¬(0<n/\bM=1099511627776)->0<=n*bM/\n*bM<=1099511627776:=λh=>by
  rcases Int.lt_or_eq_of_le hn.1 with h0|h0
  ·have:n*bM<=1048576*1048576:=qj hn.2 GC GC GC;have:=Int.mul_nonneg hn.1 Io.1;omega
  ·rw[<- h0];simp
 generalize Vo:n*bM=np at *;have r9:=Mo np;refine ao.aD 15 0 [.tmp 4] Tryz.func187 ?_;by_cases h:0<n/\bM=1099511627776
 ·rw[if_pos h]at ak;((repeat'(first|refine Vb X0 ?_|(refine V2 X0 ?_ ?_<;>try with_reducible intro hb)|(refine Xi ?_ ?_<;>try intro ht)|exact Xx|fail)))
  all_goals exact aE rfl (by rw[ak])
 ·rw[if_neg h]at ak;have hmul:=hmul h;((repeat'(first|refine Vd @Vo r9 ?_|(refine V2 @Vo ?_ ?_<;>try with_reducible intro hb)|(refine Xi ?_ ?_<;>try intro ht)|exact Xx|fail)))
  all_goals exact aE rfl (by rw[ak])
def ag5(o:bU)(hc:∀ c∈o.ch,b7 c.2)(hl:o.ch.length<=100):ao Tryz.prog 157 [.agg (cQ o)] [] (aaC (jZ o)) []:=by
 refine ao.aD 20 0 [.tmp 2] Tryz.func157 ?_;refine Vb @cQ.eq_1 ?_;refine aM (λk:Nat=>(⟨aw [(3,aaC (((o.ch.take k).map (·.2)).foldl ee 0)),(7,.tree 2 (rowsOf aL o.ch)),(8,aaC o.ch.length),(9,aaC k)],[]⟩:St)) (λk=>k<=o.ch.length) (λk=>o.ch.length-k) 0 (aI _) (Xs false [] (X3 @List.take_zero.{0} @kJ.{0,0} @List.foldl_nil.{0,0})) ?_;rintro k hk Ql an ar;have hs:=EY ((o.ch.take k).map (·.2)) 0 (λx hx=>by
  obtain⟨c,ln,rfl⟩:=cz.1 hx;exact hc c (List.mem_of_mem_take ln)) (by unfold b7;decide)
 by_cases aK:k<o.ch.length
 ·have aR:=hc _ (ay (d:=default) aK);have dP:=Mw o.ch k aK;generalize ((o.ch.take k).map (·.2)).foldl ee 0=s at *;generalize aS:o.ch.getD k default=x at *;have nY:=Mo (s+x.2);rw[show min (s+x.2) 1099511627776=ee s x.2 from rfl]at nY;unfold b7 at hs aR;((repeat'(first|refine Vc (X2 @aS @aL.eq_1) nY ?_|(refine Xi ?_ ?_<;>try intro ht)|exact Xx|fail)))
  exact an _ (k+1) GC GC (by simp only[dP];exact Xs false [] X0)
 ·have lU:((o.ch.take k).map (·.2)).foldl ee 0=jZ o:=by rw[dJ GC];rfl
  rw[lU]at hs ⊢;((repeat'(first|refine Va X0 ?_|(refine Xi ?_ ?_<;>try intro ht)|exact Xx|fail)))
  refine ar _ _ rfl ?_;clear an ar Ql;repeat(refine Xu ?_)
  refine Vb X0 ?_;exact aE rfl rfl
def ahu(m:aj)(p:Pr)(x y:Int)(dE:gH m p=true)(zx:∀ l∈m.cls,l.length<=24)(hx:0<=x/\x<(m.cls.getD p.fst.toNat default).length)(hy:0<=y/\y<(m.cls.getD p.snd.toNat default).length):
  ao Tryz.prog 185 [.agg (aq m),.agg (aP p),aaC x,aaC y] [] (aaC (lV m p x y)) []:=by
 obtain⟨q1,q2,q3,q4,q5⟩:=lT dE;have AZ:=zx _ (ay (l:=m.cls) (i:=p.fst.toNat) (d:=default) GC);have vq:=zx _ (ay (l:=m.cls) (i:=p.snd.toNat) (d:=default) GC);have Ip:=vr (x:=x) (y:=y) (a:=(m.cls.getD p.fst.toNat default).length) (b:=(m.cls.getD p.snd.toNat default).length) hx hy GC GC;unfold lV;rw[<- q5]at Ip;generalize fY:m.cls.getD p.snd.toNat default=lb at *;generalize sh:x*(lb.length:Int)=xm at *;refine ao.aD 24 0 [.tmp 8] Tryz.func185 ?_;refine Vb (X2 @fY @sh) ?_;exact aE rfl rfl
def ag7(m:aj)(p:Pr)(left:List (List Bool))(hm:VM m)(dE:gH m p=true)(hf:dD m left):
  ao Tryz.prog 158 [.agg (aq m),.agg (aP p),.tree 1 (rowsOf aQ left)] [] (aaC (qO m left p)) []:=by
 obtain⟨q1,q2,q3,q4,q5⟩:=lT dE;have fC:=hf.1;have cm:=hm.cls;have ha:=hf.2 p.fst.toNat GC;have hb:=hf.2 p.snd.toNat GC;have AZ:=hm.opt _ (ay (l:=m.cls) (i:=p.fst.toNat) (d:=default) GC);have vq:=hm.opt _ (ay (l:=m.cls) (i:=p.snd.toNat) (d:=default) GC);have yb:=λx y=>ahu m p x y dE hm.opt;generalize ak:qO m left p=res;unfold qO at ak;unfold lV at yb;generalize hra:left.getD p.fst.toNat default=ra at *;generalize tY:left.getD p.snd.toNat default=rb at *;generalize m.cls.getD p.fst.toNat default=la at *;generalize m.cls.getD p.snd.toNat default=lb at *;refine ao.aD 48 0 [.tmp 6] Tryz.func158 ?_;refine Vb (X3 @hra @aQ.eq_1 @aP.eq_1) ?_;refine aM (λz:Nat×Int=>(⟨aw [(2,.tree 1 (rowsOf aQ left)),(3,.ptr 0 0 0),(4,.ptr 1 0 0),(7,aaC z.2),(16,.tree 1 (aX ra)),(17,aaC ra.length),(18,aaC z.1)],[.var (aq m),.var (aP p)]⟩:St))
  (λz=>z.1<=ra.length/\ud p.aB lb.length rb z.1 (ra.drop z.1) z.2=res) (λz=>ra.length-z.1) (0,1099511627776) ⟨aI _,ak⟩ (Xv @aP.eq_1) ?_
 rintro⟨i,n⟩⟨hi,hr⟩Ql an ar;dsimp only at hi hr ⊢;by_cases hi':i<ra.length
 ·have hd:=cP ra i false hi';generalize Cs:ra.getD i false=a at *;rw[hd,ud]at hr;((repeat'(first|refine Va (X4 @Cs @tY @aQ.eq_1 @aP.eq_1) ?_|(refine Xi ?_ ?_<;>try intro ht)|exact Xx|fail)))
  refine aM (λz:Nat×Int=>(⟨aw [(2,.tree 1 (rowsOf aQ left)),(3,.ptr 0 0 0),(4,.ptr 1 0 0),(7,aaC z.2),(8,aaC i),(9,.lit (.bool a)),(16,.tree 1 (aX ra)),(17,aaC ra.length),(18,aaC i),(27,.tree 1 (aX rb)),(28,aaC rb.length),(29,aaC z.1)],[.var (aq m),.var (aP p)]⟩:St))
   (λz=>z.1<=rb.length/\ud p.aB lb.length rb (i+1) (ra.drop (i+1)) (vt p.aB lb.length i a z.1 (rb.drop z.1) z.2)=res) (λz=>rb.length-z.1) (0,n) ⟨aI _,hr⟩ (Xv @aP.eq_1) ?_
  rintro⟨k,x⟩⟨hk,gF⟩cJ ba bd;dsimp only at hk gF ⊢;by_cases aK:k<rb.length
  ·have wC:=cP rb k false aK;generalize fY:rb.getD k false=b at *;rw[wC,vt]at gF;have he:=yb i k GC GC;rw[show((i:Int)*(lb.length:Int)+(k:Int)).toNat=i*lb.length+k by rw[<- Int.natCast_mul,<- Int.natCast_add,Int.toNat_natCast]]at he;generalize p.aB.getD (i*lb.length+k) 0=e at *;cases a<;>cases b
   ·rw[if_neg GF]at gF;((repeat'(first|refine Va @fY ?_|(refine Xi ?_ ?_<;>try intro ht)|exact Xx|fail)))
    all_goals exact ba _ (k+1,x) ⟨PA,gF⟩ PA (Xv X0)
   ·rw[if_neg GF]at gF;((repeat'(first|refine Va @fY ?_|(refine Xi ?_ ?_<;>try intro ht)|exact Xx|fail)))
    all_goals exact ba _ (k+1,x) ⟨PA,gF⟩ PA (Xv X0)
   ·rw[if_neg GF]at gF;((repeat'(first|refine Va @fY ?_|(refine Xi ?_ ?_<;>try intro ht)|exact Xx|fail)))
    all_goals exact ba _ (k+1,x) ⟨PA,gF⟩ PA (Xv X0)
   ·rw[if_pos ⟨rfl,rfl⟩]at gF;((repeat'(first|refine Vc @fY he ?_|(refine Xi ?_ ?_<;>try intro ht)|exact Xx|fail)))
    all_goals exact ba _ (k+1,min x e) ⟨PA,gF⟩ PA (Xv X0)
  ·((repeat'(first|refine Va X0 ?_|(refine V2 X0 ?_ ?_<;>try with_reducible intro hb)|(refine Xi ?_ ?_<;>try intro ht)|exact Xx|fail)))
   rw[show rb.drop k=[] from cR GC,vt]at gF;refine bd _ _ rfl ?_;clear ba bd;repeat(refine Xu ?_)
   refine Va X0 ?_;exact an _ (i+1,x) ⟨PA,gF⟩ PA (Xv X0)
 ·((repeat'(first|refine Va X0 ?_|(refine Xi ?_ ?_<;>try intro ht)|exact Xx|fail)))
  rw[cR GC,ud]at hr;refine ar _ _ rfl ?_;clear an ar Ql;repeat(refine Xu ?_)
  refine Vb X0 ?_;exact aE rfl (by rw[hr])
structure Fc(C:List (Nat×Ob))(os:List Ob):Prop where
 at_:∀ b∈C,os[b.1]?=some b.2
 nd:(C.map (·.1)).Nodup
section
variable {C D:List (Nat×Ob)} {os:List Ob}
def Fc.b0{a:Nat×Ob}(h:Fc (a::C) os):os[a.1]?=some a.2:=h.at_ a GF
def Fc.b1{a b:Nat×Ob}(h:Fc (a::b::C) os):os[b.1]?=some b.2:=h.at_ b GF
def Fc.b2{a b c:Nat×Ob}(h:Fc (a::b::c::C) os):os[c.1]?=some c.2:=h.at_ c GF
def Fc.b3{a b c d:Nat×Ob}(h:Fc (a::b::c::d::C) os):os[d.1]?=some d.2:=h.at_ d GF
def Fc.app(h:Fc C os)(l:List Ob):Fc C (os++l):=⟨λb hb=>bg (h.at_ b hb) l,h.nd⟩
def Fc.perm(h:Fc C os)(hp:C.Perm D):Fc D os:=⟨λb hb=>h.at_ b (hp.mem_iff.2 hb),((hp.map (·.1)).nodup_iff).1 h.nd⟩
def Fc.front{b:Nat×Ob}(A:List (Nat×Ob))(h:Fc (A++b::C) os):Fc (b::(A++C)) os:=h.perm List.perm_middle
def Fc.fresh(h:Fc C os){p:Nat}(hp:os.length<=p):p ∉ C.map (·.1):=λhh=>by
 obtain⟨q,hq,rfl⟩:=cz.1 hh;have:=(a8.1 (h.at_ q hq)).1;omega
def Fc.other(h:Fc C os){i:Nat}(hi:i ∉ C.map (·.1))(y:Ob):Fc C (os.set i y) :=
 ⟨λb hb=>by rw[bR (λe=>hi (cz.2 ⟨b,hb,e.symm⟩))];exact h.at_ b hb,h.nd⟩
def Fc.add(h:Fc C os){k:Nat}{x:Ob}(hk:os[k]?=some x)(hf:k ∉ C.map (·.1)):Fc ((k,x)::C) os :=
 ⟨λb hb=>by rcases cB.1 hb with rfl|hb;exact hk;exact h.at_ b hb,by rw[dg,uA];exact⟨hf,h.nd⟩⟩
def Fc.drop{i:Nat}{x:Ob}(h:Fc ((i,x)::C) os):Fc C os/\i ∉ C.map (·.1):=by
 have hn:=h.nd;rw[dg,uA]at hn;exact⟨⟨λb hb=>h.at_ b (by simp[hb]),hn.2⟩,hn.1⟩
def Fc.put{i:Nat}{x:Ob}(h:Fc ((i,x)::C) os)(y:Ob):Fc ((i,y)::C) (os.set i y):=by
 obtain⟨h1,h2⟩:=h.drop;exact(h1.other h2 y).add (kh h.b0) h2
def Fc.kill{i:Nat}{x:Ob}(h:Fc ((i,x)::C) os)(y:Ob):Fc C (os.set i y):=by
 obtain⟨h1,h2⟩:=h.drop;exact h1.other h2 y
def Fc.sub(h:Fc (C++D) os):Fc C os:=⟨λb hb=>h.at_ b (List.mem_append_left _ hb),by
 have:=h.nd;rw[List.map_append,List.nodup_append]at this;exact this.1⟩
end
structure Rw where
 c:Int
 Cw:Option (Nat×List Int)
 mv:Option (Nat×List Mv)
instance:Inhabited Rw:=⟨⟨0,none,none⟩⟩
def kE:Option (Nat×List Int)->AV
 |none=>.lit (.slice none 0 0)
 |some x=>.ref x.1 1 0 x.2.length
def mE:Option (Nat×List Mv)->AV
 |none=>.lit (.slice none 0 0)
 |some x=>.ref x.1 4 0 x.2.length
def cS(r:Rw):List AV:=[aaC r.c,kE r.Cw,mE r.mv,.lit (.slice none 0 0),.lit (.slice none 0 0)]
def kO:Option (Nat×List Int)->List (Nat×Ob)
 |none=>[]
 |some x=>[(x.1,.arr 1 (ints x.2))]
def mO:Option (Nat×List Mv)->List (Nat×Ob)
 |none=>[]
 |some x=>[(x.1,.arr 4 (rowsOf ca x.2))]
def nZ(r:Rw):List (Nat×Ob):=kO r.Cw++mO r.mv
def gN(R:List Rw):List (Nat×Ob):=R.flatMap nZ
def dx:Rw:=⟨-1,none,none⟩
def EZ(A B:List Rw):gN (A++B)=gN A++gN B:=by unfold gN;rw[List.flatMap_append]
def Iq(r:Rw):gN [r]=nZ r:=by simp[gN]
def Vp(R:List Rw):(rowsOf cS R).length=R.length:=by simp[rowsOf]
def ahw(R:List Rw)(r:Rw):rowsOf cS R++[cS r]=rowsOf cS (R++[r]):=by simp[rowsOf]
def Ir{α:Type}(a b c:List α):(a++(b++c)).Perm (b++(a++c)):=by
 rw[<- cM,<- cM];exact tB.append_right _ List.perm_append_comm
def Vq{R:List Rw}{j:Nat}(hj:j<R.length)(r:Rw):(nZ (R.getD j default)++gN (R.set j r)).Perm (nZ r++gN R):=by
 have h1:R=R.take j++R.getD j default::R.drop (j+1):=by
  rw[List.getD_eq_getElem?_getD,bK hj,Option.getD_some,List.getElem_cons_drop,List.take_append_drop]
 have h2:R.set j r=R.take j++r::R.drop (j+1):=by rw[List.set_eq_take_append_cons_drop,if_pos hj]
 generalize R.getD j default=x at *;generalize R.take j=A at *;generalize R.drop (j+1)=B at *;rw[h2,h1];have h3:∀ y,gN (A++y::B)=gN A++(nZ y++gN B):=λy=>by rw[show A++y::B=A++([y]++B) from rfl,EZ,EZ,Iq]
 rw[h3,h3];generalize gN A=a;generalize gN B=b;generalize nZ x=u;generalize nZ r=v;exact((tB.append_left u (Ir a v b)).trans ((Ir u v (a++b)).trans (tB.append_left v (Ir u a b))))
def canon(F:List (Nat×Ob))(n:Nat):List Ob:=(aW n).map λj=>((F.find? λb=>b.1==j).map (·.2)).getD .gone
structure FK(F:List (Nat×Ob))(n:Nat):Prop where
 lt:∀ b∈F,b.1<n
 nd:(F.map (·.1)).Nodup
def Fc.fk{F:List (Nat×Ob)}{os:List Ob}(h:Fc F os):FK F os.length:=⟨λb hb=>(a8.1 (h.at_ b hb)).1,h.nd⟩
def A0(F:List (Nat×Ob))(n:Nat):(canon F n).length=n:=by simp[canon]
def Is:∀ {F:List (Nat×Ob)},(F.map (·.1)).Nodup->∀ b∈F,F.find? (λx=>x.1==b.1)=some b
 |a::F,h,b,hb=>by
  rw[dg,uA]at h;rcases cB.1 hb with rfl|hb
  ·simp
  ·have:a.1≠b.1:=λe=>h.1 (cz.2 ⟨b,hb,e.symm⟩);rw[List.find?_cons_of_neg (by simpa using this)];exact Is h.2 b hb
def FK.canon{F:List (Nat×Ob)}{n:Nat}(h:FK F n):Fc F (canon F n):=⟨λb hb=>by
 unfold T.canon;rw[cj,lg (h.lt b hb),fl,Is h.nd b hb];rfl,h.nd⟩
def vu:List Nat->List Ob->List Ob
 |[],os=>os
 |j::l,os=>vu l (os.set j .gone)
def Vr:∀ (l:List Nat) (os:List Ob),(vu l os).length=os.length
 |[],os=>rfl
 |j::l,os=>by rw[vu,Vr l,bF]
def Vs:∀ (l:List Nat) (os:List Ob) (j:Nat),j<os.length->(vu l os)[j]?=if j∈l then some .gone else os[j]?
 |[],os,j,hj=>by simp[vu]
 |i::l,os,j,hj=>by
  rw[vu,Vs l _ j (by rw[bF];exact hj)];by_cases h1:j∈l
  ·rw[if_pos h1,if_pos (by simp[h1])]
  ·rw[if_neg h1,cA];by_cases h2:i=j
   ·subst h2;rw[if_pos rfl,if_pos hj,if_pos GF]
   ·rw[if_neg h2,if_neg (by simp only[cB,not_or];exact⟨λe=>h2 e.symm,h1⟩)]
def ahx{F:List (Nat×Ob)}{os:List Ob}(h:Fc F os):vu ((aW os.length).filter λj=>!(F.map (·.1)).contains j) os=canon F os.length:=by
 apply kq;intro j;by_cases hj:j<os.length
 ·rw[Vs _ _ _ hj];by_cases hm:j∈F.map (·.1)
  ·obtain⟨b,hb,rfl⟩:=cz.1 hm;rw[if_neg (by simp[qh,hm]),h.fk.canon.at_ b hb,h.at_ b hb]
  ·rw[if_pos (by rw[qh];exact⟨List.mem_range.2 hj,by simp at hm ⊢;exact hm⟩)];unfold canon;rw[cj,lg hj,fl];have:F.find? (λb=>b.1==j)=none:=by
    rw[List.find?_eq_none];intro b hb e;exact hm (cz.2 ⟨b,hb,by simpa using e⟩)
   rw[this];rfl
 ·rw[dW (by rw[Vr];omega),dW (by rw[A0];omega)]
def aF.vu{n0:Nat}:∀ (l:List Nat) (σ:St),aF n0 σ ⟨σ.env,T.vu l σ.aa⟩
 |[],σ=>by intro os γ0 γ _ hs hf;exact⟨γ,rfl,rfl,hs,hf⟩
 |j::l,σ=>by
  refine aF.trans (σ1:=⟨σ.env,σ.aa.set j .gone⟩) ?_ (aF.vu l ⟨σ.env,σ.aa.set j .gone⟩);intro os γ0 γ _ hs hf;exact⟨γ,rfl,rfl,hs.kill j,hf.trans (Fr.kill _ _ j)⟩
def aF.canon{n0:Nat}{σ:St}{F:List (Nat×Ob)}(h:Fc F σ.aa):aF n0 σ ⟨σ.env,T.canon F σ.aa.length⟩:=by
 rw[<- ahx h];exact aF.vu _ σ
section
variable {F G:List (Nat×Ob)} {n:Nat}
def FK.mono(h:FK F n){k:Nat}(hk:n<=k):FK F k:=⟨λb hb=>Nat.lt_of_lt_of_le (h.lt b hb) hk,h.nd⟩
def FK.perm(h:FK F n)(hp:F.Perm G):FK G n:=⟨λb hb=>h.lt b (hp.mem_iff.2 hb),((hp.map (·.1)).nodup_iff).1 h.nd⟩
def FK.add(h:FK F n){i:Nat}{x:Ob}(h1:n<=i){k:Nat}(h2:i<k):FK ((i,x)::F) k:=⟨λb hb=>by
 rcases cB.1 hb with rfl|hb
 ·exact h2
 ·have:=h.lt b hb;omega,by
 rw[dg,uA];exact⟨λhh=>by obtain⟨b,hb,e⟩:=cz.1 hh;have:=h.lt b hb;omega,h.nd⟩⟩
def FK.keys(h:FK F n)(hk:G.map (·.1)=F.map (·.1)):FK G n:=⟨λb hb=>by
 have:b.1∈F.map (·.1):=by rw[<- hk];exact cz.2 ⟨b,hb,rfl⟩
 obtain⟨c,hc,e⟩:=cz.1 this;rw[<- e];exact h.lt c hc,by rw[hk];exact h.nd⟩
def FK.drop{b:Nat×Ob}(h:FK (b::F) n):FK F n:=⟨λc hc=>h.lt c (by simp[hc]),by have:=h.nd;rw[dg,uA]at this;exact this.2⟩
end
structure GS where
 n:Nat
 p:Nat
 R:List Rw
 k:Nat
end T

