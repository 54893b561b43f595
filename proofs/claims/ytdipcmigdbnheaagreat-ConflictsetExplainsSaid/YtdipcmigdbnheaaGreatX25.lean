import Derived.Test.YtdipcmigdbnheaaGreatX24
set_option linter.all false
set_option maxHeartbeats 0
set_option maxRecDepth 20000
open Nat renaming zero_le→aI,le_refl→aN
open List renaming map_cons→dg,cons_append→dS,nil_append→dY,filter_cons→uC,drop_eq_nil_of_le→cR,filter_nil→Dz,append_nil→g9,map_nil→kJ
open Go Go.Am Go.Proofs
namespace T
def gK(m:aj)(cls:List (List bU))(ae:List Pr)(av:List Ct):List Ob :=
 [.var (aq m),.var [.lit (.slice none 0 0),.lit (.slice none 0 0),.lit (.slice none 0 0),aaC 0],
  .var [.ref 3 1 0 cls.length,.ref 4 4 0 ae.length,.ref 5 4 0 av.length,aaC m.rules],.arr 1 (rowsOf bu cls),.arr 4 (rowsOf aP ae),.arr 4 (rowsOf aV av)]
def agA(m:aj)(az:List Bool)(hb:MB m)(hk:az.length<9223372036854775808):ao Tryz.prog 38 [.agg (aq m),.tree 1 (aX az)] [] (.bJ [.agg (aq (tW m az).1),aaC (tW m az).2]) []:=by
 generalize ak:tW m az=res;unfold tW at ak;have hval:=wx m hb;by_cases hv:df m=0;rotate_left
 ·rw[if_pos hv]at ak;subst ak;refine ao.aD 153 0 [.cell 4 29,.tmp 5] Tryz.func38 ?_;((repeat'(first|refine Vd X0 hval ?_|(refine Xi ?_ ?_<;>try intro ht)|exact Xx|fail)))
  simp(disch:=omega)only[Ac,↓Pc,simprocAttr];exact cZ [] true Px trivial Px Px (Cu _)
 rw[if_neg GC]at ak;rw[hv]at hval;by_cases cI:(az.length:Int)=m.rules;rotate_left
 ·rw[if_pos cI]at ak;subst ak;refine ao.aD 153 0 [.cell 4 29,.tmp 5] Tryz.func38 ?_;((repeat'(first|refine Vd X0 hval ?_|(refine Xi ?_ ?_<;>try intro ht)|exact Xx|fail)))
  simp(disch:=omega)only[Ac,↓Pc,simprocAttr];exact cZ [] true Px trivial Px Px (Cu _)
 rw[if_neg GC]at ak;have hm:=eK.1 hv;have zx:=hm.cls;have cu:=hm.ae;have aom:=hm.av;unfold iZ at ak;generalize fi:(m.cls.map λl=>l.map (lA az))=Mq at *;generalize uc:(m.ae.filter λp=>eH az p.bz)=Ve at *;generalize yM:(m.av.filter λc=>eH az c.bz)=Vf at *;subst ak;refine ao.aD 153 0 [.cell 4 29,.tmp 5] Tryz.func38 ?_;((repeat'(first|refine Vd X0 hval ?_|(refine Xi ?_ ?_<;>try intro ht)|exact Xx|fail)))
 refine aM (λz:Nat×List (List bU)=>(⟨aw [(1,.tree 1 (aX az)),(2,.ptr 0 0 0),(4,.ptr 1 0 0),(7,.ptr 2 0 0),(8,aaC z.1)],gK m z.2 [] []⟩:St))
  (λz=>z.1<=m.cls.length/\z.2.length=z.1/\z.2++(m.cls.drop z.1).map (λl=>l.map (lA az))=Mq) (λz=>m.cls.length-z.1) (0,[]) ⟨aI _,rfl,fi⟩ (by
   refine aF.trans (aF.ni 2 0 1 rfl rfl Px) ?_;refine aF.trans (aF.ni 2 1 4 rfl rfl Px) ?_;refine aF.trans (aF.ni 2 2 4 rfl rfl Px) ?_;unfold gK;exact Xv X0) ?_
 rintro⟨i,cls⟩⟨hi,cm,cE⟩Ql an ar;dsimp only at hi cm cE ⊢;unfold gK;by_cases hi':i<m.cls.length
 ·have hd:=cP m.cls i default hi';have qP:=ay (d:=(default:List bU)) hi';have s6:=hm.opt _ qP;generalize e7:m.cls.getD i default=l at *;rw[hd,dg]at cE;generalize xY:l.map (lA az)=Mr at *;((repeat'(first|refine Va @e7 ?_|(refine Xi ?_ ?_<;>try intro ht)|exact Xx|fail)))
  refine aM (λz:Nat×List bU=>(⟨aw [(1,.tree 1 (aX az)),(2,.ptr 0 0 0),(4,.ptr 1 0 0),(7,.ptr 2 0 0),(8,aaC i),(9,.ref 6 6 0 z.2.length),(10,aaC z.1)],gK m cls [] []++[.arr 6 (rowsOf cQ z.2)]⟩:St))
   (λz=>z.1<=l.length/\z.2.length=z.1/\z.2++(l.drop z.1).map (lA az)=Mr) (λz=>l.length-z.1) (0,[]) ⟨aI _,rfl,xY⟩ (by
    refine aF.trans (aF.nil 9 6 (by simp only[Kc,simprocAttr]) Px) ?_;unfold gK;exact Xv X0) ?_
  rintro⟨k,ol⟩⟨iO,fZ,vp⟩cJ ba bd;dsimp only at iO fZ vp ⊢;unfold gK;simp only[dS,dY];by_cases aK:k<l.length
  ·have wC:=cP l k default aK;have fj:=ay (d:=(default:bU)) aK;obtain⟨lN,u4⟩:=U' hm qP fj;generalize kY:l.getD k default=o at *;rw[wC,dg]at vp;generalize Bt:lA az o=ko at *;generalize ek:(o.ch.filter λc=>eH az c.1)=amY;((repeat'(first|refine Va (X2 @e7 @kY) ?_|(refine Xi ?_ ?_<;>try intro ht)|exact Xx|fail)))
   refine aM (λz:Nat×List (Int×Int)=>(⟨aw [(1,.tree 1 (aX az)),(2,.ptr 0 0 0),(4,.ptr 1 0 0),(7,.ptr 2 0 0),(8,aaC i),(9,.ref 6 6 0 ol.length),(10,aaC k),(11,.ptr 7 0 0),(12,.tree 2 (rowsOf aL o.ch)),(13,aaC z.1)],
     gK m cls [] []++[.arr 6 (rowsOf cQ ol),.var [aaC o.wk,aaC o.day,aaC o.st,aaC o.len,aaC o.room,.ref 8 2 0 z.2.length],.arr 2 (rowsOf aL z.2)]⟩:St))
    (λz=>z.1<=o.ch.length/\z.2.length<=z.1/\z.2++((o.ch.drop z.1).filter λc=>eH az c.1)=amY) (λz=>o.ch.length-z.1) (0,[]) ⟨aI _,aN _,ek⟩ (by
     refine aF.trans (aF.ni 7 5 2 rfl rfl Px) ?_;unfold gK;exact Xv X0) ?_
   rintro⟨j,ch⟩⟨hj,td,z4⟩lB fQ eV;dsimp only at hj td z4 ⊢;unfold gK;simp only[dS,dY];by_cases db:j<o.ch.length
   ·have qN:=cP o.ch j default db;have amZ:=ay (d:=(default:Int×Int)) db;have nU:=u4 _ amZ;generalize aR:o.ch.getD j default=c at *;rw[qN,uC]at z4;generalize pW:eH az c.1=kb at *;have Gm:az.getD c.1.toNat false=kb:=pW;((repeat'(first|refine Va (X2 @aR @Gm) ?_|(refine Xi ?_ ?_<;>try intro ht)|exact Xx|fail)))
    ·rw[if_pos (by assumption)]at z4;refine fQ _ (j+1,ch++[c]) ⟨PA,aar,by rw[<- z4];simp⟩ PA ?_;have e:=lO (enc:=aL) ch c;simp only[aL]at e;rw[e];unfold gK;simp only[dS,dY];exact Xs false [0,1,2,3,4,5,6,7,10] X0
    ·rw[if_neg (by simp[*])]at z4;refine fQ _ (j+1,ch) ⟨PA,PA,z4⟩ PA ?_;unfold gK;exact Xv X0
   ·((repeat'(first|refine Va X0 ?_|(refine Xi ?_ ?_<;>try intro ht)|exact Xx|fail)))
    rw[cR GC,Dz,g9]at z4;refine eV _ _ rfl ?_;clear fQ eV lB;repeat(refine Xu ?_)
    refine bY (σ':=⟨aw [(1,.tree 1 (aX az)),(2,.ptr 0 0 0),(4,.ptr 1 0 0),(7,.ptr 2 0 0),(8,aaC i),(9,.ref 6 6 0 ol.length),(10,aaC k),(11,.ptr 7 0 0)],
     gK m cls [] []++[.arr 6 (rowsOf cQ ol),.var [aaC o.wk,aaC o.day,aaC o.st,aaC o.len,aaC o.room,.ref 8 2 0 ch.length],.arr 2 (rowsOf aL ch)]⟩) (by unfold gK;exact Xv X0) ?_
    unfold gK;simp only[dS,dY];refine bY (aF.wg 8 7 5 2 rfl rfl (by rw[b8];rfl) (gr _) (kW _)) ?_;refine Va X0 ?_;have adb:lA az o=⟨o.wk,o.day,o.st,o.len,o.room,ch⟩:=by rw[lA,ek,z4]
    refine ba _ (k+1,ol++[ko]) ⟨PA,aar,by rw[<- vp];simp⟩ PA ?_;have e:=lO (enc:=cQ) ol ko;rw[<- Bt,adb]at e;simp only[cQ]at e;rw[e,<- Bt,adb];unfold gK;simp only[dS,dY];exact Xs false [0,1,2,3,4,5,10] X0
  ·((repeat'(first|refine Va @e7 ?_|(refine Xi ?_ ?_<;>try intro ht)|exact Xx|fail)))
   rw[cR GC,kJ,g9]at vp;refine bd _ _ rfl ?_;clear ba bd cJ;repeat(refine Xu ?_)
   refine bY (σ':=⟨aw [(1,.tree 1 (aX az)),(2,.ptr 0 0 0),(4,.ptr 1 0 0),(7,.ptr 2 0 0),(8,aaC i),(9,.tree 6 (rowsOf cQ ol))],gK m cls [] []⟩) (by unfold gK;exact Xs true [0,1,2,3,4,5] X0) ?_;unfold gK;refine Va X0 ?_;refine an _ (i+1,cls++[ol]) ⟨PA,aar,by rw[<- cE,<- vp];simp⟩ PA ?_;have e:=lO (enc:=bu) cls ol;simp only[bu]at e;rw[e];unfold gK;exact Xs false [0,1,2,7,4,5] X0
 ·((repeat'(first|refine Va X0 ?_|(refine Xi ?_ ?_<;>try intro ht)|exact Xx|fail)))
  rw[cR GC,kJ,g9]at cE;refine ar _ _ rfl ?_;clear an ar Ql;repeat(refine Xu ?_)
  refine bY (σ':=⟨aw [(1,.tree 1 (aX az)),(2,.ptr 0 0 0),(4,.ptr 1 0 0),(7,.ptr 2 0 0)],gK m cls [] []⟩) (by unfold gK;exact Xv X0) ?_;unfold gK;refine Va X0 ?_;refine aM (λz:Nat×List Pr=>(⟨aw [(1,.tree 1 (aX az)),(2,.ptr 0 0 0),(4,.ptr 1 0 0),(7,.ptr 2 0 0),(14,aaC z.1)],gK m cls z.2 []⟩:St))
   (λz=>z.1<=m.ae.length/\z.2.length<=z.1/\z.2++((m.ae.drop z.1).filter λp=>eH az p.bz)=Ve) (λz=>m.ae.length-z.1) (0,[]) ⟨aI _,aN _,uc⟩ (by unfold gK;exact Xv X0) ?_
  clear hi hi';rintro⟨i,ae⟩⟨hi,b6,ja⟩Ql an ar;dsimp only at hi b6 ja ⊢;unfold gK;by_cases hi':i<m.ae.length
  ·have hd:=cP m.ae i default hi';have dE:=lT (iA hm.pr _ (ay (d:=(default:Pr)) hi'));generalize aR:m.ae.getD i default=c at *;rw[hd,uC]at ja;generalize pW:eH az c.bz=kb at *;have Gm:az.getD c.bz.toNat false=kb:=pW;((repeat'(first|refine Va (X2 @aR @Gm) ?_|(refine Xi ?_ ?_<;>try intro ht)|exact Xx|fail)))
   ·rw[if_pos (by assumption)]at ja;refine an _ (i+1,ae++[c]) ⟨PA,aar,by rw[<- ja];simp⟩ PA ?_;have e:=lO (enc:=aP) ae c;simp only[aP]at e;rw[e];unfold gK;exact Xs false [0,1,2,3,7,5] X0
   ·rw[if_neg (by simp[*])]at ja;refine an _ (i+1,ae) ⟨PA,PA,ja⟩ PA ?_;unfold gK;exact Xv X0
  ·((repeat'(first|refine Va X0 ?_|(refine Xi ?_ ?_<;>try intro ht)|exact Xx|fail)))
   rw[cR GC,Dz,g9]at ja;refine ar _ _ rfl ?_;clear an ar Ql;repeat(refine Xu ?_)
   refine bY (σ':=⟨aw [(1,.tree 1 (aX az)),(2,.ptr 0 0 0),(4,.ptr 1 0 0),(7,.ptr 2 0 0)],gK m cls ae []⟩) (by unfold gK;exact Xv X0) ?_;unfold gK;refine Va X0 ?_;refine aM (λz:Nat×List Ct=>(⟨aw [(1,.tree 1 (aX az)),(2,.ptr 0 0 0),(4,.ptr 1 0 0),(7,.ptr 2 0 0),(15,aaC z.1)],gK m cls ae z.2⟩:St))
    (λz=>z.1<=m.av.length/\z.2.length<=z.1/\z.2++((m.av.drop z.1).filter λp=>eH az p.bz)=Vf) (λz=>m.av.length-z.1) (0,[]) ⟨aI _,aN _,yM⟩ (by unfold gK;exact Xv X0) ?_
   clear hi hi';rintro⟨i,av⟩⟨hi,b6,sj⟩Ql an ar;dsimp only at hi b6 sj ⊢;unfold gK;by_cases hi':i<m.av.length
   ·have hd:=cP m.av i default hi';have oJ:=lS (hm.ct _ (ay (d:=(default:Ct)) hi'));generalize aR:m.av.getD i default=c at *;rw[hd,uC]at sj;generalize pW:eH az c.bz=kb at *;have Gm:az.getD c.bz.toNat false=kb:=pW;((repeat'(first|refine Va (X2 @aR @Gm) ?_|(refine Xi ?_ ?_<;>try intro ht)|exact Xx|fail)))
    ·rw[if_pos (by assumption)]at sj;refine an _ (i+1,av++[c]) ⟨PA,aar,by rw[<- sj];simp⟩ PA ?_;have e:=lO (enc:=aV) av c;simp only[aV]at e;rw[e];unfold gK;exact Xs false [0,1,2,3,4,7] X0
    ·rw[if_neg (by simp[*])]at sj;refine an _ (i+1,av) ⟨PA,PA,sj⟩ PA ?_;unfold gK;exact Xv X0
   ·((repeat'(first|refine Va X0 ?_|(refine Xi ?_ ?_<;>try intro ht)|exact Xx|fail)))
    rw[cR GC,Dz,g9]at sj;refine ar _ _ rfl ?_;clear an ar Ql;repeat(refine Xu ?_)
    refine bY (σ':=⟨aw [(4,.ptr 1 0 0),(7,.ptr 2 0 0)],gK m cls ae av⟩) (by unfold gK;exact Xv X0) ?_;unfold gK;refine bY (aF.wg 3 2 0 1 rfl rfl (by rw[b8];rfl) (gr _) (kW _)) ?_;refine bY (aF.wg 4 2 1 4 rfl rfl (by rw[b8];rfl) (gr _) (kW _)) ?_;refine bY (aF.wg 5 2 2 4 rfl rfl (by rw[b8];rfl) (gr _) (kW _)) ?_;refine Vb X0 ?_;simp(disch:=omega)only[Ac,↓Pc,simprocAttr];rw[<- cE,<- ja,<- sj];exact aE rfl rfl
end T

