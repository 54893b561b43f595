import Derived.Test.YtdipcmigdbnheaaGreatX32
set_option linter.all false
set_option maxHeartbeats 0
set_option maxRecDepth 20000
open Nat renaming zero_le→aQ,le_refl→aG
open List renaming map_cons→dJ,cons_append→cW,nil_append→da,filter_cons→qx,drop_eq_nil_of_le→cU,filter_nil→zf,append_nil→gb,map_nil→lX
open Go Go.Am Go.Proofs
namespace T
def eM(m:aj)(cls:List (List br))(ae:List Pr)(ar:List Ct):List Ob :=
 [.var (av m),.var [.lit (.slice none 0 0),.lit (.slice none 0 0),.lit (.slice none 0 0),aa3 0],
  .var [.ref 3 1 0 cls.length,.ref 4 4 0 ae.length,.ref 5 4 0 ar.length,aa3 m.rules],.arr 1 (rowsOf bD cls),.arr 4 (rowsOf bu ae),.arr 4 (rowsOf aK ar)]
def adY(m:aj)(aw:List Bool)(hb:MB m)(hk:aw.length<9223372036854775808):an Tryz.prog 38 [.agg (av m),.tree 1 (aY aw)] [] (.bO [.agg (av (p7 m aw).1),aa3 (p7 m aw).2]) []:=by
 generalize ao:p7 m aw=res;unfold p7 at ao;have hval:=aae m hb;by_cases hv:eJ m=0;rotate_left
 ·rw[if_pos hv]at ao;subst ao;refine an.aF 153 0 [.cell 4 29,.tmp 5] Tryz.func38 ?_;((repeat'(first|refine Vd X0 hval ?_|(refine Xi ?_ ?_<;>try intro ht)|exact Xx|fail)))
  simp(disch:=omega)only[Ac,↓Pc,simprocAttr];exact du [] true aab trivial aab aab (AS _)
 rw[if_neg I6]at ao;rw[hv]at hval;by_cases cr:(aw.length:Int)=m.rules;rotate_left
 ·rw[if_pos cr]at ao;subst ao;refine an.aF 153 0 [.cell 4 29,.tmp 5] Tryz.func38 ?_;((repeat'(first|refine Vd X0 hval ?_|(refine Xi ?_ ?_<;>try intro ht)|exact Xx|fail)))
  simp(disch:=omega)only[Ac,↓Pc,simprocAttr];exact du [] true aab trivial aab aab (AS _)
 rw[if_neg I6]at ao;have hm:=fc.1 hv;have Ar:=hm.cls;have cE:=hm.ae;have afo:=hm.ar;unfold fX at ao;generalize gK:(m.cls.map λl=>l.map (jF aw))=IN at *;generalize w5:(m.ae.filter λp=>dj aw p.aV)=Vj at *;generalize ur:(m.ar.filter λc=>dj aw c.aV)=Vk at *;subst ao;refine an.aF 153 0 [.cell 4 29,.tmp 5] Tryz.func38 ?_;((repeat'(first|refine Vd X0 hval ?_|(refine Xi ?_ ?_<;>try intro ht)|exact Xx|fail)))
 refine aW (λz:Nat×List (List br)=>(⟨ax [(1,.tree 1 (aY aw)),(2,.ptr 0 0 0),(4,.ptr 1 0 0),(7,.ptr 2 0 0),(8,aa3 z.1)],eM m z.2 [] []⟩:St))
  (λz=>z.1<=m.cls.length/\z.2.length=z.1/\z.2++(m.cls.drop z.1).map (λl=>l.map (jF aw))=IN) (λz=>m.cls.length-z.1) (0,[]) ⟨aQ _,rfl,gK⟩ (by
   refine aB.trans (aB.kN 2 0 1 rfl rfl aab) ?_;refine aB.trans (aB.kN 2 1 4 rfl rfl aab) ?_;refine aB.trans (aB.kN 2 2 4 rfl rfl aab) ?_;unfold eM;exact Xv X0) ?_
 rintro⟨i,cls⟩⟨hi,cy,cm⟩Ql aq au;dsimp only at hi cy cm ⊢;unfold eM;by_cases hi':i<m.cls.length
 ·have hd:=cS m.cls i default hi';have qd:=aC (d:=(default:List br)) hi';have vf:=hm.opt _ qd;generalize iT:m.cls.getD i default=l at *;rw[hd,dJ]at cm;generalize yl:l.map (jF aw)=IP at *;((repeat'(first|refine Va @iT ?_|(refine Xi ?_ ?_<;>try intro ht)|exact Xx|fail)))
  refine aW (λz:Nat×List br=>(⟨ax [(1,.tree 1 (aY aw)),(2,.ptr 0 0 0),(4,.ptr 1 0 0),(7,.ptr 2 0 0),(8,aa3 i),(9,.ref 6 6 0 z.2.length),(10,aa3 z.1)],eM m cls [] []++[.arr 6 (rowsOf cw z.2)]⟩:St))
   (λz=>z.1<=l.length/\z.2.length=z.1/\z.2++(l.drop z.1).map (jF aw)=IP) (λz=>l.length-z.1) (0,[]) ⟨aQ _,rfl,yl⟩ (by
    refine aB.trans (aB.nil 9 6 (by simp only[Kc,simprocAttr]) aab) ?_;unfold eM;exact Xv X0) ?_
  rintro⟨k,ol⟩⟨iK,iz,rG⟩eR bX bQ;dsimp only at iK iz rG ⊢;unfold eM;simp only[cW,da];by_cases aJ:k<l.length
  ·have sB:=cS l k default aJ;have dZ:=aC (d:=(default:br)) aJ;obtain⟨og,xU⟩:=Vl hm qd dZ;generalize me:l.getD k default=o at *;rw[sB,dJ]at rG;generalize w6:jF aw o=ko at *;generalize eC:(o.ch.filter λc=>dj aw c.1)=adZ;((repeat'(first|refine Va (X2 @iT @me) ?_|(refine Xi ?_ ?_<;>try intro ht)|exact Xx|fail)))
   refine aW (λz:Nat×List (Int×Int)=>(⟨ax [(1,.tree 1 (aY aw)),(2,.ptr 0 0 0),(4,.ptr 1 0 0),(7,.ptr 2 0 0),(8,aa3 i),(9,.ref 6 6 0 ol.length),(10,aa3 k),(11,.ptr 7 0 0),(12,.tree 2 (rowsOf bz o.ch)),(13,aa3 z.1)],
     eM m cls [] []++[.arr 6 (rowsOf cw ol),.var [aa3 o.wk,aa3 o.day,aa3 o.st,aa3 o.len,aa3 o.room,.ref 8 2 0 z.2.length],.arr 2 (rowsOf bz z.2)]⟩:St))
    (λz=>z.1<=o.ch.length/\z.2.length<=z.1/\z.2++((o.ch.drop z.1).filter λc=>dj aw c.1)=adZ) (λz=>o.ch.length-z.1) (0,[]) ⟨aQ _,aG _,eC⟩ (by
     refine aB.trans (aB.kN 7 5 2 rfl rfl aab) ?_;unfold eM;exact Xv X0) ?_
   rintro⟨j,ch⟩⟨hj,wU,vz⟩lM gw eK;dsimp only at hj wU vz ⊢;unfold eM;simp only[cW,da];by_cases dG:j<o.ch.length
   ·have tF:=cS o.ch j default dG;have ad0:=aC (d:=(default:Int×Int)) dG;have qL:=xU _ ad0;generalize bb:o.ch.getD j default=c at *;rw[tF,qx]at vz;generalize sC:dj aw c.1=kb at *;have Bm:aw.getD c.1.toNat false=kb:=sC;((repeat'(first|refine Va (X2 @bb @Bm) ?_|(refine Xi ?_ ?_<;>try intro ht)|exact Xx|fail)))
    ·rw[if_pos (by assumption)]at vz;refine gw _ (j+1,ch++[c]) ⟨aaK,aaZ,by rw[<- vz];simp⟩ aaK ?_;have e:=jM (enc:=bz) ch c;simp only[bz]at e;rw[e];unfold eM;simp only[cW,da];exact Xs false [0,1,2,3,4,5,6,7,10] X0
    ·rw[if_neg (by simp[*])]at vz;refine gw _ (j+1,ch) ⟨aaK,aaK,vz⟩ aaK ?_;unfold eM;exact Xv X0
   ·((repeat'(first|refine Va X0 ?_|(refine Xi ?_ ?_<;>try intro ht)|exact Xx|fail)))
    rw[cU I6,zf,gb]at vz;refine eK _ _ rfl ?_;clear gw eK lM;repeat(refine Xu ?_)
    refine bP (σ':=⟨ax [(1,.tree 1 (aY aw)),(2,.ptr 0 0 0),(4,.ptr 1 0 0),(7,.ptr 2 0 0),(8,aa3 i),(9,.ref 6 6 0 ol.length),(10,aa3 k),(11,.ptr 7 0 0)],
     eM m cls [] []++[.arr 6 (rowsOf cw ol),.var [aa3 o.wk,aa3 o.day,aa3 o.st,aa3 o.len,aa3 o.room,.ref 8 2 0 ch.length],.arr 2 (rowsOf bz ch)]⟩) (by unfold eM;exact Xv X0) ?_
    unfold eM;simp only[cW,da];refine bP (aB.sk 8 7 5 2 rfl rfl (by rw[bW];rfl) (eF _) (jh _)) ?_;refine Va X0 ?_;have Vm:jF aw o=⟨o.wk,o.day,o.st,o.len,o.room,ch⟩:=by rw[jF,eC,vz]
    refine bX _ (k+1,ol++[ko]) ⟨aaK,aaZ,by rw[<- rG];simp⟩ aaK ?_;have e:=jM (enc:=cw) ol ko;rw[<- w6,Vm]at e;simp only[cw]at e;rw[e,<- w6,Vm];unfold eM;simp only[cW,da];exact Xs false [0,1,2,3,4,5,10] X0
  ·((repeat'(first|refine Va @iT ?_|(refine Xi ?_ ?_<;>try intro ht)|exact Xx|fail)))
   rw[cU I6,lX,gb]at rG;refine bQ _ _ rfl ?_;clear bX bQ eR;repeat(refine Xu ?_)
   refine bP (σ':=⟨ax [(1,.tree 1 (aY aw)),(2,.ptr 0 0 0),(4,.ptr 1 0 0),(7,.ptr 2 0 0),(8,aa3 i),(9,.tree 6 (rowsOf cw ol))],eM m cls [] []⟩) (by unfold eM;exact Xs true [0,1,2,3,4,5] X0) ?_;unfold eM;refine Va X0 ?_;refine aq _ (i+1,cls++[ol]) ⟨aaK,aaZ,by rw[<- cm,<- rG];simp⟩ aaK ?_;have e:=jM (enc:=bD) cls ol;simp only[bD]at e;rw[e];unfold eM;exact Xs false [0,1,2,7,4,5] X0
 ·((repeat'(first|refine Va X0 ?_|(refine Xi ?_ ?_<;>try intro ht)|exact Xx|fail)))
  rw[cU I6,lX,gb]at cm;refine au _ _ rfl ?_;clear aq au Ql;repeat(refine Xu ?_)
  refine bP (σ':=⟨ax [(1,.tree 1 (aY aw)),(2,.ptr 0 0 0),(4,.ptr 1 0 0),(7,.ptr 2 0 0)],eM m cls [] []⟩) (by unfold eM;exact Xv X0) ?_;unfold eM;refine Va X0 ?_;refine aW (λz:Nat×List Pr=>(⟨ax [(1,.tree 1 (aY aw)),(2,.ptr 0 0 0),(4,.ptr 1 0 0),(7,.ptr 2 0 0),(14,aa3 z.1)],eM m cls z.2 []⟩:St))
   (λz=>z.1<=m.ae.length/\z.2.length<=z.1/\z.2++((m.ae.drop z.1).filter λp=>dj aw p.aV)=Vj) (λz=>m.ae.length-z.1) (0,[]) ⟨aQ _,aG _,w5⟩ (by unfold eM;exact Xv X0) ?_
  clear hi hi';rintro⟨i,ae⟩⟨hi,cG,jn⟩Ql aq au;dsimp only at hi cG jn ⊢;unfold eM;by_cases hi':i<m.ae.length
  ·have hd:=cS m.ae i default hi';have ef:=lr (jo hm.pr _ (aC (d:=(default:Pr)) hi'));generalize bb:m.ae.getD i default=c at *;rw[hd,qx]at jn;generalize sC:dj aw c.aV=kb at *;have Bm:aw.getD c.aV.toNat false=kb:=sC;((repeat'(first|refine Va (X2 @bb @Bm) ?_|(refine Xi ?_ ?_<;>try intro ht)|exact Xx|fail)))
   ·rw[if_pos (by assumption)]at jn;refine aq _ (i+1,ae++[c]) ⟨aaK,aaZ,by rw[<- jn];simp⟩ aaK ?_;have e:=jM (enc:=bu) ae c;simp only[bu]at e;rw[e];unfold eM;exact Xs false [0,1,2,3,7,5] X0
   ·rw[if_neg (by simp[*])]at jn;refine aq _ (i+1,ae) ⟨aaK,aaK,jn⟩ aaK ?_;unfold eM;exact Xv X0
  ·((repeat'(first|refine Va X0 ?_|(refine Xi ?_ ?_<;>try intro ht)|exact Xx|fail)))
   rw[cU I6,zf,gb]at jn;refine au _ _ rfl ?_;clear aq au Ql;repeat(refine Xu ?_)
   refine bP (σ':=⟨ax [(1,.tree 1 (aY aw)),(2,.ptr 0 0 0),(4,.ptr 1 0 0),(7,.ptr 2 0 0)],eM m cls ae []⟩) (by unfold eM;exact Xv X0) ?_;unfold eM;refine Va X0 ?_;refine aW (λz:Nat×List Ct=>(⟨ax [(1,.tree 1 (aY aw)),(2,.ptr 0 0 0),(4,.ptr 1 0 0),(7,.ptr 2 0 0),(15,aa3 z.1)],eM m cls ae z.2⟩:St))
    (λz=>z.1<=m.ar.length/\z.2.length<=z.1/\z.2++((m.ar.drop z.1).filter λp=>dj aw p.aV)=Vk) (λz=>m.ar.length-z.1) (0,[]) ⟨aQ _,aG _,ur⟩ (by unfold eM;exact Xv X0) ?_
   clear hi hi';rintro⟨i,ar⟩⟨hi,cG,qc⟩Ql aq au;dsimp only at hi cG qc ⊢;unfold eM;by_cases hi':i<m.ar.length
   ·have hd:=cS m.ar i default hi';have tG:=lp (hm.ct _ (aC (d:=(default:Ct)) hi'));generalize bb:m.ar.getD i default=c at *;rw[hd,qx]at qc;generalize sC:dj aw c.aV=kb at *;have Bm:aw.getD c.aV.toNat false=kb:=sC;((repeat'(first|refine Va (X2 @bb @Bm) ?_|(refine Xi ?_ ?_<;>try intro ht)|exact Xx|fail)))
    ·rw[if_pos (by assumption)]at qc;refine aq _ (i+1,ar++[c]) ⟨aaK,aaZ,by rw[<- qc];simp⟩ aaK ?_;have e:=jM (enc:=aK) ar c;simp only[aK]at e;rw[e];unfold eM;exact Xs false [0,1,2,3,4,7] X0
    ·rw[if_neg (by simp[*])]at qc;refine aq _ (i+1,ar) ⟨aaK,aaK,qc⟩ aaK ?_;unfold eM;exact Xv X0
   ·((repeat'(first|refine Va X0 ?_|(refine Xi ?_ ?_<;>try intro ht)|exact Xx|fail)))
    rw[cU I6,zf,gb]at qc;refine au _ _ rfl ?_;clear aq au Ql;repeat(refine Xu ?_)
    refine bP (σ':=⟨ax [(4,.ptr 1 0 0),(7,.ptr 2 0 0)],eM m cls ae ar⟩) (by unfold eM;exact Xv X0) ?_;unfold eM;refine bP (aB.sk 3 2 0 1 rfl rfl (by rw[bW];rfl) (eF _) (jh _)) ?_;refine bP (aB.sk 4 2 1 4 rfl rfl (by rw[bW];rfl) (eF _) (jh _)) ?_;refine bP (aB.sk 5 2 2 4 rfl rfl (by rw[bW];rfl) (eF _) (jh _)) ?_;refine Vb X0 ?_;simp(disch:=omega)only[Ac,↓Pc,simprocAttr];rw[<- cm,<- jn,<- qc];exact aO rfl rfl
end T

