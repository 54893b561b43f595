import Derived.Test.YtjadfapldkfbpaaGreatX17
set_option linter.all false
set_option maxHeartbeats 0
set_option maxRecDepth 20000
open Nat renaming zero_le→aF,lt_or_ge→fN
open Bool renaming true_or→qg,false_or→lF,eq_iff_iff→mR,and_eq_true→bk,or_eq_true→kB,not_eq_true'→kz,false_eq_true→ju,true_and→eX,not_false→jP,not_true→iZ
open List renaming drop_eq_nil_of_le→cM,any_nil→Hd
open Go Go.Am Go.Proofs
namespace T
def ajN(m:ah)(hm:MB m):an Tryz.prog 74 [.agg (ao m)] [] (.lit (.bool (!tU m))) []:=by
 have rX:=hm.cls;have rW:=hm.ae;have Od:=hm.ax;unfold tU;generalize yq:m.cls.any (λl=>decide (24<l.length))=b;refine an.aC 44 0 [.tmp 2] Tryz.func74 ?_;refine Vb X0 ?_;refine aO (λi:Nat=>(⟨au [(1,.ptr 0 0 0),(3,aaa i)],[.var (ao m)]⟩:St)) (λi=>i<=m.cls.length/\(m.cls.drop i).any (λl=>decide (24<l.length))=b) (λi=>m.cls.length-i) 0 ⟨aF _,yq⟩ (Xv X0) ?_;rintro i⟨hi,hr⟩Ql ak ar;by_cases hi':i<m.cls.length
 ·have jG:=hm.opt _ (aB (d:=(default:List bV)) hi');rw[Ff hi']at hr;generalize dI:m.cls.getD i default=l at *;((repeat'(first|refine Va @dI ?_|(refine Xi ?_ ?_<;>try intro ht)|exact Xx|fail)))
  ·rw[decide_eq_true (p:=24<l.length) G3,qg]at hr;subst hr;refine Vb X0 ?_;exact aE rfl G9
  ·rw[decide_eq_false (p:=24<l.length) G3,lF]at hr;exact ak _ (i+1) ⟨G3,hr⟩ G3 (Xv X0)
 ·rw[cM G3,Hd]at hr;subst hr;((repeat'(first|refine Va X0 ?_|(refine Xi ?_ ?_<;>try intro ht)|exact Xx|fail)))
  refine ar _ _ rfl ?_;clear ak ar Ql;repeat(refine Xu ?_)
  ((repeat'(first|refine Vb X0 ?_|(refine V2 X0 ?_ ?_<;>try with_reducible intro hb)|fail)))
  all_goals refine aE rfl ?_
  all_goals(refine congrArg (λb=>AV.lit (Value.bool b)) ?_;rw[mR];simp only[or_true,true_or,or_false,false_or,decide_eq_true_eq,beq_iff_eq,bne_iff_ne,bk,kB,kz,decide_eq_false_iff_not,ju,reduceCtorEq,iff_true,iff_false,true_iff,false_iff,eq_self];omega)
def ajO(m:ah)(k:Nat)(hk:k<m.ae.length)(hp:∀ p∈m.ae,p.aD.length<9223372036854775808)(hm:∀ l∈m.cls,l.length<=24)(hl:m.cls.length<=24)(dh:m.ae.length<9223372036854775808):
  an Tryz.prog 77 [.agg (ao m),aaa k] [] (.lit (.bool (gL m (m.ae.getD k default)&&(decide (k=0)||decide (o8 (m.ae.getD (k-1) default) (m.ae.getD k default)<0))))) []:=by
 have gv:((k:Int)-1).toNat=k-1:=G3;have JE:=hp _ (aB (d:=(default:Pr)) hk);generalize bL:m.ae.getD k default=p at *;generalize Ol:m.ae.getD (k-1) default=q at *;have hg:∀ i,(m.cls.getD i default).length<=24:=λi=>by
  rcases fN i m.cls.length with h|h
  ·exact hm _ (aB h)
  ·rw[List.getD_eq_getElem?_getD,List.getElem?_eq_none h];decide
 have h1:=hg p.fst.toNat;have h2:=hg p.snd.toNat;have hmul:(0:Int)<=(m.cls.getD p.fst.toNat default).length*(m.cls.getD p.snd.toNat default).length/\((m.cls.getD p.fst.toNat default).length:Int)*(m.cls.getD p.snd.toNat default).length<=24*24:=⟨Int.mul_nonneg G3 G3,Int.mul_le_mul G3 G3 G3 G3⟩;have ajP:decide (o8 q p<0)=(decide (q.bF<p.bF)||decide (q.bF=p.bF)&&(decide (q.fst<p.fst)||decide (q.fst=p.fst)&&decide (q.snd<p.snd))):=by
  rw[mR];simp only[decide_eq_true_eq,kB,bk,Mi]
 have nQ:=Mz m p.bF;rw[ajP];unfold gL;generalize yq:p.aD.any pX=bad;generalize vp:((m.cls.getD p.fst.toNat default).length:Int)*(m.cls.getD p.snd.toNat default).length=mm at *;generalize hD:decide (0<=p.fst/\p.fst<p.snd/\p.snd<m.cls.length/\(p.aD.length:Int)=mm)=D;generalize hO:(decide (q.bF<p.bF)||decide (q.bF=p.bF)&&(decide (q.fst<p.fst)||decide (q.fst=p.fst)&&decide (q.snd<p.snd)))=O;refine an.aC 114 0 [.tmp 4] Tryz.func77 ?_;((repeat'(first|refine Vd (X2 @bL @vp) nQ ?_|(refine V2 (X2 @bL @vp) ?_ ?_<;>try with_reducible intro hb)|(refine Xi ?_ ?_<;>try intro ht)|exact Xx|fail)))
 all_goals try(refine aE rfl ?_;first|(rw[hb];rfl)|(rw[show D=false by rw[<- hD];exact decide_eq_false G3];simp;done))
 have Om:D=true:=by rw[<- hD];exact decide_eq_true G3
 subst Om;have sk:jI m.rules p.bF=true:=by assumption
 refine aO (λi:Nat=>(⟨au [(1,aaa k),(2,.ptr 0 0 0),(5,.ptr 1 0 0),(6,aaa i)],[.var (ao m),.var (aQ p)]⟩:St)) (λi=>i<=p.aD.length/\(p.aD.drop i).any pX=bad) (λi=>p.aD.length-i) 0 ⟨aF _,yq⟩ (Xv X0) ?_;rintro i⟨hi,hr⟩Ql ak ar;by_cases hi':i<p.aD.length
 ·rw[cN p.aD i 0 hi',List.any_cons]at hr;generalize aS:p.aD.getD i 0=x at *;((repeat'(first|refine Vc @aS (Mx x) ?_|(refine V2 @aS ?_ ?_<;>try with_reducible intro hb)|(refine Xi ?_ ?_<;>try intro ht)|exact Xx|fail)))
  ·rw[show pX x=true by simp[pX, *],qg]at hr;subst hr;refine Vb X0 ?_;exact aE rfl G9
  ·rw[show pX x=false by simp[pX, *],lF]at hr;exact ak _ (i+1) ⟨G3,hr⟩ G3 (Xs false [0,1] X0)
  ·rw[show pX x=false by simp[pX, *],lF]at hr;exact ak _ (i+1) ⟨G3,hr⟩ G3 (Xs false [0,1] X0)
 ·rw[cM G3,Hd]at hr;subst hr;((repeat'(first|refine Va X0 ?_|(refine V2 X0 ?_ ?_<;>try with_reducible intro hb)|(refine Xi ?_ ?_<;>try intro ht)|exact Xx|fail)))
  refine ar _ _ rfl ?_;clear ak ar Ql;repeat(refine Xu ?_)
  ((repeat'(first|refine Vb (X2 @Ol @gv) ?_|(refine Xi ?_ ?_<;>try intro ht)|fail)))
  all_goals refine aE rfl ?_
  all_goals rw[sk,eX,eX]
  ·rw[decide_eq_true (p:=k=0) G3];simp
  all_goals rw[decide_eq_false (p:=k=0) G3,<- hO]
  all_goals(refine congrArg (λb=>AV.lit (Value.bool b)) ?_;rw[mR];simp only[lF,jP,true_and,decide_eq_true_eq,beq_iff_eq,bne_iff_ne,bk,kB,kz,decide_eq_false_iff_not,ju,reduceCtorEq,iff_true,iff_false,true_iff,false_iff,eq_self];omega)
def ajQ(m:ah)(c:Ct)(hc:c.aJ.length<9223372036854775808):an Tryz.prog 78 [.agg (ao m),.agg (aV c)] [] (.lit (.bool (iW m c))) []:=by
 have MS:=Mz m c.bF;have ke:=Mx c.b8;generalize aj:iW m c=res;unfold iW at aj;generalize hD:decide (0<=c.most/\c.most<=1048576)=D at *;refine an.aC 85 0 [.tmp 4] Tryz.func78 ?_;((repeat'(first|refine Vd X0 (X2 MS ke) ?_|(refine V2 X0 ?_ ?_<;>try with_reducible intro hb)|(refine Xi ?_ ?_<;>try intro ht)|exact Xx|fail)))
 all_goals try(refine aE rfl ?_;first|(rw[<- aj,hb];rfl)|(rw[<- aj,show D=false by rw[<- hD];exact decide_eq_false G3];simp;done)|(rw[<- aj,ht];simp;done))
 have Om:D=true:=by rw[<- hD];exact decide_eq_true G3
 subst Om;have iV:(jI m.rules c.bF&&true&&jH c.b8)=true:=by simp[*]
 rw[iV,eX]at aj;refine aO (λk:Nat=>(⟨au [(2,.ptr 0 0 0),(3,.ptr 1 0 0),(5,aaa k)],[.var (ao m),.var (aV c)]⟩:St)) (λk=>k<=c.aJ.length/\eE m (mA c.aJ k) (c.aJ.drop k)=res) (λk=>c.aJ.length-k) 0 ⟨aF _,aj⟩ (Xv X0) ?_;rintro k⟨hk,hr⟩Ql ak ar;by_cases aL:k<c.aJ.length
 ·have hd:=cN c.aJ k default aL;generalize aM:c.aJ.getD k default=x at *;rw[hd,TS]at hr;have gv:((k:Int)-1).toNat=k-1:=G3;generalize bL:c.aJ.getD (k-1) default=y at *;generalize a8:eU m x.cls x.opt=ob at *;have l5:=E3 m x.cls x.opt;rw[a8]at l5;generalize hW:decide (1<=x.wt/\x.wt<=1000)=wb at *;generalize hO:decide (vg y x<0)=O at *;have hOd:O=true↔y.cls<x.cls\/(y.cls=x.cls/\y.opt<x.opt):=by rw[<- hO,decide_eq_true_eq,Is]
  ((repeat'(first|refine Vc (X3 @aM @bL @gv) l5 ?_|(refine V2 (X3 @aM @bL @gv) ?_ ?_<;>try with_reducible intro hb)|(refine Xi ?_ ?_<;>try intro ht)|exact Xx|fail)))
  iterate 5
   ·obtain rfl:res=false:=by
     rw[<- hr];first
      | (rw[show ob=false by assumption];rfl)
      | (rw[show wb=false by rw[<- hW];exact decide_eq_false G3];simp;done)
      | (rw[decide_eq_false (p:=k=0) G3,show O=false from Bool.eq_false_iff.2 λh=>by have:=hOd.1 h;omega];simp;done)
    ((repeat'(first|refine Vb X0 ?_|fail)))
    exact aE rfl rfl
  all_goals
   refine ak _ (k+1) ⟨G3,?_⟩ G3 (Xs false [0,1] X0);rw[wy,aM,<- hr,show ob=true by assumption,show wb=true by rw[<- hW];exact decide_eq_true G3];first
    | (rw[hOd.2 G3];simp;done)
    | (rw[decide_eq_true (p:=k=0) G3];simp;done)
 ·rw[cM G3,eE]at hr;subst hr;((repeat'(first|refine Va X0 ?_|(refine Xi ?_ ?_<;>try intro ht)|exact Xx|fail)))
  refine ar _ _ rfl ?_;clear ak ar Ql;repeat(refine Xu ?_)
  refine Vb X0 ?_;exact aE rfl rfl
def Bf(m:ah)(hm:MB m):an Tryz.prog 31 [.agg (ao m)] [] (aaa (ek m)) []:=by
 generalize aj:ek m=res;unfold ek at aj;have rX:=hm.cls;have rW:=hm.ae;have Od:=hm.ax;have aaK:=ajN m hm;generalize vA:tU m=lb at *;cases lb;rotate_left
 ·rw[if_pos rfl]at aj;subst aj;refine an.aC 105 0 [.tmp 2] Tryz.func31 ?_;((repeat'(first|refine Vd @iZ aaK ?_|(refine Xi ?_ ?_<;>try intro ht)|exact Xx|fail)))
  all_goals first|exact aE rfl rfl|(exfalso;simp at *;done)
 rw[if_neg G9]at aj;have bg:m.cls.length<=24/\∀ l∈m.cls,l.length<=24:=by
  have h:=vA;unfold tU at h;rw[decide_eq_false_iff_not]at h;refine⟨G3,λl hl=>?_⟩;rcases fN 24 l.length with h1|h1
  ·exact absurd (.inr (.inl (List.any_eq_true.2 ⟨l,hl,by simpa using h1⟩))) h
  ·exact h1
 generalize h1:(m.cls.any λl=>l.any λo=>!eH m.rules none o.ch)=b1 at *;refine an.aC 105 0 [.tmp 2] Tryz.func31 ?_;((repeat'(first|refine Vd @jP aaK ?_|(refine Xi ?_ ?_<;>try intro ht)|exact Xx|fail)))
 refine aO (λi:Nat=>(⟨au [(1,.ptr 0 0 0),(3,aaa i)],[.var (ao m)]⟩:St)) (λi=>i<=m.cls.length/\((m.cls.drop i).any λl=>l.any λo=>!eH m.rules none o.ch)=b1) (λi=>m.cls.length-i) 0 ⟨aF _,h1⟩ (Xv X0) ?_;rintro i⟨hi,hr⟩Ql ak ar;by_cases hi':i<m.cls.length
 ·have qW:=aB (d:=(default:List bV)) hi';have fX:=hm.opt _ qW;have bY:=hm.ch _ qW;have sh:=bg.2 _ qW;rw[Ff hi']at hr;generalize dI:m.cls.getD i default=l at *;generalize On:((m.cls.drop (i+1)).any λl=>l.any λo=>!eH m.rules none o.ch)=rest at *;((repeat'(first|refine Va X0 ?_|(refine Xi ?_ ?_<;>try intro ht)|exact Xx|fail)))
  refine aO (λk:Nat=>(⟨au [(1,.ptr 0 0 0),(3,aaa i),(4,aaa k)],[.var (ao m)]⟩:St)) (λk=>k<=l.length/\(((l.drop k).any λo=>!eH m.rules none o.ch)||rest)=b1) (λk=>l.length-k) 0 ⟨aF _,hr⟩ (Xv X0) ?_;clear hr;rintro k⟨hk,hr⟩cL a7 ba;by_cases aL:k<l.length
  ·have fq:=aB (d:=(default:bV)) aL;have fC:=bY _ fq;rw[Ff aL]at hr;generalize kY:l.getD k default=o at *;generalize aaL:((l.drop (k+1)).any λo=>!eH m.rules none o.ch)=ajR at *;((repeat'(first|refine Va (X2 @dI @kY) ?_|(refine Xi ?_ ?_<;>try intro ht)|exact Xx|fail)))
   refine aO (λj:Nat=>(⟨au [(1,.ptr 0 0 0),(3,aaa i),(4,aaa k),(5,.tree 2 (rowsOf aK o.ch)),(6,aaa j)],[.var (ao m)]⟩:St)) (λj=>j<=o.ch.length/\(!eH m.rules (mA o.ch j) (o.ch.drop j)||ajR||rest)=b1) (λj=>o.ch.length-j) 0 ⟨aF _,hr⟩ (Xv X0) ?_;clear hr;rintro j⟨hj,hr⟩kX fJ eR;by_cases dx:j<o.ch.length
   ·have hd:=cN o.ch j default dx;generalize aM:o.ch.getD j default=c at *;rw[hd,TQ]at hr;have gv:((j:Int)-1).toNat=j-1:=G3;generalize bL:o.ch.getD (j-1) default=q at *;have cZ:=Mz m c.1;generalize E7:jI m.rules c.1=rb at *;have dh:=Mx c.2;generalize dJ:jH c.2=pb at *;((repeat'(first|refine Vc (X3 @aM @bL @gv) (X2 cZ dh) ?_|(refine V2 (X3 @aM @bL @gv) ?_ ?_<;>try with_reducible intro hb)|(refine Xi ?_ ?_<;>try intro ht)|exact Xx|fail)))
    iterate 3
     ·obtain rfl:b1=true:=by
       rw[<- hr];first
        | (rw[show rb=false by assumption];rfl)
        | (rw[show pb=false by assumption];simp;done)
        | (rw[decide_eq_false (p:=j=0) G3,decide_eq_false (p:=q.1<c.1) G3];simp;done)
      rw[if_pos rfl]at aj;repeat(refine Xu ?_)
      ((repeat'(first|refine Vb X0 ?_|fail)))
      exact aE rfl (by rw[aj])
    all_goals
     refine fJ _ (j+1) ⟨G3,?_⟩ G3 (Xv X0);rw[wy,aM,<- hr,show rb=true by assumption,show pb=true by assumption];first
      | (rw[decide_eq_true (p:=q.1<c.1) G3];simp;done)
      | (rw[decide_eq_true (p:=j=0) G3];simp;done)
   ·rw[cM G3,eH]at hr;simp only[iZ,lF]at hr;((repeat'(first|refine Va X0 ?_|(refine Xi ?_ ?_<;>try intro ht)|exact Xx|fail)))
    refine eR _ _ rfl ?_;clear fJ eR kX;repeat(refine Xu ?_)
    refine Va X0 ?_;exact a7 _ (k+1) ⟨G3,by rw[aaL];exact hr⟩ G3 (Xv X0)
  ·rw[cM G3,Hd,lF]at hr;((repeat'(first|refine Va @dI ?_|(refine Xi ?_ ?_<;>try intro ht)|exact Xx|fail)))
   refine ba _ _ rfl ?_;clear a7 ba cL;repeat(refine Xu ?_)
   refine Va X0 ?_;exact ak _ (i+1) ⟨G3,by rw[On];exact hr⟩ G3 (Xv X0)
 rw[cM G3,Hd]at hr;subst hr;rw[if_neg G9]at aj;((repeat'(first|refine Va X0 ?_|(refine Xi ?_ ?_<;>try intro ht)|exact Xx|fail)))
 refine ar _ _ rfl ?_;clear ak ar Ql;clear hi hi';repeat(refine Xu ?_)
 refine Vb X0 ?_;refine aO (λk:Nat=>(⟨au [(1,.ptr 0 0 0),(7,aaa k)],[.var (ao m)]⟩:St)) (λk=>k<=m.ae.length/\fH m none m.ae=fH m (mA m.ae k) (m.ae.drop k)) (λk=>m.ae.length-k) 0 ⟨aF _,rfl⟩ (Xv X0) ?_;rintro k⟨hk,hr⟩Ql ak ar;by_cases aL:k<m.ae.length
 ·have hd:=cN m.ae k default aL;have ke:=ajO m k aL hm.aD bg.2 bg.1 hm.ae;rw[hd,TR]at hr;generalize (gL m (m.ae.getD k default)&&(decide (k=0)||decide (o8 (m.ae.getD (k-1) default) (m.ae.getD k default)<0)))=pb at *;((repeat'(first|refine Vc X0 ke ?_|(refine Xi ?_ ?_<;>try intro ht)|exact Xx|fail)))
  ·obtain rfl:pb=false:=by assumption
   rw[Bool.false_and]at hr;rw[if_pos hr]at aj;subst aj;refine Vb X0 ?_;exact aE rfl rfl
  ·obtain rfl:pb=true:=by assumption
   rw[eX]at hr;exact ak _ (k+1) ⟨G3,by rw[wy];exact hr⟩ G3 (Xv X0)
 rw[cM G3,fH]at hr;rw[if_neg (by rw[hr];simp)]at aj;((repeat'(first|refine Va X0 ?_|(refine Xi ?_ ?_<;>try intro ht)|exact Xx|fail)))
 refine ar _ _ rfl ?_;clear ak ar Ql;clear hr hk aL;repeat(refine Xu ?_)
 refine Vb X0 ?_;generalize h2:(m.ax.any λc=>!iW m c)=b2 at *;refine aO (λk:Nat=>(⟨au [(1,.ptr 0 0 0),(8,aaa k)],[.var (ao m)]⟩:St)) (λk=>k<=m.ax.length/\((m.ax.drop k).any λc=>!iW m c)=b2) (λk=>m.ax.length-k) 0 ⟨aF _,h2⟩ (Xv X0) ?_;rintro k⟨hk,hr⟩Ql ak ar;by_cases aL:k<m.ax.length
 ·have eT:=aB (d:=(default:Ct)) aL;have dI:=hm.mB _ eT;rw[Ff aL]at hr;generalize aM:m.ax.getD k default=c at *;have zH:=ajQ m c dI;generalize iW m c=cb at *;((repeat'(first|refine Vc @aM zH ?_|(refine Xi ?_ ?_<;>try intro ht)|exact Xx|fail)))
  ·obtain rfl:cb=false:=by assumption
   simp only[jP,qg]at hr;rw[if_pos hr.symm]at aj;subst aj;refine Vb X0 ?_;exact aE rfl rfl
  ·obtain rfl:cb=true:=by assumption
   rw[iZ,lF]at hr;exact ak _ (k+1) ⟨G3,hr⟩ G3 (Xv X0)
 rw[cM G3,Hd]at hr;subst hr;rw[if_neg G9]at aj;subst aj;((repeat'(first|refine Va X0 ?_|(refine Xi ?_ ?_<;>try intro ht)|exact Xx|fail)))
 refine ar _ _ rfl ?_;clear ak ar Ql;repeat(refine Xu ?_)
 refine Vb X0 ?_;exact aE rfl rfl
def ahN(m:ah)(plan:List Int)(hb:MB m)(dh:plan.length<9223372036854775808):an Tryz.prog 35 [.agg (ao m),.tree 1 (ints plan)] [] (aaa (pe m plan)) []:=by
 generalize aj:pe m plan=res;rw[afW]at aj;have rX:=hb.cls;have hval:=Bf m hb;refine an.aC 32 0 [.tmp 4] Tryz.func35 ?_;((repeat'(first|refine Vd X0 hval ?_|(refine Xi ?_ ?_<;>try intro ht)|fail)))
 ·rw[if_pos (by assumption)]at aj;exact aE rfl (by rw[aj])
 ·rw[if_neg G3,if_pos G3]at aj;exact aE rfl (by rw[aj])
 rw[if_neg G3,if_neg G3]at aj;refine aO (λi:Nat=>(⟨au [(1,.tree 1 (ints plan)),(2,.ptr 0 0 0),(6,aaa i)],[.var (ao m)]⟩:St)) (λi=>i<=plan.length/\(if AR m i (plan.drop i)=false then 17 else 0)=res) (λi=>plan.length-i) 0 ⟨aF _,aj⟩ (Xv X0) ?_;rintro i⟨hi,hr⟩Ql ak ar;by_cases hi':i<plan.length
 ·have hd:=cN plan i 0 hi';generalize aM:plan.getD i 0=o at *;have l5:=E3 m i o;rw[hd,AR]at hr;generalize eU m i o=ob at *;((repeat'(first|refine Vc @aM l5 ?_|(refine Xi ?_ ?_<;>try intro ht)|exact Xx|fail)))
  ·obtain rfl:ob=false:=by assumption
   refine Vb X0 ?_;exact aE rfl (by rw[<- hr];rfl)
  ·obtain rfl:ob=true:=by assumption
   rw[eX]at hr;exact ak _ (i+1) ⟨G3,hr⟩ G3 (Xv X0)
 ·((repeat'(first|refine Va X0 ?_|(refine Xi ?_ ?_<;>try intro ht)|exact Xx|fail)))
  rw[cM G3,AR]at hr;refine ar _ _ rfl ?_;clear ak ar Ql;repeat(refine Xu ?_)
  refine Vb X0 ?_;exact aE rfl (by rw[<- hr];rfl)
end T

