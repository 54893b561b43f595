import Derived.Test.YtfoopmojjjpapaaGreatX23
set_option linter.all false
set_option maxHeartbeats 0
set_option maxRecDepth 20000
open Nat renaming zero_le→aT,lt_or_ge→dE,reduceBEq→qW
open Bool renaming true_or→xI,false_or→pS,eq_iff_iff→nS,and_eq_true→aZ,or_eq_true→kG,not_eq_true'→kH,false_eq_true→iS,true_and→iu,not_false→mK,not_true→lI
open List renaming drop_eq_nil_of_le→jr,any_nil→E4
open Go Go.Am Go.Proofs
namespace T
def ahV(m:ah)(hm:MB m):Holds Tryz.prog 60 [.agg (ao m)] [] (.lit (.bool (!sQ m))) []:=by
 have sR:=hm.cls;have uk:=hm.ae;have L0:=hm.aC;unfold sQ;generalize xl:m.cls.any (λl=>decide (24<l.length))=b;refine Holds.aK 44 0 [.tmp 2] Tryz.func60 ?_;refine Vb X0 ?_;refine aU (λi:Nat=>(⟨an [(1,.ptr 0 0 0),(3,N0 i)],[.var (ao m)]⟩:St)) (λi=>i<=m.cls.length/\(m.cls.drop i).any (λl=>decide (24<l.length))=b) (λi=>m.cls.length-i) 0 ⟨aT _,xl⟩ (Xv X0) ?_;rintro i⟨hi,hr⟩Ql ak ar;by_cases aq:i<m.cls.length
 ·have jh:=hm.opt _ (aG (d:=(default:List cg)) aq);rw[C9 aq]at hr;generalize fh:m.cls.getD i default=l at *;((repeat'(first|refine Va @fh ?_|(refine Xi ?_ ?_<;>try intro ht)|exact Xx|fail)))
  ·rw[decide_eq_true (p:=24<l.length) Ix,xI]at hr;subst hr;refine Vb X0 ?_;exact aS rfl Iy
  ·rw[decide_eq_false (p:=24<l.length) Ix,pS]at hr;exact ak _ (i+1) ⟨Ix,hr⟩ Ix (Xv X0)
 ·rw[jr Ix,E4]at hr;subst hr;((repeat'(first|refine Va X0 ?_|(refine Xi ?_ ?_<;>try intro ht)|exact Xx|fail)))
  refine ar _ _ rfl ?_;clear ak ar Ql;repeat(refine Xu ?_)
  ((repeat'(first|refine Vb X0 ?_|(refine V2 X0 ?_ ?_<;>try with_reducible intro hb)|fail)))
  all_goals refine aS rfl ?_
  all_goals(refine congrArg (λb=>AV.lit (Value.bool b)) ?_;rw[nS];simp only[or_true,true_or,or_false,false_or,decide_eq_true_eq,beq_iff_eq,bne_iff_ne,aZ,kG,kH,decide_eq_false_iff_not,iS,reduceCtorEq,iff_true,iff_false,true_iff,false_iff,eq_self];omega)
def ahW(m:ah)(k:Nat)(hk:k<m.ae.length)(hp:∀ p∈m.ae,p.ax.length<9223372036854775808)(hm:∀ l∈m.cls,l.length<=24)(hl:m.cls.length<=24)(dD:m.ae.length<9223372036854775808):
  Holds Tryz.prog 63 [.agg (ao m),N0 k] [] (.lit (.bool (gB m (m.ae.getD k default)&&(decide (k=0)||decide (mX (m.ae.getD (k-1) default) (m.ae.getD k default)<0))))) []:=by
 have eJ:((k:Int)-1).toNat=k-1:=Ix;have uM:=hp _ (aG (d:=(default:Pr)) hk);generalize cu:m.ae.getD k default=p at *;generalize YK:m.ae.getD (k-1) default=q at *;have hg:∀ i,(m.cls.getD i default).length<=24:=λi=>by
  rcases dE i m.cls.length with h|h
  ·exact hm _ (aG h)
  ·rw[List.getD_eq_getElem?_getD,List.getElem?_eq_none h];decide
 have h1:=hg p.fst.toNat;have h2:=hg p.snd.toNat;have hmul:(0:Int)<=(m.cls.getD p.fst.toNat default).length*(m.cls.getD p.snd.toNat default).length/\((m.cls.getD p.fst.toNat default).length:Int)*(m.cls.getD p.snd.toNat default).length<=24*24:=⟨Int.mul_nonneg Ix Ix,Int.mul_le_mul Ix Ix Ix Ix⟩;have ahX:decide (mX q p<0)=(decide (q.dL<p.dL)||decide (q.dL=p.dL)&&(decide (q.fst<p.fst)||decide (q.fst=p.fst)&&decide (q.snd<p.snd))):=by
  rw[nS];simp only[decide_eq_true_eq,kG,aZ,Kt]
 have hru:=Kf m p.dL;rw[ahX];unfold gB;generalize xl:p.ax.any oB=bad;generalize wZ:((m.cls.getD p.fst.toNat default).length:Int)*(m.cls.getD p.snd.toNat default).length=mm at *;generalize hD:decide (0<=p.fst/\p.fst<p.snd/\p.snd<m.cls.length/\(p.ax.length:Int)=mm)=D;generalize hO:(decide (q.dL<p.dL)||decide (q.dL=p.dL)&&(decide (q.fst<p.fst)||decide (q.fst=p.fst)&&decide (q.snd<p.snd)))=O;refine Holds.aK 114 0 [.tmp 4] Tryz.func63 ?_;((repeat'(first|refine Vd (X2 @cu @wZ) hru ?_|(refine V2 (X2 @cu @wZ) ?_ ?_<;>try with_reducible intro hb)|(refine Xi ?_ ?_<;>try intro ht)|exact Xx|fail)))
 all_goals try(refine aS rfl ?_;first|(rw[hb];rfl)|(rw[show D=false by rw[<- hD];exact decide_eq_false Ix];simp;done))
 have L1:D=true:=by rw[<- hD];exact decide_eq_true Ix
 subst L1;have DW:jA m.rules p.dL=true:=by assumption
 refine aU (λi:Nat=>(⟨an [(1,N0 k),(2,.ptr 0 0 0),(5,.ptr 1 0 0),(6,N0 i)],[.var (ao m),.var (aH p)]⟩:St)) (λi=>i<=p.ax.length/\(p.ax.drop i).any oB=bad) (λi=>p.ax.length-i) 0 ⟨aT _,xl⟩ (Xv X0) ?_;rintro i⟨hi,hr⟩Ql ak ar;by_cases aq:i<p.ax.length
 ·rw[j2 p.ax i 0 aq,List.any_cons]at hr;generalize cW:p.ax.getD i 0=x at *;((repeat'(first|refine Vc @cW (Ke x) ?_|(refine V2 @cW ?_ ?_<;>try with_reducible intro hb)|(refine Xi ?_ ?_<;>try intro ht)|exact Xx|fail)))
  ·rw[show oB x=true by simp[oB, *],xI]at hr;subst hr;refine Vb X0 ?_;exact aS rfl Iy
  ·rw[show oB x=false by simp[oB, *],pS]at hr;exact ak _ (i+1) ⟨Ix,hr⟩ Ix (Xs false [0,1] X0)
  ·rw[show oB x=false by simp[oB, *],pS]at hr;exact ak _ (i+1) ⟨Ix,hr⟩ Ix (Xs false [0,1] X0)
 ·rw[jr Ix,E4]at hr;subst hr;((repeat'(first|refine Va X0 ?_|(refine V2 X0 ?_ ?_<;>try with_reducible intro hb)|(refine Xi ?_ ?_<;>try intro ht)|exact Xx|fail)))
  refine ar _ _ rfl ?_;clear ak ar Ql;repeat(refine Xu ?_)
  ((repeat'(first|refine Vb (X2 @YK @eJ) ?_|(refine Xi ?_ ?_<;>try intro ht)|fail)))
  all_goals refine aS rfl ?_
  all_goals rw[DW,iu,iu]
  ·rw[decide_eq_true (p:=k=0) Ix];simp
  all_goals rw[decide_eq_false (p:=k=0) Ix,<- hO]
  all_goals(refine congrArg (λb=>AV.lit (Value.bool b)) ?_;rw[nS];simp only[pS,mK,true_and,decide_eq_true_eq,beq_iff_eq,bne_iff_ne,aZ,kG,kH,decide_eq_false_iff_not,iS,reduceCtorEq,iff_true,iff_false,true_iff,false_iff,eq_self];omega)
def ahZ(m:ah)(c:Ct)(hc:c.aY.length<9223372036854775808):Holds Tryz.prog 64 [.agg (ao m),.agg (db c)] [] (.lit (.bool (iV m c))) []:=by
 have J':=Kf m c.dL;have gr:=Ke c.bX;generalize au:iV m c=res;unfold iV at au;generalize hD:decide (0<=c.most/\c.most<=1048576)=D at *;refine Holds.aK 85 0 [.tmp 4] Tryz.func64 ?_;((repeat'(first|refine Vd X0 (X2 J' gr) ?_|(refine V2 X0 ?_ ?_<;>try with_reducible intro hb)|(refine Xi ?_ ?_<;>try intro ht)|exact Xx|fail)))
 all_goals try(refine aS rfl ?_;first|(rw[<- au,hb];rfl)|(rw[<- au,show D=false by rw[<- hD];exact decide_eq_false Ix];simp;done)|(rw[<- au,ht];simp;done))
 have L1:D=true:=by rw[<- hD];exact decide_eq_true Ix
 subst L1;have eP:(jA m.rules c.dL&&true&&jk c.bX)=true:=by simp[*]
 rw[eP,iu]at au;refine aU (λk:Nat=>(⟨an [(2,.ptr 0 0 0),(3,.ptr 1 0 0),(5,N0 k)],[.var (ao m),.var (db c)]⟩:St)) (λk=>k<=c.aY.length/\er m (qw c.aY k) (c.aY.drop k)=res) (λk=>c.aY.length-k) 0 ⟨aT _,au⟩ (Xv X0) ?_;rintro k⟨hk,hr⟩Ql ak ar;by_cases ba:k<c.aY.length
 ·have hd:=j2 c.aY k default ba;generalize bc:c.aY.getD k default=x at *;rw[hd,QX]at hr;have eJ:((k:Int)-1).toNat=k-1:=Ix;generalize cu:c.aY.getD (k-1) default=y at *;generalize bI:jl m x.cls x.opt=ob at *;have l':=TF m x.cls x.opt;rw[bI]at l';generalize hW:decide (1<=x.wt/\x.wt<=1000)=wb at *;generalize hO:decide (um y x<0)=O at *;have YL:O=true↔y.cls<x.cls\/(y.cls=x.cls/\y.opt<x.opt):=by rw[<- hO,decide_eq_true_eq,Gy]
  ((repeat'(first|refine Vc (X3 @bc @cu @eJ) l' ?_|(refine V2 (X3 @bc @cu @eJ) ?_ ?_<;>try with_reducible intro hb)|(refine Xi ?_ ?_<;>try intro ht)|exact Xx|fail)))
  iterate 5
   ·obtain rfl:res=false:=by
     rw[<- hr];first
      | (rw[show ob=false by assumption];rfl)
      | (rw[show wb=false by rw[<- hW];exact decide_eq_false Ix];simp;done)
      | (rw[decide_eq_false (p:=k=0) Ix,show O=false from Bool.eq_false_iff.2 λh=>by have:=YL.1 h;omega];simp;done)
    ((repeat'(first|refine Vb X0 ?_|fail)))
    exact aS rfl rfl
  all_goals
   refine ak _ (k+1) ⟨Ix,?_⟩ Ix (Xs false [0,1] X0);rw[wY,bc,<- hr,show ob=true by assumption,show wb=true by rw[<- hW];exact decide_eq_true Ix];first
    | (rw[YL.2 Ix];simp;done)
    | (rw[decide_eq_true (p:=k=0) Ix];simp;done)
 ·rw[jr Ix,er]at hr;subst hr;((repeat'(first|refine Va X0 ?_|(refine Xi ?_ ?_<;>try intro ht)|exact Xx|fail)))
  refine ar _ _ rfl ?_;clear ak ar Ql;repeat(refine Xu ?_)
  refine Vb X0 ?_;exact aS rfl rfl
def LA(m:ah)(hm:MB m):Holds Tryz.prog 34 [.agg (ao m)] [] (N0 (jO m)) []:=by
 generalize au:jO m=res;unfold jO at au;have sR:=hm.cls;have uk:=hm.ae;have L0:=hm.aC;have YM:=ahV m hm;generalize rG:sQ m=lb at *;cases lb;rotate_left
 ·rw[if_pos rfl]at au;subst au;refine Holds.aK 105 0 [.tmp 2] Tryz.func34 ?_;((repeat'(first|refine Vd @lI YM ?_|(refine Xi ?_ ?_<;>try intro ht)|exact Xx|fail)))
  all_goals first|exact aS rfl rfl|(exfalso;simp at *;done)
 rw[if_neg Iy]at au;have aN:m.cls.length<=24/\∀ l∈m.cls,l.length<=24:=by
  have h:=rG;unfold sQ at h;rw[decide_eq_false_iff_not]at h;refine⟨Ix,λl hl=>?_⟩;rcases dE 24 l.length with h1|h1
  ·exact absurd (.inr (.inl (List.any_eq_true.2 ⟨l,hl,by simpa using h1⟩))) h
  ·exact h1
 generalize h1:(m.cls.any λl=>l.any λo=>!eh m.rules none o.ch)=b1 at *;refine Holds.aK 105 0 [.tmp 2] Tryz.func34 ?_;((repeat'(first|refine Vd @mK YM ?_|(refine Xi ?_ ?_<;>try intro ht)|exact Xx|fail)))
 refine aU (λi:Nat=>(⟨an [(1,.ptr 0 0 0),(3,N0 i)],[.var (ao m)]⟩:St)) (λi=>i<=m.cls.length/\((m.cls.drop i).any λl=>l.any λo=>!eh m.rules none o.ch)=b1) (λi=>m.cls.length-i) 0 ⟨aT _,h1⟩ (Xv X0) ?_;rintro i⟨hi,hr⟩Ql ak ar;by_cases aq:i<m.cls.length
 ·have L3:=aG (d:=(default:List cg)) aq;have mV:=hm.opt _ L3;have bG:=hm.ch _ L3;have uH:=aN.2 _ L3;rw[C9 aq]at hr;generalize fh:m.cls.getD i default=l at *;generalize L4:((m.cls.drop (i+1)).any λl=>l.any λo=>!eh m.rules none o.ch)=rest at *;((repeat'(first|refine Va X0 ?_|(refine Xi ?_ ?_<;>try intro ht)|exact Xx|fail)))
  refine aU (λk:Nat=>(⟨an [(1,.ptr 0 0 0),(3,N0 i),(4,N0 k)],[.var (ao m)]⟩:St)) (λk=>k<=l.length/\(((l.drop k).any λo=>!eh m.rules none o.ch)||rest)=b1) (λk=>l.length-k) 0 ⟨aT _,hr⟩ (Xv X0) ?_;clear hr;rintro k⟨hk,hr⟩c7 br bx;by_cases ba:k<l.length
  ·have fJ:=aG (d:=(default:cg)) ba;have ng:=bG _ fJ;rw[C9 ba]at hr;generalize tv:l.getD k default=o at *;generalize YN:((l.drop (k+1)).any λo=>!eh m.rules none o.ch)=ah0 at *;((repeat'(first|refine Va (X2 @fh @tv) ?_|(refine Xi ?_ ?_<;>try intro ht)|exact Xx|fail)))
   refine aU (λj:Nat=>(⟨an [(1,.ptr 0 0 0),(3,N0 i),(4,N0 k),(5,.tree 2 (rowsOf dm o.ch)),(6,N0 j)],[.var (ao m)]⟩:St)) (λj=>j<=o.ch.length/\(!eh m.rules (qw o.ch j) (o.ch.drop j)||ah0||rest)=b1) (λj=>o.ch.length-j) 0 ⟨aT _,hr⟩ (Xv X0) ?_;clear hr;rintro j⟨hj,hr⟩mC gG fI;by_cases fe:j<o.ch.length
   ·have hd:=j2 o.ch j default fe;generalize bc:o.ch.getD j default=c at *;rw[hd,QV]at hr;have eJ:((j:Int)-1).toNat=j-1:=Ix;generalize cu:o.ch.getD (j-1) default=q at *;have cI:=Kf m c.1;generalize Dk:jA m.rules c.1=rb at *;have dD:=Ke c.2;generalize dO:jk c.2=pb at *;((repeat'(first|refine Vc (X3 @bc @cu @eJ) (X2 cI dD) ?_|(refine V2 (X3 @bc @cu @eJ) ?_ ?_<;>try with_reducible intro hb)|(refine Xi ?_ ?_<;>try intro ht)|exact Xx|fail)))
    iterate 3
     ·obtain rfl:b1=true:=by
       rw[<- hr];first
        | (rw[show rb=false by assumption];rfl)
        | (rw[show pb=false by assumption];simp;done)
        | (rw[decide_eq_false (p:=j=0) Ix,decide_eq_false (p:=q.1<c.1) Ix];simp;done)
      rw[if_pos rfl]at au;repeat(refine Xu ?_)
      ((repeat'(first|refine Vb X0 ?_|fail)))
      exact aS rfl (by rw[au])
    all_goals
     refine gG _ (j+1) ⟨Ix,?_⟩ Ix (Xv X0);rw[wY,bc,<- hr,show rb=true by assumption,show pb=true by assumption];first
      | (rw[decide_eq_true (p:=q.1<c.1) Ix];simp;done)
      | (rw[decide_eq_true (p:=j=0) Ix];simp;done)
   ·rw[jr Ix,eh]at hr;simp only[lI,pS]at hr;((repeat'(first|refine Va X0 ?_|(refine Xi ?_ ?_<;>try intro ht)|exact Xx|fail)))
    refine fI _ _ rfl ?_;clear gG fI mC;repeat(refine Xu ?_)
    refine Va X0 ?_;exact br _ (k+1) ⟨Ix,by rw[YN];exact hr⟩ Ix (Xv X0)
  ·rw[jr Ix,E4,pS]at hr;((repeat'(first|refine Va @fh ?_|(refine Xi ?_ ?_<;>try intro ht)|exact Xx|fail)))
   refine bx _ _ rfl ?_;clear br bx c7;repeat(refine Xu ?_)
   refine Va X0 ?_;exact ak _ (i+1) ⟨Ix,by rw[L4];exact hr⟩ Ix (Xv X0)
 rw[jr Ix,E4]at hr;subst hr;rw[if_neg Iy]at au;((repeat'(first|refine Va X0 ?_|(refine Xi ?_ ?_<;>try intro ht)|exact Xx|fail)))
 refine ar _ _ rfl ?_;clear ak ar Ql;clear hi aq;repeat(refine Xu ?_)
 refine Vb X0 ?_;refine aU (λk:Nat=>(⟨an [(1,.ptr 0 0 0),(7,N0 k)],[.var (ao m)]⟩:St)) (λk=>k<=m.ae.length/\fj m none m.ae=fj m (qw m.ae k) (m.ae.drop k)) (λk=>m.ae.length-k) 0 ⟨aT _,rfl⟩ (Xv X0) ?_;rintro k⟨hk,hr⟩Ql ak ar;by_cases ba:k<m.ae.length
 ·have hd:=j2 m.ae k default ba;have gr:=ahW m k ba hm.ax aN.2 aN.1 hm.ae;rw[hd,QY]at hr;generalize (gB m (m.ae.getD k default)&&(decide (k=0)||decide (mX (m.ae.getD (k-1) default) (m.ae.getD k default)<0)))=pb at *;((repeat'(first|refine Vc X0 gr ?_|(refine Xi ?_ ?_<;>try intro ht)|exact Xx|fail)))
  ·obtain rfl:pb=false:=by assumption
   rw[Bool.false_and]at hr;rw[if_pos hr]at au;subst au;refine Vb X0 ?_;exact aS rfl rfl
  ·obtain rfl:pb=true:=by assumption
   rw[iu]at hr;exact ak _ (k+1) ⟨Ix,by rw[wY];exact hr⟩ Ix (Xv X0)
 rw[jr Ix,fj]at hr;rw[if_neg (by rw[hr];simp)]at au;((repeat'(first|refine Va X0 ?_|(refine Xi ?_ ?_<;>try intro ht)|exact Xx|fail)))
 refine ar _ _ rfl ?_;clear ak ar Ql;clear hr hk ba;repeat(refine Xu ?_)
 refine Vb X0 ?_;generalize h2:(m.aC.any λc=>!iV m c)=b2 at *;refine aU (λk:Nat=>(⟨an [(1,.ptr 0 0 0),(8,N0 k)],[.var (ao m)]⟩:St)) (λk=>k<=m.aC.length/\((m.aC.drop k).any λc=>!iV m c)=b2) (λk=>m.aC.length-k) 0 ⟨aT _,h2⟩ (Xv X0) ?_;rintro k⟨hk,hr⟩Ql ak ar;by_cases ba:k<m.aC.length
 ·have jM:=aG (d:=(default:Ct)) ba;have fh:=hm.lk _ jM;rw[C9 ba]at hr;generalize bc:m.aC.getD k default=c at *;have yJ:=ahZ m c fh;generalize iV m c=cb at *;((repeat'(first|refine Vc @bc yJ ?_|(refine Xi ?_ ?_<;>try intro ht)|exact Xx|fail)))
  ·obtain rfl:cb=false:=by assumption
   simp only[mK,xI]at hr;rw[if_pos hr.symm]at au;subst au;refine Vb X0 ?_;exact aS rfl rfl
  ·obtain rfl:cb=true:=by assumption
   rw[lI,pS]at hr;exact ak _ (k+1) ⟨Ix,hr⟩ Ix (Xv X0)
 rw[jr Ix,E4]at hr;subst hr;rw[if_neg Iy]at au;subst au;((repeat'(first|refine Va X0 ?_|(refine Xi ?_ ?_<;>try intro ht)|exact Xx|fail)))
 refine ar _ _ rfl ?_;clear ak ar Ql;repeat(refine Xu ?_)
 refine Vb X0 ?_;exact aS rfl rfl
def ah1(xs:List Int)(hl:xs.length<549755813888):Holds Tryz.prog 69 [.tree 1 (ints xs)] [] (.tree 1 (ints xs)) []:=by
 rcases Nat.eq_zero_or_pos xs.length with h|h
 ·obtain rfl:=List.eq_nil_of_length_eq_zero h;refine Holds.empty (pre:=[]) (post:=[]) (λa cap=>?_);rw[List.nil_append];cases a with
  |none =>
   refine Holds.aK 8 0 [.tmp 2] Tryz.func69 ?_;((repeat'(first|refine Vb @Option.isNone_none.{0} ?_|(refine Xi ?_ ?_<;>try intro ht)|exact Xx|fail)))
   all_goals first|(refine j1 [] true NI trivial NI NI ?_;exact bw.nil)|(exfalso;simp at *;done)
  |some ad =>
   refine Holds.aK 8 0 [.tmp 2] Tryz.func69 ?_;refine Jr NI ?_;intro K hK;simp(disch:=omega)only[Ac,↓Pc,simprocAttr];refine hK _ ?_;clear hK K;refine Wk ?_;intro Q hn he;((refine Jr NI ?_);intro K hK;simp(disch:=omega)only[Ac,↓Pc,simprocAttr,Option.isNone_some];skip);(refine hK _ ?_;clear hK K)
   refine PZ (t:=false) (by simp only[sM,Lc,↓reduceIte,Nat.reduceEqDiff,qW]) (λht=>by simp at ht) (λht=>?_);refine PY ?_;refine hn _ ?_;(try clear hn;try clear he;try clear Q;clear ht)
   refine cr (aF.J3 0 1 (by(simp only[sM,uo,Rc,↓reduceIte,Nat.reduceEqDiff,qW,ev,ef,St.put];exact rfl))) ?_;refine Vb (X3 @List.length_nil.{0} @List.append_nil.{0} @List.all_nil.{0}) ?_;refine j1 [] true NI trivial NI NI ?_;exact bw.cG (rows:=[]) rfl Iy rfl (kh NI) Iy
 ·refine Holds.aK 8 0 [.tmp 2] Tryz.func69 ?_;((repeat'(first|refine Vb @Fm ?_|(refine Xi ?_ ?_<;>try intro ht)|exact Xx|fail)))
  exact Xw true [] X0
end T

