import Derived.Test.YtfoopmojjjpapaaGreatX18
set_option linter.all false
set_option maxHeartbeats 0
set_option maxRecDepth 20000
open Nat renaming zero_le→aP,lt_or_ge→dT
open Bool renaming true_or→yu,false_or→oO,eq_iff_iff→mz,and_eq_true→bc,or_eq_true→lQ,not_eq_true'→kq,false_eq_true→jB,true_and→ic,not_false→kP,not_true→iH
open List renaming drop_eq_nil_of_le→jL,any_nil→EC
open Go Go.Am Go.Proofs
namespace T
def ahR(m:ah)(hm:MB m):Holds Tryz.prog 60 [.agg (ao m)] [] (.lit (.bool (!uT m))) []:=by
 have sr:=hm.cls;have uU:=hm.ae;have M4:=hm.aE;unfold uT;generalize yL:m.cls.any (λl=>decide (24<l.length))=b;refine Holds.aM 44 0 [.tmp 2] Tryz.func60 ?_;refine Vb X0 ?_;refine aQ (λi:Nat=>(⟨ar [(1,.ptr 0 0 0),(3,QM i)],[.var (ao m)]⟩:St)) (λi=>i<=m.cls.length/\(m.cls.drop i).any (λl=>decide (24<l.length))=b) (λi=>m.cls.length-i) 0 ⟨aP _,yL⟩ (Xv X0) ?_;rintro i⟨hi,hr⟩Ql ak aq;by_cases au:i<m.cls.length
 ·have gI:=hm.opt _ (aF (d:=(default:List cP)) au);rw[Fl au]at hr;generalize eY:m.cls.getD i default=l at *;((repeat'(first|refine Va @eY ?_|(refine Xi ?_ ?_<;>try intro ht)|exact Xx|fail)))
  ·rw[decide_eq_true (p:=24<l.length) Ey,yu]at hr;subst hr;refine Vb X0 ?_;exact aN rfl G9
  ·rw[decide_eq_false (p:=24<l.length) Ey,oO]at hr;exact ak _ (i+1) ⟨Ey,hr⟩ Ey (Xv X0)
 ·rw[jL Ey,EC]at hr;subst hr;((repeat'(first|refine Va X0 ?_|(refine Xi ?_ ?_<;>try intro ht)|exact Xx|fail)))
  refine aq _ _ rfl ?_;clear ak aq Ql;repeat(refine Xu ?_)
  ((repeat'(first|refine Vb X0 ?_|(refine V2 X0 ?_ ?_<;>try with_reducible intro hb)|fail)))
  all_goals refine aN rfl ?_
  all_goals(refine congrArg (λb=>AV.lit (Value.bool b)) ?_;rw[mz];simp only[or_true,true_or,or_false,false_or,decide_eq_true_eq,beq_iff_eq,bne_iff_ne,bc,lQ,kq,decide_eq_false_iff_not,jB,reduceCtorEq,iff_true,iff_false,true_iff,false_iff,eq_self];omega)
def ahS(m:ah)(k:Nat)(hk:k<m.ae.length)(hp:∀ p∈m.ae,p.aB.length<9223372036854775808)(hm:∀ l∈m.cls,l.length<=24)(hl:m.cls.length<=24)(dG:m.ae.length<9223372036854775808):
  Holds Tryz.prog 63 [.agg (ao m),QM k] [] (.lit (.bool (iC m (m.ae.getD k default)&&(decide (k=0)||decide (oE (m.ae.getD (k-1) default) (m.ae.getD k default)<0))))) []:=by
 have gf:((k:Int)-1).toNat=k-1:=Ey;have wj:=hp _ (aF (d:=(default:Pr)) hk);generalize cu:m.ae.getD k default=p at *;generalize M5:m.ae.getD (k-1) default=q at *;have hg:∀ i,(m.cls.getD i default).length<=24:=λi=>by
  rcases dT i m.cls.length with h|h
  ·exact hm _ (aF h)
  ·rw[List.getD_eq_getElem?_getD,List.getElem?_eq_none h];decide
 have h1:=hg p.fst.toNat;have h2:=hg p.snd.toNat;have hmul:(0:Int)<=(m.cls.getD p.fst.toNat default).length*(m.cls.getD p.snd.toNat default).length/\((m.cls.getD p.fst.toNat default).length:Int)*(m.cls.getD p.snd.toNat default).length<=24*24:=⟨Int.mul_nonneg Ey Ey,Int.mul_le_mul Ey Ey Ey Ey⟩;have ahT:decide (oE q p<0)=(decide (q.ej<p.ej)||decide (q.ej=p.ej)&&(decide (q.fst<p.fst)||decide (q.fst=p.fst)&&decide (q.snd<p.snd))):=by
  rw[mz];simp only[decide_eq_true_eq,lQ,bc,M6]
 have hru:=M7 m p.ej;rw[ahT];unfold iC;generalize yL:p.aB.any p7=bad;generalize yM:((m.cls.getD p.fst.toNat default).length:Int)*(m.cls.getD p.snd.toNat default).length=mm at *;generalize hD:decide (0<=p.fst/\p.fst<p.snd/\p.snd<m.cls.length/\(p.aB.length:Int)=mm)=D;generalize hO:(decide (q.ej<p.ej)||decide (q.ej=p.ej)&&(decide (q.fst<p.fst)||decide (q.fst=p.fst)&&decide (q.snd<p.snd)))=O;refine Holds.aM 114 0 [.tmp 4] Tryz.func63 ?_;((repeat'(first|refine Vd (X2 @cu @yM) hru ?_|(refine V2 (X2 @cu @yM) ?_ ?_<;>try with_reducible intro hb)|(refine Xi ?_ ?_<;>try intro ht)|exact Xx|fail)))
 all_goals try(refine aN rfl ?_;first|(rw[hb];rfl)|(rw[show D=false by rw[<- hD];exact decide_eq_false Ey];simp;done))
 have M8:D=true:=by rw[<- hD];exact decide_eq_true Ey
 subst M8;have Dw:ki m.rules p.ej=true:=by assumption
 refine aQ (λi:Nat=>(⟨ar [(1,QM k),(2,.ptr 0 0 0),(5,.ptr 1 0 0),(6,QM i)],[.var (ao m),.var (aI p)]⟩:St)) (λi=>i<=p.aB.length/\(p.aB.drop i).any p7=bad) (λi=>p.aB.length-i) 0 ⟨aP _,yL⟩ (Xv X0) ?_;rintro i⟨hi,hr⟩Ql ak aq;by_cases au:i<p.aB.length
 ·rw[kR p.aB i 0 au,List.any_cons]at hr;generalize cd:p.aB.getD i 0=x at *;((repeat'(first|refine Vc @cd (M9 x) ?_|(refine V2 @cd ?_ ?_<;>try with_reducible intro hb)|(refine Xi ?_ ?_<;>try intro ht)|exact Xx|fail)))
  ·rw[show p7 x=true by simp[p7, *],yu]at hr;subst hr;refine Vb X0 ?_;exact aN rfl G9
  ·rw[show p7 x=false by simp[p7, *],oO]at hr;exact ak _ (i+1) ⟨Ey,hr⟩ Ey (Xs false [0,1] X0)
  ·rw[show p7 x=false by simp[p7, *],oO]at hr;exact ak _ (i+1) ⟨Ey,hr⟩ Ey (Xs false [0,1] X0)
 ·rw[jL Ey,EC]at hr;subst hr;((repeat'(first|refine Va X0 ?_|(refine V2 X0 ?_ ?_<;>try with_reducible intro hb)|(refine Xi ?_ ?_<;>try intro ht)|exact Xx|fail)))
  refine aq _ _ rfl ?_;clear ak aq Ql;repeat(refine Xu ?_)
  ((repeat'(first|refine Vb (X2 @M5 @gf) ?_|(refine Xi ?_ ?_<;>try intro ht)|fail)))
  all_goals refine aN rfl ?_
  all_goals rw[Dw,ic,ic]
  ·rw[decide_eq_true (p:=k=0) Ey];simp
  all_goals rw[decide_eq_false (p:=k=0) Ey,<- hO]
  all_goals(refine congrArg (λb=>AV.lit (Value.bool b)) ?_;rw[mz];simp only[oO,kP,true_and,decide_eq_true_eq,beq_iff_eq,bne_iff_ne,bc,lQ,kq,decide_eq_false_iff_not,jB,reduceCtorEq,iff_true,iff_false,true_iff,false_iff,eq_self];omega)
def ahV(m:ah)(c:Ct)(hc:c.bd.length<9223372036854775808):Holds Tryz.prog 64 [.agg (ao m),.agg (dz c)] [] (.lit (.bool (jW m c))) []:=by
 have M':=M7 m c.ej;have gj:=M9 c.cA;generalize an:jW m c=res;unfold jW at an;generalize hD:decide (0<=c.most/\c.most<=1048576)=D at *;refine Holds.aM 85 0 [.tmp 4] Tryz.func64 ?_;((repeat'(first|refine Vd X0 (X2 M' gj) ?_|(refine V2 X0 ?_ ?_<;>try with_reducible intro hb)|(refine Xi ?_ ?_<;>try intro ht)|exact Xx|fail)))
 all_goals try(refine aN rfl ?_;first|(rw[<- an,hb];rfl)|(rw[<- an,show D=false by rw[<- hD];exact decide_eq_false Ey];simp;done)|(rw[<- an,ht];simp;done))
 have M8:D=true:=by rw[<- hD];exact decide_eq_true Ey
 subst M8;have da:(ki m.rules c.ej&&true&&jV c.cA)=true:=by simp[*]
 rw[da,ic]at an;refine aQ (λk:Nat=>(⟨ar [(2,.ptr 0 0 0),(3,.ptr 1 0 0),(5,QM k)],[.var (ao m),.var (dz c)]⟩:St)) (λk=>k<=c.bd.length/\eZ m (ss c.bd k) (c.bd.drop k)=res) (λk=>c.bd.length-k) 0 ⟨aP _,an⟩ (Xv X0) ?_;rintro k⟨hk,hr⟩Ql ak aq;by_cases bj:k<c.bd.length
 ·have hd:=kR c.bd k default bj;generalize a6:c.bd.getD k default=x at *;rw[hd,VH]at hr;have gf:((k:Int)-1).toNat=k-1:=Ey;generalize cu:c.bd.getD (k-1) default=y at *;generalize bS:iD m x.cls x.opt=ob at *;have nq:=Na m x.cls x.opt;rw[bS]at nq;generalize hW:decide (1<=x.wt/\x.wt<=1000)=wb at *;generalize hO:decide (wq y x<0)=O at *;have VI:O=true↔y.cls<x.cls\/(y.cls=x.cls/\y.opt<x.opt):=by rw[<- hO,decide_eq_true_eq,Iw]
  ((repeat'(first|refine Vc (X3 @a6 @cu @gf) nq ?_|(refine V2 (X3 @a6 @cu @gf) ?_ ?_<;>try with_reducible intro hb)|(refine Xi ?_ ?_<;>try intro ht)|exact Xx|fail)))
  iterate 5
   ·obtain rfl:res=false:=by
     rw[<- hr];first
      | (rw[show ob=false by assumption];rfl)
      | (rw[show wb=false by rw[<- hW];exact decide_eq_false Ey];simp;done)
      | (rw[decide_eq_false (p:=k=0) Ey,show O=false from Bool.eq_false_iff.2 λh=>by have:=VI.1 h;omega];simp;done)
    ((repeat'(first|refine Vb X0 ?_|fail)))
    exact aN rfl rfl
  all_goals
   refine ak _ (k+1) ⟨Ey,?_⟩ Ey (Xs false [0,1] X0);rw[yN,a6,<- hr,show ob=true by assumption,show wb=true by rw[<- hW];exact decide_eq_true Ey];first
    | (rw[VI.2 Ey];simp;done)
    | (rw[decide_eq_true (p:=k=0) Ey];simp;done)
 ·rw[jL Ey,eZ]at hr;subst hr;((repeat'(first|refine Va X0 ?_|(refine Xi ?_ ?_<;>try intro ht)|exact Xx|fail)))
  refine aq _ _ rfl ?_;clear ak aq Ql;repeat(refine Xu ?_)
  refine Vb X0 ?_;exact aN rfl rfl
def Fk(m:ah)(hm:MB m):Holds Tryz.prog 34 [.agg (ao m)] [] (QM (gv m)) []:=by
 generalize an:gv m=res;unfold gv at an;have sr:=hm.cls;have uU:=hm.ae;have M4:=hm.aE;have VJ:=ahR m hm;generalize xF:uT m=lb at *;cases lb;rotate_left
 ·rw[if_pos rfl]at an;subst an;refine Holds.aM 105 0 [.tmp 2] Tryz.func34 ?_;((repeat'(first|refine Vd @iH VJ ?_|(refine Xi ?_ ?_<;>try intro ht)|exact Xx|fail)))
  all_goals first|exact aN rfl rfl|(exfalso;simp at *;done)
 rw[if_neg G9]at an;have aO:m.cls.length<=24/\∀ l∈m.cls,l.length<=24:=by
  have h:=xF;unfold uT at h;rw[decide_eq_false_iff_not]at h;refine⟨Ey,λl hl=>?_⟩;rcases dT 24 l.length with h1|h1
  ·exact absurd (.inr (.inl (List.any_eq_true.2 ⟨l,hl,by simpa using h1⟩))) h
  ·exact h1
 generalize h1:(m.cls.any λl=>l.any λo=>!eT m.rules none o.ch)=b1 at *;refine Holds.aM 105 0 [.tmp 2] Tryz.func34 ?_;((repeat'(first|refine Vd @kP VJ ?_|(refine Xi ?_ ?_<;>try intro ht)|exact Xx|fail)))
 refine aQ (λi:Nat=>(⟨ar [(1,.ptr 0 0 0),(3,QM i)],[.var (ao m)]⟩:St)) (λi=>i<=m.cls.length/\((m.cls.drop i).any λl=>l.any λo=>!eT m.rules none o.ch)=b1) (λi=>m.cls.length-i) 0 ⟨aP _,h1⟩ (Xv X0) ?_;rintro i⟨hi,hr⟩Ql ak aq;by_cases au:i<m.cls.length
 ·have Nb:=aF (d:=(default:List cP)) au;have nN:=hm.opt _ Nb;have bI:=hm.ch _ Nb;have p8:=aO.2 _ Nb;rw[Fl au]at hr;generalize eY:m.cls.getD i default=l at *;generalize Nc:((m.cls.drop (i+1)).any λl=>l.any λo=>!eT m.rules none o.ch)=rest at *;((repeat'(first|refine Va X0 ?_|(refine Xi ?_ ?_<;>try intro ht)|exact Xx|fail)))
  refine aQ (λk:Nat=>(⟨ar [(1,.ptr 0 0 0),(3,QM i),(4,QM k)],[.var (ao m)]⟩:St)) (λk=>k<=l.length/\(((l.drop k).any λo=>!eT m.rules none o.ch)||rest)=b1) (λk=>l.length-k) 0 ⟨aP _,hr⟩ (Xv X0) ?_;clear hr;rintro k⟨hk,hr⟩cR bg bm;by_cases bj:k<l.length
  ·have gx:=aF (d:=(default:cP)) bj;have lZ:=bI _ gx;rw[Fl bj]at hr;generalize uV:l.getD k default=o at *;generalize VK:((l.drop (k+1)).any λo=>!eT m.rules none o.ch)=ahW at *;((repeat'(first|refine Va (X2 @eY @uV) ?_|(refine Xi ?_ ?_<;>try intro ht)|exact Xx|fail)))
   refine aQ (λj:Nat=>(⟨ar [(1,.ptr 0 0 0),(3,QM i),(4,QM k),(5,.tree 2 (rowsOf bf o.ch)),(6,QM j)],[.var (ao m)]⟩:St)) (λj=>j<=o.ch.length/\(!eT m.rules (ss o.ch j) (o.ch.drop j)||ahW||rest)=b1) (λj=>o.ch.length-j) 0 ⟨aP _,hr⟩ (Xv X0) ?_;clear hr;rintro j⟨hj,hr⟩mH gw fK;by_cases fI:j<o.ch.length
   ·have hd:=kR o.ch j default fI;generalize a6:o.ch.getD j default=c at *;rw[hd,VL]at hr;have gf:((j:Int)-1).toNat=j-1:=Ey;generalize cu:o.ch.getD (j-1) default=q at *;have cV:=M7 m c.1;generalize Fm:ki m.rules c.1=rb at *;have dG:=M9 c.2;generalize dY:jV c.2=pb at *;((repeat'(first|refine Vc (X3 @a6 @cu @gf) (X2 cV dG) ?_|(refine V2 (X3 @a6 @cu @gf) ?_ ?_<;>try with_reducible intro hb)|(refine Xi ?_ ?_<;>try intro ht)|exact Xx|fail)))
    iterate 3
     ·obtain rfl:b1=true:=by
       rw[<- hr];first
        | (rw[show rb=false by assumption];rfl)
        | (rw[show pb=false by assumption];simp;done)
        | (rw[decide_eq_false (p:=j=0) Ey,decide_eq_false (p:=q.1<c.1) Ey];simp;done)
      rw[if_pos rfl]at an;repeat(refine Xu ?_)
      ((repeat'(first|refine Vb X0 ?_|fail)))
      exact aN rfl (by rw[an])
    all_goals
     refine gw _ (j+1) ⟨Ey,?_⟩ Ey (Xv X0);rw[yN,a6,<- hr,show rb=true by assumption,show pb=true by assumption];first
      | (rw[decide_eq_true (p:=q.1<c.1) Ey];simp;done)
      | (rw[decide_eq_true (p:=j=0) Ey];simp;done)
   ·rw[jL Ey,eT]at hr;simp only[iH,oO]at hr;((repeat'(first|refine Va X0 ?_|(refine Xi ?_ ?_<;>try intro ht)|exact Xx|fail)))
    refine fK _ _ rfl ?_;clear gw fK mH;repeat(refine Xu ?_)
    refine Va X0 ?_;exact bg _ (k+1) ⟨Ey,by rw[VK];exact hr⟩ Ey (Xv X0)
  ·rw[jL Ey,EC,oO]at hr;((repeat'(first|refine Va @eY ?_|(refine Xi ?_ ?_<;>try intro ht)|exact Xx|fail)))
   refine bm _ _ rfl ?_;clear bg bm cR;repeat(refine Xu ?_)
   refine Va X0 ?_;exact ak _ (i+1) ⟨Ey,by rw[Nc];exact hr⟩ Ey (Xv X0)
 rw[jL Ey,EC]at hr;subst hr;rw[if_neg G9]at an;((repeat'(first|refine Va X0 ?_|(refine Xi ?_ ?_<;>try intro ht)|exact Xx|fail)))
 refine aq _ _ rfl ?_;clear ak aq Ql;clear hi au;repeat(refine Xu ?_)
 refine Vb X0 ?_;refine aQ (λk:Nat=>(⟨ar [(1,.ptr 0 0 0),(7,QM k)],[.var (ao m)]⟩:St)) (λk=>k<=m.ae.length/\gd m none m.ae=gd m (ss m.ae k) (m.ae.drop k)) (λk=>m.ae.length-k) 0 ⟨aP _,rfl⟩ (Xv X0) ?_;rintro k⟨hk,hr⟩Ql ak aq;by_cases bj:k<m.ae.length
 ·have hd:=kR m.ae k default bj;have gj:=ahS m k bj hm.aB aO.2 aO.1 hm.ae;rw[hd,VN]at hr;generalize (iC m (m.ae.getD k default)&&(decide (k=0)||decide (oE (m.ae.getD (k-1) default) (m.ae.getD k default)<0)))=pb at *;((repeat'(first|refine Vc X0 gj ?_|(refine Xi ?_ ?_<;>try intro ht)|exact Xx|fail)))
  ·obtain rfl:pb=false:=by assumption
   rw[Bool.false_and]at hr;rw[if_pos hr]at an;subst an;refine Vb X0 ?_;exact aN rfl rfl
  ·obtain rfl:pb=true:=by assumption
   rw[ic]at hr;exact ak _ (k+1) ⟨Ey,by rw[yN];exact hr⟩ Ey (Xv X0)
 rw[jL Ey,gd]at hr;rw[if_neg (by rw[hr];simp)]at an;((repeat'(first|refine Va X0 ?_|(refine Xi ?_ ?_<;>try intro ht)|exact Xx|fail)))
 refine aq _ _ rfl ?_;clear ak aq Ql;clear hr hk bj;repeat(refine Xu ?_)
 refine Vb X0 ?_;generalize h2:(m.aE.any λc=>!jW m c)=b2 at *;refine aQ (λk:Nat=>(⟨ar [(1,.ptr 0 0 0),(8,QM k)],[.var (ao m)]⟩:St)) (λk=>k<=m.aE.length/\((m.aE.drop k).any λc=>!jW m c)=b2) (λk=>m.aE.length-k) 0 ⟨aP _,h2⟩ (Xv X0) ?_;rintro k⟨hk,hr⟩Ql ak aq;by_cases bj:k<m.aE.length
 ·have jU:=aF (d:=(default:Ct)) bj;have eY:=hm.mI _ jU;rw[Fl bj]at hr;generalize a6:m.aE.getD k default=c at *;have Dx:=ahV m c eY;generalize jW m c=cb at *;((repeat'(first|refine Vc @a6 Dx ?_|(refine Xi ?_ ?_<;>try intro ht)|exact Xx|fail)))
  ·obtain rfl:cb=false:=by assumption
   simp only[kP,yu]at hr;rw[if_pos hr.symm]at an;subst an;refine Vb X0 ?_;exact aN rfl rfl
  ·obtain rfl:cb=true:=by assumption
   rw[iH,oO]at hr;exact ak _ (k+1) ⟨Ey,hr⟩ Ey (Xv X0)
 rw[jL Ey,EC]at hr;subst hr;rw[if_neg G9]at an;subst an;((repeat'(first|refine Va X0 ?_|(refine Xi ?_ ?_<;>try intro ht)|exact Xx|fail)))
 refine aq _ _ rfl ?_;clear ak aq Ql;repeat(refine Xu ?_)
 refine Vb X0 ?_;exact aN rfl rfl
def ahX{most cA n:Int}(hp:bX cA):Dy (n-most) cA=l7 most cA n:=by
 unfold Dy l7 bX at *;by_cases h:n<=most
 ·rw[if_pos Ey,if_pos h]
 ·rw[if_neg Ey,if_neg h];split
  ·have:cA=1099511627776:=Ey;subst this;omega
  ·rfl
end T

