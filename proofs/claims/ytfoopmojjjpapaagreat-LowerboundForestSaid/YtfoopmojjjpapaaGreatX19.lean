import Derived.Test.YtfoopmojjjpapaaGreatX16
set_option linter.all false
set_option maxHeartbeats 0
set_option maxRecDepth 20000
open Nat renaming zero_le→aS,lt_or_ge→dw
open Bool renaming true_or→xK,false_or→pP,eq_iff_iff→nP,and_eq_true→a7,or_eq_true→kL,not_eq_true'→lg,false_eq_true→jd,true_and→iI,not_false→lG,not_true→km
open List renaming drop_eq_nil_of_le→j9,any_nil→Fx
open Go Go.Am Go.Proofs
namespace T
def ak1(m:aj)(hm:MB m):Holds Tryz.prog 60 [.agg (ay m)] [] (.lit (.bool (!tg m))) []:=by
 have xf:=hm.cls;have xd:=hm.ae;have LA:=hm.aK;unfold tg;generalize xF:m.cls.any (λl=>decide (24<l.length))=b;refine Holds.aQ 44 0 [.tmp 2] Tryz.func60 ?_;refine Vb X0 ?_;refine bd (λi:Nat=>(⟨ar [(1,.ptr 0 0 0),(3,OJ i)],[.var (ay m)]⟩:St)) (λi=>i<=m.cls.length/\(m.cls.drop i).any (λl=>decide (24<l.length))=b) (λi=>m.cls.length-i) 0 ⟨aS _,xF⟩ (Xv X0) ?_;rintro i⟨hi,hr⟩Ql ao ax;by_cases aq:i<m.cls.length
 ·have jt:=hm.opt _ (aF (d:=(default:List dq)) aq);rw[Ew aq]at hr;generalize ic:m.cls.getD i default=l at *;((repeat'(first|refine Va @ic ?_|(refine Xi ?_ ?_<;>try intro ht)|exact Xx|fail)))
  ·rw[decide_eq_true (p:=24<l.length) CZ,xK]at hr;subst hr;refine Vb X0 ?_;exact aW rfl Fl
  ·rw[decide_eq_false (p:=24<l.length) CZ,pP]at hr;exact ao _ (i+1) ⟨CZ,hr⟩ CZ (Xv X0)
 ·rw[j9 CZ,Fx]at hr;subst hr;((repeat'(first|refine Va X0 ?_|(refine Xi ?_ ?_<;>try intro ht)|exact Xx|fail)))
  refine ax _ _ rfl ?_;clear ao ax Ql;repeat(refine Xu ?_)
  ((repeat'(first|refine Vb X0 ?_|(refine V2 X0 ?_ ?_<;>try with_reducible intro hb)|fail)))
  all_goals refine aW rfl ?_
  all_goals(refine congrArg (λb=>AV.lit (Value.bool b)) ?_;rw[nP];simp only[or_true,true_or,or_false,false_or,decide_eq_true_eq,beq_iff_eq,bne_iff_ne,a7,kL,lg,decide_eq_false_iff_not,jd,reduceCtorEq,iff_true,iff_false,true_iff,false_iff,eq_self];omega)
def ak2(m:aj)(k:Nat)(hk:k<m.ae.length)(hp:∀ p∈m.ae,p.aC.length<9223372036854775808)(hm:∀ l∈m.cls,l.length<=24)(hl:m.cls.length<=24)(cM:m.ae.length<9223372036854775808):
  Holds Tryz.prog 63 [.agg (ay m),OJ k] [] (.lit (.bool (iD m (m.ae.getD k default)&&(decide (k=0)||decide (nm (m.ae.getD (k-1) default) (m.ae.getD k default)<0))))) []:=by
 have eJ:((k:Int)-1).toNat=k-1:=CZ;have Ae:=hp _ (aF (d:=(default:Pr)) hk);generalize cg:m.ae.getD k default=p at *;generalize hqq:m.ae.getD (k-1) default=q at *;have hg:∀ i,(m.cls.getD i default).length<=24:=λi=>by
  rcases dw i m.cls.length with h|h
  ·exact hm _ (aF h)
  ·rw[List.getD_eq_getElem?_getD,List.getElem?_eq_none h];decide
 have h1:=hg p.fst.toNat;have h2:=hg p.snd.toNat;have hmul:(0:Int)<=(m.cls.getD p.fst.toNat default).length*(m.cls.getD p.snd.toNat default).length/\((m.cls.getD p.fst.toNat default).length:Int)*(m.cls.getD p.snd.toNat default).length<=24*24:=⟨Int.mul_nonneg CZ CZ,Int.mul_le_mul CZ CZ CZ CZ⟩;have ak3:decide (nm q p<0)=(decide (q.ei<p.ei)||decide (q.ei=p.ei)&&(decide (q.fst<p.fst)||decide (q.fst=p.fst)&&decide (q.snd<p.snd))):=by
  rw[nP];simp only[decide_eq_true_eq,kL,a7,Mw]
 have hru:=MO m p.ei;rw[ak3];unfold iD;generalize xF:p.aC.any pG=bad;generalize xr:((m.cls.getD p.fst.toNat default).length:Int)*(m.cls.getD p.snd.toNat default).length=mm at *;generalize hD:decide (0<=p.fst/\p.fst<p.snd/\p.snd<m.cls.length/\(p.aC.length:Int)=mm)=D;generalize hO:(decide (q.ei<p.ei)||decide (q.ei=p.ei)&&(decide (q.fst<p.fst)||decide (q.fst=p.fst)&&decide (q.snd<p.snd)))=O;refine Holds.aQ 114 0 [.tmp 4] Tryz.func63 ?_;((repeat'(first|refine Vd (X2 @cg @xr) hru ?_|(refine V2 (X2 @cg @xr) ?_ ?_<;>try with_reducible intro hb)|(refine Xi ?_ ?_<;>try intro ht)|exact Xx|fail)))
 all_goals try(refine aW rfl ?_;first|(rw[hb];rfl)|(rw[show D=false by rw[<- hD];exact decide_eq_false CZ];simp;done))
 have Nw:D=true:=by rw[<- hD];exact decide_eq_true CZ
 subst Nw;have GP:k8 m.rules p.ei=true:=by assumption
 refine bd (λi:Nat=>(⟨ar [(1,OJ k),(2,.ptr 0 0 0),(5,.ptr 1 0 0),(6,OJ i)],[.var (ay m),.var (aL p)]⟩:St)) (λi=>i<=p.aC.length/\(p.aC.drop i).any pG=bad) (λi=>p.aC.length-i) 0 ⟨aS _,xF⟩ (Xv X0) ?_;rintro i⟨hi,hr⟩Ql ao ax;by_cases aq:i<p.aC.length
 ·rw[lk p.aC i 0 aq,List.any_cons]at hr;generalize cE:p.aC.getD i 0=x at *;((repeat'(first|refine Vc @cE (ML x) ?_|(refine V2 @cE ?_ ?_<;>try with_reducible intro hb)|(refine Xi ?_ ?_<;>try intro ht)|exact Xx|fail)))
  ·rw[show pG x=true by simp[pG, *],xK]at hr;subst hr;refine Vb X0 ?_;exact aW rfl Fl
  ·rw[show pG x=false by simp[pG, *],pP]at hr;exact ao _ (i+1) ⟨CZ,hr⟩ CZ (Xs false [0,1] X0)
  ·rw[show pG x=false by simp[pG, *],pP]at hr;exact ao _ (i+1) ⟨CZ,hr⟩ CZ (Xs false [0,1] X0)
 ·rw[j9 CZ,Fx]at hr;subst hr;((repeat'(first|refine Va X0 ?_|(refine V2 X0 ?_ ?_<;>try with_reducible intro hb)|(refine Xi ?_ ?_<;>try intro ht)|exact Xx|fail)))
  refine ax _ _ rfl ?_;clear ao ax Ql;repeat(refine Xu ?_)
  ((repeat'(first|refine Vb (X2 @hqq @eJ) ?_|(refine Xi ?_ ?_<;>try intro ht)|fail)))
  all_goals refine aW rfl ?_
  all_goals rw[GP,iI,iI]
  ·rw[decide_eq_true (p:=k=0) CZ];simp
  all_goals rw[decide_eq_false (p:=k=0) CZ,<- hO]
  all_goals(refine congrArg (λb=>AV.lit (Value.bool b)) ?_;rw[nP];simp only[pP,lG,true_and,decide_eq_true_eq,beq_iff_eq,bne_iff_ne,a7,kL,lg,decide_eq_false_iff_not,jd,reduceCtorEq,iff_true,iff_false,true_iff,false_iff,eq_self];omega)
def ak5(m:aj)(c:Ct)(hc:c.a6.length<9223372036854775808):Holds Tryz.prog 64 [.agg (ay m),.agg (ej c)] [] (.lit (.bool (kH m c))) []:=by
 have MP:=MO m c.ei;have eK:=ML c.cI;generalize au:kH m c=res;unfold kH at au;generalize hD:decide (0<=c.most/\c.most<=1048576)=D at *;refine Holds.aQ 85 0 [.tmp 4] Tryz.func64 ?_;((repeat'(first|refine Vd X0 (X2 MP eK) ?_|(refine V2 X0 ?_ ?_<;>try with_reducible intro hb)|(refine Xi ?_ ?_<;>try intro ht)|exact Xx|fail)))
 all_goals try(refine aW rfl ?_;first|(rw[<- au,hb];rfl)|(rw[<- au,show D=false by rw[<- hD];exact decide_eq_false CZ];simp;done)|(rw[<- au,ht];simp;done))
 have Nw:D=true:=by rw[<- hD];exact decide_eq_true CZ
 subst Nw;have dP:(k8 m.rules c.ei&&true&&lB c.cI)=true:=by simp[*]
 rw[dP,iI]at au;refine bd (λk:Nat=>(⟨ar [(2,.ptr 0 0 0),(3,.ptr 1 0 0),(5,OJ k)],[.var (ay m),.var (ej c)]⟩:St)) (λk=>k<=c.a6.length/\e7 m (qO c.a6 k) (c.a6.drop k)=res) (λk=>c.a6.length-k) 0 ⟨aS _,au⟩ (Xv X0) ?_;rintro k⟨hk,hr⟩Ql ao ax;by_cases bc:k<c.a6.length
 ·have hd:=lk c.a6 k default bc;generalize bf:c.a6.getD k default=x at *;rw[hd,Wd]at hr;have eJ:((k:Int)-1).toNat=k-1:=CZ;generalize cg:c.a6.getD (k-1) default=y at *;generalize bK:jy m x.cls x.opt=ob at *;have l8:=aaq m x.cls x.opt;rw[bK]at l8;generalize hW:decide (1<=x.wt/\x.wt<=1000)=wb at *;generalize hO:decide (uG y x<0)=O at *;have hOd:O=true↔y.cls<x.cls\/(y.cls=x.cls/\y.opt<x.opt):=by rw[<- hO,decide_eq_true_eq,HO]
  ((repeat'(first|refine Vc (X3 @bf @cg @eJ) l8 ?_|(refine V2 (X3 @bf @cg @eJ) ?_ ?_<;>try with_reducible intro hb)|(refine Xi ?_ ?_<;>try intro ht)|exact Xx|fail)))
  iterate 5
   ·obtain rfl:res=false:=by
     rw[<- hr];first
      | (rw[show ob=false by assumption];rfl)
      | (rw[show wb=false by rw[<- hW];exact decide_eq_false CZ];simp;done)
      | (rw[decide_eq_false (p:=k=0) CZ,show O=false from Bool.eq_false_iff.2 λh=>by have:=hOd.1 h;omega];simp;done)
    ((repeat'(first|refine Vb X0 ?_|fail)))
    exact aW rfl rfl
  all_goals
   refine ao _ (k+1) ⟨CZ,?_⟩ CZ (Xs false [0,1] X0);rw[xo,bf,<- hr,show ob=true by assumption,show wb=true by rw[<- hW];exact decide_eq_true CZ];first
    | (rw[hOd.2 CZ];simp;done)
    | (rw[decide_eq_true (p:=k=0) CZ];simp;done)
 ·rw[j9 CZ,e7]at hr;subst hr;((repeat'(first|refine Va X0 ?_|(refine Xi ?_ ?_<;>try intro ht)|exact Xx|fail)))
  refine ax _ _ rfl ?_;clear ao ax Ql;repeat(refine Xu ?_)
  refine Vb X0 ?_;exact aW rfl rfl
def Nc(m:aj)(hm:MB m):Holds Tryz.prog 34 [.agg (ay m)] [] (OJ (j6 m)) []:=by
 generalize au:j6 m=res;unfold j6 at au;have xf:=hm.cls;have xd:=hm.ae;have LA:=hm.aK;have abK:=ak1 m hm;generalize zW:tg m=lb at *;cases lb;rotate_left
 ·rw[if_pos rfl]at au;subst au;refine Holds.aQ 105 0 [.tmp 2] Tryz.func34 ?_;((repeat'(first|refine Vd @km abK ?_|(refine Xi ?_ ?_<;>try intro ht)|exact Xx|fail)))
  all_goals first|exact aW rfl rfl|(exfalso;simp at *;done)
 rw[if_neg Fl]at au;have aO:m.cls.length<=24/\∀ l∈m.cls,l.length<=24:=by
  have h:=zW;unfold tg at h;rw[decide_eq_false_iff_not]at h;refine⟨CZ,λl hl=>?_⟩;rcases dw 24 l.length with h1|h1
  ·exact absurd (.inr (.inl (List.any_eq_true.2 ⟨l,hl,by simpa using h1⟩))) h
  ·exact h1
 generalize h1:(m.cls.any λl=>l.any λo=>!gy m.rules none o.ch)=b1 at *;refine Holds.aQ 105 0 [.tmp 2] Tryz.func34 ?_;((repeat'(first|refine Vd @lG abK ?_|(refine Xi ?_ ?_<;>try intro ht)|exact Xx|fail)))
 refine bd (λi:Nat=>(⟨ar [(1,.ptr 0 0 0),(3,OJ i)],[.var (ay m)]⟩:St)) (λi=>i<=m.cls.length/\((m.cls.drop i).any λl=>l.any λo=>!gy m.rules none o.ch)=b1) (λi=>m.cls.length-i) 0 ⟨aS _,h1⟩ (Xv X0) ?_;rintro i⟨hi,hr⟩Ql ao ax;by_cases aq:i<m.cls.length
 ·have Nx:=aF (d:=(default:List dq)) aq;have nE:=hm.opt _ Nx;have bz:=hm.ch _ Nx;have vL:=aO.2 _ Nx;rw[Ew aq]at hr;generalize ic:m.cls.getD i default=l at *;generalize ak6:((m.cls.drop (i+1)).any λl=>l.any λo=>!gy m.rules none o.ch)=rest at *;((repeat'(first|refine Va X0 ?_|(refine Xi ?_ ?_<;>try intro ht)|exact Xx|fail)))
  refine bd (λk:Nat=>(⟨ar [(1,.ptr 0 0 0),(3,OJ i),(4,OJ k)],[.var (ay m)]⟩:St)) (λk=>k<=l.length/\(((l.drop k).any λo=>!gy m.rules none o.ch)||rest)=b1) (λk=>l.length-k) 0 ⟨aS _,hr⟩ (Xv X0) ?_;clear hr;rintro k⟨hk,hr⟩du bE bG;by_cases bc:k<l.length
  ·have Ay:=aF (d:=(default:dq)) bc;have qF:=bz _ Ay;rw[Ew bc]at hr;generalize mz:l.getD k default=o at *;generalize ak7:((l.drop (k+1)).any λo=>!gy m.rules none o.ch)=ak8 at *;((repeat'(first|refine Va (X2 @ic @mz) ?_|(refine Xi ?_ ?_<;>try intro ht)|exact Xx|fail)))
   refine bd (λj:Nat=>(⟨ar [(1,.ptr 0 0 0),(3,OJ i),(4,OJ k),(5,.tree 2 (rowsOf dt o.ch)),(6,OJ j)],[.var (ay m)]⟩:St)) (λj=>j<=o.ch.length/\(!gy m.rules (qO o.ch j) (o.ch.drop j)||ak8||rest)=b1) (λj=>o.ch.length-j) 0 ⟨aS _,hr⟩ (Xv X0) ?_;clear hr;rintro j⟨hj,hr⟩qH kE iB;by_cases gx:j<o.ch.length
   ·have hd:=lk o.ch j default gx;generalize bf:o.ch.getD j default=c at *;rw[hd,V']at hr;have eJ:((j:Int)-1).toNat=j-1:=CZ;generalize cg:o.ch.getD (j-1) default=q at *;have cr:=MO m c.1;generalize DU:k8 m.rules c.1=rb at *;have cM:=ML c.2;generalize dj:lB c.2=pb at *;((repeat'(first|refine Vc (X3 @bf @cg @eJ) (X2 cr cM) ?_|(refine V2 (X3 @bf @cg @eJ) ?_ ?_<;>try with_reducible intro hb)|(refine Xi ?_ ?_<;>try intro ht)|exact Xx|fail)))
    iterate 3
     ·obtain rfl:b1=true:=by
       rw[<- hr];first
        | (rw[show rb=false by assumption];rfl)
        | (rw[show pb=false by assumption];simp;done)
        | (rw[decide_eq_false (p:=j=0) CZ,decide_eq_false (p:=q.1<c.1) CZ];simp;done)
      rw[if_pos rfl]at au;repeat(refine Xu ?_)
      ((repeat'(first|refine Vb X0 ?_|fail)))
      exact aW rfl (by rw[au])
    all_goals
     refine kE _ (j+1) ⟨CZ,?_⟩ CZ (Xv X0);rw[xo,bf,<- hr,show rb=true by assumption,show pb=true by assumption];first
      | (rw[decide_eq_true (p:=q.1<c.1) CZ];simp;done)
      | (rw[decide_eq_true (p:=j=0) CZ];simp;done)
   ·rw[j9 CZ,gy]at hr;simp only[km,pP]at hr;((repeat'(first|refine Va X0 ?_|(refine Xi ?_ ?_<;>try intro ht)|exact Xx|fail)))
    refine iB _ _ rfl ?_;clear kE iB qH;repeat(refine Xu ?_)
    refine Va X0 ?_;exact bE _ (k+1) ⟨CZ,by rw[ak7];exact hr⟩ CZ (Xv X0)
  ·rw[j9 CZ,Fx,pP]at hr;((repeat'(first|refine Va @ic ?_|(refine Xi ?_ ?_<;>try intro ht)|exact Xx|fail)))
   refine bG _ _ rfl ?_;clear bE bG du;repeat(refine Xu ?_)
   refine Va X0 ?_;exact ao _ (i+1) ⟨CZ,by rw[ak6];exact hr⟩ CZ (Xv X0)
 rw[j9 CZ,Fx]at hr;subst hr;rw[if_neg Fl]at au;((repeat'(first|refine Va X0 ?_|(refine Xi ?_ ?_<;>try intro ht)|exact Xx|fail)))
 refine ax _ _ rfl ?_;clear ao ax Ql;clear hi aq;repeat(refine Xu ?_)
 refine Vb X0 ?_;refine bd (λk:Nat=>(⟨ar [(1,.ptr 0 0 0),(7,OJ k)],[.var (ay m)]⟩:St)) (λk=>k<=m.ae.length/\gp m none m.ae=gp m (qO m.ae k) (m.ae.drop k)) (λk=>m.ae.length-k) 0 ⟨aS _,rfl⟩ (Xv X0) ?_;rintro k⟨hk,hr⟩Ql ao ax;by_cases bc:k<m.ae.length
 ·have hd:=lk m.ae k default bc;have eK:=ak2 m k bc hm.aC aO.2 aO.1 hm.ae;rw[hd,Wa]at hr;generalize (iD m (m.ae.getD k default)&&(decide (k=0)||decide (nm (m.ae.getD (k-1) default) (m.ae.getD k default)<0)))=pb at *;((repeat'(first|refine Vc X0 eK ?_|(refine Xi ?_ ?_<;>try intro ht)|exact Xx|fail)))
  ·obtain rfl:pb=false:=by assumption
   rw[Bool.false_and]at hr;rw[if_pos hr]at au;subst au;refine Vb X0 ?_;exact aW rfl rfl
  ·obtain rfl:pb=true:=by assumption
   rw[iI]at hr;exact ao _ (k+1) ⟨CZ,by rw[xo];exact hr⟩ CZ (Xv X0)
 rw[j9 CZ,gp]at hr;rw[if_neg (by rw[hr];simp)]at au;((repeat'(first|refine Va X0 ?_|(refine Xi ?_ ?_<;>try intro ht)|exact Xx|fail)))
 refine ax _ _ rfl ?_;clear ao ax Ql;clear hr hk bc;repeat(refine Xu ?_)
 refine Vb X0 ?_;generalize h2:(m.aK.any λc=>!kH m c)=b2 at *;refine bd (λk:Nat=>(⟨ar [(1,.ptr 0 0 0),(8,OJ k)],[.var (ay m)]⟩:St)) (λk=>k<=m.aK.length/\((m.aK.drop k).any λc=>!kH m c)=b2) (λk=>m.aK.length-k) 0 ⟨aS _,h2⟩ (Xv X0) ?_;rintro k⟨hk,hr⟩Ql ao ax;by_cases bc:k<m.aK.length
 ·have jT:=aF (d:=(default:Ct)) bc;have ic:=hm.En _ jT;rw[Ew bc]at hr;generalize bf:m.aK.getD k default=c at *;have uK:=ak5 m c ic;generalize kH m c=cb at *;((repeat'(first|refine Vc @bf uK ?_|(refine Xi ?_ ?_<;>try intro ht)|exact Xx|fail)))
  ·obtain rfl:cb=false:=by assumption
   simp only[lG,xK]at hr;rw[if_pos hr.symm]at au;subst au;refine Vb X0 ?_;exact aW rfl rfl
  ·obtain rfl:cb=true:=by assumption
   rw[km,pP]at hr;exact ao _ (k+1) ⟨CZ,hr⟩ CZ (Xv X0)
 rw[j9 CZ,Fx]at hr;subst hr;rw[if_neg Fl]at au;subst au;((repeat'(first|refine Va X0 ?_|(refine Xi ?_ ?_<;>try intro ht)|exact Xx|fail)))
 refine ax _ _ rfl ?_;clear ao ax Ql;repeat(refine Xu ?_)
 refine Vb X0 ?_;exact aW rfl rfl
def akZ{most cI n:Int}(hp:bQ cI):Cb (n-most) cI=k0 most cI n:=by
 unfold Cb k0 bQ at *;by_cases h:n<=most
 ·rw[if_pos CZ,if_pos h]
 ·rw[if_neg CZ,if_neg h];split
  ·have:cI=1099511627776:=CZ;subst this;omega
  ·rfl
end T

