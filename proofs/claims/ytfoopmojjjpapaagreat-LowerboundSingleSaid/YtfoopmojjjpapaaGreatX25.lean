import Derived.Test.YtfoopmojjjpapaaGreatX16
set_option linter.all false
set_option maxHeartbeats 0
set_option maxRecDepth 20000
open Nat renaming zero_le→aS,lt_or_ge→dP,reduceBEq→sF
open Bool renaming true_or→y7,false_or→pf,eq_iff_iff→mC,and_eq_true→bb,or_eq_true→lD,not_eq_true'→kz,false_eq_true→jo,true_and→gK,not_false→kB,not_true→iN
open List renaming drop_eq_nil_of_le→jA,any_nil→GU
open Go Go.Am Go.Proofs
namespace T
def ako(m:ah)(hm:MB m):Holds Tryz.prog 60 [.agg (an m)] [] (.lit (.bool (!uD m))) []:=by
 have uu:=hm.cls;have vG:=hm.ae;have Oi:=hm.aD;unfold uD;generalize ym:m.cls.any (λl=>decide (24<l.length))=b;refine Holds.aM 44 0 [.tmp 2] Tryz.func60 ?_;refine Vb X0 ?_;refine aR (λi:Nat=>(⟨ao [(1,.ptr 0 0 0),(3,Qf i)],[.var (an m)]⟩:St)) (λi=>i<=m.cls.length/\(m.cls.drop i).any (λl=>decide (24<l.length))=b) (λi=>m.cls.length-i) 0 ⟨aS _,ym⟩ (Xv X0) ?_;rintro i⟨hi,hr⟩Ql ak aq;by_cases ar:i<m.cls.length
 ·have jL:=hm.opt _ (aF (d:=(default:List cz)) ar);rw[Fv ar]at hr;generalize ij:m.cls.getD i default=l at *;((repeat'(first|refine Va @ij ?_|(refine Xi ?_ ?_<;>try intro ht)|exact Xx|fail)))
  ·rw[decide_eq_true (p:=24<l.length) GK,y7]at hr;subst hr;refine Vb X0 ?_;exact aO rfl GM
  ·rw[decide_eq_false (p:=24<l.length) GK,pf]at hr;exact ak _ (i+1) ⟨GK,hr⟩ GK (Xv X0)
 ·rw[jA GK,GU]at hr;subst hr;((repeat'(first|refine Va X0 ?_|(refine Xi ?_ ?_<;>try intro ht)|exact Xx|fail)))
  refine aq _ _ rfl ?_;clear ak aq Ql;repeat(refine Xu ?_)
  ((repeat'(first|refine Vb X0 ?_|(refine V2 X0 ?_ ?_<;>try with_reducible intro hb)|fail)))
  all_goals refine aO rfl ?_
  all_goals(refine congrArg (λb=>AV.lit (Value.bool b)) ?_;rw[mC];simp only[or_true,true_or,or_false,false_or,decide_eq_true_eq,beq_iff_eq,bne_iff_ne,bb,lD,kz,decide_eq_false_iff_not,jo,reduceCtorEq,iff_true,iff_false,true_iff,false_iff,eq_self];omega)
def akp(m:ah)(k:Nat)(hk:k<m.ae.length)(hp:∀ p∈m.ae,p.ay.length<9223372036854775808)(hm:∀ l∈m.cls,l.length<=24)(hl:m.cls.length<=24)(dg:m.ae.length<9223372036854775808):
  Holds Tryz.prog 63 [.agg (an m),Qf k] [] (.lit (.bool (hJ m (m.ae.getD k default)&&(decide (k=0)||decide (oh (m.ae.getD (k-1) default) (m.ae.getD k default)<0))))) []:=by
 have fP:((k:Int)-1).toNat=k-1:=GK;have v7:=hp _ (aF (d:=(default:Pr)) hk);generalize cg:m.ae.getD k default=p at *;generalize FO:m.ae.getD (k-1) default=q at *;have hg:∀ i,(m.cls.getD i default).length<=24:=λi=>by
  rcases dP i m.cls.length with h|h
  ·exact hm _ (aF h)
  ·rw[List.getD_eq_getElem?_getD,List.getElem?_eq_none h];decide
 have h1:=hg p.fst.toNat;have h2:=hg p.snd.toNat;have hmul:(0:Int)<=(m.cls.getD p.fst.toNat default).length*(m.cls.getD p.snd.toNat default).length/\((m.cls.getD p.fst.toNat default).length:Int)*(m.cls.getD p.snd.toNat default).length<=24*24:=⟨Int.mul_nonneg GK GK,Int.mul_le_mul GK GK GK GK⟩;have akq:decide (oh q p<0)=(decide (q.ee<p.ee)||decide (q.ee=p.ee)&&(decide (q.fst<p.fst)||decide (q.fst=p.fst)&&decide (q.snd<p.snd))):=by
  rw[mC];simp only[decide_eq_true_eq,lD,bb,MS]
 have hru:=Nt m p.ee;rw[akq];unfold hJ;generalize ym:p.ay.any pK=bad;generalize yA:((m.cls.getD p.fst.toNat default).length:Int)*(m.cls.getD p.snd.toNat default).length=mm at *;generalize hD:decide (0<=p.fst/\p.fst<p.snd/\p.snd<m.cls.length/\(p.ay.length:Int)=mm)=D;generalize hO:(decide (q.ee<p.ee)||decide (q.ee=p.ee)&&(decide (q.fst<p.fst)||decide (q.fst=p.fst)&&decide (q.snd<p.snd)))=O;refine Holds.aM 114 0 [.tmp 4] Tryz.func63 ?_;((repeat'(first|refine Vd (X2 @cg @yA) hru ?_|(refine V2 (X2 @cg @yA) ?_ ?_<;>try with_reducible intro hb)|(refine Xi ?_ ?_<;>try intro ht)|exact Xx|fail)))
 all_goals try(refine aO rfl ?_;first|(rw[hb];rfl)|(rw[show D=false by rw[<- hD];exact decide_eq_false GK];simp;done))
 have Oj:D=true:=by rw[<- hD];exact decide_eq_true GK
 subst Oj;have BF:j8 m.rules p.ee=true:=by assumption
 refine aR (λi:Nat=>(⟨ao [(1,Qf k),(2,.ptr 0 0 0),(5,.ptr 1 0 0),(6,Qf i)],[.var (an m),.var (aI p)]⟩:St)) (λi=>i<=p.ay.length/\(p.ay.drop i).any pK=bad) (λi=>p.ay.length-i) 0 ⟨aS _,ym⟩ (Xv X0) ?_;rintro i⟨hi,hr⟩Ql ak aq;by_cases ar:i<p.ay.length
 ·rw[kd p.ay i 0 ar,List.any_cons]at hr;generalize bZ:p.ay.getD i 0=x at *;((repeat'(first|refine Vc @bZ (Nr x) ?_|(refine V2 @bZ ?_ ?_<;>try with_reducible intro hb)|(refine Xi ?_ ?_<;>try intro ht)|exact Xx|fail)))
  ·rw[show pK x=true by simp[pK, *],y7]at hr;subst hr;refine Vb X0 ?_;exact aO rfl GM
  ·rw[show pK x=false by simp[pK, *],pf]at hr;exact ak _ (i+1) ⟨GK,hr⟩ GK (Xs false [0,1] X0)
  ·rw[show pK x=false by simp[pK, *],pf]at hr;exact ak _ (i+1) ⟨GK,hr⟩ GK (Xs false [0,1] X0)
 ·rw[jA GK,GU]at hr;subst hr;((repeat'(first|refine Va X0 ?_|(refine V2 X0 ?_ ?_<;>try with_reducible intro hb)|(refine Xi ?_ ?_<;>try intro ht)|exact Xx|fail)))
  refine aq _ _ rfl ?_;clear ak aq Ql;repeat(refine Xu ?_)
  ((repeat'(first|refine Vb (X2 @FO @fP) ?_|(refine Xi ?_ ?_<;>try intro ht)|fail)))
  all_goals refine aO rfl ?_
  all_goals rw[BF,gK,gK]
  ·rw[decide_eq_true (p:=k=0) GK];simp
  all_goals rw[decide_eq_false (p:=k=0) GK,<- hO]
  all_goals(refine congrArg (λb=>AV.lit (Value.bool b)) ?_;rw[mC];simp only[pf,kB,true_and,decide_eq_true_eq,beq_iff_eq,bne_iff_ne,bb,lD,kz,decide_eq_false_iff_not,jo,reduceCtorEq,iff_true,iff_false,true_iff,false_iff,eq_self];omega)
def aks(m:ah)(c:Ct)(hc:c.bh.length<9223372036854775808):Holds Tryz.prog 64 [.agg (an m),.agg (dv c)] [] (.lit (.bool (jv m c))) []:=by
 have Nw:=Nt m c.ee;have fR:=Nr c.cf;generalize au:jv m c=res;unfold jv at au;generalize hD:decide (0<=c.most/\c.most<=1048576)=D at *;refine Holds.aM 85 0 [.tmp 4] Tryz.func64 ?_;((repeat'(first|refine Vd X0 (X2 Nw fR) ?_|(refine V2 X0 ?_ ?_<;>try with_reducible intro hb)|(refine Xi ?_ ?_<;>try intro ht)|exact Xx|fail)))
 all_goals try(refine aO rfl ?_;first|(rw[<- au,hb];rfl)|(rw[<- au,show D=false by rw[<- hD];exact decide_eq_false GK];simp;done)|(rw[<- au,ht];simp;done))
 have Oj:D=true:=by rw[<- hD];exact decide_eq_true GK
 subst Oj;have eJ:(j8 m.rules c.ee&&true&&jO c.cf)=true:=by simp[*]
 rw[eJ,gK]at au;refine aR (λk:Nat=>(⟨ao [(2,.ptr 0 0 0),(3,.ptr 1 0 0),(5,Qf k)],[.var (an m),.var (dv c)]⟩:St)) (λk=>k<=c.bh.length/\eO m (rO c.bh k) (c.bh.drop k)=res) (λk=>c.bh.length-k) 0 ⟨aS _,au⟩ (Xv X0) ?_;rintro k⟨hk,hr⟩Ql ak aq;by_cases bg:k<c.bh.length
 ·have hd:=kd c.bh k default bg;generalize bc:c.bh.getD k default=x at *;rw[hd,UT]at hr;have fP:((k:Int)-1).toNat=k-1:=GK;generalize cg:c.bh.getD (k-1) default=y at *;generalize bP:hZ m x.cls x.opt=ob at *;have mQ:=Nv m x.cls x.opt;rw[bP]at mQ;generalize hW:decide (1<=x.wt/\x.wt<=1000)=wb at *;generalize hO:decide (vN y x<0)=O at *;have hOd:O=true↔y.cls<x.cls\/(y.cls=x.cls/\y.opt<x.opt):=by rw[<- hO,decide_eq_true_eq,Ix]
  ((repeat'(first|refine Vc (X3 @bc @cg @fP) mQ ?_|(refine V2 (X3 @bc @cg @fP) ?_ ?_<;>try with_reducible intro hb)|(refine Xi ?_ ?_<;>try intro ht)|exact Xx|fail)))
  iterate 5
   ·obtain rfl:res=false:=by
     rw[<- hr];first
      | (rw[show ob=false by assumption];rfl)
      | (rw[show wb=false by rw[<- hW];exact decide_eq_false GK];simp;done)
      | (rw[decide_eq_false (p:=k=0) GK,show O=false from Bool.eq_false_iff.2 λh=>by have:=hOd.1 h;omega];simp;done)
    ((repeat'(first|refine Vb X0 ?_|fail)))
    exact aO rfl rfl
  all_goals
   refine ak _ (k+1) ⟨GK,?_⟩ GK (Xs false [0,1] X0);rw[yw,bc,<- hr,show ob=true by assumption,show wb=true by rw[<- hW];exact decide_eq_true GK];first
    | (rw[hOd.2 GK];simp;done)
    | (rw[decide_eq_true (p:=k=0) GK];simp;done)
 ·rw[jA GK,eO]at hr;subst hr;((repeat'(first|refine Va X0 ?_|(refine Xi ?_ ?_<;>try intro ht)|exact Xx|fail)))
  refine aq _ _ rfl ?_;clear ak aq Ql;repeat(refine Xu ?_)
  refine Vb X0 ?_;exact aO rfl rfl
def Ez(m:ah)(hm:MB m):Holds Tryz.prog 34 [.agg (an m)] [] (Qf (iR m)) []:=by
 generalize au:iR m=res;unfold iR at au;have uu:=hm.cls;have vG:=hm.ae;have Oi:=hm.aD;have abk:=ako m hm;generalize z':uD m=lb at *;cases lb;rotate_left
 ·rw[if_pos rfl]at au;subst au;refine Holds.aM 105 0 [.tmp 2] Tryz.func34 ?_;((repeat'(first|refine Vd @iN abk ?_|(refine Xi ?_ ?_<;>try intro ht)|exact Xx|fail)))
  all_goals first|exact aO rfl rfl|(exfalso;simp at *;done)
 rw[if_neg GM]at au;have aP:m.cls.length<=24/\∀ l∈m.cls,l.length<=24:=by
  have h:=z';unfold uD at h;rw[decide_eq_false_iff_not]at h;refine⟨GK,λl hl=>?_⟩;rcases dP 24 l.length with h1|h1
  ·exact absurd (.inr (.inl (List.any_eq_true.2 ⟨l,hl,by simpa using h1⟩))) h
  ·exact h1
 generalize h1:(m.cls.any λl=>l.any λo=>!eK m.rules none o.ch)=b1 at *;refine Holds.aM 105 0 [.tmp 2] Tryz.func34 ?_;((repeat'(first|refine Vd @kB abk ?_|(refine Xi ?_ ?_<;>try intro ht)|exact Xx|fail)))
 refine aR (λi:Nat=>(⟨ao [(1,.ptr 0 0 0),(3,Qf i)],[.var (an m)]⟩:St)) (λi=>i<=m.cls.length/\((m.cls.drop i).any λl=>l.any λo=>!eK m.rules none o.ch)=b1) (λi=>m.cls.length-i) 0 ⟨aS _,h1⟩ (Xv X0) ?_;rintro i⟨hi,hr⟩Ql ak aq;by_cases ar:i<m.cls.length
 ·have Ol:=aF (d:=(default:List cz)) ar;have nt:=hm.opt _ Ol;have bK:=hm.ch _ Ol;have sU:=aP.2 _ Ol;rw[Fv ar]at hr;generalize ij:m.cls.getD i default=l at *;generalize Og:((m.cls.drop (i+1)).any λl=>l.any λo=>!eK m.rules none o.ch)=rest at *;((repeat'(first|refine Va X0 ?_|(refine Xi ?_ ?_<;>try intro ht)|exact Xx|fail)))
  refine aR (λk:Nat=>(⟨ao [(1,.ptr 0 0 0),(3,Qf i),(4,Qf k)],[.var (an m)]⟩:St)) (λk=>k<=l.length/\(((l.drop k).any λo=>!eK m.rules none o.ch)||rest)=b1) (λk=>l.length-k) 0 ⟨aS _,hr⟩ (Xv X0) ?_;clear hr;rintro k⟨hk,hr⟩cJ bj br;by_cases bg:k<l.length
  ·have gf:=aF (d:=(default:cz)) bg;have l7:=bK _ gf;rw[Fv bg]at hr;generalize uM:l.getD k default=o at *;generalize abh:((l.drop (k+1)).any λo=>!eK m.rules none o.ch)=akt at *;((repeat'(first|refine Va (X2 @ij @uM) ?_|(refine Xi ?_ ?_<;>try intro ht)|exact Xx|fail)))
   refine aR (λj:Nat=>(⟨ao [(1,.ptr 0 0 0),(3,Qf i),(4,Qf k),(5,.tree 2 (rowsOf bd o.ch)),(6,Qf j)],[.var (an m)]⟩:St)) (λj=>j<=o.ch.length/\(!eK m.rules (rO o.ch j) (o.ch.drop j)||akt||rest)=b1) (λj=>o.ch.length-j) 0 ⟨aS _,hr⟩ (Xv X0) ?_;clear hr;rintro j⟨hj,hr⟩mq gm fk;by_cases fe:j<o.ch.length
   ·have hd:=kd o.ch j default fe;generalize bc:o.ch.getD j default=c at *;rw[hd,UR]at hr;have fP:((j:Int)-1).toNat=j-1:=GK;generalize cg:o.ch.getD (j-1) default=q at *;have cD:=Nt m c.1;generalize E':j8 m.rules c.1=rb at *;have dg:=Nr c.2;generalize dO:jO c.2=pb at *;((repeat'(first|refine Vc (X3 @bc @cg @fP) (X2 cD dg) ?_|(refine V2 (X3 @bc @cg @fP) ?_ ?_<;>try with_reducible intro hb)|(refine Xi ?_ ?_<;>try intro ht)|exact Xx|fail)))
    iterate 3
     ·obtain rfl:b1=true:=by
       rw[<- hr];first
        | (rw[show rb=false by assumption];rfl)
        | (rw[show pb=false by assumption];simp;done)
        | (rw[decide_eq_false (p:=j=0) GK,decide_eq_false (p:=q.1<c.1) GK];simp;done)
      rw[if_pos rfl]at au;repeat(refine Xu ?_)
      ((repeat'(first|refine Vb X0 ?_|fail)))
      exact aO rfl (by rw[au])
    all_goals
     refine gm _ (j+1) ⟨GK,?_⟩ GK (Xv X0);rw[yw,bc,<- hr,show rb=true by assumption,show pb=true by assumption];first
      | (rw[decide_eq_true (p:=q.1<c.1) GK];simp;done)
      | (rw[decide_eq_true (p:=j=0) GK];simp;done)
   ·rw[jA GK,eK]at hr;simp only[iN,pf]at hr;((repeat'(first|refine Va X0 ?_|(refine Xi ?_ ?_<;>try intro ht)|exact Xx|fail)))
    refine fk _ _ rfl ?_;clear gm fk mq;repeat(refine Xu ?_)
    refine Va X0 ?_;exact bj _ (k+1) ⟨GK,by rw[abh];exact hr⟩ GK (Xv X0)
  ·rw[jA GK,GU,pf]at hr;((repeat'(first|refine Va @ij ?_|(refine Xi ?_ ?_<;>try intro ht)|exact Xx|fail)))
   refine br _ _ rfl ?_;clear bj br cJ;repeat(refine Xu ?_)
   refine Va X0 ?_;exact ak _ (i+1) ⟨GK,by rw[Og];exact hr⟩ GK (Xv X0)
 rw[jA GK,GU]at hr;subst hr;rw[if_neg GM]at au;((repeat'(first|refine Va X0 ?_|(refine Xi ?_ ?_<;>try intro ht)|exact Xx|fail)))
 refine aq _ _ rfl ?_;clear ak aq Ql;clear hi ar;repeat(refine Xu ?_)
 refine Vb X0 ?_;refine aR (λk:Nat=>(⟨ao [(1,.ptr 0 0 0),(7,Qf k)],[.var (an m)]⟩:St)) (λk=>k<=m.ae.length/\fS m none m.ae=fS m (rO m.ae k) (m.ae.drop k)) (λk=>m.ae.length-k) 0 ⟨aS _,rfl⟩ (Xv X0) ?_;rintro k⟨hk,hr⟩Ql ak aq;by_cases bg:k<m.ae.length
 ·have hd:=kd m.ae k default bg;have fR:=akp m k bg hm.ay aP.2 aP.1 hm.ae;rw[hd,US]at hr;generalize (hJ m (m.ae.getD k default)&&(decide (k=0)||decide (oh (m.ae.getD (k-1) default) (m.ae.getD k default)<0)))=pb at *;((repeat'(first|refine Vc X0 fR ?_|(refine Xi ?_ ?_<;>try intro ht)|exact Xx|fail)))
  ·obtain rfl:pb=false:=by assumption
   rw[Bool.false_and]at hr;rw[if_pos hr]at au;subst au;refine Vb X0 ?_;exact aO rfl rfl
  ·obtain rfl:pb=true:=by assumption
   rw[gK]at hr;exact ak _ (k+1) ⟨GK,by rw[yw];exact hr⟩ GK (Xv X0)
 rw[jA GK,fS]at hr;rw[if_neg (by rw[hr];simp)]at au;((repeat'(first|refine Va X0 ?_|(refine Xi ?_ ?_<;>try intro ht)|exact Xx|fail)))
 refine aq _ _ rfl ?_;clear ak aq Ql;clear hr hk bg;repeat(refine Xu ?_)
 refine Vb X0 ?_;generalize h2:(m.aD.any λc=>!jv m c)=b2 at *;refine aR (λk:Nat=>(⟨ao [(1,.ptr 0 0 0),(8,Qf k)],[.var (an m)]⟩:St)) (λk=>k<=m.aD.length/\((m.aD.drop k).any λc=>!jv m c)=b2) (λk=>m.aD.length-k) 0 ⟨aS _,h2⟩ (Xv X0) ?_;rintro k⟨hk,hr⟩Ql ak aq;by_cases bg:k<m.aD.length
 ·have kj:=aF (d:=(default:Ct)) bg;have ij:=hm.mo _ kj;rw[Fv bg]at hr;generalize bc:m.aD.getD k default=c at *;have zO:=aks m c ij;generalize jv m c=cb at *;((repeat'(first|refine Vc @bc zO ?_|(refine Xi ?_ ?_<;>try intro ht)|exact Xx|fail)))
  ·obtain rfl:cb=false:=by assumption
   simp only[kB,y7]at hr;rw[if_pos hr.symm]at au;subst au;refine Vb X0 ?_;exact aO rfl rfl
  ·obtain rfl:cb=true:=by assumption
   rw[iN,pf]at hr;exact ak _ (k+1) ⟨GK,hr⟩ GK (Xv X0)
 rw[jA GK,GU]at hr;subst hr;rw[if_neg GM]at au;subst au;((repeat'(first|refine Va X0 ?_|(refine Xi ?_ ?_<;>try intro ht)|exact Xx|fail)))
 refine aq _ _ rfl ?_;clear ak aq Ql;repeat(refine Xu ?_)
 refine Vb X0 ?_;exact aO rfl rfl
def FQ(ek:List Bool)(r:Int):Bool:=ek.getD r.toNat false
def Cut(ek:List Bool)(a b:List Int):Prop:=b.length=a.length/\∀ i:Nat,b.getD i 0=if FQ ek i=true then a.getD i 0 else 0
def Cut.add{ek:List Bool}{a b:List Int}(h:Cut ek a b){r c:Int}(hr:0<=r):Cut ek (iJ a r c) (if FQ ek r=true then iJ b r c else b):=by
 have gX:((r.toNat:Nat):Int)=r:=Int.toNat_of_nonneg hr;refine⟨by split<;>simp only[iJ,List.length_set]<;>exact h.1,λi=>?_⟩;have hi:=h.2 i;have wI:=h.2 r.toNat;rw[gX]at wI;by_cases hk:FQ ek r=true
 ·rw[if_pos hk];rw[if_pos hk]at wI;rw[iJ,iJ,zT,zT,wI,h.1];by_cases qq:r.toNat=i/\i<a.length
  ·rw[if_pos qq,if_pos qq,if_pos];rw[<- qq.1,gX];exact hk
  ·rw[if_neg qq,if_neg qq];exact hi
 ·rw[if_neg hk,iJ,zT];by_cases qq:r.toNat=i/\i<a.length
  ·rw[if_pos qq];rw[<- qq.1,gX,if_neg hk]at hi;rw[<- qq.1,gX,if_neg hk];exact hi
  ·rw[if_neg qq];exact hi
def aku{a b c:Pr}(h:oh a b<0)(k:oh b c<0):oh a c<0:=by
 rw[MS]at *;omega
def akv{m:ah}{q q':Option Pr}(h:∀ y,q'=some y->∃ x,q=some x/\(∀ c,oh x c<0->oh y c<0)):∀ {l:List Pr},fS m q l=true->fS m q' l=true
 |[],_=>by cases q'<;>rfl
 |c::r,hl=>by
  rw[fS.eq_def]at hl ⊢;simp only[bb]at hl ⊢;refine⟨⟨hl.1.1,?_⟩,hl.2⟩;cases q' with
  |none=>rfl
  |some y =>
   obtain⟨x,rfl,hx⟩:=h y rfl;have:=hl.1.2;simp only[decide_eq_true_eq]at this ⊢;exact hx c this
def Om{m:ah}(p:Pr->Bool):∀ {l:List Pr} {q:Option Pr},fS m q l=true->fS m q (l.filter p)=true
 |[],q,h=>h
 |c::r,q,h=>by
  rw[fS.eq_def]at h;simp only[bb]at h;rw[List.filter_cons];split
  ·rw[fS.eq_def];simp only[bb];exact⟨h.1,Om p h.2⟩
  ·refine akv (q:=some c) (λy hy=>⟨c,rfl,λd hd=>?_⟩) (Om p h.2);subst hy;have:=h.1.2;simp only[decide_eq_true_eq]at this;exact aku this hd
def akw(xs:List Int)(hl:xs.length<549755813888):Holds Tryz.prog 69 [.tree 1 (ints xs)] [] (.tree 1 (ints xs)) []:=by
 rcases Nat.eq_zero_or_pos xs.length with h|h
 ·obtain rfl:=List.eq_nil_of_length_eq_zero h;refine Holds.empty (pre:=[]) (post:=[]) (λa cap=>?_);rw[List.nil_append];cases a with
  |none =>
   refine Holds.aM 8 0 [.tmp 2] Tryz.func69 ?_;((repeat'(first|refine Vb @Option.isNone_none.{0} ?_|(refine Xi ?_ ?_<;>try intro ht)|exact Xx|fail)))
   all_goals first|(refine iD [] true GS trivial GS GS ?_;exact aZ.nil)|(exfalso;simp at *;done)
  |some ad =>
   refine Holds.aM 8 0 [.tmp 2] Tryz.func69 ?_;refine Li GS ?_;intro K hK;simp(disch:=omega)only[Ac,↓Pc,simprocAttr];refine hK _ ?_;clear hK K;refine Wk ?_;intro Q hn he;((refine Li GS ?_);intro K hK;simp(disch:=omega)only[Ac,↓Pc,simprocAttr,Option.isNone_some];skip);(refine hK _ ?_;clear hK K)
   refine R5 (t:=false) (by simp only[ui,Lc,↓reduceIte,Nat.reduceEqDiff,sF]) (λht=>by simp at ht) (λht=>?_);refine R4 ?_;refine hn _ ?_;(try clear hn;try clear he;try clear Q;clear ht)
   refine cL (aH.L1 0 1 (by(simp only[ui,vV,Rc,↓reduceIte,Nat.reduceEqDiff,sF,ev,eI,St.put];exact rfl))) ?_;refine Vb (X3 @List.length_nil.{0} @List.append_nil.{0} @List.all_nil.{0}) ?_;refine iD [] true GS trivial GS GS ?_;exact aZ.cO (rows:=[]) rfl GM rfl (jD GS) GM
 ·refine Holds.aM 8 0 [.tmp 2] Tryz.func69 ?_;((repeat'(first|refine Vb @Ha ?_|(refine Xi ?_ ?_<;>try intro ht)|exact Xx|fail)))
  exact Xw true [] X0
end T

