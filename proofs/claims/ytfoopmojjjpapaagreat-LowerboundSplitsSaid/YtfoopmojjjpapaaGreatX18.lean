import Derived.Test.YtfoopmojjjpapaaGreatX15
import Derived.Test.YtfoopmojjjpapaaGreatX17
set_option linter.all false
set_option maxHeartbeats 0
set_option maxRecDepth 20000
open Bool renaming eq_iff_iff→mz,and_eq_true→bc,or_eq_true→lQ,not_eq_true'→kq,false_eq_true→jB,true_and→ic,true_or→yu,false_and→rI,and_false→QS,eq_false_iff→CO
open Nat renaming zero_le→aP,lt_or_ge→dT,le_refl→aZ,not_lt_zero→my
open List renaming drop_eq_nil_of_le→jL,getD_eq_getElem?_getD→ay,take_zero→mu,getElem_of_mem→kr,length_take→e9,getElem?_eq_getElem→bx,all_eq_true→gA,take_length→xd,length_drop→wY
open Go Go.Am Go.Proofs
namespace T
def ahY(l:List cP):Holds Tryz.prog 119 [.tree 6 (rowsOf cB l)] [] (.lit (.bool (decide (24<l.length)))) []:=by
 refine Holds.aM 6 0 [.tmp 2] Tryz.func119 ?_;repeat'(first|(refine Xr X0 ?_;intro K hK)|(refine hK _ ?_;clear hK K)|refine Xz ?_|(refine Xe ?_;first|refine aN rfl ?_|refine Xl ?_ ?_)|fail)
 (refine congrArg (λb=>AV.lit (Value.bool b)) ?_;rw[mz];simp only[gt_iff_lt,decide_eq_true_eq,beq_iff_eq,bne_iff_ne,bc,lQ,kq,decide_eq_false_iff_not,jB,reduceCtorEq,iff_true,iff_false,true_iff,false_iff,eq_self];omega)
def ahZ(m:ah)(hm:MB m):Holds Tryz.prog 86 [.agg (ao m)] [] (.lit (.bool (uT m))) []:=by
 have h1:=hm.cls;have h2:=ah0 m.cls 119 [] [] (λl=>decide (24<l.length)) h1 (λx _=>by simpa using ahY x);unfold uT;generalize m.cls.any (λl=>decide (24<l.length))=b at *;cases b;all_goals refine Holds.aM 36 0 [.tmp 2] Tryz.func86 ?_
 all_goals repeat'(first|(refine Xq X0 ?_;intro K hK)|refine Xo X0 ?_|refine Xc (h2) ?_|(refine hK _ ?_;clear hK K)|(refine Xg X0 ?_ ?_<;>try intro hb)|refine Xz ?_|(refine Xe ?_;first|refine aN rfl ?_|refine Xl ?_ ?_)|fail)
 all_goals first|rfl|(simp;done)|(refine congrArg (λb=>AV.lit (Value.bool b)) ?_;rw[mz];simp only[or_true,true_or,or_false,false_or,decide_eq_true_eq,beq_iff_eq,bne_iff_ne,bc,lQ,kq,decide_eq_false_iff_not,jB,reduceCtorEq,iff_true,iff_false,true_iff,false_iff,eq_self];omega)
def ah1(m:ah)(o:cP)(ho:o.ch.length<9223372036854775808):Holds Tryz.prog 89 [.agg (ao m),.agg (cB o)] [] (.lit (.bool (eT m.rules none o.ch))) []:=by
 generalize an:eT m.rules none o.ch=res;refine Holds.aM 43 0 [.tmp 4] Tryz.func89 ?_;repeat'(first|(refine Xr X0 ?_;intro K hK)|(refine hK _ ?_;clear hK K)|refine Xz ?_|fail)
 refine aQ (λk:Nat=>(⟨ar [(2,.ptr 0 0 0),(3,.ptr 1 0 0),(8,.tree 2 (rowsOf bf o.ch)),(9,QM o.ch.length),(10,QM k)],[.var (ao m),.var (cB o)]⟩:St)) (λk=>k<=o.ch.length/\eT m.rules (ss o.ch k) (o.ch.drop k)=res) (λk=>o.ch.length-k) 0 ⟨aP _,an⟩ (Xv X0) ?_;rintro k⟨hk,hr⟩Ql ak aq;by_cases bj:k<o.ch.length
 ·have hd:=kR o.ch k default bj;generalize a6:o.ch.getD k default=c at *;rw[hd,VL]at hr;have su:=Nf m c.1;have gf:((k:Int)-1).toNat=k-1:=Ey;repeat'(first|(refine Xq (X2 @a6 @gf) ?_;intro K hK)|refine Xo (X2 @a6 @gf) ?_|refine Xc (su) ?_|refine Xc (Ng c.2) ?_|(refine hK _ ?_;clear hK K)|(refine Xg (X2 @a6 @gf) ?_ ?_<;>try intro hb)|(refine Xi ?_ ?_<;>try intro ht)|refine Xz ?_|refine Xh ?_|(refine Xe ?_;first|refine aN rfl ?_|refine Xl ?_ ?_)|refine Xd ?_ ?_|exact Xx|fail)
  ·rw[<- hr];simp[*]
  ·rw[<- hr];simp[*]
  ·rw[<- hr,decide_eq_false (p:=k=0) Ey,decide_eq_false (p:=_<c.1) Ey];simp
  ·refine ak _ (k+1) ⟨Ey,?_⟩ Ey (Xs false [0,1] X0);rw[yN,a6,<- hr,decide_eq_true (p:=_<c.1) ht];simp[*]
  ·refine ak _ (k+1) ⟨Ey,?_⟩ Ey (Xs false [0,1] X0);rw[yN,a6,<- hr,decide_eq_true (p:=k=0) Ey];simp[*]
 ·repeat'(first|(refine Xr X0 ?_;intro K hK)|(refine hK _ ?_;clear hK K)|(refine Xi ?_ ?_<;>try intro ht)|refine Xz ?_|refine Xh ?_|(refine Xe ?_;first|refine aN rfl ?_|refine Xl ?_ ?_)|refine Xd ?_ ?_|exact Xx|fail)
  rw[jL Ey,eT]at hr;rw[<- hr]
def ah2(a b:Pr):Holds Tryz.prog 91 [.agg (aI a),.agg (aI b)] [] (QM (oE a b)) []:=by
 refine Holds.aM 22 0 [.tmp 4] Tryz.func91 ?_;repeat'(first|(refine Xr X0 ?_;intro K hK)|(refine hK _ ?_;clear hK K)|refine Xz ?_|fail)
 (try(refine H9 [4,9,14] rfl Hg (by decide +kernel) ?_);intro K hK;simp(disch:=omega)only[Ac,↓Pc,simprocAttr])
 repeat'(first|refine Xo X0 ?_|refine Xc (Fo _ _) ?_|fail)
 refine ug [] (Nh [kX a.ej b.ej,kX a.fst b.fst,kX a.snd b.snd] G9) Hg trivial ⟨a7.cN rfl (uw _) rfl Hg (xn _),trivial⟩ rfl G9 ?_;repeat'(first|refine Xo X0 ?_|(refine hK _ ?_;clear hK K)|refine Xz ?_|(refine Xe ?_;first|refine aN rfl ?_|refine Xl ?_ ?_)|fail)
 ·rfl
def ah3(n:Int):Holds Tryz.prog 125 [QM n] [] (.lit (.bool (p7 n))) []:=by
 refine Holds.aM 10 0 [.tmp 2] Tryz.func125 ?_;repeat'(first|(refine Xq X0 ?_;intro K hK)|refine Xo X0 ?_|refine Xc (Ng n) ?_|(refine hK _ ?_;clear hK K)|(refine Xg X0 ?_ ?_<;>try intro hb)|refine Xz ?_|(refine Xe ?_;first|refine aN rfl ?_|refine Xl ?_ ?_)|fail)
 all_goals(simp[p7, *]<;>omega)
def ah4(m:ah)(p:Pr)(hp:p.aB.length<9223372036854775808)(hm:∀ l∈m.cls,l.length<=24)(hl:m.cls.length<=24):Holds Tryz.prog 90 [.agg (ao m),.agg (aI p)] [] (.lit (.bool (iC m p))) []:=by
 have hg:∀ i,(m.cls.getD i default).length<=24:=λi=>by
  rcases dT i m.cls.length with h|h
  ·exact hm _ (aF h)
  ·rw[ay,List.getElem?_eq_none h];decide
 have h1:=hg p.fst.toNat;have h2:=hg p.snd.toNat;have hmul:(0:Int)<=(m.cls.getD p.fst.toNat default).length*(m.cls.getD p.snd.toNat default).length/\((m.cls.getD p.fst.toNat default).length:Int)*(m.cls.getD p.snd.toNat default).length<=24*24:=⟨Int.mul_nonneg Ey Ey,Int.mul_le_mul Ey Ey Ey Ey⟩;have hc:=VO p.aB 125 [] [] p7 hp (λx _=>by simpa using ah3 x);unfold iC;generalize yM:((m.cls.getD p.fst.toNat default).length:Int)*(m.cls.getD p.snd.toNat default).length=mm at *;refine Holds.aM 55 0 [.tmp 4] Tryz.func90 ?_;repeat'(first|(refine Xq @yM ?_;intro K hK)|refine Xo @yM ?_|refine Xc (Nf m p.ej) ?_|refine Xc (hc) ?_|(refine hK _ ?_;clear hK K)|(refine Xg @yM ?_ ?_<;>try intro hb)|(refine Xi ?_ ?_<;>try intro ht)|refine Xz ?_|(refine Xe ?_;first|refine aN rfl ?_|refine Xl ?_ ?_)|refine Xd ?_ ?_|exact Xx|fail)
 ·rw[hb];rfl
 iterate 4
  ·rw[decide_eq_false Ey];simp
 ·rw[decide_eq_true Ey];simp[*]
def ah5(m:ah)(c:Ct)(hc:c.bd.length<9223372036854775808):Holds Tryz.prog 94 [.agg (ao m),.agg (dz c)] [] (.lit (.bool (jW m c))) []:=by
 have M':=Nf m c.ej;have gj:=Ng c.cA;generalize an:jW m c=res;unfold jW at an;refine Holds.aM 81 0 [.tmp 4] Tryz.func94 ?_;repeat'(first|(refine Xq X0 ?_;intro K hK)|refine Xo X0 ?_|refine Xc (M') ?_|refine Xc (gj) ?_|(refine hK _ ?_;clear hK K)|(refine Xg X0 ?_ ?_<;>try intro hb)|(refine Xi ?_ ?_<;>try intro ht)|refine Xz ?_|(refine Xe ?_;first|refine aN rfl ?_|refine Xl ?_ ?_)|exact Xx|fail)
 ·rw[<- an,hb];rfl
 ·rw[<- an,decide_eq_false Ey];simp
 ·rw[<- an,decide_eq_false Ey];simp
 ·rw[<- an,ht];simp
 have da:(ki m.rules c.ej&&decide (0<=c.most/\c.most<=1048576)&&jV c.cA)=true:=by rw[decide_eq_true Ey];simp[*]
 rw[da,ic]at an;refine aQ (λk:Nat=>(⟨ar [(2,.ptr 0 0 0),(3,.ptr 1 0 0),(29,.tree 3 (rowsOf rX c.bd)),(30,QM c.bd.length),(31,QM k)],[.var (ao m),.var (dz c)]⟩:St)) (λk=>k<=c.bd.length/\eZ m (ss c.bd k) (c.bd.drop k)=res) (λk=>c.bd.length-k) 0 ⟨aP _,an⟩ (Xv X0) ?_;rintro k⟨hk,hr⟩Ql ak aq;by_cases bj:k<c.bd.length
 ·have hd:=kR c.bd k default bj;generalize a6:c.bd.getD k default=x at *;rw[hd,VH]at hr;have gf:((k:Int)-1).toNat=k-1:=Ey;generalize cu:c.bd.getD (k-1) default=y at *;repeat'(first|(refine Xr (X2 @a6 @gf) ?_;intro K hK)|refine Xo (X2 @a6 @gf) ?_|refine Xc (ah6 m x.cls x.opt) ?_|(refine hK _ ?_;clear hK K)|(refine Xg (X2 @a6 @gf) ?_ ?_<;>try intro hb)|(refine Xi ?_ ?_<;>try intro ht)|refine Xz ?_|refine Xh ?_|(refine Xe ?_;first|refine aN rfl ?_|refine Xl ?_ ?_)|refine Xd ?_ ?_|exact Xx|fail)
  ·rw[<- hr,hb];simp
  ·rw[<- hr,decide_eq_false (p:=1<=x.wt/\x.wt<=1000) Ey];simp
  ·rw[<- hr,decide_eq_false (p:=1<=x.wt/\x.wt<=1000) Ey];simp
  have hw:decide (1<=x.wt/\x.wt<=1000)=true:=decide_eq_true Ey;have bS:iD m x.cls x.opt=true:=by assumption
  rw[bS,hw,ic,ic]at hr;(try(refine H9 [12,22] rfl Hg (by decide +kernel) ?_);intro K hK;simp(disch:=omega)only[Ac,↓Pc,simprocAttr,a6,gf,cu])
  repeat'(first|(refine Xq (X3 @a6 @gf @cu) ?_;intro K hK)|refine Xo (X3 @a6 @gf @cu) ?_|refine Xc (Fo _ _) ?_|(refine hK _ ?_;clear hK K)|(refine Xg (X3 @a6 @gf @cu) ?_ ?_<;>try intro hb)|(refine Xi ?_ ?_<;>try intro ht)|refine Xz ?_|refine Xd ?_ ?_|exact Xx|fail)
  ·refine ug [] (Nh [kX y.cls x.cls,kX y.opt x.opt] G9) Hg trivial ⟨a7.cN rfl (uw _) rfl Hg (xn _),trivial⟩ rfl G9 ?_;repeat'(first|(refine Xr (X3 @a6 @gf @cu) ?_;intro K hK)|refine Xo (X3 @a6 @gf @cu) ?_|(refine hK _ ?_;clear hK K)|(refine Xi ?_ ?_<;>try intro ht)|refine Xz ?_|refine Xh ?_|(refine Xe ?_;first|refine aN rfl ?_|refine Xl ?_ ?_)|refine Xd ?_ ?_|exact Xx|fail)
   ·rw[<- hr,decide_eq_false (p:=k=0) Ey,decide_eq_false (p:=wq y x<0) (by unfold wq;omega)];simp
   ·refine ak _ (k+1) ⟨Ey,?_⟩ Ey (Xs false [0,1] X0);rw[yN,a6,<- hr,decide_eq_true (p:=wq y x<0) (by unfold wq;omega)];simp
  ·refine ak _ (k+1) ⟨Ey,?_⟩ Ey (Xs false [0,1] X0);rw[yN,a6,<- hr,decide_eq_true (p:=k=0) Ey];simp
 ·repeat'(first|(refine Xr X0 ?_;intro K hK)|(refine hK _ ?_;clear hK K)|(refine Xi ?_ ?_<;>try intro ht)|refine Xz ?_|refine Xh ?_|(refine Xe ?_;first|refine aN rfl ?_|refine Xl ?_ ?_)|refine Xd ?_ ?_|exact Xx|fail)
  rw[jL Ey,eZ]at hr;rw[<- hr]
def ah7(m:ah)(o:cP)(ho:o.ch.length<9223372036854775808):Holds Tryz.prog 88 [.agg (cB o),.ptr 0 0 0] [.var (ao m)] (.lit (.bool (!eT m.rules none o.ch))) [.var (ao m)]:=by
 refine Holds.aM 8 1 [.tmp 3] Tryz.func88 ?_;refine Vd X0 (ah1 m o ho) ?_;exact Xw false [0] X0
def ah8(m:ah)(c:Ct)(hc:c.bd.length<9223372036854775808):Holds Tryz.prog 93 [.agg (dz c),.ptr 0 0 0] [.var (ao m)] (.lit (.bool (!jW m c))) [.var (ao m)]:=by
 refine Holds.aM 8 1 [.tmp 3] Tryz.func93 ?_;refine Vd X0 (ah5 m c hc) ?_;exact Xw false [0] X0
def Fl{α:Type}[Inhabited α]{l:List α}{f:α->Bool}{k:Nat}(hk:k<l.length):(l.drop k).any f=(f (l.getD k default)||(l.drop (k+1)).any f):=by
 rw[kR l k default hk,List.any_cons]
def Fp(m:ah)(hm:MB m):Holds Tryz.prog 56 [.agg (ao m)] [] (QM (gv m)) []:=by
 generalize an:gv m=res;unfold gv at an;have sr:=hm.cls;have uU:=hm.ae;refine Holds.aM 52 0 [.tmp 2] Tryz.func56 ?_;repeat'(first|(refine Xq X0 ?_;intro K hK)|refine Xc (ahZ m hm) ?_|(refine hK _ ?_;clear hK K)|(refine Xi ?_ ?_<;>try intro ht)|refine Xz ?_|(refine Xe ?_;first|refine aN rfl ?_|refine Xl ?_ ?_)|fail)
 ·rw[if_pos ht]at an;rw[<- an]
 rw[if_neg (by simp[ht])]at an;have aO:m.cls.length<=24/\∀ l∈m.cls,l.length<=24:=by
  have h:=ht;unfold uT at h;rw[decide_eq_false_iff_not]at h;refine⟨Ey,λl hl=>?_⟩;rcases dT 24 l.length with h1|h1
  ·exact absurd (.inr (.inl (List.any_eq_true.2 ⟨l,hl,by simpa using h1⟩))) h
  ·exact h1
 clear ht;refine aQ (λk:Nat=>(⟨ar [(1,.ptr 0 0 0),(10,.tree 1 (rowsOf aT m.cls)),(11,QM m.cls.length),(12,QM k)],[.var (ao m)]⟩:St)) (λk=>k<=m.cls.length/\(m.cls.any λl=>l.any λo=>!eT m.rules none o.ch)=(m.cls.drop k).any λl=>l.any λo=>!eT m.rules none o.ch) (λk=>m.cls.length-k) 0 ⟨aP _,rfl⟩ (Xv X0) ?_;rintro k⟨hk,hr⟩Ql ak aq;by_cases bj:k<m.cls.length
 ·have bR:=aF (d:=(default:List cP)) bj;rw[Fl bj]at hr;generalize a6:m.cls.getD k default=l at *;have pN:=ah9 l 88 [.ptr 0 0 0] [.var (ao m)] (λo=>!eT m.rules none o.ch) (hm.opt l bR) (λo ho=>by simpa using ah7 m o (hm.ch l bR o ho));repeat'(first|(refine Xr @a6 ?_;intro K hK)|(refine hK _ ?_;clear hK K)|(refine Xi ?_ ?_<;>try intro ht)|refine Xz ?_|refine Xh ?_|refine Xd ?_ ?_|exact Xx|fail)
  refine gr pN (aZ _) ?_;repeat'(first|(refine Xr @a6 ?_;intro K hK)|(refine hK _ ?_;clear hK K)|(refine Xi ?_ ?_<;>try intro ht)|refine Xz ?_|refine Xh ?_|(refine Xe ?_;first|refine aN rfl ?_|refine Xl ?_ ?_)|refine Xd ?_ ?_|exact Xx|fail)
  ·rw[ht,yu]at hr;rw[if_pos hr]at an;rw[<- an]
  ·rw[ht,Bool.false_or]at hr;exact ak _ (k+1) ⟨Ey,hr⟩ Ey (Xv X0)
 rw[jL Ey,List.any_nil]at hr;rw[if_neg (by rw[hr];simp)]at an;((repeat'(first|refine Va X0 ?_|(refine Xi ?_ ?_<;>try intro ht)|exact Xx|fail)))
 refine aq _ _ rfl ?_;clear ak aq Ql;clear hr bj hk;repeat(refine Xu ?_)
 repeat'(first|(refine Xr X0 ?_;intro K hK)|(refine hK _ ?_;clear hK K)|refine Xz ?_|fail)
 refine aQ (λk:Nat=>(⟨ar [(1,.ptr 0 0 0),(21,.tree 4 (rowsOf aI m.ae)),(22,QM m.ae.length),(23,QM k)],[.var (ao m)]⟩:St)) (λk=>k<=m.ae.length/\gd m none m.ae=gd m (ss m.ae k) (m.ae.drop k)) (λk=>m.ae.length-k) 0 ⟨aP _,rfl⟩ (Xv X0) ?_;rintro k⟨hk,hr⟩Ql ak aq;by_cases bj:k<m.ae.length
 ·have bR:=aF (d:=(default:Pr)) bj;have hd:=kR m.ae k default bj;have gf:((k:Int)-1).toNat=k-1:=Ey;generalize a6:m.ae.getD k default=p at *;rw[hd,VN]at hr;generalize cu:m.ae.getD (k-1) default=q at *;repeat'(first|(refine Xq (X3 @a6 @gf @cu) ?_;intro K hK)|refine Xo (X3 @a6 @gf @cu) ?_|refine Xc (ah4 m p (hm.aB p bR) aO.2 aO.1) ?_|refine Xc (ah2 q p) ?_|(refine hK _ ?_;clear hK K)|(refine Xg (X3 @a6 @gf @cu) ?_ ?_<;>try intro hb)|(refine Xi ?_ ?_<;>try intro ht)|refine Xz ?_|refine Xh ?_|(refine Xe ?_;first|refine aN rfl ?_|refine Xl ?_ ?_)|refine Xd ?_ ?_|exact Xx|fail)
  ·have Fq:iC m p=false:=by assumption
   rw[Fq,rI,rI]at hr;rw[if_pos hr]at an;rw[<- an]
  ·rw[decide_eq_false (p:=k=0) Ey,decide_eq_false (p:=oE q p<0) Ey,Bool.or_false,QS,rI]at hr;rw[if_pos hr]at an;rw[<- an]
  ·have Fq:iC m p=true:=by assumption
   rw[Fq,decide_eq_true (p:=oE q p<0) Ey,Bool.or_true,ic,ic]at hr;refine ak _ (k+1) ⟨Ey,?_⟩ Ey (Xs false [0] X0);rw[yN,a6];exact hr
  ·have Fq:iC m p=true:=by assumption
   rw[Fq,decide_eq_true (p:=k=0) Ey,yu,ic,ic]at hr;refine ak _ (k+1) ⟨Ey,?_⟩ Ey (Xs false [0] X0);rw[yN,a6];exact hr
 rw[jL Ey,gd]at hr;rw[if_neg (by rw[hr];simp)]at an;((repeat'(first|refine Va X0 ?_|(refine Xi ?_ ?_<;>try intro ht)|exact Xx|fail)))
 refine aq _ _ rfl ?_;clear ak aq Ql;clear hr bj hk;repeat(refine Xu ?_)
 have pN:=ah' m.aE 93 [.ptr 0 0 0] [.var (ao m)] (λc=>!jW m c) hm.aE (λc hc=>by simpa using ah8 m c (hm.mI c hc));repeat'(first|(refine Xr X0 ?_;intro K hK)|refine Xz ?_|fail)
 refine gr pN (aZ _) ?_;repeat'(first|(refine Xr X0 ?_;intro K hK)|(refine hK _ ?_;clear hK K)|(refine Xi ?_ ?_<;>try intro ht)|refine Xz ?_|(refine Xe ?_;first|refine aN rfl ?_|refine Xl ?_ ?_)|fail)
 ·rw[if_pos ht]at an;rw[<- an]
 ·rw[if_neg (by rw[ht];simp)]at an;rw[<- an]
def aia(n:Int):Holds Tryz.prog 128 [QM n] [] (.lit (.bool (n != 1))) []:=by
 refine Holds.aM 5 0 [.tmp 2] Tryz.func128 ?_;refine Vb X0 ?_;exact aN rfl rfl
def aib(m:ah)(P:List Nd)(hm:VM m)(hP:PB P):Holds Tryz.prog 95 [.agg (ao m),.agg (aJ P)] [] (.lit (.bool (jk m P))) []:=by
 have uW:=hP.z';have np:=hm.cls;generalize an:jk m P=res;refine Holds.aM 136 0 [.tmp 4] Tryz.func95 ?_;by_cases aO:1<=P.length/\P.length<=20000;rotate_left
 ·rw[VP aO]at an;subst an;((repeat'(first|refine Vb @aJ.eq_1 ?_|(refine V2 @aJ.eq_1 ?_ ?_<;>try with_reducible intro hb)|(refine Xi ?_ ?_<;>try intro ht)|exact Xx|fail)))
  all_goals exact aN rfl rfl
 obtain⟨jD,j5⟩:=aO;((repeat'(first|refine Vb @aJ.eq_1 ?_|(refine V2 @aJ.eq_1 ?_ ?_<;>try with_reducible intro hb)|(refine Xi ?_ ?_<;>try intro ht)|exact Xx|fail)))
 refine aQ (λi:Nat=>(⟨ar [(2,.ptr 0 0 0),(3,.ptr 1 0 0),(5,.ref 2 1 0 P.length),(25,.tree 5 (rowsOf ax P)),(26,QM P.length),(27,QM i)],[.var (ao m),.var (aJ P),.arr 1 (ints (jX P.length (fM (P.take i))))]⟩:St))
  (λi=>i<=P.length/\∀ a,a<i->kY m P.length a (P.getD a default)=true) (λi=>P.length-i) 0 ⟨aP _,λa ha=>absurd ha (my _)⟩ (by rw[mu];show aD _ _ ⟨_,[_,_,.arr 1 (ints (jX P.length []))]⟩;rw[aic];exact Xv (X2 @aJ.eq_1 @Li)) ?_
 rintro i⟨hi,dS⟩Ql ak aq;by_cases au:i<P.length
 ·have bR:=aF (l:=P) (i:=i) (d:=default) au;have b1:=hP.kids _ bR;have b2:=hP.df _ bR;have b3:=hP.a8 _ bR;have b4:=hP.cells _ bR;have eu:=ep au;have Ix:∀ l,fM (P.take (i+1))=fM (P.take i)++l↔l=(P.getD i default).kids:=λl=>by rw[eu,Ni];exact⟨λh=>(List.append_cancel_left h).symm,λh=>by rw[h]⟩
  have iF:=VQ (m:=m) au;have hlen:=VR (n:=0) hm (P.take i) λy hy=>by
   obtain⟨a,ha,rfl⟩:=kr hy;rw[e9]at ha;have:=dS a Ey;unfold kY at this;rw[bc,ay,bx Ey]at this;simpa using this.1
  rw[e9]at hlen;generalize cd:P.getD i default=x at *;obtain⟨c,kids,df,a8,cells⟩:=x;dsimp only at b1 b2 b3 b4 Ix;have Ix:=(Ix _).2 rfl;have bG:¬(mJ m ⟨c,kids,df,a8,cells⟩=true)->res=false:=λh=>by
   rw[<- an];refine iF ?_;unfold kY;rw[CO.2 h,rI]
  have BJ:∀ j,j<kids.length->¬(lE P.length i (kids.getD j 0)=true)->res=false:=λj hj h=>by
   rw[<- an];refine iF ?_;unfold kY;have:kids.all (lE P.length i)=false:=by
    rw[CO];intro h2;rw[gA]at h2;exact h (h2 _ (aF hj))
   dsimp only;rw[this,QS]
  clear iF;generalize oF:m.cls.getD c.toNat default=wl at *;have Aa:0<=c/\c<m.cls.length->wl.length<=24:=λh=>by rw[<- oF];exact hm.opt _ (aF Ey)
  by_cases fV:mJ m ⟨c,kids,df,a8,cells⟩=true;rotate_left
  ·have hr:=bG fV;unfold mJ at fV;dsimp only at fV;rw[oF]at fV;by_cases eL:c = -1
   ·rw[if_pos eL,decide_eq_true_eq]at fV;((repeat'(first|refine Va (X3 @aJ.eq_1 @cd @ax.eq_1) ?_|(refine V2 (X3 @aJ.eq_1 @cd @ax.eq_1) ?_ ?_<;>try with_reducible intro hb)|(refine Xi ?_ ?_<;>try intro ht)|exact Xx|fail)))
    all_goals
     repeat(refine Xu ?_)
     ((repeat'(first|refine Vb X0 ?_|fail)))
     exact aN rfl (by rw[hr])
   ·rw[if_neg eL,decide_eq_true_eq]at fV;by_cases az:0<=c/\c<m.cls.length
    ·have Aa:=Aa az;((repeat'(first|refine Va (X5 @aJ.eq_1 @cd @ax.eq_1 @oF @aT.eq_1) ?_|(refine V2 (X5 @aJ.eq_1 @cd @ax.eq_1 @oF @aT.eq_1) ?_ ?_<;>try with_reducible intro hb)|(refine Xi ?_ ?_<;>try intro ht)|exact Xx|fail)))
     all_goals
      repeat(refine Xu ?_)
      ((repeat'(first|refine Vb X0 ?_|fail)))
      exact aN rfl (by rw[hr])
    ·((repeat'(first|refine Va (X3 @aJ.eq_1 @cd @ax.eq_1) ?_|(refine V2 (X3 @aJ.eq_1 @cd @ax.eq_1) ?_ ?_<;>try with_reducible intro hb)|(refine Xi ?_ ?_<;>try intro ht)|exact Xx|fail)))
     all_goals
      repeat(refine Xu ?_)
      ((repeat'(first|refine Vb X0 ?_|fail)))
      exact aN rfl (by rw[hr])
  have Fs:=Ft hm fV;have p9:(∀ j,j<kids.length->lE P.length i (kids.getD j 0)=true)->kY m P.length i ⟨c,kids,df,a8,cells⟩=true:=λh=>by
   unfold kY;rw[fV,ic,gA];intro k hk;obtain⟨j,hj,rfl⟩:=kr hk;have:=h j hj;rwa [ay,bx hj]at this
  dsimp only at Fs;repeat'(first|((fail_if_success (first|refine dW 7 ?_|refine dX 7 ?_));refine Xr (X3 @aJ.eq_1 @cd @ax.eq_1) ?_;intro K hK)|(refine hK _ ?_;clear hK K)|(refine Xi ?_ ?_<;>try intro ht)|refine Xy ?_|refine Xd ?_ ?_|exact Xx|fail)
  (refine aid ?_);intro Q0 fY gu
  refine pH ⟨ar [(2,.ptr 0 0 0),(3,.ptr 1 0 0),(5,.ref 2 1 0 P.length),(6,QM i),(7,.ptr 3 0 0),(25,.tree 5 (rowsOf ax P)),(26,QM P.length),(27,QM i)],[.var (ao m),.var (aJ P),.arr 1 (ints (jX P.length (fM (P.take i)))),.var (ax ⟨c,kids,df,a8,cells⟩)]⟩ fY ?_ (λkey=>?_);rotate_left
  ·(try clear fY)
   unfold mJ at fV;dsimp only at fV;rw[oF]at fV;by_cases eL:c = -1
   ·rw[if_pos eL,decide_eq_true_eq]at fV;((repeat'(first|refine Va (X3 @aJ.eq_1 @cd @ax.eq_1) ?_|(refine V2 (X3 @aJ.eq_1 @cd @ax.eq_1) ?_ ?_<;>try with_reducible intro hb)|(refine Xi ?_ ?_<;>try intro ht)|exact Xx|fail)))
    all_goals
     refine key _ ?_;exact Xv (X2 @aJ.eq_1 @ax.eq_1)
   ·rw[if_neg eL,decide_eq_true_eq]at fV;have Aa:=Aa ⟨fV.1,fV.2.1⟩;((repeat'(first|refine Va (X5 @aJ.eq_1 @cd @ax.eq_1 @oF @aT.eq_1) ?_|(refine V2 (X5 @aJ.eq_1 @cd @ax.eq_1 @oF @aT.eq_1) ?_ ?_<;>try with_reducible intro hb)|(refine Xi ?_ ?_<;>try intro ht)|exact Xx|fail)))
    all_goals
     refine key _ ?_;exact Xv (X2 @aJ.eq_1 @ax.eq_1)
  (try clear fY;try clear gu)
  refine Va (X2 @aJ.eq_1 @ax.eq_1) ?_;refine aQ (λj:Nat=>(⟨ar [(2,.ptr 0 0 0),(3,.ptr 1 0 0),(5,.ref 2 1 0 P.length),(6,QM i),(25,.tree 5 (rowsOf ax P)),(26,QM P.length),(27,QM i),(108,.tree 1 (ints kids)),(109,QM kids.length),(110,QM j)],[.var (ao m),.var (aJ P),.arr 1 (ints (jX P.length (fM (P.take i)++kids.take j)))]⟩:St))
   (λj=>j<=kids.length/\∀ a,a<j->lE P.length i (kids.getD a 0)=true) (λj=>kids.length-j) 0 ⟨aP _,λa ha=>absurd ha (my _)⟩ (by rw[mu,List.append_nil];exact Xs false [0,1,2] @aJ.eq_1) ?_
  rintro j⟨hj,VS⟩cR bg bm;by_cases fI:j<kids.length
  ·have ik:=ep fI;have Dz:kids.getD j default=kids.getD j 0:=rfl;have aie:=BJ j fI;rw[Dz]at ik;have nm:(fM (P.take i)++kids.take j).length<=24*P.length+24:=by rw[List.length_append,e9];omega
   generalize iZ:kids.getD j 0=k at *;by_cases Fu:lE P.length i k=true;rotate_left
   ·have hr:=aie Fu;unfold lE at Fu;rw[decide_eq_true_eq]at Fu;((repeat'(first|refine Va (X2 @aJ.eq_1 @iZ) ?_|(refine V2 (X2 @aJ.eq_1 @iZ) ?_ ?_<;>try with_reducible intro hb)|(refine Xi ?_ ?_<;>try intro ht)|exact Xx|fail)))
    all_goals
     repeat(refine Xu ?_)
     ((repeat'(first|refine Vb X0 ?_|fail)))
     exact aN rfl (by rw[hr])
   have VT:=Fu;unfold lE at VT;rw[decide_eq_true_eq]at VT;have vZ:=aif (n:=P.length) (l:=fM (P.take i)++kids.take j) (j:=k.toNat) Ey;have dG:=BK P.length (fM (P.take i)++kids.take j);have eX:=aih P.length (fM (P.take i)++kids.take j) k.toNat Ey;rw[Int.toNat_of_nonneg Ey,List.append_assoc,<- ik]at eX;((repeat'(first|refine Va (X3 @aJ.eq_1 @iZ @dG) ?_|(refine V2 (X3 @aJ.eq_1 @iZ @dG) ?_ ?_<;>try with_reducible intro hb)|(refine Xi ?_ ?_<;>try intro ht)|exact Xx|fail)))
   refine bg _ (j+1) ⟨Ey,λa ha=>?_⟩ Ey (by rw[eX];exact Xv @aJ.eq_1);by_cases e:a=j
   ·subst e;rw[iZ];exact Fu
   ·exact VS a Ey
  ·obtain rfl:j=kids.length:=Ey;rw[xd,<- Ix];((repeat'(first|refine Va X0 ?_|(refine V2 X0 ?_ ?_<;>try with_reducible intro hb)|(refine Xi ?_ ?_<;>try intro ht)|exact Xx|fail)))
   refine bm _ _ rfl ?_;clear bg bm cR;repeat(refine Xu ?_)
   refine Va X0 ?_;refine ak _ (i+1) ⟨Ey,λa ha=>?_⟩ Ey (Xv @aJ.eq_1);by_cases e:a=i
   ·subst e;rw[cd];exact p9 VS
   ·exact dS a Ey
 ·obtain rfl:i=P.length:=Ey;rw[xd];have lF:=Iy (m:=m) ⟨jD,j5⟩ dS;rw[an]at lF;have xL:=VO ((jX P.length (fM P)).drop 1) 128 [] [] (λx=>x != 1) (by rw[wY,BK];omega) (λx _=>aia x);have dG:=BK P.length (fM P);have Nj:(ints (jX P.length (fM P))).drop 1=ints ((jX P.length (fM P)).drop 1):=by unfold ints;rw[List.map_drop]
  have xM:((jX P.length (fM P)).drop 1).length=P.length-1:=by rw[wY,BK]
  ((repeat'(first|refine Va X0 ?_|(refine Xi ?_ ?_<;>try intro ht)|exact Xx|fail)))
  refine aq _ _ rfl ?_;clear ak aq Ql;repeat(refine Xu ?_)
  generalize jX P.length (fM P)=pc at *;refine bP (σ':=⟨ar [(5,.tree 1 (ints pc))],[]⟩) (by rw[<- dG];exact Xs true [] X0) ?_;((repeat'(first|refine Vd (X4 @dG @Nj @xM @Option.map_none.{0,0}) xL ?_|refine VD ?_ ?_|fail)))
  ·intro _;trivial
  exact aN rfl (by rw[lF])
end T

