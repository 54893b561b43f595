import Derived.Test.YtfoopmojjjpapaaGreatX21
set_option linter.all false
set_option maxHeartbeats 0
set_option maxRecDepth 20000
open Nat renaming zero_le→aP,le_refl→aZ,not_lt_zero→my
open List renaming cons_append→dw,nil_append→eJ,drop_eq_nil_of_le→jL,contains_iff_mem→ny,getElem_of_mem→kr,length_take→e9,getD_eq_getElem?_getD→ay,getElem?_eq_getElem→bx,all_eq_true→gA
open Bool renaming not_eq_true→vF,true_and→ic,not_true→iH,not_false→kP
open Option renaming map_none→rH
open Go Go.Am Go.Proofs
namespace T
def akU(l:List (List (Int×Int)))(g:FuncId)(bF:List AV)(aa:List Ob)(p:(List (Int×Int))->Bool)(hl:l.length<9223372036854775808)(hg:∀ x∈l,Holds Tryz.prog g ([.tree 2 (rowsOf bf x)]++bF) aa (.lit (.bool (p x))) aa):
  Holds Tryz.prog 131 [.tree 1 (rowsOf tF l),.fn g bF] aa (QM (gm p 0 l)) aa:=by
 generalize an:gm p 0 l=res;refine Holds.aM 19 aa.length [.tmp 4] Tryz.func131 ?_;refine Vb (X3 @cF @gJ @tF.eq_1) ?_;refine aQ (λk:Nat=>(⟨ar [(0,.tree 1 (rowsOf tF l)),(1,.fn g bF),(7,QM l.length),(8,QM k)],aa⟩:St)) (λk=>k<=l.length/\gm p k (l.drop k)=res) (λk=>l.length-k) 0 ⟨aP _,an⟩ (Xv X0) ?_;rintro k⟨hk,hr⟩Ql ak aq;by_cases bj:k<l.length
 ·have hx:=hg _ (aF (d:=default) bj);have hd:=kR l k default bj;generalize cd:l.getD k default=x at *;rw[hd,gm]at hr;simp only[dw,eJ,tF]at hx;((repeat'(first|refine Vb (X4 @cF @gJ @tF.eq_1 @cd) ?_|(refine Xi ?_ ?_<;>try intro ht)|exact Xx|fail))<;>try with_reducible intro K hK)
  refine gr hx (aZ _) ?_;((try revert hK K);(repeat'(first|refine Vb (X3 @cF @gJ @tF.eq_1) ?_|(refine Xi ?_ ?_<;>try intro ht)|fail)))
  ·rw[if_pos (by assumption)]at hr;rw[<- hr];exact eN rfl (aZ _) rfl
  ·rw[if_neg (by simp_all)]at hr;exact ak _ (k+1) ⟨Ey,hr⟩ Ey (Xv X0)
 ·((repeat'(first|refine Vb (X3 @cF @gJ @tF.eq_1) ?_|(refine Xi ?_ ?_<;>try intro ht)|exact Xx|fail)))
  rw[jL Ey,gm]at hr;rw[<- hr];exact eN rfl (aZ _) rfl
def ab8(l:List (List (Int×Int)))(g:FuncId)(bF:List AV)(aa:List Ob)(p:(List (Int×Int))->Bool)(hl:l.length<9223372036854775808)(hg:∀ x∈l,Holds Tryz.prog g ([.tree 2 (rowsOf bf x)]++bF) aa (.lit (.bool (p x))) aa):
  Holds Tryz.prog 98 [.tree 1 (rowsOf tF l),.fn g bF] aa (.lit (.bool (l.any p))) aa:=by
 rw[<- Ab p l 0];refine Holds.aM 9 aa.length [.tmp 4] Tryz.func98 ?_;((refine Vb (X3 @cF @gJ @tF.eq_1) ?_)<;>try with_reducible intro K hK)
 refine gr (akU l g bF aa p hl hg) (aZ _) ?_;((try revert hK K);(refine Vb (X3 @cF @gJ @tF.eq_1) ?_))
 exact eN rfl (aZ _) rfl
def akV(l:List Pr)(g:FuncId)(bF:List AV)(aa:List Ob)(p:Pr->Bool)(hl:l.length<9223372036854775808)(hg:∀ x∈l,Holds Tryz.prog g ([.agg (aI x)]++bF) aa (.lit (.bool (p x))) aa):
  Holds Tryz.prog 156 [.tree 4 (rowsOf aI l),.fn g bF] aa (QM (gm p 0 l)) aa:=by
 generalize an:gm p 0 l=res;refine Holds.aM 19 aa.length [.tmp 4] Tryz.func156 ?_;refine Vb (X3 @cF @gJ @aI.eq_1) ?_;refine aQ (λk:Nat=>(⟨ar [(0,.tree 4 (rowsOf aI l)),(1,.fn g bF),(7,QM l.length),(8,QM k)],aa⟩:St)) (λk=>k<=l.length/\gm p k (l.drop k)=res) (λk=>l.length-k) 0 ⟨aP _,an⟩ (Xv X0) ?_;rintro k⟨hk,hr⟩Ql ak aq;by_cases bj:k<l.length
 ·have hx:=hg _ (aF (d:=default) bj);have hd:=kR l k default bj;generalize cd:l.getD k default=x at *;rw[hd,gm]at hr;simp only[dw,eJ,aI]at hx;((repeat'(first|refine Vb (X4 @cF @gJ @aI.eq_1 @cd) ?_|(refine Xi ?_ ?_<;>try intro ht)|exact Xx|fail))<;>try with_reducible intro K hK)
  refine gr hx (aZ _) ?_;((try revert hK K);(repeat'(first|refine Vb (X3 @cF @gJ @aI.eq_1) ?_|(refine Xi ?_ ?_<;>try intro ht)|fail)))
  ·rw[if_pos (by assumption)]at hr;rw[<- hr];exact eN rfl (aZ _) rfl
  ·rw[if_neg (by simp_all)]at hr;exact ak _ (k+1) ⟨Ey,hr⟩ Ey (Xv X0)
 ·((repeat'(first|refine Vb (X3 @cF @gJ @aI.eq_1) ?_|(refine Xi ?_ ?_<;>try intro ht)|exact Xx|fail)))
  rw[jL Ey,gm]at hr;rw[<- hr];exact eN rfl (aZ _) rfl
def ab9(l:List Pr)(g:FuncId)(bF:List AV)(aa:List Ob)(p:Pr->Bool)(hl:l.length<9223372036854775808)(hg:∀ x∈l,Holds Tryz.prog g ([.agg (aI x)]++bF) aa (.lit (.bool (p x))) aa):
  Holds Tryz.prog 149 [.tree 4 (rowsOf aI l),.fn g bF] aa (.lit (.bool (l.any p))) aa:=by
 rw[<- Ab p l 0];refine Holds.aM 9 aa.length [.tmp 4] Tryz.func149 ?_;((refine Vb (X3 @cF @gJ @aI.eq_1) ?_)<;>try with_reducible intro K hK)
 refine gr (akV l g bF aa p hl hg) (aZ _) ?_;((try revert hK K);(refine Vb (X3 @cF @gJ @aI.eq_1) ?_))
 exact eN rfl (aZ _) rfl
def za(v:Int):List Int->Int->Int
 |[],_=>-1
 |x::r,k=>if v=x then k else za v r (k+1)
def ab'(v:Int):∀ (l:List Int) (k:Int),0<=k->(0<=za v l k↔v∈l)
 |[],k,hk=>by simp[za]
 |x::r,k,hk=>by
  rw[za];split
  ·rename_i h;simp[h,hk]
  ·rename_i h;rw[ab' v r (k+1) Ey];simp[h]
def akW(l:List Int)(v:Int)(hl:l.length<9223372036854775808):Holds Tryz.prog 129 [.tree 1 (ints l),QM v] [] (QM (za v l 0)) []:=by
 generalize an:za v l 0=res;refine Holds.aM 19 0 [.tmp 4] Tryz.func129 ?_;repeat'(first|(refine Xr X0 ?_;intro K hK)|(refine hK _ ?_;clear hK K)|refine Xz ?_|fail)
 refine aQ (λk:Nat=>(⟨ar [(0,.tree 1 (ints l)),(1,QM v),(7,QM l.length),(8,QM k)],[]⟩:St)) (λk=>k<=l.length/\za v (l.drop k) k=res) (λk=>l.length-k) 0 ⟨aP _,an⟩ (Xv X0) ?_;rintro k⟨hk,hr⟩Ql ak aq;by_cases bj:k<l.length
 ·have hd:=kR l k 0 bj;generalize a6:l.getD k 0=x at *;rw[hd,za]at hr;((repeat'(first|refine Va @a6 ?_|(refine Xi ?_ ?_<;>try intro ht)|exact Xx|fail)))
  ·rw[if_pos (by assumption)]at hr;repeat(refine Xu ?_)
   refine Vb X0 ?_;rw[<- hr];exact Ly rfl
  ·rw[if_neg (by assumption)]at hr;exact ak _ (k+1) ⟨Ey,hr⟩ Ey (Xv X0)
 ·((repeat'(first|refine Va X0 ?_|(refine Xi ?_ ?_<;>try intro ht)|exact Xx|fail)))
  rw[jL Ey,za]at hr;refine aq _ _ rfl ?_;clear ak aq Ql;repeat(refine Xu ?_)
  refine Vb X0 ?_;rw[<- hr];exact Ly rfl
def aca(l:List Int)(v:Int)(hl:l.length<9223372036854775808):Holds Tryz.prog 96 [.tree 1 (ints l),QM v] [] (.lit (.bool (l.contains v))) []:=by
 have h:=ab' v l 0 Ey;refine Holds.aM 9 0 [.tmp 4] Tryz.func96 ?_;repeat'(first|(refine Xq X0 ?_;intro K hK)|refine Xo X0 ?_|refine Xc (akW l v hl) ?_|(refine hK _ ?_;clear hK K)|refine Xz ?_|(refine Xe ?_;first|refine aN rfl ?_|refine Xl ?_ ?_)|fail)
 rw[<- ny]at h;cases hb:l.contains v<;>rw[hb]at h
 ·rw[decide_eq_false (by simpa using h)]
 ·rw[decide_eq_true (by simpa using h)]
def akX:xj Tryz.prog 152 2:=xj.of 4 (by kernel_rfl)
def akY:Tryz.prog.eqGuardType Tryz.prog.depth 152=false:=by kernel_rfl
def akZ(l:List (Int×Int))(c o:Int)(hl:l.length<9223372036854775808):Holds Tryz.prog 133 [.tree 2 (rowsOf bf l),.agg [QM c,QM o]] [] (QM (gm (jy c o) 0 l)) []:=by
 generalize an:gm (jy c o) 0 l=res;refine Holds.aM 19 0 [.tmp 4] Tryz.func133 ?_;refine Vb X0 ?_;refine aQ (λk:Nat=>(⟨ar [(0,.tree 2 (rowsOf bf l)),(3,.ptr 0 0 0),(7,QM l.length),(8,QM k)],[.var [QM c,QM o]]⟩:St)) (λk=>k<=l.length/\gm (jy c o) k (l.drop k)=res) (λk=>l.length-k) 0 ⟨aP _,an⟩ (Xv X0) ?_;rintro k⟨hk,hr⟩Ql ak aq;by_cases bj:k<l.length
 ·have hd:=kR l k default bj;generalize cd:l.getD k default=x at *;rw[hd,gm]at hr;obtain⟨x1,x2⟩:=x;unfold jy at hr;((repeat'(first|refine Va (X2 @cd @bf.eq_1) ?_|(refine Xi ?_ ?_<;>try intro ht)|refine VD ?_ ?_|exact Xx|fail)))
  ·exact akX
  ·exact akY
  ·simp only[List.cons.injEq,and_true]at ht;rw[if_pos (by rw[decide_eq_true_eq,ht.1,ht.2])]at hr;repeat(refine Xu ?_)
   refine Vb X0 ?_;exact aN rfl (by rw[<- hr])
  ·simp only[List.cons.injEq,and_true]at ht;rw[if_neg (by rw[decide_eq_true_eq,Prod.mk.injEq];exact λh=>ht ⟨h.1.symm,h.2.symm⟩)]at hr;exact ak _ (k+1) ⟨Ey,hr⟩ Ey (Xv X0)
 ·((repeat'(first|refine Va X0 ?_|(refine Xi ?_ ?_<;>try intro ht)|exact Xx|fail)))
  rw[jL Ey,gm]at hr;refine aq _ _ rfl ?_;clear ak aq Ql;repeat(refine Xu ?_)
  refine Vb X0 ?_;exact aN rfl (by rw[<- hr])
def ak0(l:List (Int×Int))(c o:Int)(hl:l.length<9223372036854775808):Holds Tryz.prog 102 [.tree 2 (rowsOf bf l),.agg [QM c,QM o]] [] (.lit (.bool (l.any (jy c o)))) []:=by
 rw[<- Ab (jy c o) l 0];refine Holds.aM 9 0 [.tmp 4] Tryz.func102 ?_;refine Vd X0 (akZ l c o hl) ?_;exact aN rfl rfl
def acb(m:ah)(a x b y:Int)(hm:VM m)(ha:iD m a x=true)(l9:iD m b y=true)(p:Pr)(hp:p∈m.ae):
  Holds Tryz.prog 150 [.agg (aI p),.ptr 1 0 0,.ptr 2 0 0,.ptr 0 0 0] [.var (ao m),.var [QM a,QM x],.var [QM b,QM y]] (.lit (.bool (px m a x b y p))) [.var (ao m),.var [QM a,QM x],.var [QM b,QM y]]:=by
 obtain⟨a1,a2,a3,a4⟩:=k0.1 ha;obtain⟨b1,b2,b3,b4⟩:=k0.1 l9;have dY:=kC hm.pr _ hp;obtain⟨q1,q2,q3,q4,q5⟩:=rZ dY;have hl1:=hm.opt _ (aF (l:=m.cls) (i:=a.toNat) (d:=default) Ey);have tg:=hm.opt _ (aF (l:=m.cls) (i:=b.toNat) (d:=default) Ey);have np:=hm.cls;generalize an:px m a x b y p=res;unfold px yR at an;obtain⟨fs,sn,ru,aB⟩:=p;dsimp only at *;by_cases zb:fs=a/\sn=b
 ·obtain⟨rfl,rfl⟩:=zb;generalize hA:m.cls.getD fs.toNat default=A at *;generalize hB:m.cls.getD sn.toNat default=B at *;obtain⟨e1,e2,e3⟩:=BO ⟨a3,a4⟩ ⟨b3,b4⟩ Ey Ey;generalize kI:x*(B.length:Int)=ix at *;have y8:((A.length*B.length:Nat):Int)=A.length*B.length:=G9;generalize hv:aB.getD (ix+y).toNat 0=v at *;refine Holds.aM 38 3 [.tmp 5] Tryz.func150 ?_;by_cases h3:v=1099511627776
  ·rw[decide_eq_true ⟨rfl,rfl,h3⟩]at an;refine Vb (X5 @aI.eq_1 @hB @aT.eq_1 @kI @hv) ?_;all_goals(subst an;subst h3;exact Xw false [0,1,2] X0)
  ·rw[decide_eq_false (λh=>h3 h.2.2)]at an;refine Vb (X5 @aI.eq_1 @hB @aT.eq_1 @kI @hv) ?_;all_goals(subst an;rw[show(v==1099511627776)=false by simpa using h3];exact Xw false [0,1,2] X0)
 ·refine Holds.aM 38 3 [.tmp 5] Tryz.func150 ?_;rw[decide_eq_false (λh=>zb ⟨h.1,h.2.1⟩)]at an;((repeat'(first|refine Vb @aI.eq_1 ?_|(refine V2 @aI.eq_1 ?_ ?_<;>try with_reducible intro hb)|exact Xx|fail)))
  all_goals(subst an;exact Xw false [0,1,2] X0)
def ak1(m:ah)(a x b y:Int)(hm:VM m)(ha:iD m a x=true)(l9:iD m b y=true):
  Holds Tryz.prog 132 [.agg (ao m),.agg [QM a,QM x],.agg [QM b,QM y]] [] (.lit (.bool (tH m a x b y))) []:=by
 have uU:=hm.ae;unfold tH;by_cases h:b<a
 ·rw[if_pos h];have hc:=ab9 m.ae 150 [.ptr 1 0 0,.ptr 2 0 0,.ptr 0 0 0] [.var (ao m),.var [QM b,QM y],.var [QM a,QM x]] (px m b y a x) Ey (λp hp=>acb m b y a x hm l9 ha p hp);generalize m.ae.any (px m b y a x)=res at *;refine Holds.aM 18 0 [.tmp 6] Tryz.func132 ?_;((repeat'(first|refine Vb X0 ?_|(refine Xi ?_ ?_<;>try intro ht)|exact Xx|fail))<;>try with_reducible intro K hK)
  refine gr hc G9 ?_;((try revert hK K);(refine Vb X0 ?_))
  exact aN rfl rfl
 ·rw[if_neg h];have hc:=ab9 m.ae 150 [.ptr 1 0 0,.ptr 2 0 0,.ptr 0 0 0] [.var (ao m),.var [QM a,QM x],.var [QM b,QM y]] (px m a x b y) Ey (λp hp=>acb m a x b y hm ha l9 p hp);generalize m.ae.any (px m a x b y)=res at *;refine Holds.aM 18 0 [.tmp 6] Tryz.func132 ?_;((repeat'(first|refine Vb X0 ?_|(refine Xi ?_ ?_<;>try intro ht)|exact Xx|fail))<;>try with_reducible intro K hK)
  refine gr hc G9 ?_;((try revert hK K);(refine Vb X0 ?_))
  exact aN rfl rfl
def ak2(m:ah)(g:List Int)(l:List (Int×Int))(hm:VM m)(hg:∀ c∈g,0<=c/\c<m.cls.length)(uQ:g.length<9223372036854775808)(eY:l.length<9223372036854775808):
  Holds Tryz.prog 100 [.agg (ao m),.tree 1 (ints g),.tree 2 (rowsOf bf l)] [] (.lit (.bool (q8 m g l))) []:=by
 have np:=hm.cls;generalize an:q8 m g l=res;unfold q8 at an;refine Holds.aM 62 0 [.tmp 6] Tryz.func100 ?_;refine Vb X0 ?_;refine aQ (λi:Nat=>(⟨ar [(1,.tree 1 (ints g)),(2,.tree 2 (rowsOf bf l)),(3,.ptr 0 0 0),(11,.tree 2 (rowsOf bf l)),(12,QM l.length),(13,QM i)],[.var (ao m)]⟩:St))
  (λi=>i<=l.length/\∀ a,a<i->tI m g l a=true) (λi=>l.length-i) 0 ⟨aP _,λa ha=>absurd ha (my _)⟩ (Xv X0) ?_
 rintro i⟨hi,cT⟩Ql ak aq;by_cases au:i<l.length
 ·have eu:=ep au;have iF:=DT (f:=tI m g l) au;rw[an]at iF;have ak3:∀ b∈l.take i,iD m b.1 b.2=true:=λb hb=>by
   obtain⟨a,ha,rfl⟩:=kr hb;rw[e9]at ha;have:=cT a Ey;unfold tI at this;simp only[Bool.and_eq_true]at this;rw[List.getElem_take];rw[ay,bx Ey]at this;exact this.1.2
  have bL:tI m g l i=true->∀ a,a<i+1->tI m g l a=true:=λh a ha=>by
   by_cases e:a=i
   ·subst e;exact h
   ·exact cT a Ey
  unfold tI at iF bL;have Dt:(rowsOf bf l).take i=rowsOf bf (l.take i):=by unfold rowsOf;rw[List.map_take]
  have oJ:(l.take i).length=i:=by rw[e9];omega
  generalize cd:l.getD i default=x at *;obtain⟨c,o⟩:=x;dsimp only at iF bL;have eL:=aca g c uQ;have hgc:g.contains c=true->0<=c/\c<m.cls.length:=λh=>hg c (ny.1 h);have nN:=λh=>hm.opt _ (aF (l:=m.cls) (i:=c.toNat) (d:=default) h);have ql:=@k0 m c o;generalize hA:m.cls.getD c.toNat default=A at *;by_cases da:g.contains c=true;rotate_left
  ·rw[vF]at da;rw[da]at iF eL;have hr:=iF G9;((repeat'(first|refine Vc (X2 @cd @bf.eq_1) eL ?_|(refine Xi ?_ ?_<;>try intro ht)|exact Xx|fail)))
   all_goals
    repeat(refine Xu ?_)
    refine Vb X0 ?_;exact aN rfl (by rw[hr])
  obtain⟨kT,zT⟩:=hgc da;have nN:=nN Ey;rw[da]at eL iF;by_cases nq:iD m c o=true;rotate_left
  ·have iz:¬(0<=c/\c<m.cls.length/\0<=o/\o<A.length):=λh=>nq (ql.2 h);rw[vF]at nq;rw[nq]at iF;have hr:=iF G9;repeat'(first|((fail_if_success (first|refine dW 6 ?_|refine dX 6 ?_));refine Xq (X4 @cd @bf.eq_1 @hA @aT.eq_1) ?_;intro K hK)|refine Xo (X4 @cd @bf.eq_1 @hA @aT.eq_1) ?_|refine Xc (eL) ?_|(refine hK _ ?_;clear hK K)|(refine Xg (X4 @cd @bf.eq_1 @hA @aT.eq_1) ?_ ?_<;>try intro hb)|(refine Xi ?_ ?_<;>try intro ht)|refine Xy ?_|refine Xd ?_ ?_|exact Xx|fail)
   all_goals
    repeat(refine Xu ?_)
    ((repeat'(first|refine Vb X0 ?_|fail)))
    exact aN rfl (by rw[hr])
  obtain⟨o1,o2,o3,o4⟩:=ql.1 nq;rw[nq,ic,ic]at iF;rw[da,nq,ic,ic]at bL;((repeat'(first|refine Vc (X5 @cd @bf.eq_1 @hA @aT.eq_1 (X4 @Dt @oJ @rH.{0,0} @implies_true.{0})) eL ?_|(refine V2 (X5 @cd @bf.eq_1 @hA @aT.eq_1 (X4 @Dt @oJ @rH.{0,0} @implies_true.{0})) ?_ ?_<;>try with_reducible intro hb)|(refine Xi ?_ ?_<;>try intro ht)|exact Xx|fail)))
  refine aQ (λj:Nat=>(⟨ar [(1,.tree 1 (ints g)),(2,.tree 2 (rowsOf bf l)),(3,.ptr 0 0 0),(8,.ptr 1 0 0),(11,.tree 2 (rowsOf bf l)),(12,QM l.length),(13,QM i),(42,.tree 2 (rowsOf bf (l.take i))),(43,QM i),(44,QM j)],[.var (ao m),.var [QM c,QM o]]⟩:St))
   (λj=>j<=i/\∀ a,a<j->tG m (c,o) ((l.take i).getD a default)=true) (λj=>i-j) 0 ⟨aP _,λa ha=>absurd ha (my _)⟩ (Xv X0) ?_
  rintro j⟨hj,lz⟩cR bg bm;by_cases fI:j<i
  ·have bR:=aF (l:=l.take i) (i:=j) (d:=default) Ey;have bS:=ak3 _ bR;have sN:tG m (c,o) ((l.take i).getD j default)=true->∀ a,a<j+1->tG m (c,o) ((l.take i).getD a default)=true:=λh a ha=>by
    by_cases e:a=j
    ·subst e;exact h
    ·exact lz a Ey
   have sP:=λh=>iF (all_false bR h);generalize qm:(l.take i).getD j default=y at *;obtain⟨b,u⟩:=y;unfold tG at sP sN;dsimp only at bS sP sN;have bI:=ak1 m c o b u hm nq bS;generalize tH m c o b u=cl at *;by_cases hcb:c=b
   ·((repeat'(first|refine Va (X3 @qm @oJ @bf.eq_1) ?_|(refine V2 (X3 @qm @oJ @bf.eq_1) ?_ ?_<;>try with_reducible intro hb)|(refine Xi ?_ ?_<;>try intro ht)|exact Xx|fail)))
    exact bg _ (j+1) ⟨Ey,sN (by rw[decide_eq_true hcb];rfl)⟩ Ey (Xs false [0,1] X0)
   ·rw[decide_eq_false hcb,Bool.false_or]at sP;cases cl
    ·have hr:=sP rfl;((repeat'(first|refine Vc (X3 @qm @oJ @bf.eq_1) bI ?_|(refine V2 (X3 @qm @oJ @bf.eq_1) ?_ ?_<;>try with_reducible intro hb)|(refine Xi ?_ ?_<;>try intro ht)|exact Xx|fail)))
     all_goals
      repeat(refine Xu ?_)
      refine Vb X0 ?_;exact aN rfl (by rw[hr])
    ·((repeat'(first|refine Vc (X4 @qm @oJ @bf.eq_1 @iH) bI ?_|(refine V2 (X4 @qm @oJ @bf.eq_1 @iH) ?_ ?_<;>try with_reducible intro hb)|(refine Xi ?_ ?_<;>try intro ht)|exact Xx|fail)))
     exact bg _ (j+1) ⟨Ey,sN (by rw[Bool.or_true])⟩ Ey (Xs false [0,1] X0)
  ·obtain rfl:j=i:=Ey;((repeat'(first|refine Va X0 ?_|(refine V2 X0 ?_ ?_<;>try with_reducible intro hb)|(refine Xi ?_ ?_<;>try intro ht)|exact Xx|fail)))
   refine bm _ _ rfl ?_;clear bg bm cR;repeat(refine Xu ?_)
   refine Va X0 ?_;refine ak _ (j+1) ⟨Ey,bL ?_⟩ Ey (Xs false [0] X0);rw[gA];intro b hb;obtain⟨a,ha,rfl⟩:=kr hb;have:=lz a Ey;rwa [ay,bx ha]at this
 ·obtain rfl:i=l.length:=Ey;rw[B3.2 cT]at an;((repeat'(first|refine Va X0 ?_|(refine Xi ?_ ?_<;>try intro ht)|exact Xx|fail)))
  refine aq _ _ rfl ?_;clear ak aq Ql;repeat(refine Xu ?_)
  refine Vb X0 ?_;exact aN rfl (by rw[<- an])
def ak5(m:ah)(x:Nd)(hm:VM m)(hg:∀ c∈x.a8,0<=c/\c<m.cls.length)(uQ:x.a8.length<9223372036854775808)(l:List (Int×Int))(eY:l.length<9223372036854775808):
  Holds Tryz.prog 99 [.tree 2 (rowsOf bf l),.ptr 0 0 0,.ptr 1 0 0] [.var (ao m),.var (ax x)] (.lit (.bool (!q8 m x.a8 l))) [.var (ao m),.var (ax x)]:=by
 have h:=ak2 m x.a8 l hm hg uQ eY;generalize q8 m x.a8 l=res at *;refine Holds.aM 11 2 [.tmp 4] Tryz.func99 ?_;refine Vd @ax.eq_1 h ?_;exact eN rfl G9 rfl
def ak6(m:ah)(x:Nd)(c o:Int)(l:List (Int×Int))(eY:l.length<9223372036854775808):
  Holds Tryz.prog 101 [.tree 2 (rowsOf bf l),.ptr 2 0 0,.ptr 3 0 0] [.var (ao m),.var (ax x),.var [QM c],.var [QM o]] (.lit (.bool (l.any (jy c o)))) [.var (ao m),.var (ax x),.var [QM c],.var [QM o]]:=by
 have h:=ak0 l c o eY;generalize l.any (jy c o)=res at *;refine Holds.aM 10 4 [.tmp 4] Tryz.func101 ?_;refine Vd X0 h ?_;exact eN rfl G9 rfl
def ak7(m:ah)(x:Nd)(left:List (List Bool))(hm:VM m)(hf:cK m left)(uQ:x.a8.length<9223372036854775808)(bI:x.cells.length<9223372036854775808)(eY:∀ l∈x.cells,l.length<9223372036854775808):
  Holds Tryz.prog 67 [.agg (ao m),.agg (ax x),.tree 1 (rowsOf aA left)] [] (.lit (.bool (ma m x left))) []:=by
 have np:=hm.cls;have jg:=hf.1;generalize an:ma m x left=res;have kT:=@aax m x left;have zT:=@aay m x left;have OJ:=@aaz m x left;have sL:=@aaA m x left;have Dx:=@aaB m x left;rw[an]at kT zT OJ sL Dx;obtain⟨cl,kids,df,a8,cells⟩:=x;dsimp only at *;refine Holds.aM 87 0 [.tmp 6] Tryz.func67 ?_;refine Vb @ax.eq_1 ?_;refine aQ (λi:Nat=>(⟨ar [(2,.tree 1 (rowsOf aA left)),(3,.ptr 0 0 0),(4,.ptr 1 0 0),(15,.tree 1 (ints a8)),(16,QM a8.length),(17,QM i)],[.var (ao m),.var (ax ⟨cl,kids,df,a8,cells⟩)]⟩:St))
  (λi=>i<=a8.length/\∀ a,a<i->decide (0<=a8.getD a 0/\a8.getD a 0<m.cls.length/\(a=0\/a8.getD (a-1) 0<a8.getD a 0))=true) (λi=>a8.length-i) 0 ⟨aP _,λa ha=>absurd ha (my _)⟩ (Xv @ax.eq_1) ?_
 rintro i⟨hi,dS⟩Ql ak aq;by_cases au:i<a8.length
 ·have iF:=DT (f:=λi=>decide (0<=a8.getD i 0/\a8.getD i 0<m.cls.length/\(i=0\/a8.getD (i-1) 0<a8.getD i 0))) au;have bL:decide (0<=a8.getD i 0/\a8.getD i 0<m.cls.length/\(i=0\/a8.getD (i-1) 0<a8.getD i 0))=true->∀ a,a<i+1->decide (0<=a8.getD a 0/\a8.getD a 0<m.cls.length/\(a=0\/a8.getD (a-1) 0<a8.getD a 0))=true:=λh a ha=>by
   by_cases e:a=i
   ·subst e;exact h
   ·exact dS a Ey
  have gj:0<i->((i:Int)-1).toNat=i-1/\i-1<a8.length:=λh=>⟨Ey,Ey⟩;have kI:0<i->a8.getD ((i:Int)-1).toNat 0=a8.getD (i-1) 0:=λh=>by rw[(gj h).1]
  generalize a6:a8.getD i 0=c at *;generalize M5:a8.getD (i-1) 0=q at *;have lF:c=c:=rfl;rcases Nat.eq_zero_or_pos i with h0|h0
  ·by_cases az:0<=c/\c<m.cls.length
   ·((repeat'(first|refine Va (X2 @ax.eq_1 @a6) ?_|(refine V2 (X2 @ax.eq_1 @a6) ?_ ?_<;>try with_reducible intro hb)|(refine Xi ?_ ?_<;>try intro ht)|exact Xx|fail)))
    exact ak _ (i+1) ⟨Ey,bL (decide_eq_true ⟨az.1,az.2,.inl h0⟩)⟩ Ey (Xv @ax.eq_1)
   ·have hr:=kT (iF (decide_eq_false λh=>az ⟨h.1,h.2.1⟩));((repeat'(first|refine Va (X2 @ax.eq_1 @a6) ?_|(refine V2 (X2 @ax.eq_1 @a6) ?_ ?_<;>try with_reducible intro hb)|(refine Xi ?_ ?_<;>try intro ht)|exact Xx|fail)))
    all_goals
     repeat(refine Xu ?_)
     ((repeat'(first|refine Vb X0 ?_|fail)))
     exact aN rfl (by rw[hr])
  ·have kI:=kI h0;obtain⟨zd,zb⟩:=gj h0;by_cases az:0<=c/\c<m.cls.length/\q<c
   ·((repeat'(first|refine Va (X3 @ax.eq_1 @a6 @kI) ?_|(refine V2 (X3 @ax.eq_1 @a6 @kI) ?_ ?_<;>try with_reducible intro hb)|(refine Xi ?_ ?_<;>try intro ht)|exact Xx|fail)))
    exact ak _ (i+1) ⟨Ey,bL (decide_eq_true ⟨az.1,az.2.1,.inr az.2.2⟩)⟩ Ey (Xv @ax.eq_1)
   ·have hr:=kT (iF (decide_eq_false λh=>az ⟨h.1,h.2.1,Ey⟩));((repeat'(first|refine Va (X3 @ax.eq_1 @a6 @kI) ?_|(refine V2 (X3 @ax.eq_1 @a6 @kI) ?_ ?_<;>try with_reducible intro hb)|(refine Xi ?_ ?_<;>try intro ht)|exact Xx|fail)))
    all_goals
     repeat(refine Xu ?_)
     ((repeat'(first|refine Vb X0 ?_|fail)))
     exact aN rfl (by rw[hr])
 obtain rfl:i=a8.length:=Ey;have ze:DR m a8=true:=B3.2 dS;have DC:=aav ze;clear kT dS;((repeat'(first|refine Va X0 ?_|(refine V2 X0 ?_ ?_<;>try with_reducible intro hb)|(refine Xi ?_ ?_<;>try intro ht)|exact Xx|fail)))
 refine aq _ _ rfl ?_;clear ak aq Ql;repeat(refine Xu ?_)
 have xL:=ab8 cells 99 [.ptr 0 0 0,.ptr 1 0 0] [.var (ao m),.var (ax ⟨cl,kids,df,a8,cells⟩)] (λl=>!q8 m a8 l) bI (λl hl=>ak5 m ⟨cl,kids,df,a8,cells⟩ hm DC uQ l (eY l hl));rw[aaw]at xL;by_cases aX:cells.length<a8.length;rotate_left
 ·have hr:=zT aX;((repeat'(first|refine Vb @ax.eq_1 ?_|(refine V2 @ax.eq_1 ?_ ?_<;>try with_reducible intro hb)|(refine Xi ?_ ?_<;>try intro ht)|exact Xx|fail)))
  exact aN rfl (by rw[hr])
 cases nh:cells.all (q8 m a8)
 ·have hr:=OJ nh;rw[nh]at xL;((repeat'(first|refine Vb @ax.eq_1 ?_|(refine V2 @ax.eq_1 ?_ ?_<;>try with_reducible intro hb)|(refine Xi ?_ ?_<;>try intro ht)|exact Xx|fail))<;>try with_reducible intro K hK)
  refine gr xL G9 ?_;((try revert hK K);(repeat'(first|refine Vb (X2 @ax.eq_1 @kP) ?_|(refine Xi ?_ ?_<;>try intro ht)|exact Xx|fail)))
  exact aN rfl (by rw[hr])
 rw[nh]at xL;have Dx:=Dx ze aX nh;clear zT OJ;((repeat'(first|refine Vb @ax.eq_1 ?_|(refine V2 @ax.eq_1 ?_ ?_<;>try with_reducible intro hb)|(refine Xi ?_ ?_<;>try intro ht)|exact Xx|fail))<;>try with_reducible intro K hK)
 refine gr xL G9 ?_;((try revert hK K);(repeat'(first|refine Vb (X2 @ax.eq_1 @iH) ?_|(refine Xi ?_ ?_<;>try intro ht)|exact Xx|fail)))
 refine aQ (λi:Nat=>(⟨ar [(2,.tree 1 (rowsOf aA left)),(3,.ptr 0 0 0),(4,.ptr 1 0 0),(60,.tree 1 (ints a8)),(61,QM a8.length),(62,QM i)],[.var (ao m),.var (ax ⟨cl,kids,df,a8,cells⟩)]⟩:St))
  (λi=>i<=a8.length/\∀ a,a<i->vc left cells (a8.getD a 0)=true) (λi=>a8.length-i) 0 ⟨aP _,λa ha=>absurd ha (my _)⟩ (Xv @ax.eq_1) ?_
 rintro i⟨hi,dS⟩Ql ak aq;by_cases au:i<a8.length
 ·have bR:=aF (l:=a8) (i:=i) (d:=0) au;have iF:=λh=>sL (all_false bR h);have qO:=DC _ bR;have bL:vc left cells (a8.getD i 0)=true->∀ a,a<i+1->vc left cells (a8.getD a 0)=true:=λh a ha=>by
   by_cases e:a=i
   ·subst e;exact h
   ·exact dS a Ey
  generalize a6:a8.getD i 0=c at *;have ak8:=hf.row hm _ (aF (l:=left) (i:=c.toNat) (d:=default) Ey);unfold vc at iF bL;generalize eV:left.getD c.toNat default=row at *;((repeat'(first|refine Va (X4 @ax.eq_1 @a6 @aA.eq_1 @eV) ?_|(refine Xi ?_ ?_<;>try intro ht)|exact Xx|fail)))
  refine aQ (λo:Nat=>(⟨ar [(2,.tree 1 (rowsOf aA left)),(3,.ptr 0 0 0),(4,.ptr 1 0 0),(10,.ptr 2 0 0),(60,.tree 1 (ints a8)),(61,QM a8.length),(62,QM i),(69,.tree 1 (aV row)),(70,QM row.length),(71,QM o)],[.var (ao m),.var (ax ⟨cl,kids,df,a8,cells⟩),.var [QM c]]⟩:St))
   (λo=>o<=row.length/\∀ a,a<o->(!row.getD a false||cells.any λl=>l.any (jy c a))=true) (λo=>row.length-o) 0 ⟨aP _,λa ha=>absurd ha (my _)⟩ (Xv @ax.eq_1) ?_
  rintro o⟨ho,Gj⟩cR bg bm;by_cases cz:o<row.length
  ·have sP:=λh=>iF (DT (f:=λo:Nat=>!row.getD o false||cells.any λl=>l.any (jy c o)) cz h);have sN:(!row.getD o false||cells.any λl=>l.any (jy c o))=true->∀ a,a<o+1->(!row.getD a false||cells.any λl=>l.any (jy c a))=true:=λh a ha=>by
    by_cases e:a=o
    ·subst e;exact h
    ·exact Gj a Ey
   have ace:=ab8 cells 101 [.ptr 2 0 0,.ptr 3 0 0] [.var (ao m),.var (ax ⟨cl,kids,df,a8,cells⟩),.var [QM c],.var [QM (o:Int)]] (λl=>l.any (jy c o)) bI (λl hl=>ak6 m ⟨cl,kids,df,a8,cells⟩ c o l (eY l hl));generalize lX:row.getD o false=b at *;generalize cells.any (λl=>l.any (jy c o))=OK at *;cases b
   ·((repeat'(first|refine Va (X2 @ax.eq_1 @lX) ?_|(refine Xi ?_ ?_<;>try intro ht)|exact Xx|fail)))
    exact bg _ (o+1) ⟨Ey,sN rfl⟩ Ey (Xs false [0,1,2] @ax.eq_1)
   ·cases OK
    ·have hr:=sP rfl;((repeat'(first|refine Va (X2 @ax.eq_1 @lX) ?_|(refine Xi ?_ ?_<;>try intro ht)|exact Xx|fail))<;>try with_reducible intro K hK)
     refine gr ace G9 ?_;((try revert hK K);(repeat'(first|refine Va (X2 @ax.eq_1 @kP) ?_|(refine Xi ?_ ?_<;>try intro ht)|exact Xx|fail)))
     all_goals
      repeat(refine Xu ?_)
      refine Vb X0 ?_;exact aN rfl (by rw[hr])
    ·((repeat'(first|refine Va (X2 @ax.eq_1 @lX) ?_|(refine Xi ?_ ?_<;>try intro ht)|exact Xx|fail))<;>try with_reducible intro K hK)
     refine gr ace G9 ?_;((try revert hK K);(repeat'(first|refine Va (X2 @ax.eq_1 @iH) ?_|(refine Xi ?_ ?_<;>try intro ht)|exact Xx|fail)))
     exact bg _ (o+1) ⟨Ey,sN rfl⟩ Ey (Xs false [0,1,2] @ax.eq_1)
  ·obtain rfl:o=row.length:=Ey;((repeat'(first|refine Va @ax.eq_1 ?_|(refine V2 @ax.eq_1 ?_ ?_<;>try with_reducible intro hb)|(refine Xi ?_ ?_<;>try intro ht)|exact Xx|fail)))
   refine bm _ _ rfl ?_;clear bg bm cR;repeat(refine Xu ?_)
   refine Va @ax.eq_1 ?_;exact ak _ (i+1) ⟨Ey,bL (B3.2 Gj)⟩ Ey (Xs false [0,1] @ax.eq_1)
 ·obtain rfl:i=a8.length:=Ey;have hr:=Dx (by
   rw[gA];intro c hc;obtain⟨a,ha,rfl⟩:=kr hc;have:=dS a ha;rwa [ay,bx ha]at this)
  ((repeat'(first|refine Va X0 ?_|(refine Xi ?_ ?_<;>try intro ht)|exact Xx|fail)))
  refine aq _ _ rfl ?_;clear ak aq Ql;repeat(refine Xu ?_)
  refine Vb X0 ?_;exact aN rfl (by rw[hr])
end T

