import Derived.Test.YtfoopmojjjpapaaGreatX27
set_option linter.all false
set_option maxHeartbeats 0
set_option maxRecDepth 20000
open Nat renaming zero_le→aS,le_refl→aY,not_lt_zero→pd
open List renaming cons_append→dx,nil_append→eC,drop_eq_nil_of_le→jA,contains_iff_mem→sq,getElem_of_mem→mZ,length_take→eY,getD_eq_getElem?_getD→az,getElem?_eq_getElem→bF,all_eq_true→fW
open Bool renaming not_eq_true→Cg,true_and→gK,not_true→iN,not_false→kB
open Option renaming map_none→qT
open Go Go.Am Go.Proofs
namespace T
def alv(l:List (List (Int×Int)))(g:FuncId)(bC:List AV)(aa:List Ob)(p:(List (Int×Int))->Bool)(hl:l.length<9223372036854775808)(hg:∀ x∈l,Holds Tryz.prog g ([.tree 2 (rowsOf bd x)]++bC) aa (.lit (.bool (p x))) aa):
  Holds Tryz.prog 131 [.tree 1 (rowsOf sY l),.fn g bC] aa (Qf (fV p 0 l)) aa:=by
 generalize au:fV p 0 l=res;refine Holds.aM 19 aa.length [.tmp 4] Tryz.func131 ?_;refine Vb (X3 @cH @gw @sY.eq_1) ?_;refine aR (λk:Nat=>(⟨ao [(0,.tree 1 (rowsOf sY l)),(1,.fn g bC),(7,Qf l.length),(8,Qf k)],aa⟩:St)) (λk=>k<=l.length/\fV p k (l.drop k)=res) (λk=>l.length-k) 0 ⟨aS _,au⟩ (Xv X0) ?_;rintro k⟨hk,hr⟩Ql ak aq;by_cases bg:k<l.length
 ·have hx:=hg _ (aF (d:=default) bg);have hd:=kd l k default bg;generalize bZ:l.getD k default=x at *;rw[hd,fV]at hr;simp only[dx,eC,sY]at hx;((repeat'(first|refine Vb (X4 @cH @gw @sY.eq_1 @bZ) ?_|(refine Xi ?_ ?_<;>try intro ht)|exact Xx|fail))<;>try with_reducible intro K hK)
  refine fZ hx (aY _) ?_;((try revert hK K);(repeat'(first|refine Vb (X3 @cH @gw @sY.eq_1) ?_|(refine Xi ?_ ?_<;>try intro ht)|fail)))
  ·rw[if_pos (by assumption)]at hr;rw[<- hr];exact eF rfl (aY _) rfl
  ·rw[if_neg (by simp_all)]at hr;exact ak _ (k+1) ⟨GK,hr⟩ GK (Xv X0)
 ·((repeat'(first|refine Vb (X3 @cH @gw @sY.eq_1) ?_|(refine Xi ?_ ?_<;>try intro ht)|exact Xx|fail)))
  rw[jA GK,fV]at hr;rw[<- hr];exact eF rfl (aY _) rfl
def abV(l:List (List (Int×Int)))(g:FuncId)(bC:List AV)(aa:List Ob)(p:(List (Int×Int))->Bool)(hl:l.length<9223372036854775808)(hg:∀ x∈l,Holds Tryz.prog g ([.tree 2 (rowsOf bd x)]++bC) aa (.lit (.bool (p x))) aa):
  Holds Tryz.prog 98 [.tree 1 (rowsOf sY l),.fn g bC] aa (.lit (.bool (l.any p))) aa:=by
 rw[<- zZ p l 0];refine Holds.aM 9 aa.length [.tmp 4] Tryz.func98 ?_;((refine Vb (X3 @cH @gw @sY.eq_1) ?_)<;>try with_reducible intro K hK)
 refine fZ (alv l g bC aa p hl hg) (aY _) ?_;((try revert hK K);(refine Vb (X3 @cH @gw @sY.eq_1) ?_))
 exact eF rfl (aY _) rfl
def alw(l:List Pr)(g:FuncId)(bC:List AV)(aa:List Ob)(p:Pr->Bool)(hl:l.length<9223372036854775808)(hg:∀ x∈l,Holds Tryz.prog g ([.agg (aI x)]++bC) aa (.lit (.bool (p x))) aa):
  Holds Tryz.prog 156 [.tree 4 (rowsOf aI l),.fn g bC] aa (Qf (fV p 0 l)) aa:=by
 generalize au:fV p 0 l=res;refine Holds.aM 19 aa.length [.tmp 4] Tryz.func156 ?_;refine Vb (X3 @cH @gw @aI.eq_1) ?_;refine aR (λk:Nat=>(⟨ao [(0,.tree 4 (rowsOf aI l)),(1,.fn g bC),(7,Qf l.length),(8,Qf k)],aa⟩:St)) (λk=>k<=l.length/\fV p k (l.drop k)=res) (λk=>l.length-k) 0 ⟨aS _,au⟩ (Xv X0) ?_;rintro k⟨hk,hr⟩Ql ak aq;by_cases bg:k<l.length
 ·have hx:=hg _ (aF (d:=default) bg);have hd:=kd l k default bg;generalize bZ:l.getD k default=x at *;rw[hd,fV]at hr;simp only[dx,eC,aI]at hx;((repeat'(first|refine Vb (X4 @cH @gw @aI.eq_1 @bZ) ?_|(refine Xi ?_ ?_<;>try intro ht)|exact Xx|fail))<;>try with_reducible intro K hK)
  refine fZ hx (aY _) ?_;((try revert hK K);(repeat'(first|refine Vb (X3 @cH @gw @aI.eq_1) ?_|(refine Xi ?_ ?_<;>try intro ht)|fail)))
  ·rw[if_pos (by assumption)]at hr;rw[<- hr];exact eF rfl (aY _) rfl
  ·rw[if_neg (by simp_all)]at hr;exact ak _ (k+1) ⟨GK,hr⟩ GK (Xv X0)
 ·((repeat'(first|refine Vb (X3 @cH @gw @aI.eq_1) ?_|(refine Xi ?_ ?_<;>try intro ht)|exact Xx|fail)))
  rw[jA GK,fV]at hr;rw[<- hr];exact eF rfl (aY _) rfl
def abW(l:List Pr)(g:FuncId)(bC:List AV)(aa:List Ob)(p:Pr->Bool)(hl:l.length<9223372036854775808)(hg:∀ x∈l,Holds Tryz.prog g ([.agg (aI x)]++bC) aa (.lit (.bool (p x))) aa):
  Holds Tryz.prog 149 [.tree 4 (rowsOf aI l),.fn g bC] aa (.lit (.bool (l.any p))) aa:=by
 rw[<- zZ p l 0];refine Holds.aM 9 aa.length [.tmp 4] Tryz.func149 ?_;((refine Vb (X3 @cH @gw @aI.eq_1) ?_)<;>try with_reducible intro K hK)
 refine fZ (alw l g bC aa p hl hg) (aY _) ?_;((try revert hK K);(refine Vb (X3 @cH @gw @aI.eq_1) ?_))
 exact eF rfl (aY _) rfl
def yN(v:Int):List Int->Int->Int
 |[],_=>-1
 |x::r,k=>if v=x then k else yN v r (k+1)
def abX(v:Int):∀ (l:List Int) (k:Int),0<=k->(0<=yN v l k↔v∈l)
 |[],k,hk=>by simp[yN]
 |x::r,k,hk=>by
  rw[yN];split
  ·rename_i h;simp[h,hk]
  ·rename_i h;rw[abX v r (k+1) GK];simp[h]
def alx(l:List Int)(v:Int)(hl:l.length<9223372036854775808):Holds Tryz.prog 129 [.tree 1 (ints l),Qf v] [] (Qf (yN v l 0)) []:=by
 generalize au:yN v l 0=res;refine Holds.aM 19 0 [.tmp 4] Tryz.func129 ?_;repeat'(first|(refine Xr X0 ?_;intro K hK)|(refine hK _ ?_;clear hK K)|refine Xz ?_|fail)
 refine aR (λk:Nat=>(⟨ao [(0,.tree 1 (ints l)),(1,Qf v),(7,Qf l.length),(8,Qf k)],[]⟩:St)) (λk=>k<=l.length/\yN v (l.drop k) k=res) (λk=>l.length-k) 0 ⟨aS _,au⟩ (Xv X0) ?_;rintro k⟨hk,hr⟩Ql ak aq;by_cases bg:k<l.length
 ·have hd:=kd l k 0 bg;generalize bc:l.getD k 0=x at *;rw[hd,yN]at hr;((repeat'(first|refine Va @bc ?_|(refine Xi ?_ ?_<;>try intro ht)|exact Xx|fail)))
  ·rw[if_pos (by assumption)]at hr;repeat(refine Xu ?_)
   refine Vb X0 ?_;rw[<- hr];exact KR rfl
  ·rw[if_neg (by assumption)]at hr;exact ak _ (k+1) ⟨GK,hr⟩ GK (Xv X0)
 ·((repeat'(first|refine Va X0 ?_|(refine Xi ?_ ?_<;>try intro ht)|exact Xx|fail)))
  rw[jA GK,yN]at hr;refine aq _ _ rfl ?_;clear ak aq Ql;repeat(refine Xu ?_)
  refine Vb X0 ?_;rw[<- hr];exact KR rfl
def Ye(l:List Int)(v:Int)(hl:l.length<9223372036854775808):Holds Tryz.prog 96 [.tree 1 (ints l),Qf v] [] (.lit (.bool (l.contains v))) []:=by
 have h:=abX v l 0 GK;refine Holds.aM 9 0 [.tmp 4] Tryz.func96 ?_;repeat'(first|(refine Xq X0 ?_;intro K hK)|refine Xo X0 ?_|refine Xc (alx l v hl) ?_|(refine hK _ ?_;clear hK K)|refine Xz ?_|(refine Xe ?_;first|refine aO rfl ?_|refine Xl ?_ ?_)|fail)
 rw[<- sq]at h;cases hb:l.contains v<;>rw[hb]at h
 ·rw[decide_eq_false (by simpa using h)]
 ·rw[decide_eq_true (by simpa using h)]
def aly:wM Tryz.prog 152 2:=wM.of 4 (by kernel_rfl)
def alz:Tryz.prog.eqGuardType Tryz.prog.depth 152=false:=by kernel_rfl
def alA(l:List (Int×Int))(c o:Int)(hl:l.length<9223372036854775808):Holds Tryz.prog 133 [.tree 2 (rowsOf bd l),.agg [Qf c,Qf o]] [] (Qf (fV (jl c o) 0 l)) []:=by
 generalize au:fV (jl c o) 0 l=res;refine Holds.aM 19 0 [.tmp 4] Tryz.func133 ?_;refine Vb X0 ?_;refine aR (λk:Nat=>(⟨ao [(0,.tree 2 (rowsOf bd l)),(3,.ptr 0 0 0),(7,Qf l.length),(8,Qf k)],[.var [Qf c,Qf o]]⟩:St)) (λk=>k<=l.length/\fV (jl c o) k (l.drop k)=res) (λk=>l.length-k) 0 ⟨aS _,au⟩ (Xv X0) ?_;rintro k⟨hk,hr⟩Ql ak aq;by_cases bg:k<l.length
 ·have hd:=kd l k default bg;generalize bZ:l.getD k default=x at *;rw[hd,fV]at hr;obtain⟨x1,x2⟩:=x;unfold jl at hr;((repeat'(first|refine Va (X2 @bZ @bd.eq_1) ?_|(refine Xi ?_ ?_<;>try intro ht)|refine VD ?_ ?_|exact Xx|fail)))
  ·exact aly
  ·exact alz
  ·simp only[List.cons.injEq,and_true]at ht;rw[if_pos (by rw[decide_eq_true_eq,ht.1,ht.2])]at hr;repeat(refine Xu ?_)
   refine Vb X0 ?_;exact aO rfl (by rw[<- hr])
  ·simp only[List.cons.injEq,and_true]at ht;rw[if_neg (by rw[decide_eq_true_eq,Prod.mk.injEq];exact λh=>ht ⟨h.1.symm,h.2.symm⟩)]at hr;exact ak _ (k+1) ⟨GK,hr⟩ GK (Xv X0)
 ·((repeat'(first|refine Va X0 ?_|(refine Xi ?_ ?_<;>try intro ht)|exact Xx|fail)))
  rw[jA GK,fV]at hr;refine aq _ _ rfl ?_;clear ak aq Ql;repeat(refine Xu ?_)
  refine Vb X0 ?_;exact aO rfl (by rw[<- hr])
def alB(l:List (Int×Int))(c o:Int)(hl:l.length<9223372036854775808):Holds Tryz.prog 102 [.tree 2 (rowsOf bd l),.agg [Qf c,Qf o]] [] (.lit (.bool (l.any (jl c o)))) []:=by
 rw[<- zZ (jl c o) l 0];refine Holds.aM 9 0 [.tmp 4] Tryz.func102 ?_;refine Vd X0 (alA l c o hl) ?_;exact aO rfl rfl
def abY(m:ah)(a x b y:Int)(hm:VM m)(ha:hZ m a x=true)(lL:hZ m b y=true)(p:Pr)(hp:p∈m.ae):
  Holds Tryz.prog 150 [.agg (aI p),.ptr 1 0 0,.ptr 2 0 0,.ptr 0 0 0] [.var (an m),.var [Qf a,Qf x],.var [Qf b,Qf y]] (.lit (.bool (oX m a x b y p))) [.var (an m),.var [Qf a,Qf x],.var [Qf b,Qf y]]:=by
 obtain⟨a1,a2,a3,a4⟩:=jN.1 ha;obtain⟨b1,b2,b3,b4⟩:=jN.1 lL;have dO:=j6 hm.pr _ hp;obtain⟨q1,q2,q3,q4,q5⟩:=qA dO;have vH:=hm.opt _ (aF (l:=m.cls) (i:=a.toNat) (d:=default) GK);have re:=hm.opt _ (aF (l:=m.cls) (i:=b.toNat) (d:=default) GK);have oT:=hm.cls;generalize au:oX m a x b y p=res;unfold oX yq at au;obtain⟨fs,sn,ru,ay⟩:=p;dsimp only at *;by_cases yO:fs=a/\sn=b
 ·obtain⟨rfl,rfl⟩:=yO;generalize hA:m.cls.getD fs.toNat default=A at *;generalize hB:m.cls.getD sn.toNat default=B at *;obtain⟨e1,e2,e3⟩:=zL ⟨a3,a4⟩ ⟨b3,b4⟩ GK GK;generalize jk:x*(B.length:Int)=ix at *;have yJ:((A.length*B.length:Nat):Int)=A.length*B.length:=GM;generalize hv:ay.getD (ix+y).toNat 0=v at *;refine Holds.aM 38 3 [.tmp 5] Tryz.func150 ?_;by_cases h3:v=1099511627776
  ·rw[decide_eq_true ⟨rfl,rfl,h3⟩]at au;refine Vb (X5 @aI.eq_1 @hB @aW.eq_1 @jk @hv) ?_;all_goals(subst au;subst h3;exact Xw false [0,1,2] X0)
  ·rw[decide_eq_false (λh=>h3 h.2.2)]at au;refine Vb (X5 @aI.eq_1 @hB @aW.eq_1 @jk @hv) ?_;all_goals(subst au;rw[show(v==1099511627776)=false by simpa using h3];exact Xw false [0,1,2] X0)
 ·refine Holds.aM 38 3 [.tmp 5] Tryz.func150 ?_;rw[decide_eq_false (λh=>yO ⟨h.1,h.2.1⟩)]at au;((repeat'(first|refine Vb @aI.eq_1 ?_|(refine V2 @aI.eq_1 ?_ ?_<;>try with_reducible intro hb)|exact Xx|fail)))
  all_goals(subst au;exact Xw false [0,1,2] X0)
def alC(m:ah)(a x b y:Int)(hm:VM m)(ha:hZ m a x=true)(lL:hZ m b y=true):
  Holds Tryz.prog 132 [.agg (an m),.agg [Qf a,Qf x],.agg [Qf b,Qf y]] [] (.lit (.bool (s6 m a x b y))) []:=by
 have vG:=hm.ae;unfold s6;by_cases h:b<a
 ·rw[if_pos h];have hc:=abW m.ae 150 [.ptr 1 0 0,.ptr 2 0 0,.ptr 0 0 0] [.var (an m),.var [Qf b,Qf y],.var [Qf a,Qf x]] (oX m b y a x) GK (λp hp=>abY m b y a x hm lL ha p hp);generalize m.ae.any (oX m b y a x)=res at *;refine Holds.aM 18 0 [.tmp 6] Tryz.func132 ?_;((repeat'(first|refine Vb X0 ?_|(refine Xi ?_ ?_<;>try intro ht)|exact Xx|fail))<;>try with_reducible intro K hK)
  refine fZ hc GM ?_;((try revert hK K);(refine Vb X0 ?_))
  exact aO rfl rfl
 ·rw[if_neg h];have hc:=abW m.ae 150 [.ptr 1 0 0,.ptr 2 0 0,.ptr 0 0 0] [.var (an m),.var [Qf a,Qf x],.var [Qf b,Qf y]] (oX m a x b y) GK (λp hp=>abY m a x b y hm ha lL p hp);generalize m.ae.any (oX m a x b y)=res at *;refine Holds.aM 18 0 [.tmp 6] Tryz.func132 ?_;((repeat'(first|refine Vb X0 ?_|(refine Xi ?_ ?_<;>try intro ht)|exact Xx|fail))<;>try with_reducible intro K hK)
  refine fZ hc GM ?_;((try revert hK K);(refine Vb X0 ?_))
  exact aO rfl rfl
def alD(m:ah)(g:List Int)(l:List (Int×Int))(hm:VM m)(hg:∀ c∈g,0<=c/\c<m.cls.length)(uO:g.length<9223372036854775808)(ij:l.length<9223372036854775808):
  Holds Tryz.prog 100 [.agg (an m),.tree 1 (ints g),.tree 2 (rowsOf bd l)] [] (.lit (.bool (qB m g l))) []:=by
 have oT:=hm.cls;generalize au:qB m g l=res;unfold qB at au;refine Holds.aM 62 0 [.tmp 6] Tryz.func100 ?_;refine Vb X0 ?_;refine aR (λi:Nat=>(⟨ao [(1,.tree 1 (ints g)),(2,.tree 2 (rowsOf bd l)),(3,.ptr 0 0 0),(11,.tree 2 (rowsOf bd l)),(12,Qf l.length),(13,Qf i)],[.var (an m)]⟩:St))
  (λi=>i<=l.length/\∀ a,a<i->s8 m g l a=true) (λi=>l.length-i) 0 ⟨aS _,λa ha=>absurd ha (pd _)⟩ (Xv X0) ?_
 rintro i⟨hi,cM⟩Ql ak aq;by_cases ar:i<l.length
 ·have ez:=eu ar;have ig:=C8 (f:=s8 m g l) ar;rw[au]at ig;have alE:∀ b∈l.take i,hZ m b.1 b.2=true:=λb hb=>by
   obtain⟨a,ha,rfl⟩:=mZ hb;rw[eY]at ha;have:=cM a GK;unfold s8 at this;simp only[Bool.and_eq_true]at this;rw[List.getElem_take];rw[az,bF GK]at this;exact this.1.2
  have bG:s8 m g l i=true->∀ a,a<i+1->s8 m g l a=true:=λh a ha=>by
   by_cases e:a=i
   ·subst e;exact h
   ·exact cM a GK
  unfold s8 at ig bG;have CU:(rowsOf bd l).take i=rowsOf bd (l.take i):=by unfold rowsOf;rw[List.map_take]
  have oz:(l.take i).length=i:=by rw[eY];omega
  generalize bZ:l.getD i default=x at *;obtain⟨c,o⟩:=x;dsimp only at ig bG;have fj:=Ye g c uO;have hgc:g.contains c=true->0<=c/\c<m.cls.length:=λh=>hg c (sq.1 h);have nt:=λh=>hm.opt _ (aF (l:=m.cls) (i:=c.toNat) (d:=default) h);have pU:=@jN m c o;generalize hA:m.cls.getD c.toNat default=A at *;by_cases eJ:g.contains c=true;rotate_left
  ·rw[Cg]at eJ;rw[eJ]at ig fj;have hr:=ig GM;((repeat'(first|refine Vc (X2 @bZ @bd.eq_1) fj ?_|(refine Xi ?_ ?_<;>try intro ht)|exact Xx|fail)))
   all_goals
    repeat(refine Xu ?_)
    refine Vb X0 ?_;exact aO rfl (by rw[hr])
  obtain⟨lf,zy⟩:=hgc eJ;have nt:=nt GK;rw[eJ]at fj ig;by_cases mQ:hZ m c o=true;rotate_left
  ·have kE:¬(0<=c/\c<m.cls.length/\0<=o/\o<A.length):=λh=>mQ (pU.2 h);rw[Cg]at mQ;rw[mQ]at ig;have hr:=ig GM;repeat'(first|((fail_if_success (first|refine eM 6 ?_|refine eN 6 ?_));refine Xq (X4 @bZ @bd.eq_1 @hA @aW.eq_1) ?_;intro K hK)|refine Xo (X4 @bZ @bd.eq_1 @hA @aW.eq_1) ?_|refine Xc (fj) ?_|(refine hK _ ?_;clear hK K)|(refine Xg (X4 @bZ @bd.eq_1 @hA @aW.eq_1) ?_ ?_<;>try intro hb)|(refine Xi ?_ ?_<;>try intro ht)|refine Xy ?_|refine Xd ?_ ?_|exact Xx|fail)
   all_goals
    repeat(refine Xu ?_)
    ((repeat'(first|refine Vb X0 ?_|fail)))
    exact aO rfl (by rw[hr])
  obtain⟨o1,o2,o3,o4⟩:=pU.1 mQ;rw[mQ,gK,gK]at ig;rw[eJ,mQ,gK,gK]at bG;((repeat'(first|refine Vc (X5 @bZ @bd.eq_1 @hA @aW.eq_1 (X4 @CU @oz @qT.{0,0} @implies_true.{0})) fj ?_|(refine V2 (X5 @bZ @bd.eq_1 @hA @aW.eq_1 (X4 @CU @oz @qT.{0,0} @implies_true.{0})) ?_ ?_<;>try with_reducible intro hb)|(refine Xi ?_ ?_<;>try intro ht)|exact Xx|fail)))
  refine aR (λj:Nat=>(⟨ao [(1,.tree 1 (ints g)),(2,.tree 2 (rowsOf bd l)),(3,.ptr 0 0 0),(8,.ptr 1 0 0),(11,.tree 2 (rowsOf bd l)),(12,Qf l.length),(13,Qf i),(42,.tree 2 (rowsOf bd (l.take i))),(43,Qf i),(44,Qf j)],[.var (an m),.var [Qf c,Qf o]]⟩:St))
   (λj=>j<=i/\∀ a,a<j->sZ m (c,o) ((l.take i).getD a default)=true) (λj=>i-j) 0 ⟨aS _,λa ha=>absurd ha (pd _)⟩ (Xv X0) ?_
  rintro j⟨hj,k8⟩cJ bj br;by_cases fe:j<i
  ·have bR:=aF (l:=l.take i) (i:=j) (d:=default) GK;have bP:=alE _ bR;have rU:sZ m (c,o) ((l.take i).getD j default)=true->∀ a,a<j+1->sZ m (c,o) ((l.take i).getD a default)=true:=λh a ha=>by
    by_cases e:a=j
    ·subst e;exact h
    ·exact k8 a GK
   have rV:=λh=>ig (all_false bR h);generalize pV:(l.take i).getD j default=y at *;obtain⟨b,u⟩:=y;unfold sZ at rV rU;dsimp only at bP rV rU;have bK:=alC m c o b u hm mQ bP;generalize s6 m c o b u=cl at *;by_cases hcb:c=b
   ·((repeat'(first|refine Va (X3 @pV @oz @bd.eq_1) ?_|(refine V2 (X3 @pV @oz @bd.eq_1) ?_ ?_<;>try with_reducible intro hb)|(refine Xi ?_ ?_<;>try intro ht)|exact Xx|fail)))
    exact bj _ (j+1) ⟨GK,rU (by rw[decide_eq_true hcb];rfl)⟩ GK (Xs false [0,1] X0)
   ·rw[decide_eq_false hcb,Bool.false_or]at rV;cases cl
    ·have hr:=rV rfl;((repeat'(first|refine Vc (X3 @pV @oz @bd.eq_1) bK ?_|(refine V2 (X3 @pV @oz @bd.eq_1) ?_ ?_<;>try with_reducible intro hb)|(refine Xi ?_ ?_<;>try intro ht)|exact Xx|fail)))
     all_goals
      repeat(refine Xu ?_)
      refine Vb X0 ?_;exact aO rfl (by rw[hr])
    ·((repeat'(first|refine Vc (X4 @pV @oz @bd.eq_1 @iN) bK ?_|(refine V2 (X4 @pV @oz @bd.eq_1 @iN) ?_ ?_<;>try with_reducible intro hb)|(refine Xi ?_ ?_<;>try intro ht)|exact Xx|fail)))
     exact bj _ (j+1) ⟨GK,rU (by rw[Bool.or_true])⟩ GK (Xs false [0,1] X0)
  ·obtain rfl:j=i:=GK;((repeat'(first|refine Va X0 ?_|(refine V2 X0 ?_ ?_<;>try with_reducible intro hb)|(refine Xi ?_ ?_<;>try intro ht)|exact Xx|fail)))
   refine br _ _ rfl ?_;clear bj br cJ;repeat(refine Xu ?_)
   refine Va X0 ?_;refine ak _ (j+1) ⟨GK,bG ?_⟩ GK (Xs false [0] X0);rw[fW];intro b hb;obtain⟨a,ha,rfl⟩:=mZ hb;have:=k8 a GK;rwa [az,bF ha]at this
 ·obtain rfl:i=l.length:=GK;rw[Bm.2 cM]at au;((repeat'(first|refine Va X0 ?_|(refine Xi ?_ ?_<;>try intro ht)|exact Xx|fail)))
  refine aq _ _ rfl ?_;clear ak aq Ql;repeat(refine Xu ?_)
  refine Vb X0 ?_;exact aO rfl (by rw[<- au])
def alG(m:ah)(x:Nd)(hm:VM m)(hg:∀ c∈x.a7,0<=c/\c<m.cls.length)(uO:x.a7.length<9223372036854775808)(l:List (Int×Int))(ij:l.length<9223372036854775808):
  Holds Tryz.prog 99 [.tree 2 (rowsOf bd l),.ptr 0 0 0,.ptr 1 0 0] [.var (an m),.var (aB x)] (.lit (.bool (!qB m x.a7 l))) [.var (an m),.var (aB x)]:=by
 have h:=alD m x.a7 l hm hg uO ij;generalize qB m x.a7 l=res at *;refine Holds.aM 11 2 [.tmp 4] Tryz.func99 ?_;refine Vd @aB.eq_1 h ?_;exact eF rfl GM rfl
def alH(m:ah)(x:Nd)(c o:Int)(l:List (Int×Int))(ij:l.length<9223372036854775808):
  Holds Tryz.prog 101 [.tree 2 (rowsOf bd l),.ptr 2 0 0,.ptr 3 0 0] [.var (an m),.var (aB x),.var [Qf c],.var [Qf o]] (.lit (.bool (l.any (jl c o)))) [.var (an m),.var (aB x),.var [Qf c],.var [Qf o]]:=by
 have h:=alB l c o ij;generalize l.any (jl c o)=res at *;refine Holds.aM 10 4 [.tmp 4] Tryz.func101 ?_;refine Vd X0 h ?_;exact eF rfl GM rfl
def aiK(m:ah)(x:Nd)(left:List (List Bool))(hm:VM m)(hf:dh m left)(uO:x.a7.length<9223372036854775808)(bK:x.cells.length<9223372036854775808)(ij:∀ l∈x.cells,l.length<9223372036854775808):
  Holds Tryz.prog 67 [.agg (an m),.agg (aB x),.tree 1 (rowsOf aC left)] [] (.lit (.bool (mh m x left))) []:=by
 have oT:=hm.cls;have iP:=hf.1;generalize au:mh m x left=res;have lf:=@Ui m x left;have zy:=@Uj m x left;have OI:=@Uk m x left;have rT:=@Ul m x left;have zO:=@Um m x left;rw[au]at lf zy OI rT zO;obtain⟨cl,kids,c9,a7,cells⟩:=x;dsimp only at *;refine Holds.aM 87 0 [.tmp 6] Tryz.func67 ?_;refine Vb @aB.eq_1 ?_;refine aR (λi:Nat=>(⟨ao [(2,.tree 1 (rowsOf aC left)),(3,.ptr 0 0 0),(4,.ptr 1 0 0),(15,.tree 1 (ints a7)),(16,Qf a7.length),(17,Qf i)],[.var (an m),.var (aB ⟨cl,kids,c9,a7,cells⟩)]⟩:St))
  (λi=>i<=a7.length/\∀ a,a<i->decide (0<=a7.getD a 0/\a7.getD a 0<m.cls.length/\(a=0\/a7.getD (a-1) 0<a7.getD a 0))=true) (λi=>a7.length-i) 0 ⟨aS _,λa ha=>absurd ha (pd _)⟩ (Xv @aB.eq_1) ?_
 rintro i⟨hi,dY⟩Ql ak aq;by_cases ar:i<a7.length
 ·have ig:=C8 (f:=λi=>decide (0<=a7.getD i 0/\a7.getD i 0<m.cls.length/\(i=0\/a7.getD (i-1) 0<a7.getD i 0))) ar;have bG:decide (0<=a7.getD i 0/\a7.getD i 0<m.cls.length/\(i=0\/a7.getD (i-1) 0<a7.getD i 0))=true->∀ a,a<i+1->decide (0<=a7.getD a 0/\a7.getD a 0<m.cls.length/\(a=0\/a7.getD (a-1) 0<a7.getD a 0))=true:=λh a ha=>by
   by_cases e:a=i
   ·subst e;exact h
   ·exact dY a GK
  have fR:0<i->((i:Int)-1).toNat=i-1/\i-1<a7.length:=λh=>⟨GK,GK⟩;have jk:0<i->a7.getD ((i:Int)-1).toNat 0=a7.getD (i-1) 0:=λh=>by rw[(fR h).1]
  generalize bc:a7.getD i 0=c at *;generalize FO:a7.getD (i-1) 0=q at *;have lv:c=c:=rfl;rcases Nat.eq_zero_or_pos i with h0|h0
  ·by_cases ax:0<=c/\c<m.cls.length
   ·((repeat'(first|refine Va (X2 @aB.eq_1 @bc) ?_|(refine V2 (X2 @aB.eq_1 @bc) ?_ ?_<;>try with_reducible intro hb)|(refine Xi ?_ ?_<;>try intro ht)|exact Xx|fail)))
    exact ak _ (i+1) ⟨GK,bG (decide_eq_true ⟨ax.1,ax.2,.inl h0⟩)⟩ GK (Xv @aB.eq_1)
   ·have hr:=lf (ig (decide_eq_false λh=>ax ⟨h.1,h.2.1⟩));((repeat'(first|refine Va (X2 @aB.eq_1 @bc) ?_|(refine V2 (X2 @aB.eq_1 @bc) ?_ ?_<;>try with_reducible intro hb)|(refine Xi ?_ ?_<;>try intro ht)|exact Xx|fail)))
    all_goals
     repeat(refine Xu ?_)
     ((repeat'(first|refine Vb X0 ?_|fail)))
     exact aO rfl (by rw[hr])
  ·have jk:=jk h0;obtain⟨yM,yO⟩:=fR h0;by_cases ax:0<=c/\c<m.cls.length/\q<c
   ·((repeat'(first|refine Va (X3 @aB.eq_1 @bc @jk) ?_|(refine V2 (X3 @aB.eq_1 @bc @jk) ?_ ?_<;>try with_reducible intro hb)|(refine Xi ?_ ?_<;>try intro ht)|exact Xx|fail)))
    exact ak _ (i+1) ⟨GK,bG (decide_eq_true ⟨ax.1,ax.2.1,.inr ax.2.2⟩)⟩ GK (Xv @aB.eq_1)
   ·have hr:=lf (ig (decide_eq_false λh=>ax ⟨h.1,h.2.1,GK⟩));((repeat'(first|refine Va (X3 @aB.eq_1 @bc @jk) ?_|(refine V2 (X3 @aB.eq_1 @bc @jk) ?_ ?_<;>try with_reducible intro hb)|(refine Xi ?_ ?_<;>try intro ht)|exact Xx|fail)))
    all_goals
     repeat(refine Xu ?_)
     ((repeat'(first|refine Vb X0 ?_|fail)))
     exact aO rfl (by rw[hr])
 obtain rfl:i=a7.length:=GK;have yl:C7 m a7=true:=Bm.2 dY;have Dm:=Ug yl;clear lf dY;((repeat'(first|refine Va X0 ?_|(refine V2 X0 ?_ ?_<;>try with_reducible intro hb)|(refine Xi ?_ ?_<;>try intro ht)|exact Xx|fail)))
 refine aq _ _ rfl ?_;clear ak aq Ql;repeat(refine Xu ?_)
 have xr:=abV cells 99 [.ptr 0 0 0,.ptr 1 0 0] [.var (an m),.var (aB ⟨cl,kids,c9,a7,cells⟩)] (λl=>!qB m a7 l) bK (λl hl=>alG m ⟨cl,kids,c9,a7,cells⟩ hm Dm uO l (ij l hl));rw[Uh]at xr;by_cases aX:cells.length<a7.length;rotate_left
 ·have hr:=zy aX;((repeat'(first|refine Vb @aB.eq_1 ?_|(refine V2 @aB.eq_1 ?_ ?_<;>try with_reducible intro hb)|(refine Xi ?_ ?_<;>try intro ht)|exact Xx|fail)))
  exact aO rfl (by rw[hr])
 cases lI:cells.all (qB m a7)
 ·have hr:=OI lI;rw[lI]at xr;((repeat'(first|refine Vb @aB.eq_1 ?_|(refine V2 @aB.eq_1 ?_ ?_<;>try with_reducible intro hb)|(refine Xi ?_ ?_<;>try intro ht)|exact Xx|fail))<;>try with_reducible intro K hK)
  refine fZ xr GM ?_;((try revert hK K);(repeat'(first|refine Vb (X2 @aB.eq_1 @kB) ?_|(refine Xi ?_ ?_<;>try intro ht)|exact Xx|fail)))
  exact aO rfl (by rw[hr])
 rw[lI]at xr;have zO:=zO yl aX lI;clear zy OI;((repeat'(first|refine Vb @aB.eq_1 ?_|(refine V2 @aB.eq_1 ?_ ?_<;>try with_reducible intro hb)|(refine Xi ?_ ?_<;>try intro ht)|exact Xx|fail))<;>try with_reducible intro K hK)
 refine fZ xr GM ?_;((try revert hK K);(repeat'(first|refine Vb (X2 @aB.eq_1 @iN) ?_|(refine Xi ?_ ?_<;>try intro ht)|exact Xx|fail)))
 refine aR (λi:Nat=>(⟨ao [(2,.tree 1 (rowsOf aC left)),(3,.ptr 0 0 0),(4,.ptr 1 0 0),(60,.tree 1 (ints a7)),(61,Qf a7.length),(62,Qf i)],[.var (an m),.var (aB ⟨cl,kids,c9,a7,cells⟩)]⟩:St))
  (λi=>i<=a7.length/\∀ a,a<i->uA left cells (a7.getD a 0)=true) (λi=>a7.length-i) 0 ⟨aS _,λa ha=>absurd ha (pd _)⟩ (Xv @aB.eq_1) ?_
 rintro i⟨hi,dY⟩Ql ak aq;by_cases ar:i<a7.length
 ·have bR:=aF (l:=a7) (i:=i) (d:=0) ar;have ig:=λh=>rT (all_false bR h);have sM:=Dm _ bR;have bG:uA left cells (a7.getD i 0)=true->∀ a,a<i+1->uA left cells (a7.getD a 0)=true:=λh a ha=>by
   by_cases e:a=i
   ·subst e;exact h
   ·exact dY a GK
  generalize bc:a7.getD i 0=c at *;have alI:=hf.row hm _ (aF (l:=left) (i:=c.toNat) (d:=default) GK);unfold uA at ig bG;generalize gX:left.getD c.toNat default=row at *;((repeat'(first|refine Va (X4 @aB.eq_1 @bc @aC.eq_1 @gX) ?_|(refine Xi ?_ ?_<;>try intro ht)|exact Xx|fail)))
  refine aR (λo:Nat=>(⟨ao [(2,.tree 1 (rowsOf aC left)),(3,.ptr 0 0 0),(4,.ptr 1 0 0),(10,.ptr 2 0 0),(60,.tree 1 (ints a7)),(61,Qf a7.length),(62,Qf i),(69,.tree 1 (a8 row)),(70,Qf row.length),(71,Qf o)],[.var (an m),.var (aB ⟨cl,kids,c9,a7,cells⟩),.var [Qf c]]⟩:St))
   (λo=>o<=row.length/\∀ a,a<o->(!row.getD a false||cells.any λl=>l.any (jl c a))=true) (λo=>row.length-o) 0 ⟨aS _,λa ha=>absurd ha (pd _)⟩ (Xv @aB.eq_1) ?_
  rintro o⟨ho,F9⟩cJ bj br;by_cases cm:o<row.length
  ·have rV:=λh=>ig (C8 (f:=λo:Nat=>!row.getD o false||cells.any λl=>l.any (jl c o)) cm h);have rU:(!row.getD o false||cells.any λl=>l.any (jl c o))=true->∀ a,a<o+1->(!row.getD a false||cells.any λl=>l.any (jl c a))=true:=λh a ha=>by
    by_cases e:a=o
    ·subst e;exact h
    ·exact F9 a GK
   have ab0:=abV cells 101 [.ptr 2 0 0,.ptr 3 0 0] [.var (an m),.var (aB ⟨cl,kids,c9,a7,cells⟩),.var [Qf c],.var [Qf (o:Int)]] (λl=>l.any (jl c o)) bK (λl hl=>alH m ⟨cl,kids,c9,a7,cells⟩ c o l (ij l hl));generalize kH:row.getD o false=b at *;generalize cells.any (λl=>l.any (jl c o))=OJ at *;cases b
   ·((repeat'(first|refine Va (X2 @aB.eq_1 @kH) ?_|(refine Xi ?_ ?_<;>try intro ht)|exact Xx|fail)))
    exact bj _ (o+1) ⟨GK,rU rfl⟩ GK (Xs false [0,1,2] @aB.eq_1)
   ·cases OJ
    ·have hr:=rV rfl;((repeat'(first|refine Va (X2 @aB.eq_1 @kH) ?_|(refine Xi ?_ ?_<;>try intro ht)|exact Xx|fail))<;>try with_reducible intro K hK)
     refine fZ ab0 GM ?_;((try revert hK K);(repeat'(first|refine Va (X2 @aB.eq_1 @kB) ?_|(refine Xi ?_ ?_<;>try intro ht)|exact Xx|fail)))
     all_goals
      repeat(refine Xu ?_)
      refine Vb X0 ?_;exact aO rfl (by rw[hr])
    ·((repeat'(first|refine Va (X2 @aB.eq_1 @kH) ?_|(refine Xi ?_ ?_<;>try intro ht)|exact Xx|fail))<;>try with_reducible intro K hK)
     refine fZ ab0 GM ?_;((try revert hK K);(repeat'(first|refine Va (X2 @aB.eq_1 @iN) ?_|(refine Xi ?_ ?_<;>try intro ht)|exact Xx|fail)))
     exact bj _ (o+1) ⟨GK,rU rfl⟩ GK (Xs false [0,1,2] @aB.eq_1)
  ·obtain rfl:o=row.length:=GK;((repeat'(first|refine Va @aB.eq_1 ?_|(refine V2 @aB.eq_1 ?_ ?_<;>try with_reducible intro hb)|(refine Xi ?_ ?_<;>try intro ht)|exact Xx|fail)))
   refine br _ _ rfl ?_;clear bj br cJ;repeat(refine Xu ?_)
   refine Va @aB.eq_1 ?_;exact ak _ (i+1) ⟨GK,bG (Bm.2 F9)⟩ GK (Xs false [0,1] @aB.eq_1)
 ·obtain rfl:i=a7.length:=GK;have hr:=zO (by
   rw[fW];intro c hc;obtain⟨a,ha,rfl⟩:=mZ hc;have:=dY a ha;rwa [az,bF ha]at this)
  ((repeat'(first|refine Va X0 ?_|(refine Xi ?_ ?_<;>try intro ht)|exact Xx|fail)))
  refine aq _ _ rfl ?_;clear ak aq Ql;repeat(refine Xu ?_)
  refine Vb X0 ?_;exact aO rfl (by rw[hr])
end T

