import Derived.Test.YtfoopmojjjpapaaGreatX13
import Derived.Test.YtfoopmojjjpapaaGreatX18
set_option linter.all false
set_option maxHeartbeats 0
set_option maxRecDepth 20000
open Nat renaming zero_le→aW,le_refl→aX,not_lt_zero→sc
open List renaming cons_append→ek,nil_append→gv,drop_eq_nil_of_le→jv,contains_iff_mem→pY,getElem_of_mem→kX,length_take→fe,getD_eq_getElem?_getD→ax,getElem?_eq_getElem→bq
open Bool renaming not_eq_true→tV,true_and→iy,not_true→kU
open Option renaming map_none→p7
open Go Go.Am Go.Proofs
namespace T
def aiD(l:List (List (Int×Int)))(g:FuncId)(bF:List AV)(aa:List Ob)(p:(List (Int×Int))->Bool)(hl:l.length<9223372036854775808)(hg:∀ x∈l,Holds Tryz.prog g ([.tree 2 (rowsOf dv x)]++bF) aa (.lit (.bool (p x))) aa):
  Holds Tryz.prog 131 [.tree 1 (rowsOf rM l),.fn g bF] aa (Oi (e9 p 0 l)) aa:=by
 generalize an:e9 p 0 l=res;refine Holds.aN 19 aa.length [.tmp 4] Tryz.func131 ?_;refine Vb (X3 @cr @fK @rM.eq_1) ?_;refine bb (λk:Nat=>(⟨ao [(0,.tree 1 (rowsOf rM l)),(1,.fn g bF),(7,Oi l.length),(8,Oi k)],aa⟩:St)) (λk=>k<=l.length/\e9 p k (l.drop k)=res) (λk=>l.length-k) 0 ⟨aW _,an⟩ (Xv X0) ?_;rintro k⟨hk,hr⟩Ql ak au;by_cases bf:k<l.length
 ·have hx:=hg _ (aE (d:=default) bf);have hd:=kh l k default bf;generalize cS:l.getD k default=x at *;rw[hd,e9]at hr;simp only[ek,gv,rM]at hx;((repeat'(first|refine Vb (X4 @cr @fK @rM.eq_1 @cS) ?_|(refine Xi ?_ ?_<;>try intro ht)|exact Xx|fail))<;>try with_reducible intro K hK)
  refine fi hx (aX _) ?_;((try revert hK K);(repeat'(first|refine Vb (X3 @cr @fK @rM.eq_1) ?_|(refine Xi ?_ ?_<;>try intro ht)|fail)))
  ·rw[if_pos (by assumption)]at hr;rw[<- hr];exact dX rfl (aX _) rfl
  ·rw[if_neg (by simp_all)]at hr;exact ak _ (k+1) ⟨AT,hr⟩ AT (Xv X0)
 ·((repeat'(first|refine Vb (X3 @cr @fK @rM.eq_1) ?_|(refine Xi ?_ ?_<;>try intro ht)|exact Xx|fail)))
  rw[jv AT,e9]at hr;rw[<- hr];exact dX rfl (aX _) rfl
def Za(l:List (List (Int×Int)))(g:FuncId)(bF:List AV)(aa:List Ob)(p:(List (Int×Int))->Bool)(hl:l.length<9223372036854775808)(hg:∀ x∈l,Holds Tryz.prog g ([.tree 2 (rowsOf dv x)]++bF) aa (.lit (.bool (p x))) aa):
  Holds Tryz.prog 98 [.tree 1 (rowsOf rM l),.fn g bF] aa (.lit (.bool (l.any p))) aa:=by
 rw[<- yK p l 0];refine Holds.aN 9 aa.length [.tmp 4] Tryz.func98 ?_;((refine Vb (X3 @cr @fK @rM.eq_1) ?_)<;>try with_reducible intro K hK)
 refine fi (aiD l g bF aa p hl hg) (aX _) ?_;((try revert hK K);(refine Vb (X3 @cr @fK @rM.eq_1) ?_))
 exact dX rfl (aX _) rfl
def aiE(l:List Pr)(g:FuncId)(bF:List AV)(aa:List Ob)(p:Pr->Bool)(hl:l.length<9223372036854775808)(hg:∀ x∈l,Holds Tryz.prog g ([.agg (aG x)]++bF) aa (.lit (.bool (p x))) aa):
  Holds Tryz.prog 156 [.tree 4 (rowsOf aG l),.fn g bF] aa (Oi (e9 p 0 l)) aa:=by
 generalize an:e9 p 0 l=res;refine Holds.aN 19 aa.length [.tmp 4] Tryz.func156 ?_;refine Vb (X3 @cr @fK @aG.eq_1) ?_;refine bb (λk:Nat=>(⟨ao [(0,.tree 4 (rowsOf aG l)),(1,.fn g bF),(7,Oi l.length),(8,Oi k)],aa⟩:St)) (λk=>k<=l.length/\e9 p k (l.drop k)=res) (λk=>l.length-k) 0 ⟨aW _,an⟩ (Xv X0) ?_;rintro k⟨hk,hr⟩Ql ak au;by_cases bf:k<l.length
 ·have hx:=hg _ (aE (d:=default) bf);have hd:=kh l k default bf;generalize cS:l.getD k default=x at *;rw[hd,e9]at hr;simp only[ek,gv,aG]at hx;((repeat'(first|refine Vb (X4 @cr @fK @aG.eq_1 @cS) ?_|(refine Xi ?_ ?_<;>try intro ht)|exact Xx|fail))<;>try with_reducible intro K hK)
  refine fi hx (aX _) ?_;((try revert hK K);(repeat'(first|refine Vb (X3 @cr @fK @aG.eq_1) ?_|(refine Xi ?_ ?_<;>try intro ht)|fail)))
  ·rw[if_pos (by assumption)]at hr;rw[<- hr];exact dX rfl (aX _) rfl
  ·rw[if_neg (by simp_all)]at hr;exact ak _ (k+1) ⟨AT,hr⟩ AT (Xv X0)
 ·((repeat'(first|refine Vb (X3 @cr @fK @aG.eq_1) ?_|(refine Xi ?_ ?_<;>try intro ht)|exact Xx|fail)))
  rw[jv AT,e9]at hr;rw[<- hr];exact dX rfl (aX _) rfl
def Zg(l:List Pr)(g:FuncId)(bF:List AV)(aa:List Ob)(p:Pr->Bool)(hl:l.length<9223372036854775808)(hg:∀ x∈l,Holds Tryz.prog g ([.agg (aG x)]++bF) aa (.lit (.bool (p x))) aa):
  Holds Tryz.prog 149 [.tree 4 (rowsOf aG l),.fn g bF] aa (.lit (.bool (l.any p))) aa:=by
 rw[<- yK p l 0];refine Holds.aN 9 aa.length [.tmp 4] Tryz.func149 ?_;((refine Vb (X3 @cr @fK @aG.eq_1) ?_)<;>try with_reducible intro K hK)
 refine fi (aiE l g bF aa p hl hg) (aX _) ?_;((try revert hK K);(refine Vb (X3 @cr @fK @aG.eq_1) ?_))
 exact dX rfl (aX _) rfl
def xp(v:Int):List Int->Int->Int
 |[],_=>-1
 |x::r,k=>if v=x then k else xp v r (k+1)
def Zh(v:Int):∀ (l:List Int) (k:Int),0<=k->(0<=xp v l k↔v∈l)
 |[],k,hk=>by simp[xp]
 |x::r,k,hk=>by
  rw[xp];split
  ·rename_i h;simp[h,hk]
  ·rename_i h;rw[Zh v r (k+1) AT];simp[h]
def aiF(l:List Int)(v:Int)(hl:l.length<9223372036854775808):Holds Tryz.prog 129 [.tree 1 (ints l),Oi v] [] (Oi (xp v l 0)) []:=by
 generalize an:xp v l 0=res;refine Holds.aN 19 0 [.tmp 4] Tryz.func129 ?_;repeat'(first|(refine Xr X0 ?_;intro K hK)|(refine hK _ ?_;clear hK K)|refine Xz ?_|fail)
 refine bb (λk:Nat=>(⟨ao [(0,.tree 1 (ints l)),(1,Oi v),(7,Oi l.length),(8,Oi k)],[]⟩:St)) (λk=>k<=l.length/\xp v (l.drop k) k=res) (λk=>l.length-k) 0 ⟨aW _,an⟩ (Xv X0) ?_;rintro k⟨hk,hr⟩Ql ak au;by_cases bf:k<l.length
 ·have hd:=kh l k 0 bf;generalize bc:l.getD k 0=x at *;rw[hd,xp]at hr;((repeat'(first|refine Va @bc ?_|(refine Xi ?_ ?_<;>try intro ht)|exact Xx|fail)))
  ·rw[if_pos (by assumption)]at hr;repeat(refine Xu ?_)
   refine Vb X0 ?_;rw[<- hr];exact Jn rfl
  ·rw[if_neg (by assumption)]at hr;exact ak _ (k+1) ⟨AT,hr⟩ AT (Xv X0)
 ·((repeat'(first|refine Va X0 ?_|(refine Xi ?_ ?_<;>try intro ht)|exact Xx|fail)))
  rw[jv AT,xp]at hr;refine au _ _ rfl ?_;clear ak au Ql;repeat(refine Xu ?_)
  refine Vb X0 ?_;rw[<- hr];exact Jn rfl
def Vo(l:List Int)(v:Int)(hl:l.length<9223372036854775808):Holds Tryz.prog 96 [.tree 1 (ints l),Oi v] [] (.lit (.bool (l.contains v))) []:=by
 have h:=Zh v l 0 AT;refine Holds.aN 9 0 [.tmp 4] Tryz.func96 ?_;repeat'(first|(refine Xq X0 ?_;intro K hK)|refine Xo X0 ?_|refine Xc (aiF l v hl) ?_|(refine hK _ ?_;clear hK K)|refine Xz ?_|(refine Xe ?_;first|refine aU rfl ?_|refine Xl ?_ ?_)|fail)
 rw[<- pY]at h;cases hb:l.contains v<;>rw[hb]at h
 ·rw[decide_eq_false (by simpa using h)]
 ·rw[decide_eq_true (by simpa using h)]
def aiG:u7 Tryz.prog 152 2:=u7.of 4 (by kernel_rfl)
def aiH:Tryz.prog.eqGuardType Tryz.prog.depth 152=false:=by kernel_rfl
def aiI(l:List (Int×Int))(c o:Int)(hl:l.length<9223372036854775808):Holds Tryz.prog 133 [.tree 2 (rowsOf dv l),.agg [Oi c,Oi o]] [] (Oi (e9 (oH c o) 0 l)) []:=by
 generalize an:e9 (oH c o) 0 l=res;refine Holds.aN 19 0 [.tmp 4] Tryz.func133 ?_;refine Vb X0 ?_;refine bb (λk:Nat=>(⟨ao [(0,.tree 2 (rowsOf dv l)),(3,.ptr 0 0 0),(7,Oi l.length),(8,Oi k)],[.var [Oi c,Oi o]]⟩:St)) (λk=>k<=l.length/\e9 (oH c o) k (l.drop k)=res) (λk=>l.length-k) 0 ⟨aW _,an⟩ (Xv X0) ?_;rintro k⟨hk,hr⟩Ql ak au;by_cases bf:k<l.length
 ·have hd:=kh l k default bf;generalize cS:l.getD k default=x at *;rw[hd,e9]at hr;obtain⟨x1,x2⟩:=x;unfold oH at hr;((repeat'(first|refine Va (X2 @cS @dv.eq_1) ?_|(refine Xi ?_ ?_<;>try intro ht)|refine VD ?_ ?_|exact Xx|fail)))
  ·exact aiG
  ·exact aiH
  ·simp only[List.cons.injEq,and_true]at ht;rw[if_pos (by rw[decide_eq_true_eq,ht.1,ht.2])]at hr;repeat(refine Xu ?_)
   refine Vb X0 ?_;exact aU rfl (by rw[<- hr])
  ·simp only[List.cons.injEq,and_true]at ht;rw[if_neg (by rw[decide_eq_true_eq,Prod.mk.injEq];exact λh=>ht ⟨h.1.symm,h.2.symm⟩)]at hr;exact ak _ (k+1) ⟨AT,hr⟩ AT (Xv X0)
 ·((repeat'(first|refine Va X0 ?_|(refine Xi ?_ ?_<;>try intro ht)|exact Xx|fail)))
  rw[jv AT,e9]at hr;refine au _ _ rfl ?_;clear ak au Ql;repeat(refine Xu ?_)
  refine Vb X0 ?_;exact aU rfl (by rw[<- hr])
def aiu(l:List (Int×Int))(c o:Int)(hl:l.length<9223372036854775808):Holds Tryz.prog 102 [.tree 2 (rowsOf dv l),.agg [Oi c,Oi o]] [] (.lit (.bool (l.any (oH c o)))) []:=by
 rw[<- yK (oH c o) l 0];refine Holds.aN 9 0 [.tmp 4] Tryz.func102 ?_;refine Vd X0 (aiI l c o hl) ?_;exact aU rfl rfl
def Zi(m:ah)(a x b y:Int)(hm:VM m)(ha:jq m a x=true)(pG:jq m b y=true)(p:Pr)(hp:p∈m.ae):
  Holds Tryz.prog 150 [.agg (aG p),.ptr 1 0 0,.ptr 2 0 0,.ptr 0 0 0] [.var (aq m),.var [Oi a,Oi x],.var [Oi b,Oi y]] (.lit (.bool (uG m a x b y p))) [.var (aq m),.var [Oi a,Oi x],.var [Oi b,Oi y]]:=by
 obtain⟨a1,a2,a3,a4⟩:=iN.1 ha;obtain⟨b1,b2,b3,b4⟩:=iN.1 pG;have dp:=jG hm.pr _ hp;obtain⟨q1,q2,q3,q4,q5⟩:=qI dp;have wV:=hm.opt _ (aE (l:=m.cls) (i:=a.toNat) (d:=default) AT);have ry:=hm.opt _ (aE (l:=m.cls) (i:=b.toNat) (d:=default) AT);have mY:=hm.cls;generalize an:uG m a x b y p=res;unfold uG zX at an;obtain⟨fs,sn,ru,aB⟩:=p;dsimp only at *;by_cases MA:fs=a/\sn=b
 ·obtain⟨rfl,rfl⟩:=MA;generalize hA:m.cls.getD fs.toNat default=A at *;generalize hB:m.cls.getD sn.toNat default=B at *;obtain⟨e1,e2,e3⟩:=zV ⟨a3,a4⟩ ⟨b3,b4⟩ AT AT;generalize nP:x*(B.length:Int)=ix at *;have yJ:((A.length*B.length:Nat):Int)=A.length*B.length:=IM;generalize hv:aB.getD (ix+y).toNat 0=v at *;refine Holds.aN 38 3 [.tmp 5] Tryz.func150 ?_;by_cases h3:v=1099511627776
  ·rw[decide_eq_true ⟨rfl,rfl,h3⟩]at an;refine Vb (X5 @aG.eq_1 @hB @aV.eq_1 @nP @hv) ?_;all_goals(subst an;subst h3;exact Xw false [0,1,2] X0)
  ·rw[decide_eq_false (λh=>h3 h.2.2)]at an;refine Vb (X5 @aG.eq_1 @hB @aV.eq_1 @nP @hv) ?_;all_goals(subst an;rw[show(v==1099511627776)=false by simpa using h3];exact Xw false [0,1,2] X0)
 ·refine Holds.aN 38 3 [.tmp 5] Tryz.func150 ?_;rw[decide_eq_false (λh=>MA ⟨h.1,h.2.1⟩)]at an;((repeat'(first|refine Vb @aG.eq_1 ?_|(refine V2 @aG.eq_1 ?_ ?_<;>try with_reducible intro hb)|exact Xx|fail)))
  all_goals(subst an;exact Xw false [0,1,2] X0)
def aiJ(m:ah)(a x b y:Int)(hm:VM m)(ha:jq m a x=true)(pG:jq m b y=true):
  Holds Tryz.prog 132 [.agg (aq m),.agg [Oi a,Oi x],.agg [Oi b,Oi y]] [] (.lit (.bool (uB m a x b y))) []:=by
 have uO:=hm.ae;unfold uB;by_cases h:b<a
 ·rw[if_pos h];have hc:=Zg m.ae 150 [.ptr 1 0 0,.ptr 2 0 0,.ptr 0 0 0] [.var (aq m),.var [Oi b,Oi y],.var [Oi a,Oi x]] (uG m b y a x) AT (λp hp=>Zi m b y a x hm pG ha p hp);generalize m.ae.any (uG m b y a x)=res at *;refine Holds.aN 18 0 [.tmp 6] Tryz.func132 ?_;((repeat'(first|refine Vb X0 ?_|(refine Xi ?_ ?_<;>try intro ht)|exact Xx|fail))<;>try with_reducible intro K hK)
  refine fi hc IM ?_;((try revert hK K);(refine Vb X0 ?_))
  exact aU rfl rfl
 ·rw[if_neg h];have hc:=Zg m.ae 150 [.ptr 1 0 0,.ptr 2 0 0,.ptr 0 0 0] [.var (aq m),.var [Oi a,Oi x],.var [Oi b,Oi y]] (uG m a x b y) AT (λp hp=>Zi m a x b y hm ha pG p hp);generalize m.ae.any (uG m a x b y)=res at *;refine Holds.aN 18 0 [.tmp 6] Tryz.func132 ?_;((repeat'(first|refine Vb X0 ?_|(refine Xi ?_ ?_<;>try intro ht)|exact Xx|fail))<;>try with_reducible intro K hK)
  refine fi hc IM ?_;((try revert hK K);(refine Vb X0 ?_))
  exact aU rfl rfl
def ais(m:ah)(g:List Int)(l:List (Int×Int))(hm:VM m)(hg:∀ c∈g,0<=c/\c<m.cls.length)(tE:g.length<9223372036854775808)(fY:l.length<9223372036854775808):
  Holds Tryz.prog 100 [.agg (aq m),.tree 1 (ints g),.tree 2 (rowsOf dv l)] [] (.lit (.bool (uC m g l))) []:=by
 have mY:=hm.cls;generalize an:uC m g l=res;unfold uC at an;refine Holds.aN 62 0 [.tmp 6] Tryz.func100 ?_;refine Vb X0 ?_;refine bb (λi:Nat=>(⟨ao [(1,.tree 1 (ints g)),(2,.tree 2 (rowsOf dv l)),(3,.ptr 0 0 0),(11,.tree 2 (rowsOf dv l)),(12,Oi l.length),(13,Oi i)],[.var (aq m)]⟩:St))
  (λi=>i<=l.length/\∀ a,a<i->yx m g l a=true) (λi=>l.length-i) 0 ⟨aW _,λa ha=>absurd ha (sc _)⟩ (Xv X0) ?_
 rintro i⟨hi,dt⟩Ql ak au;by_cases ar:i<l.length
 ·have eM:=ei ar;have lV:=KW (f:=yx m g l) ar;rw[an]at lV;have aiK:∀ b∈l.take i,jq m b.1 b.2=true:=λb hb=>by
   obtain⟨a,ha,rfl⟩:=kX hb;rw[fe]at ha;have:=dt a AT;unfold yx at this;simp only[Bool.and_eq_true]at this;rw[List.getElem_take];rw[ax,bq AT]at this;exact this.1.2
  have cG:yx m g l i=true->∀ a,a<i+1->yx m g l a=true:=λh a ha=>by
   by_cases e:a=i
   ·subst e;exact h
   ·exact dt a AT
  unfold yx at lV cG;have MD:(rowsOf dv l).take i=rowsOf dv (l.take i):=by unfold rowsOf;rw[List.map_take]
  have nk:(l.take i).length=i:=by rw[fe];omega
  generalize cS:l.getD i default=x at *;obtain⟨c,o⟩:=x;dsimp only at lV cG;have gn:=Vo g c tE;have hgc:g.contains c=true->0<=c/\c<m.cls.length:=λh=>hg c (pY.1 h);have nM:=λh=>hm.opt _ (aE (l:=m.cls) (i:=c.toNat) (d:=default) h);have oP:=@iN m c o;generalize hA:m.cls.getD c.toNat default=A at *;by_cases bR:g.contains c=true;rotate_left
  ·rw[tV]at bR;rw[bR]at lV gn;have hr:=lV IM;((repeat'(first|refine Vc (X2 @cS @dv.eq_1) gn ?_|(refine Xi ?_ ?_<;>try intro ht)|exact Xx|fail)))
   all_goals
    repeat(refine Xu ?_)
    refine Vb X0 ?_;exact aU rfl (by rw[hr])
  obtain⟨kH,zH⟩:=hgc bR;have nM:=nM AT;rw[bR]at gn lV;by_cases lR:jq m c o=true;rotate_left
  ·have qo:¬(0<=c/\c<m.cls.length/\0<=o/\o<A.length):=λh=>lR (oP.2 h);rw[tV]at lR;rw[lR]at lV;have hr:=lV IM;repeat'(first|((fail_if_success (first|refine eO 6 ?_|refine eP 6 ?_));refine Xq (X4 @cS @dv.eq_1 @hA @aV.eq_1) ?_;intro K hK)|refine Xo (X4 @cS @dv.eq_1 @hA @aV.eq_1) ?_|refine Xc (gn) ?_|(refine hK _ ?_;clear hK K)|(refine Xg (X4 @cS @dv.eq_1 @hA @aV.eq_1) ?_ ?_<;>try intro hb)|(refine Xi ?_ ?_<;>try intro ht)|refine Xy ?_|refine Xd ?_ ?_|exact Xx|fail)
   all_goals
    repeat(refine Xu ?_)
    ((repeat'(first|refine Vb X0 ?_|fail)))
    exact aU rfl (by rw[hr])
  obtain⟨o1,o2,o3,o4⟩:=oP.1 lR;rw[lR,iy,iy]at lV;rw[bR,lR,iy,iy]at cG;((repeat'(first|refine Vc (X5 @cS @dv.eq_1 @hA @aV.eq_1 (X4 @MD @nk @p7.{0,0} @implies_true.{0})) gn ?_|(refine V2 (X5 @cS @dv.eq_1 @hA @aV.eq_1 (X4 @MD @nk @p7.{0,0} @implies_true.{0})) ?_ ?_<;>try with_reducible intro hb)|(refine Xi ?_ ?_<;>try intro ht)|exact Xx|fail)))
  refine bb (λj:Nat=>(⟨ao [(1,.tree 1 (ints g)),(2,.tree 2 (rowsOf dv l)),(3,.ptr 0 0 0),(8,.ptr 1 0 0),(11,.tree 2 (rowsOf dv l)),(12,Oi l.length),(13,Oi i),(42,.tree 2 (rowsOf dv (l.take i))),(43,Oi i),(44,Oi j)],[.var (aq m),.var [Oi c,Oi o]]⟩:St))
   (λj=>j<=i/\∀ a,a<j->BQ m (c,o) ((l.take i).getD a default)=true) (λj=>i-j) 0 ⟨aW _,λa ha=>absurd ha (sc _)⟩ (Xv X0) ?_
  rintro j⟨hj,nZ⟩dL bO bQ;by_cases fJ:j<i
  ·have cq:=aE (l:=l.take i) (i:=j) (d:=default) AT;have bI:=aiK _ cq;have An:BQ m (c,o) ((l.take i).getD j default)=true->∀ a,a<j+1->BQ m (c,o) ((l.take i).getD a default)=true:=λh a ha=>by
    by_cases e:a=j
    ·subst e;exact h
    ·exact nZ a AT
   have Ck:=λh=>lV (all_false cq h);generalize vM:(l.take i).getD j default=y at *;obtain⟨b,u⟩:=y;unfold BQ at Ck An;dsimp only at bI Ck An;have bn:=aiJ m c o b u hm lR bI;generalize uB m c o b u=cl at *;by_cases Zj:c=b
   ·((repeat'(first|refine Va (X3 @vM @nk @dv.eq_1) ?_|(refine V2 (X3 @vM @nk @dv.eq_1) ?_ ?_<;>try with_reducible intro hb)|(refine Xi ?_ ?_<;>try intro ht)|exact Xx|fail)))
    exact bO _ (j+1) ⟨AT,An (by rw[decide_eq_true Zj];rfl)⟩ AT (Xs false [0,1] X0)
   ·rw[decide_eq_false Zj,Bool.false_or]at Ck;cases cl
    ·have hr:=Ck rfl;((repeat'(first|refine Vc (X3 @vM @nk @dv.eq_1) bn ?_|(refine V2 (X3 @vM @nk @dv.eq_1) ?_ ?_<;>try with_reducible intro hb)|(refine Xi ?_ ?_<;>try intro ht)|exact Xx|fail)))
     all_goals
      repeat(refine Xu ?_)
      refine Vb X0 ?_;exact aU rfl (by rw[hr])
    ·((repeat'(first|refine Vc (X4 @vM @nk @dv.eq_1 @kU) bn ?_|(refine V2 (X4 @vM @nk @dv.eq_1 @kU) ?_ ?_<;>try with_reducible intro hb)|(refine Xi ?_ ?_<;>try intro ht)|exact Xx|fail)))
     exact bO _ (j+1) ⟨AT,An (by rw[Bool.or_true])⟩ AT (Xs false [0,1] X0)
  ·obtain rfl:j=i:=AT;((repeat'(first|refine Va X0 ?_|(refine V2 X0 ?_ ?_<;>try with_reducible intro hb)|(refine Xi ?_ ?_<;>try intro ht)|exact Xx|fail)))
   refine bQ _ _ rfl ?_;clear bO bQ dL;repeat(refine Xu ?_)
   refine Va X0 ?_;refine ak _ (j+1) ⟨AT,cG ?_⟩ AT (Xs false [0] X0);rw[List.all_eq_true];intro b hb;obtain⟨a,ha,rfl⟩:=kX hb;have:=nZ a AT;rwa [ax,bq ha]at this
 ·obtain rfl:i=l.length:=AT;rw[zY.2 dt]at an;((repeat'(first|refine Va X0 ?_|(refine Xi ?_ ?_<;>try intro ht)|exact Xx|fail)))
  refine au _ _ rfl ?_;clear ak au Ql;repeat(refine Xu ?_)
  refine Vb X0 ?_;exact aU rfl (by rw[<- an])
end T

