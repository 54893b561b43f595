import Derived.Test.YtodilglobhifaaaGreatDoorX27
import Derived.Test.YtodilglobhifaaaGreatDoorX41
import Derived.Test.YtodilglobhifaaaGreatDoorX30
set_option linter.all false
set_option maxHeartbeats 0
set_option maxRecDepth 20000
open Nat renaming zero_le→aS,le_refl→aM,not_lt_zero→ns
open List renaming cons_append→ew,nil_append→dx,drop_eq_nil_of_le→dW,getElem_of_mem→q7,length_take→fE,getD_eq_getElem?_getD→ax,getElem?_eq_getElem→aT,all_eq_true→eS
open Bool renaming not_eq_true→xg,true_and→eR,not_true→lS,not_false→mC
open Option renaming map_none→jf
open Go Go.Am Go.Proofs
namespace T
def ad9(l:List (List (Int×Int)))(g:FuncId)(bg:List AV)(aa:List Ob)(p:(List (Int×Int))->Bool)(hl:l.length<9223372036854775808)(hg:∀ x∈l,ak Tryz.prog g ([.tree 2 (rowsOf av x)]++bg) aa (.lit (.bool (p x))) aa):
  ak Tryz.prog 120 [.tree 1 (rowsOf oL l),.fn g bg] aa (aam (cT p 0 l)) aa:=by
 generalize aq:cT p 0 l=res;refine ak.aL 19 aa.length [.tmp 4] Tryz.func120 ?_;refine Vb (X3 @cK @eD @oL.eq_1) ?_;refine aW (λk:Nat=>(⟨ao [(0,.tree 1 (rowsOf oL l)),(1,.fn g bg),(7,aam l.length),(8,aam k)],aa⟩:St)) (λk=>k<=l.length/\cT p k (l.drop k)=res) (λk=>l.length-k) 0 ⟨aS _,aq⟩ (Xv X0) ?_;rintro k⟨hk,hr⟩Ql an aw;by_cases aY:k<l.length
 ·have hx:=hg _ (aF (d:=default) aY);have hd:=dL l k default aY;generalize br:l.getD k default=x at *;rw[hd,cT]at hr;simp only[ew,dx,oL]at hx;((repeat'(first|refine Vb (X4 @cK @eD @oL.eq_1 @br) ?_|(refine Xi ?_ ?_<;>try intro ht)|exact Xx|fail))<;>try with_reducible intro K hK)
  refine eT hx (aM _) ?_;((try revert hK K);(repeat'(first|refine Vb (X3 @cK @eD @oL.eq_1) ?_|(refine Xi ?_ ?_<;>try intro ht)|fail)))
  ·rw[if_pos (by assumption)]at hr;rw[<- hr];exact dt rfl (aM _) rfl
  ·rw[if_neg (by simp_all)]at hr;exact an _ (k+1) ⟨Bv,hr⟩ Bv (Xv X0)
 ·((repeat'(first|refine Vb (X3 @cK @eD @oL.eq_1) ?_|(refine Xi ?_ ?_<;>try intro ht)|exact Xx|fail)))
  rw[dW Bv,cT]at hr;rw[<- hr];exact dt rfl (aM _) rfl
def U0(l:List (List (Int×Int)))(g:FuncId)(bg:List AV)(aa:List Ob)(p:(List (Int×Int))->Bool)(hl:l.length<9223372036854775808)(hg:∀ x∈l,ak Tryz.prog g ([.tree 2 (rowsOf av x)]++bg) aa (.lit (.bool (p x))) aa):
  ak Tryz.prog 82 [.tree 1 (rowsOf oL l),.fn g bg] aa (.lit (.bool (l.any p))) aa:=by
 rw[<- ui p l 0];refine ak.aL 9 aa.length [.tmp 4] Tryz.func82 ?_;((refine Vb (X3 @cK @eD @oL.eq_1) ?_)<;>try with_reducible intro K hK)
 refine eT (ad9 l g bg aa p hl hg) (aM _) ?_;((try revert hK K);(refine Vb (X3 @cK @eD @oL.eq_1) ?_))
 exact dt rfl (aM _) rfl
def aea(l:List Pr)(g:FuncId)(bg:List AV)(aa:List Ob)(p:Pr->Bool)(hl:l.length<9223372036854775808)(hg:∀ x∈l,ak Tryz.prog g ([.agg (aO x)]++bg) aa (.lit (.bool (p x))) aa):
  ak Tryz.prog 146 [.tree 4 (rowsOf aO l),.fn g bg] aa (aam (cT p 0 l)) aa:=by
 generalize aq:cT p 0 l=res;refine ak.aL 19 aa.length [.tmp 4] Tryz.func146 ?_;refine Vb (X3 @cK @eD @aO.eq_1) ?_;refine aW (λk:Nat=>(⟨ao [(0,.tree 4 (rowsOf aO l)),(1,.fn g bg),(7,aam l.length),(8,aam k)],aa⟩:St)) (λk=>k<=l.length/\cT p k (l.drop k)=res) (λk=>l.length-k) 0 ⟨aS _,aq⟩ (Xv X0) ?_;rintro k⟨hk,hr⟩Ql an aw;by_cases aY:k<l.length
 ·have hx:=hg _ (aF (d:=default) aY);have hd:=dL l k default aY;generalize br:l.getD k default=x at *;rw[hd,cT]at hr;simp only[ew,dx,aO]at hx;((repeat'(first|refine Vb (X4 @cK @eD @aO.eq_1 @br) ?_|(refine Xi ?_ ?_<;>try intro ht)|exact Xx|fail))<;>try with_reducible intro K hK)
  refine eT hx (aM _) ?_;((try revert hK K);(repeat'(first|refine Vb (X3 @cK @eD @aO.eq_1) ?_|(refine Xi ?_ ?_<;>try intro ht)|fail)))
  ·rw[if_pos (by assumption)]at hr;rw[<- hr];exact dt rfl (aM _) rfl
  ·rw[if_neg (by simp_all)]at hr;exact an _ (k+1) ⟨Bv,hr⟩ Bv (Xv X0)
 ·((repeat'(first|refine Vb (X3 @cK @eD @aO.eq_1) ?_|(refine Xi ?_ ?_<;>try intro ht)|exact Xx|fail)))
  rw[dW Bv,cT]at hr;rw[<- hr];exact dt rfl (aM _) rfl
def U1(l:List Pr)(g:FuncId)(bg:List AV)(aa:List Ob)(p:Pr->Bool)(hl:l.length<9223372036854775808)(hg:∀ x∈l,ak Tryz.prog g ([.agg (aO x)]++bg) aa (.lit (.bool (p x))) aa):
  ak Tryz.prog 140 [.tree 4 (rowsOf aO l),.fn g bg] aa (.lit (.bool (l.any p))) aa:=by
 rw[<- ui p l 0];refine ak.aL 9 aa.length [.tmp 4] Tryz.func140 ?_;((refine Vb (X3 @cK @eD @aO.eq_1) ?_)<;>try with_reducible intro K hK)
 refine eT (aea l g bg aa p hl hg) (aM _) ?_;((try revert hK K);(refine Vb (X3 @cK @eD @aO.eq_1) ?_))
 exact dt rfl (aM _) rfl
def aeb:od Tryz.prog 92 2:=od.of 4 (by kernel_rfl)
def aec:Tryz.prog.eqGuardType Tryz.prog.depth 92=false:=by kernel_rfl
def aed(l:List (Int×Int))(c o:Int)(hl:l.length<9223372036854775808):ak Tryz.prog 122 [.tree 2 (rowsOf av l),.agg [aam c,aam o]] [] (aam (cT (mu c o) 0 l)) []:=by
 generalize aq:cT (mu c o) 0 l=res;refine ak.aL 19 0 [.tmp 4] Tryz.func122 ?_;refine Vb X0 ?_;refine aW (λk:Nat=>(⟨ao [(0,.tree 2 (rowsOf av l)),(3,.ptr 0 0 0),(7,aam l.length),(8,aam k)],[.var [aam c,aam o]]⟩:St)) (λk=>k<=l.length/\cT (mu c o) k (l.drop k)=res) (λk=>l.length-k) 0 ⟨aS _,aq⟩ (Xv X0) ?_;rintro k⟨hk,hr⟩Ql an aw;by_cases aY:k<l.length
 ·have hd:=dL l k default aY;generalize br:l.getD k default=x at *;rw[hd,cT]at hr;obtain⟨x1,x2⟩:=x;unfold mu at hr;((repeat'(first|refine Va (X2 @br @av.eq_1) ?_|(refine Xi ?_ ?_<;>try intro ht)|refine VD ?_ ?_|exact Xx|fail)))
  ·exact aeb
  ·exact aec
  ·simp only[List.cons.injEq,and_true]at ht;rw[if_pos (by rw[decide_eq_true_eq,ht.1,ht.2])]at hr;repeat(refine Xu ?_)
   refine Vb X0 ?_;exact aQ rfl (by rw[<- hr])
  ·simp only[List.cons.injEq,and_true]at ht;rw[if_neg (by rw[decide_eq_true_eq,Prod.mk.injEq];exact λh=>ht ⟨h.1.symm,h.2.symm⟩)]at hr;exact an _ (k+1) ⟨Bv,hr⟩ Bv (Xv X0)
 ·((repeat'(first|refine Va X0 ?_|(refine Xi ?_ ?_<;>try intro ht)|exact Xx|fail)))
  rw[dW Bv,cT]at hr;refine aw _ _ rfl ?_;clear an aw Ql;repeat(refine Xu ?_)
  refine Vb X0 ?_;exact aQ rfl (by rw[<- hr])
def aee(l:List (Int×Int))(c o:Int)(hl:l.length<9223372036854775808):ak Tryz.prog 86 [.tree 2 (rowsOf av l),.agg [aam c,aam o]] [] (.lit (.bool (l.any (mu c o)))) []:=by
 rw[<- ui (mu c o) l 0];refine ak.aL 9 0 [.tmp 4] Tryz.func86 ?_;refine Vd X0 (aed l c o hl) ?_;exact aQ rfl rfl
def U2(m:ah)(a x b y:Int)(hm:VM m)(ha:fH m a x=true)(sK:fH m b y=true)(p:Pr)(hp:p∈m.aj):
  ak Tryz.prog 141 [.agg (aO p),.ptr 1 0 0,.ptr 2 0 0,.ptr 0 0 0] [.var (aB m),.var [aam a,aam x],.var [aam b,aam y]] (.lit (.bool (oH m a x b y p))) [.var (aB m),.var [aam a,aam x],.var [aam b,aam y]]:=by
 obtain⟨a1,a2,a3,a4⟩:=mj.1 ha;obtain⟨b1,b2,b3,b4⟩:=mj.1 sK;have jl:=lE hm.pr _ hp;obtain⟨q1,q2,q3,q4,q5⟩:=xR jl;have pN:=hm.opt _ (aF (l:=m.cls) (i:=a.toNat) (d:=default) Bv);have kR:=hm.opt _ (aF (l:=m.cls) (i:=b.toNat) (d:=default) Bv);have wv:=hm.cls;generalize aq:oH m a x b y p=res;unfold oH pB at aq;obtain⟨fs,sn,ru,bj⟩:=p;dsimp only at *;by_cases wR:fs=a/\sn=b
 ·obtain⟨rfl,rfl⟩:=wR;generalize hA:m.cls.getD fs.toNat default=A at *;generalize hB:m.cls.getD sn.toNat default=B at *;obtain⟨e1,e2,e3⟩:=v7 ⟨a3,a4⟩ ⟨b3,b4⟩ Bv Bv;generalize kZ:x*(B.length:Int)=ix at *;have Fa:((A.length*B.length:Nat):Int)=A.length*B.length:=Jy;generalize hv:bj.getD (ix+y).toNat 0=v at *;refine ak.aL 38 3 [.tmp 5] Tryz.func141 ?_;by_cases h3:v=1099511627776
  ·rw[decide_eq_true ⟨rfl,rfl,h3⟩]at aq;refine Vb (X5 @aO.eq_1 @hB @bw.eq_1 @kZ @hv) ?_;all_goals(subst aq;subst h3;exact Xw false [0,1,2] X0)
  ·rw[decide_eq_false (λh=>h3 h.2.2)]at aq;refine Vb (X5 @aO.eq_1 @hB @bw.eq_1 @kZ @hv) ?_;all_goals(subst aq;rw[show(v==1099511627776)=false by simpa using h3];exact Xw false [0,1,2] X0)
 ·refine ak.aL 38 3 [.tmp 5] Tryz.func141 ?_;rw[decide_eq_false (λh=>wR ⟨h.1,h.2.1⟩)]at aq;((repeat'(first|refine Vb @aO.eq_1 ?_|(refine V2 @aO.eq_1 ?_ ?_<;>try with_reducible intro hb)|exact Xx|fail)))
  all_goals(subst aq;exact Xw false [0,1,2] X0)
def aef(m:ah)(a x b y:Int)(hm:VM m)(ha:fH m a x=true)(sK:fH m b y=true):
  ak Tryz.prog 121 [.agg (aB m),.agg [aam a,aam x],.agg [aam b,aam y]] [] (.lit (.bool (tv m a x b y))) []:=by
 have j9:=hm.aj;unfold tv;by_cases h:b<a
 ·rw[if_pos h];have hc:=U1 m.aj 141 [.ptr 1 0 0,.ptr 2 0 0,.ptr 0 0 0] [.var (aB m),.var [aam b,aam y],.var [aam a,aam x]] (oH m b y a x) Bv (λp hp=>U2 m b y a x hm sK ha p hp);generalize m.aj.any (oH m b y a x)=res at *;refine ak.aL 18 0 [.tmp 6] Tryz.func121 ?_;((repeat'(first|refine Vb X0 ?_|(refine Xi ?_ ?_<;>try intro ht)|exact Xx|fail))<;>try with_reducible intro K hK)
  refine eT hc Jy ?_;((try revert hK K);(refine Vb X0 ?_))
  exact aQ rfl rfl
 ·rw[if_neg h];have hc:=U1 m.aj 141 [.ptr 1 0 0,.ptr 2 0 0,.ptr 0 0 0] [.var (aB m),.var [aam a,aam x],.var [aam b,aam y]] (oH m a x b y) Bv (λp hp=>U2 m a x b y hm ha sK p hp);generalize m.aj.any (oH m a x b y)=res at *;refine ak.aL 18 0 [.tmp 6] Tryz.func121 ?_;((repeat'(first|refine Vb X0 ?_|(refine Xi ?_ ?_<;>try intro ht)|exact Xx|fail))<;>try with_reducible intro K hK)
  refine eT hc Jy ?_;((try revert hK K);(refine Vb X0 ?_))
  exact aQ rfl rfl
def aeg(m:ah)(g:List Int)(l:List (Int×Int))(hm:VM m)(hg:∀ c∈g,0<=c/\c<m.cls.length)(lO:g.length<9223372036854775808)(cJ:l.length<9223372036854775808):
  ak Tryz.prog 84 [.agg (aB m),.tree 1 (ints g),.tree 2 (rowsOf av l)] [] (.lit (.bool (pK m g l))) []:=by
 have wv:=hm.cls;generalize aq:pK m g l=res;unfold pK at aq;refine ak.aL 62 0 [.tmp 6] Tryz.func84 ?_;refine Vb X0 ?_;refine aW (λi:Nat=>(⟨ao [(1,.tree 1 (ints g)),(2,.tree 2 (rowsOf av l)),(3,.ptr 0 0 0),(11,.tree 2 (rowsOf av l)),(12,aam l.length),(13,aam i)],[.var (aB m)]⟩:St))
  (λi=>i<=l.length/\∀ a,a<i->uT m g l a=true) (λi=>l.length-i) 0 ⟨aS _,λa ha=>absurd ha (ns _)⟩ (Xv X0) ?_
 rintro i⟨hi,dH⟩Ql an aw;by_cases hi':i<l.length
 ·have lI:=jb hi';have j5:=HP (f:=uT m g l) hi';rw[aq]at j5;have aeh:∀ b∈l.take i,fH m b.1 b.2=true:=λb hb=>by
   obtain⟨a,ha,rfl⟩:=q7 hb;rw[fE]at ha;have:=dH a Bv;unfold uT at this;simp only[Bool.and_eq_true]at this;rw[List.getElem_take];rw[ax,aT Bv]at this;exact this.1.2
  have bS:uT m g l i=true->∀ a,a<i+1->uT m g l a=true:=λh a ha=>by
   by_cases e:a=i
   ·subst e;exact h
   ·exact dH a Bv
  unfold uT at j5 bS;have D0:(rowsOf av l).take i=rowsOf av (l.take i):=by unfold rowsOf;rw[List.map_take]
  have mz:(l.take i).length=i:=by rw[fE];omega
  generalize br:l.getD i default=x at *;obtain⟨c,o⟩:=x;dsimp only at j5 bS;have mB:=I' g c lO;have hgc:g.contains c=true->0<=c/\c<m.cls.length:=λh=>hg c (List.contains_iff_mem.1 h);have pZ:=λh=>hm.opt _ (aF (l:=m.cls) (i:=c.toNat) (d:=default) h);have rY:=@mj m c o;generalize hA:m.cls.getD c.toNat default=A at *;by_cases eE:g.contains c=true;rotate_left
  ·rw[xg]at eE;rw[eE]at j5 mB;have hr:=j5 Jy;((repeat'(first|refine Vc (X2 @br @av.eq_1) mB ?_|(refine Xi ?_ ?_<;>try intro ht)|exact Xx|fail)))
   all_goals
    repeat(refine Xu ?_)
    refine Vb X0 ?_;exact aQ rfl (by rw[hr])
  obtain⟨iK,pz⟩:=hgc eE;have pZ:=pZ Bv;rw[eE]at mB j5;by_cases lY:fH m c o=true;rotate_left
  ·have lz:¬(0<=c/\c<m.cls.length/\0<=o/\o<A.length):=λh=>lY (rY.2 h);rw[xg]at lY;rw[lY]at j5;have hr:=j5 Jy;repeat'(first|((fail_if_success (first|refine gx 6 ?_|refine gy 6 ?_));refine Xq (X4 @br @av.eq_1 @hA @bw.eq_1) ?_;intro K hK)|refine Xo (X4 @br @av.eq_1 @hA @bw.eq_1) ?_|refine Xc (mB) ?_|(refine hK _ ?_;clear hK K)|(refine Xg (X4 @br @av.eq_1 @hA @bw.eq_1) ?_ ?_<;>try intro hb)|(refine Xi ?_ ?_<;>try intro ht)|refine Xy ?_|refine Xd ?_ ?_|exact Xx|fail)
   all_goals
    repeat(refine Xu ?_)
    ((repeat'(first|refine Vb X0 ?_|fail)))
    exact aQ rfl (by rw[hr])
  obtain⟨o1,o2,o3,o4⟩:=rY.1 lY;rw[lY,eR,eR]at j5;rw[eE,lY,eR,eR]at bS;((repeat'(first|refine Vc (X5 @br @av.eq_1 @hA @bw.eq_1 (X4 @D0 @mz @jf.{0,0} @implies_true.{0})) mB ?_|(refine V2 (X5 @br @av.eq_1 @hA @bw.eq_1 (X4 @D0 @mz @jf.{0,0} @implies_true.{0})) ?_ ?_<;>try with_reducible intro hb)|(refine Xi ?_ ?_<;>try intro ht)|exact Xx|fail)))
  refine aW (λj:Nat=>(⟨ao [(1,.tree 1 (ints g)),(2,.tree 2 (rowsOf av l)),(3,.ptr 0 0 0),(8,.ptr 1 0 0),(11,.tree 2 (rowsOf av l)),(12,aam l.length),(13,aam i),(42,.tree 2 (rowsOf av (l.take i))),(43,aam i),(44,aam j)],[.var (aB m),.var [aam c,aam o]]⟩:St))
   (λj=>j<=i/\∀ a,a<j->pF m (c,o) ((l.take i).getD a default)=true) (λj=>i-j) 0 ⟨aS _,λa ha=>absurd ha (ns _)⟩ (Xv X0) ?_
  rintro j⟨hj,oe⟩dh bc bz;by_cases eF:j<i
  ·have bP:=aF (l:=l.take i) (i:=j) (d:=default) Bv;have a9:=aeh _ bP;have wX:pF m (c,o) ((l.take i).getD j default)=true->∀ a,a<j+1->pF m (c,o) ((l.take i).getD a default)=true:=λh a ha=>by
    by_cases e:a=j
    ·subst e;exact h
    ·exact oe a Bv
   have yL:=λh=>j5 (all_false bP h);generalize kC:(l.take i).getD j default=y at *;obtain⟨b,u⟩:=y;unfold pF at yL wX;dsimp only at a9 yL wX;have cz:=aef m c o b u hm lY a9;generalize tv m c o b u=cl at *;by_cases tV:c=b
   ·((repeat'(first|refine Va (X3 @kC @mz @av.eq_1) ?_|(refine V2 (X3 @kC @mz @av.eq_1) ?_ ?_<;>try with_reducible intro hb)|(refine Xi ?_ ?_<;>try intro ht)|exact Xx|fail)))
    exact bc _ (j+1) ⟨Bv,wX (by rw[decide_eq_true tV];rfl)⟩ Bv (Xs false [0,1] X0)
   ·rw[decide_eq_false tV,Bool.false_or]at yL;cases cl
    ·have hr:=yL rfl;((repeat'(first|refine Vc (X3 @kC @mz @av.eq_1) cz ?_|(refine V2 (X3 @kC @mz @av.eq_1) ?_ ?_<;>try with_reducible intro hb)|(refine Xi ?_ ?_<;>try intro ht)|exact Xx|fail)))
     all_goals
      repeat(refine Xu ?_)
      refine Vb X0 ?_;exact aQ rfl (by rw[hr])
    ·((repeat'(first|refine Vc (X4 @kC @mz @av.eq_1 @lS) cz ?_|(refine V2 (X4 @kC @mz @av.eq_1 @lS) ?_ ?_<;>try with_reducible intro hb)|(refine Xi ?_ ?_<;>try intro ht)|exact Xx|fail)))
     exact bc _ (j+1) ⟨Bv,wX (by rw[Bool.or_true])⟩ Bv (Xs false [0,1] X0)
  ·obtain rfl:j=i:=Bv;((repeat'(first|refine Va X0 ?_|(refine V2 X0 ?_ ?_<;>try with_reducible intro hb)|(refine Xi ?_ ?_<;>try intro ht)|exact Xx|fail)))
   refine bz _ _ rfl ?_;clear bc bz dh;repeat(refine Xu ?_)
   refine Va X0 ?_;refine an _ (j+1) ⟨Bv,bS ?_⟩ Bv (Xs false [0] X0);rw[eS];intro b hb;obtain⟨a,ha,rfl⟩:=q7 hb;have:=oe a Bv;rwa [ax,aT ha]at this
 ·obtain rfl:i=l.length:=Bv;rw[uV.2 dH]at aq;((repeat'(first|refine Va X0 ?_|(refine Xi ?_ ?_<;>try intro ht)|exact Xx|fail)))
  refine aw _ _ rfl ?_;clear an aw Ql;repeat(refine Xu ?_)
  refine Vb X0 ?_;exact aQ rfl (by rw[<- aq])
def aej(m:ah)(x:Nd)(hm:VM m)(hg:∀ c∈x.aX,0<=c/\c<m.cls.length)(lO:x.aX.length<9223372036854775808)(l:List (Int×Int))(cJ:l.length<9223372036854775808):
  ak Tryz.prog 83 [.tree 2 (rowsOf av l),.ptr 0 0 0,.ptr 1 0 0] [.var (aB m),.var (bk x)] (.lit (.bool (!pK m x.aX l))) [.var (aB m),.var (bk x)]:=by
 have h:=aeg m x.aX l hm hg lO cJ;generalize pK m x.aX l=res at *;refine ak.aL 11 2 [.tmp 4] Tryz.func83 ?_;refine Vd @bk.eq_1 h ?_;exact dt rfl Jy rfl
def aek(m:ah)(x:Nd)(c o:Int)(l:List (Int×Int))(cJ:l.length<9223372036854775808):
  ak Tryz.prog 85 [.tree 2 (rowsOf av l),.ptr 2 0 0,.ptr 3 0 0] [.var (aB m),.var (bk x),.var [aam c],.var [aam o]] (.lit (.bool (l.any (mu c o)))) [.var (aB m),.var (bk x),.var [aam c],.var [aam o]]:=by
 have h:=aee l c o cJ;generalize l.any (mu c o)=res at *;refine ak.aL 10 4 [.tmp 4] Tryz.func85 ?_;refine Vd X0 h ?_;exact dt rfl Jy rfl
def ad1(m:ah)(x:Nd)(left:List (List Bool))(hm:VM m)(hf:iP m left)(lO:x.aX.length<9223372036854775808)(cz:x.cells.length<9223372036854775808)(cJ:∀ l∈x.cells,l.length<9223372036854775808):
  ak Tryz.prog 40 [.agg (aB m),.agg (bk x),.tree 1 (rowsOf bl left)] [] (.lit (.bool (my m x left))) []:=by
 have wv:=hm.cls;have eX:=hf.1;generalize aq:my m x left=res;have iK:=@Z7 m x left;have pz:=@Z8 m x left;have Bn:=@Z9 m x left;have tL:=@aaa m x left;have xk:=@Sz m x left;rw[aq]at iK pz Bn tL xk;obtain⟨cl,kids,gk,aX,cells⟩:=x;dsimp only at *;refine ak.aL 87 0 [.tmp 6] Tryz.func40 ?_;refine Vb @bk.eq_1 ?_;refine aW (λi:Nat=>(⟨ao [(2,.tree 1 (rowsOf bl left)),(3,.ptr 0 0 0),(4,.ptr 1 0 0),(15,.tree 1 (ints aX)),(16,aam aX.length),(17,aam i)],[.var (aB m),.var (bk ⟨cl,kids,gk,aX,cells⟩)]⟩:St))
  (λi=>i<=aX.length/\∀ a,a<i->decide (0<=aX.getD a 0/\aX.getD a 0<m.cls.length/\(a=0\/aX.getD (a-1) 0<aX.getD a 0))=true) (λi=>aX.length-i) 0 ⟨aS _,λa ha=>absurd ha (ns _)⟩ (Xv @bk.eq_1) ?_
 rintro i⟨hi,hall⟩Ql an aw;by_cases hi':i<aX.length
 ·have j5:=HP (f:=λi=>decide (0<=aX.getD i 0/\aX.getD i 0<m.cls.length/\(i=0\/aX.getD (i-1) 0<aX.getD i 0))) hi';have bS:decide (0<=aX.getD i 0/\aX.getD i 0<m.cls.length/\(i=0\/aX.getD (i-1) 0<aX.getD i 0))=true->∀ a,a<i+1->decide (0<=aX.getD a 0/\aX.getD a 0<m.cls.length/\(a=0\/aX.getD (a-1) 0<aX.getD a 0))=true:=λh a ha=>by
   by_cases e:a=i
   ·subst e;exact h
   ·exact hall a Bv
  have uj:0<i->((i:Int)-1).toNat=i-1/\i-1<aX.length:=λh=>⟨Bv,Bv⟩;have kZ:0<i->aX.getD ((i:Int)-1).toNat 0=aX.getD (i-1) 0:=λh=>by rw[(uj h).1]
  generalize bC:aX.getD i 0=c at *;generalize sQ:aX.getD (i-1) 0=q at *;have tM:c=c:=rfl;rcases Nat.eq_zero_or_pos i with h0|h0
  ·by_cases az:0<=c/\c<m.cls.length
   ·((repeat'(first|refine Va (X2 @bk.eq_1 @bC) ?_|(refine V2 (X2 @bk.eq_1 @bC) ?_ ?_<;>try with_reducible intro hb)|(refine Xi ?_ ?_<;>try intro ht)|exact Xx|fail)))
    exact an _ (i+1) ⟨Bv,bS (decide_eq_true ⟨az.1,az.2,.inl h0⟩)⟩ Bv (Xv @bk.eq_1)
   ·have hr:=iK (j5 (decide_eq_false λh=>az ⟨h.1,h.2.1⟩));((repeat'(first|refine Va (X2 @bk.eq_1 @bC) ?_|(refine V2 (X2 @bk.eq_1 @bC) ?_ ?_<;>try with_reducible intro hb)|(refine Xi ?_ ?_<;>try intro ht)|exact Xx|fail)))
    all_goals
     repeat(refine Xu ?_)
     ((repeat'(first|refine Vb X0 ?_|fail)))
     exact aQ rfl (by rw[hr])
  ·have kZ:=kZ h0;obtain⟨ve,wR⟩:=uj h0;by_cases az:0<=c/\c<m.cls.length/\q<c
   ·((repeat'(first|refine Va (X3 @bk.eq_1 @bC @kZ) ?_|(refine V2 (X3 @bk.eq_1 @bC @kZ) ?_ ?_<;>try with_reducible intro hb)|(refine Xi ?_ ?_<;>try intro ht)|exact Xx|fail)))
    exact an _ (i+1) ⟨Bv,bS (decide_eq_true ⟨az.1,az.2.1,.inr az.2.2⟩)⟩ Bv (Xv @bk.eq_1)
   ·have hr:=iK (j5 (decide_eq_false λh=>az ⟨h.1,h.2.1,Bv⟩));((repeat'(first|refine Va (X3 @bk.eq_1 @bC @kZ) ?_|(refine V2 (X3 @bk.eq_1 @bC @kZ) ?_ ?_<;>try with_reducible intro hb)|(refine Xi ?_ ?_<;>try intro ht)|exact Xx|fail)))
    all_goals
     repeat(refine Xu ?_)
     ((repeat'(first|refine Vb X0 ?_|fail)))
     exact aQ rfl (by rw[hr])
 obtain rfl:i=aX.length:=Bv;have dq:ye m aX=true:=uV.2 hall;have U3:=Z6 dq;clear iK hall;((repeat'(first|refine Va X0 ?_|(refine V2 X0 ?_ ?_<;>try with_reducible intro hb)|(refine Xi ?_ ?_<;>try intro ht)|exact Xx|fail)))
 refine aw _ _ rfl ?_;clear an aw Ql;repeat(refine Xu ?_)
 have wW:=U0 cells 83 [.ptr 0 0 0,.ptr 1 0 0] [.var (aB m),.var (bk ⟨cl,kids,gk,aX,cells⟩)] (λl=>!pK m aX l) cz (λl hl=>aej m ⟨cl,kids,gk,aX,cells⟩ hm U3 lO l (cJ l hl));rw[Sy]at wW;by_cases bq:cells.length<aX.length;rotate_left
 ·have hr:=pz bq;((repeat'(first|refine Vb @bk.eq_1 ?_|(refine V2 @bk.eq_1 ?_ ?_<;>try with_reducible intro hb)|(refine Xi ?_ ?_<;>try intro ht)|exact Xx|fail)))
  exact aQ rfl (by rw[hr])
 cases fS:cells.all (pK m aX)
 ·have hr:=Bn fS;rw[fS]at wW;((repeat'(first|refine Vb @bk.eq_1 ?_|(refine V2 @bk.eq_1 ?_ ?_<;>try with_reducible intro hb)|(refine Xi ?_ ?_<;>try intro ht)|exact Xx|fail))<;>try with_reducible intro K hK)
  refine eT wW Jy ?_;((try revert hK K);(repeat'(first|refine Vb (X2 @bk.eq_1 @mC) ?_|(refine Xi ?_ ?_<;>try intro ht)|exact Xx|fail)))
  exact aQ rfl (by rw[hr])
 rw[fS]at wW;have xk:=xk dq bq fS;clear pz Bn;((repeat'(first|refine Vb @bk.eq_1 ?_|(refine V2 @bk.eq_1 ?_ ?_<;>try with_reducible intro hb)|(refine Xi ?_ ?_<;>try intro ht)|exact Xx|fail))<;>try with_reducible intro K hK)
 refine eT wW Jy ?_;((try revert hK K);(repeat'(first|refine Vb (X2 @bk.eq_1 @lS) ?_|(refine Xi ?_ ?_<;>try intro ht)|exact Xx|fail)))
 refine aW (λi:Nat=>(⟨ao [(2,.tree 1 (rowsOf bl left)),(3,.ptr 0 0 0),(4,.ptr 1 0 0),(60,.tree 1 (ints aX)),(61,aam aX.length),(62,aam i)],[.var (aB m),.var (bk ⟨cl,kids,gk,aX,cells⟩)]⟩:St))
  (λi=>i<=aX.length/\∀ a,a<i->uU left cells (aX.getD a 0)=true) (λi=>aX.length-i) 0 ⟨aS _,λa ha=>absurd ha (ns _)⟩ (Xv @bk.eq_1) ?_
 rintro i⟨hi,hall⟩Ql an aw;by_cases hi':i<aX.length
 ·have bP:=aF (l:=aX) (i:=i) (d:=0) hi';have j5:=λh=>tL (all_false bP h);have l6:=U3 _ bP;have bS:uU left cells (aX.getD i 0)=true->∀ a,a<i+1->uU left cells (aX.getD a 0)=true:=λh a ha=>by
   by_cases e:a=i
   ·subst e;exact h
   ·exact hall a Bv
  generalize bC:aX.getD i 0=c at *;have afl:=hf.row hm _ (aF (l:=left) (i:=c.toNat) (d:=default) Bv);unfold uU at j5 bS;generalize iZ:left.getD c.toNat default=row at *;((repeat'(first|refine Va (X4 @bk.eq_1 @bC @bl.eq_1 @iZ) ?_|(refine Xi ?_ ?_<;>try intro ht)|exact Xx|fail)))
  refine aW (λo:Nat=>(⟨ao [(2,.tree 1 (rowsOf bl left)),(3,.ptr 0 0 0),(4,.ptr 1 0 0),(10,.ptr 2 0 0),(60,.tree 1 (ints aX)),(61,aam aX.length),(62,aam i),(69,.tree 1 (b8 row)),(70,aam row.length),(71,aam o)],[.var (aB m),.var (bk ⟨cl,kids,gk,aX,cells⟩),.var [aam c]]⟩:St))
   (λo=>o<=row.length/\∀ a,a<o->(!row.getD a false||cells.any λl=>l.any (mu c a))=true) (λo=>row.length-o) 0 ⟨aS _,λa ha=>absurd ha (ns _)⟩ (Xv @bk.eq_1) ?_
  rintro o⟨ho,U4⟩dh bc bz;by_cases cD:o<row.length
  ·have yL:=λh=>j5 (HP (f:=λo:Nat=>!row.getD o false||cells.any λl=>l.any (mu c o)) cD h);have wX:(!row.getD o false||cells.any λl=>l.any (mu c o))=true->∀ a,a<o+1->(!row.getD a false||cells.any λl=>l.any (mu c a))=true:=λh a ha=>by
    by_cases e:a=o
    ·subst e;exact h
    ·exact U4 a Bv
   have U5:=U0 cells 85 [.ptr 2 0 0,.ptr 3 0 0] [.var (aB m),.var (bk ⟨cl,kids,gk,aX,cells⟩),.var [aam c],.var [aam (o:Int)]] (λl=>l.any (mu c o)) cz (λl hl=>aek m ⟨cl,kids,gk,aX,cells⟩ c o l (cJ l hl));generalize qC:row.getD o false=b at *;generalize cells.any (λl=>l.any (mu c o))=cov at *;cases b
   ·((repeat'(first|refine Va (X2 @bk.eq_1 @qC) ?_|(refine Xi ?_ ?_<;>try intro ht)|exact Xx|fail)))
    exact bc _ (o+1) ⟨Bv,wX rfl⟩ Bv (Xs false [0,1,2] @bk.eq_1)
   ·cases cov
    ·have hr:=yL rfl;((repeat'(first|refine Va (X2 @bk.eq_1 @qC) ?_|(refine Xi ?_ ?_<;>try intro ht)|exact Xx|fail))<;>try with_reducible intro K hK)
     refine eT U5 Jy ?_;((try revert hK K);(repeat'(first|refine Va (X2 @bk.eq_1 @mC) ?_|(refine Xi ?_ ?_<;>try intro ht)|exact Xx|fail)))
     all_goals
      repeat(refine Xu ?_)
      refine Vb X0 ?_;exact aQ rfl (by rw[hr])
    ·((repeat'(first|refine Va (X2 @bk.eq_1 @qC) ?_|(refine Xi ?_ ?_<;>try intro ht)|exact Xx|fail))<;>try with_reducible intro K hK)
     refine eT U5 Jy ?_;((try revert hK K);(repeat'(first|refine Va (X2 @bk.eq_1 @lS) ?_|(refine Xi ?_ ?_<;>try intro ht)|exact Xx|fail)))
     exact bc _ (o+1) ⟨Bv,wX rfl⟩ Bv (Xs false [0,1,2] @bk.eq_1)
  ·obtain rfl:o=row.length:=Bv;((repeat'(first|refine Va @bk.eq_1 ?_|(refine V2 @bk.eq_1 ?_ ?_<;>try with_reducible intro hb)|(refine Xi ?_ ?_<;>try intro ht)|exact Xx|fail)))
   refine bz _ _ rfl ?_;clear bc bz dh;repeat(refine Xu ?_)
   refine Va @bk.eq_1 ?_;exact an _ (i+1) ⟨Bv,bS (uV.2 U4)⟩ Bv (Xs false [0,1] @bk.eq_1)
 ·obtain rfl:i=aX.length:=Bv;have hr:=xk (by
   rw[eS];intro c hc;obtain⟨a,ha,rfl⟩:=q7 hc;have:=hall a ha;rwa [ax,aT ha]at this)
  ((repeat'(first|refine Va X0 ?_|(refine Xi ?_ ?_<;>try intro ht)|exact Xx|fail)))
  refine aw _ _ rfl ?_;clear an aw Ql;repeat(refine Xu ?_)
  refine Vb X0 ?_;exact aQ rfl (by rw[hr])
def aem(xs:List (List Bool))(h:0<xs.length)(hl:xs.length<549755813888):ak Tryz.prog 119 [.tree 1 (rowsOf bl xs)] [] (.ref 0 1 0 xs.length) [.arr 1 (rowsOf bl xs)]:=by
 refine ak.aL 8 0 [.tmp 2] Tryz.func119 ?_;((repeat'(first|refine Vb X0 ?_|(refine Xi ?_ ?_<;>try intro ht)|exact Xx|fail)))
 exact Xw false [1] X0
def adY:ak Tryz.prog 81 [.lit (.slice none 0 0)] [] (.lit (.slice none 0 0)) []:=by
 refine ak.aL 8 0 [.tmp 2] Tryz.func81 ?_;((repeat'(first|refine Vb @Option.isNone_none.{0} ?_|(refine Xi ?_ ?_<;>try intro ht)|exact Xx|fail)))
 all_goals first|exact aQ rfl rfl|(exfalso;simp at *;done)
def adX(left:List (List Bool))(c o:Nat)(hc:c<left.length)(ho:o<(left.getD c default).length)(hl:left.length<549755813888)(hw:(left.getD c default).length<549755813888):
  ak Tryz.prog 80 [.tree 1 (rowsOf bl left),aam c,aam o] [] (.tree 1 (rowsOf bl (wx left c o))) []:=by
 unfold wx;have jZ:∀ r:List AV,((rowsOf bl left).set c r)[c]?=some r:=λr=>by rw[List.getElem?_set,if_pos rfl,if_pos (by simpa [rowsOf] using hc)]
 have ij:∀ r:List AV,((rowsOf bl left).set c r).length=left.length:=λr=>by simp[rowsOf]
 generalize iZ:left.getD c default=row at *;have HW:(List.replicate row.length false).length=row.length:=List.length_replicate;refine ak.aL 26 0 [.tmp 6] Tryz.func80 ?_;((refine Vb X0 ?_)<;>try with_reducible intro K hK)
 (refine Xn [] (aem left Bv hl) ?_;simp(disch:=omega)only[Ac,↓Pc,simprocAttr,Nat.sub_self,Nat.sub_zero])
 ((try revert hK K);(refine Vb (X5 @iZ @bl.eq_1 @FF @jZ (X3 @ij @HW @zp)) ?_))
 refine rp [] true aac trivial aac aac (.snap _ _ rfl ?_);have dK:(AY row.length o).length=row.length:=TB _ _;exact abQ (k:=1) (r:=AY row.length o) hc (by rw[dK];rfl) (nE aac) rfl (nE aac)
end T

