import Derived.Test.YtfoopmojjjpapaaGreatX32
set_option linter.all false
set_option maxHeartbeats 0
set_option maxRecDepth 20000
open Nat renaming zero_le→aT,not_lt_zero→u4
open List renaming drop_eq_nil_of_le→jr,contains_iff_mem→uY,getElem_of_mem→qX,length_take→e8,getD_eq_getElem?_getD→aB,getElem?_eq_getElem→bT,all_eq_true→gH
open Bool renaming not_eq_true→AR,true_and→iu,not_true→lI,not_false→mK
open Option renaming map_none→pR
open Go Go.Am Go.Proofs
namespace T
def xp(v:Int):List Int->Int->Int
 |[],_=>-1
 |x::r,k=>if v=x then k else xp v r (k+1)
def Zn(v:Int):∀ (l:List Int) (k:Int),0<=k->(0<=xp v l k↔v∈l)
 |[],k,hk=>by simp[xp]
 |x::r,k,hk=>by
  rw[xp];split
  ·rename_i h;simp[h,hk]
  ·rename_i h;rw[Zn v r (k+1) Ix];simp[h]
def ai6(l:List Int)(v:Int)(hl:l.length<9223372036854775808):Holds Tryz.prog 129 [.tree 1 (ints l),N0 v] [] (N0 (xp v l 0)) []:=by
 generalize au:xp v l 0=res;refine Holds.aK 19 0 [.tmp 4] Tryz.func129 ?_;repeat'(first|(refine Xr X0 ?_;intro K hK)|(refine hK _ ?_;clear hK K)|refine Xz ?_|fail)
 refine aU (λk:Nat=>(⟨an [(0,.tree 1 (ints l)),(1,N0 v),(7,N0 l.length),(8,N0 k)],[]⟩:St)) (λk=>k<=l.length/\xp v (l.drop k) k=res) (λk=>l.length-k) 0 ⟨aT _,au⟩ (Xv X0) ?_;rintro k⟨hk,hr⟩Ql ak ar;by_cases ba:k<l.length
 ·have hd:=j2 l k 0 ba;generalize bc:l.getD k 0=x at *;rw[hd,xp]at hr;((repeat'(first|refine Va @bc ?_|(refine Xi ?_ ?_<;>try intro ht)|exact Xx|fail)))
  ·rw[if_pos (by assumption)]at hr;repeat(refine Xu ?_)
   refine Vb X0 ?_;rw[<- hr];exact I6 rfl
  ·rw[if_neg (by assumption)]at hr;exact ak _ (k+1) ⟨Ix,hr⟩ Ix (Xv X0)
 ·((repeat'(first|refine Va X0 ?_|(refine Xi ?_ ?_<;>try intro ht)|exact Xx|fail)))
  rw[jr Ix,xp]at hr;refine ar _ _ rfl ?_;clear ak ar Ql;repeat(refine Xu ?_)
  refine Vb X0 ?_;rw[<- hr];exact I6 rfl
def Yh(l:List Int)(v:Int)(hl:l.length<9223372036854775808):Holds Tryz.prog 96 [.tree 1 (ints l),N0 v] [] (.lit (.bool (l.contains v))) []:=by
 have h:=Zn v l 0 Ix;refine Holds.aK 9 0 [.tmp 4] Tryz.func96 ?_;repeat'(first|(refine Xq X0 ?_;intro K hK)|refine Xo X0 ?_|refine Xc (ai6 l v hl) ?_|(refine hK _ ?_;clear hK K)|refine Xz ?_|(refine Xe ?_;first|refine aS rfl ?_|refine Xl ?_ ?_)|fail)
 rw[<- uY]at h;cases hb:l.contains v<;>rw[hb]at h
 ·rw[decide_eq_false (by simpa using h)]
 ·rw[decide_eq_true (by simpa using h)]
def ai7:vg Tryz.prog 152 2:=vg.of 4 (by kernel_rfl)
def ai8:Tryz.prog.eqGuardType Tryz.prog.depth 152=false:=by kernel_rfl
def ai9(l:List (Int×Int))(c o:Int)(hl:l.length<9223372036854775808):Holds Tryz.prog 133 [.tree 2 (rowsOf dm l),.agg [N0 c,N0 o]] [] (N0 (fk (pA c o) 0 l)) []:=by
 generalize au:fk (pA c o) 0 l=res;refine Holds.aK 19 0 [.tmp 4] Tryz.func133 ?_;refine Vb X0 ?_;refine aU (λk:Nat=>(⟨an [(0,.tree 2 (rowsOf dm l)),(3,.ptr 0 0 0),(7,N0 l.length),(8,N0 k)],[.var [N0 c,N0 o]]⟩:St)) (λk=>k<=l.length/\fk (pA c o) k (l.drop k)=res) (λk=>l.length-k) 0 ⟨aT _,au⟩ (Xv X0) ?_;rintro k⟨hk,hr⟩Ql ak ar;by_cases ba:k<l.length
 ·have hd:=j2 l k default ba;generalize cW:l.getD k default=x at *;rw[hd,fk]at hr;obtain⟨x1,x2⟩:=x;unfold pA at hr;((repeat'(first|refine Va (X2 @cW @dm.eq_1) ?_|(refine Xi ?_ ?_<;>try intro ht)|refine VD ?_ ?_|exact Xx|fail)))
  ·exact ai7
  ·exact ai8
  ·simp only[List.cons.injEq,and_true]at ht;rw[if_pos (by rw[decide_eq_true_eq,ht.1,ht.2])]at hr;repeat(refine Xu ?_)
   refine Vb X0 ?_;exact aS rfl (by rw[<- hr])
  ·simp only[List.cons.injEq,and_true]at ht;rw[if_neg (by rw[decide_eq_true_eq,Prod.mk.injEq];exact λh=>ht ⟨h.1.symm,h.2.symm⟩)]at hr;exact ak _ (k+1) ⟨Ix,hr⟩ Ix (Xv X0)
 ·((repeat'(first|refine Va X0 ?_|(refine Xi ?_ ?_<;>try intro ht)|exact Xx|fail)))
  rw[jr Ix,fk]at hr;refine ar _ _ rfl ?_;clear ak ar Ql;repeat(refine Xu ?_)
  refine Vb X0 ?_;exact aS rfl (by rw[<- hr])
def ai'(l:List (Int×Int))(c o:Int)(hl:l.length<9223372036854775808):Holds Tryz.prog 102 [.tree 2 (rowsOf dm l),.agg [N0 c,N0 o]] [] (.lit (.bool (l.any (pA c o)))) []:=by
 rw[<- yh (pA c o) l 0];refine Holds.aK 9 0 [.tmp 4] Tryz.func102 ?_;refine Vd X0 (ai9 l c o hl) ?_;exact aS rfl rfl
def Zo(m:ah)(a x b y:Int)(hm:VM m)(ha:jl m a x=true)(pk:jl m b y=true)(p:Pr)(hp:p∈m.ae):
  Holds Tryz.prog 150 [.agg (aH p),.ptr 1 0 0,.ptr 2 0 0,.ptr 0 0 0] [.var (ao m),.var [N0 a,N0 x],.var [N0 b,N0 y]] (.lit (.bool (w9 m a x b y p))) [.var (ao m),.var [N0 a,N0 x],.var [N0 b,N0 y]]:=by
 obtain⟨a1,a2,a3,a4⟩:=kR.1 ha;obtain⟨b1,b2,b3,b4⟩:=kR.1 pk;have dO:=jP hm.pr _ hp;obtain⟨q1,q2,q3,q4,q5⟩:=qA dO;have hl1:=hm.opt _ (aG (l:=m.cls) (i:=a.toNat) (d:=default) Ix);have q9:=hm.opt _ (aG (l:=m.cls) (i:=b.toNat) (d:=default) Ix);have qE:=hm.cls;generalize au:w9 m a x b y p=res;unfold w9 zM at au;obtain⟨fs,sn,ru,ax⟩:=p;dsimp only at *;by_cases Mq:fs=a/\sn=b
 ·obtain⟨rfl,rfl⟩:=Mq;generalize hA:m.cls.getD fs.toNat default=A at *;generalize hB:m.cls.getD sn.toNat default=B at *;obtain⟨e1,e2,e3⟩:=zN ⟨a3,a4⟩ ⟨b3,b4⟩ Ix Ix;generalize nN:x*(B.length:Int)=ix at *;have yf:((A.length*B.length:Nat):Int)=A.length*B.length:=Iy;generalize hv:ax.getD (ix+y).toNat 0=v at *;refine Holds.aK 38 3 [.tmp 5] Tryz.func150 ?_;by_cases h3:v=1099511627776
  ·rw[decide_eq_true ⟨rfl,rfl,h3⟩]at au;refine Vb (X5 @aH.eq_1 @hB @aQ.eq_1 @nN @hv) ?_;all_goals(subst au;subst h3;exact Xw false [0,1,2] X0)
  ·rw[decide_eq_false (λh=>h3 h.2.2)]at au;refine Vb (X5 @aH.eq_1 @hB @aQ.eq_1 @nN @hv) ?_;all_goals(subst au;rw[show(v==1099511627776)=false by simpa using h3];exact Xw false [0,1,2] X0)
 ·refine Holds.aK 38 3 [.tmp 5] Tryz.func150 ?_;rw[decide_eq_false (λh=>Mq ⟨h.1,h.2.1⟩)]at au;((repeat'(first|refine Vb @aH.eq_1 ?_|(refine V2 @aH.eq_1 ?_ ?_<;>try with_reducible intro hb)|exact Xx|fail)))
  all_goals(subst au;exact Xw false [0,1,2] X0)
def aja(m:ah)(a x b y:Int)(hm:VM m)(ha:jl m a x=true)(pk:jl m b y=true):
  Holds Tryz.prog 132 [.agg (ao m),.agg [N0 a,N0 x],.agg [N0 b,N0 y]] [] (.lit (.bool (GC m a x b y))) []:=by
 have uk:=hm.ae;unfold GC;by_cases h:b<a
 ·rw[if_pos h];have hc:=Q3 m.ae 150 [.ptr 1 0 0,.ptr 2 0 0,.ptr 0 0 0] [.var (ao m),.var [N0 b,N0 y],.var [N0 a,N0 x]] (w9 m b y a x) Ix (λp hp=>Zo m b y a x hm pk ha p hp);generalize m.ae.any (w9 m b y a x)=res at *;refine Holds.aK 18 0 [.tmp 6] Tryz.func132 ?_;((repeat'(first|refine Vb X0 ?_|(refine Xi ?_ ?_<;>try intro ht)|exact Xx|fail))<;>try with_reducible intro K hK)
  refine fF hc Iy ?_;((try revert hK K);(refine Vb X0 ?_))
  exact aS rfl rfl
 ·rw[if_neg h];have hc:=Q3 m.ae 150 [.ptr 1 0 0,.ptr 2 0 0,.ptr 0 0 0] [.var (ao m),.var [N0 a,N0 x],.var [N0 b,N0 y]] (w9 m a x b y) Ix (λp hp=>Zo m a x b y hm ha pk p hp);generalize m.ae.any (w9 m a x b y)=res at *;refine Holds.aK 18 0 [.tmp 6] Tryz.func132 ?_;((repeat'(first|refine Vb X0 ?_|(refine Xi ?_ ?_<;>try intro ht)|exact Xx|fail))<;>try with_reducible intro K hK)
  refine fF hc Iy ?_;((try revert hK K);(refine Vb X0 ?_))
  exact aS rfl rfl
def ajb(m:ah)(g:List Int)(l:List (Int×Int))(hm:VM m)(hg:∀ c∈g,0<=c/\c<m.cls.length)(tz:g.length<9223372036854775808)(fh:l.length<9223372036854775808):
  Holds Tryz.prog 100 [.agg (ao m),.tree 1 (ints g),.tree 2 (rowsOf dm l)] [] (.lit (.bool (vI m g l))) []:=by
 have qE:=hm.cls;generalize au:vI m g l=res;unfold vI at au;refine Holds.aK 62 0 [.tmp 6] Tryz.func100 ?_;refine Vb X0 ?_;refine aU (λi:Nat=>(⟨an [(1,.tree 1 (ints g)),(2,.tree 2 (rowsOf dm l)),(3,.ptr 0 0 0),(11,.tree 2 (rowsOf dm l)),(12,N0 l.length),(13,N0 i)],[.var (ao m)]⟩:St))
  (λi=>i<=l.length/\∀ a,a<i->zQ m g l a=true) (λi=>l.length-i) 0 ⟨aT _,λa ha=>absurd ha (u4 _)⟩ (Xv X0) ?_
 rintro i⟨hi,cZ⟩Ql ak ar;by_cases aq:i<l.length
 ·have e9:=eZ aq;have mf:=KD (f:=zQ m g l) aq;rw[au]at mf;have ajc:∀ b∈l.take i,jl m b.1 b.2=true:=λb hb=>by
   obtain⟨a,ha,rfl⟩:=qX hb;rw[e8]at ha;have:=cZ a Ix;unfold zQ at this;simp only[Bool.and_eq_true]at this;rw[List.getElem_take];rw[aB,bT Ix]at this;exact this.1.2
  have cD:zQ m g l i=true->∀ a,a<i+1->zQ m g l a=true:=λh a ha=>by
   by_cases e:a=i
   ·subst e;exact h
   ·exact cZ a Ix
  unfold zQ at mf cD;have BL:(rowsOf dm l).take i=rowsOf dm (l.take i):=by unfold rowsOf;rw[List.map_take]
  have nk:(l.take i).length=i:=by rw[e8];omega
  generalize cW:l.getD i default=x at *;obtain⟨c,o⟩:=x;dsimp only at mf cD;have iP:=Yh g c tz;have hgc:g.contains c=true->0<=c/\c<m.cls.length:=λh=>hg c (uY.1 h);have mV:=λh=>hm.opt _ (aG (l:=m.cls) (i:=c.toNat) (d:=default) h);have oM:=@kR m c o;generalize hA:m.cls.getD c.toNat default=A at *;by_cases eP:g.contains c=true;rotate_left
  ·rw[AR]at eP;rw[eP]at mf iP;have hr:=mf Iy;((repeat'(first|refine Vc (X2 @cW @dm.eq_1) iP ?_|(refine Xi ?_ ?_<;>try intro ht)|exact Xx|fail)))
   all_goals
    repeat(refine Xu ?_)
    refine Vb X0 ?_;exact aS rfl (by rw[hr])
  obtain⟨lj,yb⟩:=hgc eP;have mV:=mV Ix;rw[eP]at iP mf;by_cases l':jl m c o=true;rotate_left
  ·have qf:¬(0<=c/\c<m.cls.length/\0<=o/\o<A.length):=λh=>l' (oM.2 h);rw[AR]at l';rw[l']at mf;have hr:=mf Iy;repeat'(first|((fail_if_success (first|refine ei 6 ?_|refine ej 6 ?_));refine Xq (X4 @cW @dm.eq_1 @hA @aQ.eq_1) ?_;intro K hK)|refine Xo (X4 @cW @dm.eq_1 @hA @aQ.eq_1) ?_|refine Xc (iP) ?_|(refine hK _ ?_;clear hK K)|(refine Xg (X4 @cW @dm.eq_1 @hA @aQ.eq_1) ?_ ?_<;>try intro hb)|(refine Xi ?_ ?_<;>try intro ht)|refine Xy ?_|refine Xd ?_ ?_|exact Xx|fail)
   all_goals
    repeat(refine Xu ?_)
    ((repeat'(first|refine Vb X0 ?_|fail)))
    exact aS rfl (by rw[hr])
  obtain⟨o1,o2,o3,o4⟩:=oM.1 l';rw[l',iu,iu]at mf;rw[eP,l',iu,iu]at cD;((repeat'(first|refine Vc (X5 @cW @dm.eq_1 @hA @aQ.eq_1 (X4 @BL @nk @pR.{0,0} @implies_true.{0})) iP ?_|(refine V2 (X5 @cW @dm.eq_1 @hA @aQ.eq_1 (X4 @BL @nk @pR.{0,0} @implies_true.{0})) ?_ ?_<;>try with_reducible intro hb)|(refine Xi ?_ ?_<;>try intro ht)|exact Xx|fail)))
  refine aU (λj:Nat=>(⟨an [(1,.tree 1 (ints g)),(2,.tree 2 (rowsOf dm l)),(3,.ptr 0 0 0),(8,.ptr 1 0 0),(11,.tree 2 (rowsOf dm l)),(12,N0 l.length),(13,N0 i),(42,.tree 2 (rowsOf dm (l.take i))),(43,N0 i),(44,N0 j)],[.var (ao m),.var [N0 c,N0 o]]⟩:St))
   (λj=>j<=i/\∀ a,a<j->Dr m (c,o) ((l.take i).getD a default)=true) (λj=>i-j) 0 ⟨aT _,λa ha=>absurd ha (u4 _)⟩ (Xv X0) ?_
  rintro j⟨hj,lN⟩c7 br bx;by_cases fe:j<i
  ·have cH:=aG (l:=l.take i) (i:=j) (d:=default) Ix;have bI:=ajc _ cH;have An:Dr m (c,o) ((l.take i).getD j default)=true->∀ a,a<j+1->Dr m (c,o) ((l.take i).getD a default)=true:=λh a ha=>by
    by_cases e:a=j
    ·subst e;exact h
    ·exact lN a Ix
   have B9:=λh=>mf (all_false cH h);generalize vO:(l.take i).getD j default=y at *;obtain⟨b,u⟩:=y;unfold Dr at B9 An;dsimp only at bI B9 An;have bG:=aja m c o b u hm l' bI;generalize GC m c o b u=cl at *;by_cases Zp:c=b
   ·((repeat'(first|refine Va (X3 @vO @nk @dm.eq_1) ?_|(refine V2 (X3 @vO @nk @dm.eq_1) ?_ ?_<;>try with_reducible intro hb)|(refine Xi ?_ ?_<;>try intro ht)|exact Xx|fail)))
    exact br _ (j+1) ⟨Ix,An (by rw[decide_eq_true Zp];rfl)⟩ Ix (Xs false [0,1] X0)
   ·rw[decide_eq_false Zp,Bool.false_or]at B9;cases cl
    ·have hr:=B9 rfl;((repeat'(first|refine Vc (X3 @vO @nk @dm.eq_1) bG ?_|(refine V2 (X3 @vO @nk @dm.eq_1) ?_ ?_<;>try with_reducible intro hb)|(refine Xi ?_ ?_<;>try intro ht)|exact Xx|fail)))
     all_goals
      repeat(refine Xu ?_)
      refine Vb X0 ?_;exact aS rfl (by rw[hr])
    ·((repeat'(first|refine Vc (X4 @vO @nk @dm.eq_1 @lI) bG ?_|(refine V2 (X4 @vO @nk @dm.eq_1 @lI) ?_ ?_<;>try with_reducible intro hb)|(refine Xi ?_ ?_<;>try intro ht)|exact Xx|fail)))
     exact br _ (j+1) ⟨Ix,An (by rw[Bool.or_true])⟩ Ix (Xs false [0,1] X0)
  ·obtain rfl:j=i:=Ix;((repeat'(first|refine Va X0 ?_|(refine V2 X0 ?_ ?_<;>try with_reducible intro hb)|(refine Xi ?_ ?_<;>try intro ht)|exact Xx|fail)))
   refine bx _ _ rfl ?_;clear br bx c7;repeat(refine Xu ?_)
   refine Va X0 ?_;refine ak _ (j+1) ⟨Ix,cD ?_⟩ Ix (Xs false [0] X0);rw[gH];intro b hb;obtain⟨a,ha,rfl⟩:=qX hb;have:=lN a Ix;rwa [aB,bT ha]at this
 ·obtain rfl:i=l.length:=Ix;rw[GD.2 cZ]at au;((repeat'(first|refine Va X0 ?_|(refine Xi ?_ ?_<;>try intro ht)|exact Xx|fail)))
  refine ar _ _ rfl ?_;clear ak ar Ql;repeat(refine Xu ?_)
  refine Vb X0 ?_;exact aS rfl (by rw[<- au])
def aje(m:ah)(x:Nd)(hm:VM m)(hg:∀ c∈x.bh,0<=c/\c<m.cls.length)(tz:x.bh.length<9223372036854775808)(l:List (Int×Int))(fh:l.length<9223372036854775808):
  Holds Tryz.prog 99 [.tree 2 (rowsOf dm l),.ptr 0 0 0,.ptr 1 0 0] [.var (ao m),.var (bz x)] (.lit (.bool (!vI m x.bh l))) [.var (ao m),.var (bz x)]:=by
 have h:=ajb m x.bh l hm hg tz fh;generalize vI m x.bh l=res at *;refine Holds.aK 11 2 [.tmp 4] Tryz.func99 ?_;refine Vd @bz.eq_1 h ?_;exact ed rfl Iy rfl
def ajf(m:ah)(x:Nd)(c o:Int)(l:List (Int×Int))(fh:l.length<9223372036854775808):
  Holds Tryz.prog 101 [.tree 2 (rowsOf dm l),.ptr 2 0 0,.ptr 3 0 0] [.var (ao m),.var (bz x),.var [N0 c],.var [N0 o]] (.lit (.bool (l.any (pA c o)))) [.var (ao m),.var (bz x),.var [N0 c],.var [N0 o]]:=by
 have h:=ai' l c o fh;generalize l.any (pA c o)=res at *;refine Holds.aK 10 4 [.tmp 4] Tryz.func101 ?_;refine Vd X0 h ?_;exact ed rfl Iy rfl
def agE(m:ah)(x:Nd)(left:List (List Bool))(hm:VM m)(hf:df m left)(tz:x.bh.length<9223372036854775808)(bG:x.cells.length<9223372036854775808)(fh:∀ l∈x.cells,l.length<9223372036854775808):
  Holds Tryz.prog 67 [.agg (ao m),.agg (bz x),.tree 1 (rowsOf aA left)] [] (.lit (.bool (pB m x left))) []:=by
 have qE:=hm.cls;have iy:=hf.1;generalize au:pB m x left=res;have lj:=@afB m x left;have yb:=@afC m x left;have Mr:=@afD m x left;have qH:=@afE m x left;have yJ:=@afF m x left;rw[au]at lj yb Mr qH yJ;obtain⟨cl,kids,ew,bh,cells⟩:=x;dsimp only at *;refine Holds.aK 87 0 [.tmp 6] Tryz.func67 ?_;refine Vb @bz.eq_1 ?_;refine aU (λi:Nat=>(⟨an [(2,.tree 1 (rowsOf aA left)),(3,.ptr 0 0 0),(4,.ptr 1 0 0),(15,.tree 1 (ints bh)),(16,N0 bh.length),(17,N0 i)],[.var (ao m),.var (bz ⟨cl,kids,ew,bh,cells⟩)]⟩:St))
  (λi=>i<=bh.length/\∀ a,a<i->decide (0<=bh.getD a 0/\bh.getD a 0<m.cls.length/\(a=0\/bh.getD (a-1) 0<bh.getD a 0))=true) (λi=>bh.length-i) 0 ⟨aT _,λa ha=>absurd ha (u4 _)⟩ (Xv @bz.eq_1) ?_
 rintro i⟨hi,gf⟩Ql ak ar;by_cases aq:i<bh.length
 ·have mf:=KD (f:=λi=>decide (0<=bh.getD i 0/\bh.getD i 0<m.cls.length/\(i=0\/bh.getD (i-1) 0<bh.getD i 0))) aq;have cD:decide (0<=bh.getD i 0/\bh.getD i 0<m.cls.length/\(i=0\/bh.getD (i-1) 0<bh.getD i 0))=true->∀ a,a<i+1->decide (0<=bh.getD a 0/\bh.getD a 0<m.cls.length/\(a=0\/bh.getD (a-1) 0<bh.getD a 0))=true:=λh a ha=>by
   by_cases e:a=i
   ·subst e;exact h
   ·exact gf a Ix
  have gr:0<i->((i:Int)-1).toNat=i-1/\i-1<bh.length:=λh=>⟨Ix,Ix⟩;have nN:0<i->bh.getD ((i:Int)-1).toNat 0=bh.getD (i-1) 0:=λh=>by rw[(gr h).1]
  generalize bc:bh.getD i 0=c at *;generalize YK:bh.getD (i-1) 0=q at *;have kD:c=c:=rfl;rcases Nat.eq_zero_or_pos i with h0|h0
  ·by_cases ay:0<=c/\c<m.cls.length
   ·((repeat'(first|refine Va (X2 @bz.eq_1 @bc) ?_|(refine V2 (X2 @bz.eq_1 @bc) ?_ ?_<;>try with_reducible intro hb)|(refine Xi ?_ ?_<;>try intro ht)|exact Xx|fail)))
    exact ak _ (i+1) ⟨Ix,cD (decide_eq_true ⟨ay.1,ay.2,.inl h0⟩)⟩ Ix (Xv @bz.eq_1)
   ·have hr:=lj (mf (decide_eq_false λh=>ay ⟨h.1,h.2.1⟩));((repeat'(first|refine Va (X2 @bz.eq_1 @bc) ?_|(refine V2 (X2 @bz.eq_1 @bc) ?_ ?_<;>try with_reducible intro hb)|(refine Xi ?_ ?_<;>try intro ht)|exact Xx|fail)))
    all_goals
     repeat(refine Xu ?_)
     ((repeat'(first|refine Vb X0 ?_|fail)))
     exact aS rfl (by rw[hr])
  ·have nN:=nN h0;obtain⟨Eh,Mq⟩:=gr h0;by_cases ay:0<=c/\c<m.cls.length/\q<c
   ·((repeat'(first|refine Va (X3 @bz.eq_1 @bc @nN) ?_|(refine V2 (X3 @bz.eq_1 @bc @nN) ?_ ?_<;>try with_reducible intro hb)|(refine Xi ?_ ?_<;>try intro ht)|exact Xx|fail)))
    exact ak _ (i+1) ⟨Ix,cD (decide_eq_true ⟨ay.1,ay.2.1,.inr ay.2.2⟩)⟩ Ix (Xv @bz.eq_1)
   ·have hr:=lj (mf (decide_eq_false λh=>ay ⟨h.1,h.2.1,Ix⟩));((repeat'(first|refine Va (X3 @bz.eq_1 @bc @nN) ?_|(refine V2 (X3 @bz.eq_1 @bc @nN) ?_ ?_<;>try with_reducible intro hb)|(refine Xi ?_ ?_<;>try intro ht)|exact Xx|fail)))
    all_goals
     repeat(refine Xu ?_)
     ((repeat'(first|refine Vb X0 ?_|fail)))
     exact aS rfl (by rw[hr])
 obtain rfl:i=bh.length:=Ix;have BS:Ds m bh=true:=GD.2 gf;have Gv:=afA BS;clear lj gf;((repeat'(first|refine Va X0 ?_|(refine V2 X0 ?_ ?_<;>try with_reducible intro hb)|(refine Xi ?_ ?_<;>try intro ht)|exact Xx|fail)))
 refine ar _ _ rfl ?_;clear ak ar Ql;repeat(refine Xu ?_)
 have vV:=QZ cells 99 [.ptr 0 0 0,.ptr 1 0 0] [.var (ao m),.var (bz ⟨cl,kids,ew,bh,cells⟩)] (λl=>!vI m bh l) bG (λl hl=>aje m ⟨cl,kids,ew,bh,cells⟩ hm Gv tz l (fh l hl));rw[Wn]at vV;by_cases a6:cells.length<bh.length;rotate_left
 ·have hr:=yb a6;((repeat'(first|refine Vb @bz.eq_1 ?_|(refine V2 @bz.eq_1 ?_ ?_<;>try with_reducible intro hb)|(refine Xi ?_ ?_<;>try intro ht)|exact Xx|fail)))
  exact aS rfl (by rw[hr])
 cases kM:cells.all (vI m bh)
 ·have hr:=Mr kM;rw[kM]at vV;((repeat'(first|refine Vb @bz.eq_1 ?_|(refine V2 @bz.eq_1 ?_ ?_<;>try with_reducible intro hb)|(refine Xi ?_ ?_<;>try intro ht)|exact Xx|fail))<;>try with_reducible intro K hK)
  refine fF vV Iy ?_;((try revert hK K);(repeat'(first|refine Vb (X2 @bz.eq_1 @mK) ?_|(refine Xi ?_ ?_<;>try intro ht)|exact Xx|fail)))
  exact aS rfl (by rw[hr])
 rw[kM]at vV;have yJ:=yJ BS a6 kM;clear yb Mr;((repeat'(first|refine Vb @bz.eq_1 ?_|(refine V2 @bz.eq_1 ?_ ?_<;>try with_reducible intro hb)|(refine Xi ?_ ?_<;>try intro ht)|exact Xx|fail))<;>try with_reducible intro K hK)
 refine fF vV Iy ?_;((try revert hK K);(repeat'(first|refine Vb (X2 @bz.eq_1 @lI) ?_|(refine Xi ?_ ?_<;>try intro ht)|exact Xx|fail)))
 refine aU (λi:Nat=>(⟨an [(2,.tree 1 (rowsOf aA left)),(3,.ptr 0 0 0),(4,.ptr 1 0 0),(60,.tree 1 (ints bh)),(61,N0 bh.length),(62,N0 i)],[.var (ao m),.var (bz ⟨cl,kids,ew,bh,cells⟩)]⟩:St))
  (λi=>i<=bh.length/\∀ a,a<i->zR left cells (bh.getD a 0)=true) (λi=>bh.length-i) 0 ⟨aT _,λa ha=>absurd ha (u4 _)⟩ (Xv @bz.eq_1) ?_
 rintro i⟨hi,gf⟩Ql ak ar;by_cases aq:i<bh.length
 ·have cH:=aG (l:=bh) (i:=i) (d:=0) aq;have mf:=λh=>qH (all_false cH h);have vp:=Gv _ cH;have cD:zR left cells (bh.getD i 0)=true->∀ a,a<i+1->zR left cells (bh.getD a 0)=true:=λh a ha=>by
   by_cases e:a=i
   ·subst e;exact h
   ·exact gf a Ix
  generalize bc:bh.getD i 0=c at *;have amB:=hf.row hm _ (aG (l:=left) (i:=c.toNat) (d:=default) Ix);unfold zR at mf cD;generalize gq:left.getD c.toNat default=row at *;((repeat'(first|refine Va (X4 @bz.eq_1 @bc @aA.eq_1 @gq) ?_|(refine Xi ?_ ?_<;>try intro ht)|exact Xx|fail)))
  refine aU (λo:Nat=>(⟨an [(2,.tree 1 (rowsOf aA left)),(3,.ptr 0 0 0),(4,.ptr 1 0 0),(10,.ptr 2 0 0),(60,.tree 1 (ints bh)),(61,N0 bh.length),(62,N0 i),(69,.tree 1 (bm row)),(70,N0 row.length),(71,N0 o)],[.var (ao m),.var (bz ⟨cl,kids,ew,bh,cells⟩),.var [N0 c]]⟩:St))
   (λo=>o<=row.length/\∀ a,a<o->(!row.getD a false||cells.any λl=>l.any (pA c a))=true) (λo=>row.length-o) 0 ⟨aT _,λa ha=>absurd ha (u4 _)⟩ (Xv @bz.eq_1) ?_
  rintro o⟨ho,Zq⟩c7 br bx;by_cases cE:o<row.length
  ·have B9:=λh=>mf (KD (f:=λo:Nat=>!row.getD o false||cells.any λl=>l.any (pA c o)) cE h);have An:(!row.getD o false||cells.any λl=>l.any (pA c o))=true->∀ a,a<o+1->(!row.getD a false||cells.any λl=>l.any (pA c a))=true:=λh a ha=>by
    by_cases e:a=o
    ·subst e;exact h
    ·exact Zq a Ix
   have Zr:=QZ cells 101 [.ptr 2 0 0,.ptr 3 0 0] [.var (ao m),.var (bz ⟨cl,kids,ew,bh,cells⟩),.var [N0 c],.var [N0 (o:Int)]] (λl=>l.any (pA c o)) bG (λl hl=>ajf m ⟨cl,kids,ew,bh,cells⟩ c o l (fh l hl));generalize lW:row.getD o false=b at *;generalize cells.any (λl=>l.any (pA c o))=cov at *;cases b
   ·((repeat'(first|refine Va (X2 @bz.eq_1 @lW) ?_|(refine Xi ?_ ?_<;>try intro ht)|exact Xx|fail)))
    exact br _ (o+1) ⟨Ix,An rfl⟩ Ix (Xs false [0,1,2] @bz.eq_1)
   ·cases cov
    ·have hr:=B9 rfl;((repeat'(first|refine Va (X2 @bz.eq_1 @lW) ?_|(refine Xi ?_ ?_<;>try intro ht)|exact Xx|fail))<;>try with_reducible intro K hK)
     refine fF Zr Iy ?_;((try revert hK K);(repeat'(first|refine Va (X2 @bz.eq_1 @mK) ?_|(refine Xi ?_ ?_<;>try intro ht)|exact Xx|fail)))
     all_goals
      repeat(refine Xu ?_)
      refine Vb X0 ?_;exact aS rfl (by rw[hr])
    ·((repeat'(first|refine Va (X2 @bz.eq_1 @lW) ?_|(refine Xi ?_ ?_<;>try intro ht)|exact Xx|fail))<;>try with_reducible intro K hK)
     refine fF Zr Iy ?_;((try revert hK K);(repeat'(first|refine Va (X2 @bz.eq_1 @lI) ?_|(refine Xi ?_ ?_<;>try intro ht)|exact Xx|fail)))
     exact br _ (o+1) ⟨Ix,An rfl⟩ Ix (Xs false [0,1,2] @bz.eq_1)
  ·obtain rfl:o=row.length:=Ix;((repeat'(first|refine Va @bz.eq_1 ?_|(refine V2 @bz.eq_1 ?_ ?_<;>try with_reducible intro hb)|(refine Xi ?_ ?_<;>try intro ht)|exact Xx|fail)))
   refine bx _ _ rfl ?_;clear br bx c7;repeat(refine Xu ?_)
   refine Va @bz.eq_1 ?_;exact ak _ (i+1) ⟨Ix,cD (GD.2 Zq)⟩ Ix (Xs false [0,1] @bz.eq_1)
 ·obtain rfl:i=bh.length:=Ix;have hr:=yJ (by
   rw[gH];intro c hc;obtain⟨a,ha,rfl⟩:=qX hc;have:=gf a ha;rwa [aB,bT ha]at this)
  ((repeat'(first|refine Va X0 ?_|(refine Xi ?_ ?_<;>try intro ht)|exact Xx|fail)))
  refine ar _ _ rfl ?_;clear ak ar Ql;repeat(refine Xu ?_)
  refine Vb X0 ?_;exact aS rfl (by rw[hr])
end T

