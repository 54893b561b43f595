import Derived.Test.YtfoopmojjjpapaaGreatX32
set_option linter.all false
set_option maxHeartbeats 0
set_option maxRecDepth 20000
open Nat renaming zero_le→aT,not_lt_zero→u4
open List renaming drop_eq_nil_of_le→jr,contains_iff_mem→uY,getElem_of_mem→qW,length_take→e8,getD_eq_getElem?_getD→aB,getElem?_eq_getElem→bT,all_eq_true→gH
open Bool renaming not_eq_true→AO,true_and→iu,not_true→lI,not_false→mK
open Option renaming map_none→pQ
open Go Go.Am Go.Proofs
namespace T
def xl(v:Int):List Int->Int->Int
 |[],_=>-1
 |x::r,k=>if v=x then k else xl v r (k+1)
def Zi(v:Int):∀ (l:List Int) (k:Int),0<=k->(0<=xl v l k↔v∈l)
 |[],k,hk=>by simp[xl]
 |x::r,k,hk=>by
  rw[xl];split
  ·rename_i h;simp[h,hk]
  ·rename_i h;rw[Zi v r (k+1) Iv];simp[h]
def ai3(l:List Int)(v:Int)(hl:l.length<9223372036854775808):Holds Tryz.prog 129 [.tree 1 (ints l),NX v] [] (NX (xl v l 0)) []:=by
 generalize au:xl v l 0=res;refine Holds.aK 19 0 [.tmp 4] Tryz.func129 ?_;repeat'(first|(refine Xr X0 ?_;intro K hK)|(refine hK _ ?_;clear hK K)|refine Xz ?_|fail)
 refine aU (λk:Nat=>(⟨an [(0,.tree 1 (ints l)),(1,NX v),(7,NX l.length),(8,NX k)],[]⟩:St)) (λk=>k<=l.length/\xl v (l.drop k) k=res) (λk=>l.length-k) 0 ⟨aT _,au⟩ (Xv X0) ?_;rintro k⟨hk,hr⟩Ql ak ar;by_cases ba:k<l.length
 ·have hd:=j3 l k 0 ba;generalize bd:l.getD k 0=x at *;rw[hd,xl]at hr;((repeat'(first|refine Va @bd ?_|(refine Xi ?_ ?_<;>try intro ht)|exact Xx|fail)))
  ·rw[if_pos (by assumption)]at hr;repeat(refine Xu ?_)
   refine Vb X0 ?_;rw[<- hr];exact I4 rfl
  ·rw[if_neg (by assumption)]at hr;exact ak _ (k+1) ⟨Iv,hr⟩ Iv (Xv X0)
 ·((repeat'(first|refine Va X0 ?_|(refine Xi ?_ ?_<;>try intro ht)|exact Xx|fail)))
  rw[jr Iv,xl]at hr;refine ar _ _ rfl ?_;clear ak ar Ql;repeat(refine Xu ?_)
  refine Vb X0 ?_;rw[<- hr];exact I4 rfl
def Yd(l:List Int)(v:Int)(hl:l.length<9223372036854775808):Holds Tryz.prog 96 [.tree 1 (ints l),NX v] [] (.lit (.bool (l.contains v))) []:=by
 have h:=Zi v l 0 Iv;refine Holds.aK 9 0 [.tmp 4] Tryz.func96 ?_;repeat'(first|(refine Xq X0 ?_;intro K hK)|refine Xo X0 ?_|refine Xc (ai3 l v hl) ?_|(refine hK _ ?_;clear hK K)|refine Xz ?_|(refine Xe ?_;first|refine aS rfl ?_|refine Xl ?_ ?_)|fail)
 rw[<- uY]at h;cases hb:l.contains v<;>rw[hb]at h
 ·rw[decide_eq_false (by simpa using h)]
 ·rw[decide_eq_true (by simpa using h)]
def ai4:vf Tryz.prog 152 2:=vf.of 4 (by kernel_rfl)
def ai5:Tryz.prog.eqGuardType Tryz.prog.depth 152=false:=by kernel_rfl
def ai6(l:List (Int×Int))(c o:Int)(hl:l.length<9223372036854775808):Holds Tryz.prog 133 [.tree 2 (rowsOf dj l),.agg [NX c,NX o]] [] (NX (fk (pA c o) 0 l)) []:=by
 generalize au:fk (pA c o) 0 l=res;refine Holds.aK 19 0 [.tmp 4] Tryz.func133 ?_;refine Vb X0 ?_;refine aU (λk:Nat=>(⟨an [(0,.tree 2 (rowsOf dj l)),(3,.ptr 0 0 0),(7,NX l.length),(8,NX k)],[.var [NX c,NX o]]⟩:St)) (λk=>k<=l.length/\fk (pA c o) k (l.drop k)=res) (λk=>l.length-k) 0 ⟨aT _,au⟩ (Xv X0) ?_;rintro k⟨hk,hr⟩Ql ak ar;by_cases ba:k<l.length
 ·have hd:=j3 l k default ba;generalize cW:l.getD k default=x at *;rw[hd,fk]at hr;obtain⟨x1,x2⟩:=x;unfold pA at hr;((repeat'(first|refine Va (X2 @cW @dj.eq_1) ?_|(refine Xi ?_ ?_<;>try intro ht)|refine VD ?_ ?_|exact Xx|fail)))
  ·exact ai4
  ·exact ai5
  ·simp only[List.cons.injEq,and_true]at ht;rw[if_pos (by rw[decide_eq_true_eq,ht.1,ht.2])]at hr;repeat(refine Xu ?_)
   refine Vb X0 ?_;exact aS rfl (by rw[<- hr])
  ·simp only[List.cons.injEq,and_true]at ht;rw[if_neg (by rw[decide_eq_true_eq,Prod.mk.injEq];exact λh=>ht ⟨h.1.symm,h.2.symm⟩)]at hr;exact ak _ (k+1) ⟨Iv,hr⟩ Iv (Xv X0)
 ·((repeat'(first|refine Va X0 ?_|(refine Xi ?_ ?_<;>try intro ht)|exact Xx|fail)))
  rw[jr Iv,fk]at hr;refine ar _ _ rfl ?_;clear ak ar Ql;repeat(refine Xu ?_)
  refine Vb X0 ?_;exact aS rfl (by rw[<- hr])
def ai7(l:List (Int×Int))(c o:Int)(hl:l.length<9223372036854775808):Holds Tryz.prog 102 [.tree 2 (rowsOf dj l),.agg [NX c,NX o]] [] (.lit (.bool (l.any (pA c o)))) []:=by
 rw[<- yf (pA c o) l 0];refine Holds.aK 9 0 [.tmp 4] Tryz.func102 ?_;refine Vd X0 (ai6 l c o hl) ?_;exact aS rfl rfl
def Zj(m:ah)(a x b y:Int)(hm:VM m)(ha:jl m a x=true)(pk:jl m b y=true)(p:Pr)(hp:p∈m.ae):
  Holds Tryz.prog 150 [.agg (aH p),.ptr 1 0 0,.ptr 2 0 0,.ptr 0 0 0] [.var (ao m),.var [NX a,NX x],.var [NX b,NX y]] (.lit (.bool (w6 m a x b y p))) [.var (ao m),.var [NX a,NX x],.var [NX b,NX y]]:=by
 obtain⟨a1,a2,a3,a4⟩:=kR.1 ha;obtain⟨b1,b2,b3,b4⟩:=kR.1 pk;have dN:=jQ hm.pr _ hp;obtain⟨q1,q2,q3,q4,q5⟩:=qz dN;have hl1:=hm.opt _ (aG (l:=m.cls) (i:=a.toNat) (d:=default) Iv);have q8:=hm.opt _ (aG (l:=m.cls) (i:=b.toNat) (d:=default) Iv);have qD:=hm.cls;generalize au:w6 m a x b y p=res;unfold w6 zK at au;obtain⟨fs,sn,ru,ax⟩:=p;dsimp only at *;by_cases Mn:fs=a/\sn=b
 ·obtain⟨rfl,rfl⟩:=Mn;generalize hA:m.cls.getD fs.toNat default=A at *;generalize hB:m.cls.getD sn.toNat default=B at *;obtain⟨e1,e2,e3⟩:=zL ⟨a3,a4⟩ ⟨b3,b4⟩ Iv Iv;generalize nN:x*(B.length:Int)=ix at *;have yd:((A.length*B.length:Nat):Int)=A.length*B.length:=Iw;generalize hv:ax.getD (ix+y).toNat 0=v at *;refine Holds.aK 38 3 [.tmp 5] Tryz.func150 ?_;by_cases h3:v=1099511627776
  ·rw[decide_eq_true ⟨rfl,rfl,h3⟩]at au;refine Vb (X5 @aH.eq_1 @hB @aQ.eq_1 @nN @hv) ?_;all_goals(subst au;subst h3;exact Xw false [0,1,2] X0)
  ·rw[decide_eq_false (λh=>h3 h.2.2)]at au;refine Vb (X5 @aH.eq_1 @hB @aQ.eq_1 @nN @hv) ?_;all_goals(subst au;rw[show(v==1099511627776)=false by simpa using h3];exact Xw false [0,1,2] X0)
 ·refine Holds.aK 38 3 [.tmp 5] Tryz.func150 ?_;rw[decide_eq_false (λh=>Mn ⟨h.1,h.2.1⟩)]at au;((repeat'(first|refine Vb @aH.eq_1 ?_|(refine V2 @aH.eq_1 ?_ ?_<;>try with_reducible intro hb)|exact Xx|fail)))
  all_goals(subst au;exact Xw false [0,1,2] X0)
def ai8(m:ah)(a x b y:Int)(hm:VM m)(ha:jl m a x=true)(pk:jl m b y=true):
  Holds Tryz.prog 132 [.agg (ao m),.agg [NX a,NX x],.agg [NX b,NX y]] [] (.lit (.bool (Gy m a x b y))) []:=by
 have uk:=hm.ae;unfold Gy;by_cases h:b<a
 ·rw[if_pos h];have hc:=QX m.ae 150 [.ptr 1 0 0,.ptr 2 0 0,.ptr 0 0 0] [.var (ao m),.var [NX b,NX y],.var [NX a,NX x]] (w6 m b y a x) Iv (λp hp=>Zj m b y a x hm pk ha p hp);generalize m.ae.any (w6 m b y a x)=res at *;refine Holds.aK 18 0 [.tmp 6] Tryz.func132 ?_;((repeat'(first|refine Vb X0 ?_|(refine Xi ?_ ?_<;>try intro ht)|exact Xx|fail))<;>try with_reducible intro K hK)
  refine fF hc Iw ?_;((try revert hK K);(refine Vb X0 ?_))
  exact aS rfl rfl
 ·rw[if_neg h];have hc:=QX m.ae 150 [.ptr 1 0 0,.ptr 2 0 0,.ptr 0 0 0] [.var (ao m),.var [NX a,NX x],.var [NX b,NX y]] (w6 m a x b y) Iv (λp hp=>Zj m a x b y hm ha pk p hp);generalize m.ae.any (w6 m a x b y)=res at *;refine Holds.aK 18 0 [.tmp 6] Tryz.func132 ?_;((repeat'(first|refine Vb X0 ?_|(refine Xi ?_ ?_<;>try intro ht)|exact Xx|fail))<;>try with_reducible intro K hK)
  refine fF hc Iw ?_;((try revert hK K);(refine Vb X0 ?_))
  exact aS rfl rfl
def ai9(m:ah)(g:List Int)(l:List (Int×Int))(hm:VM m)(hg:∀ c∈g,0<=c/\c<m.cls.length)(tx:g.length<9223372036854775808)(fh:l.length<9223372036854775808):
  Holds Tryz.prog 100 [.agg (ao m),.tree 1 (ints g),.tree 2 (rowsOf dj l)] [] (.lit (.bool (vH m g l))) []:=by
 have qD:=hm.cls;generalize au:vH m g l=res;unfold vH at au;refine Holds.aK 62 0 [.tmp 6] Tryz.func100 ?_;refine Vb X0 ?_;refine aU (λi:Nat=>(⟨an [(1,.tree 1 (ints g)),(2,.tree 2 (rowsOf dj l)),(3,.ptr 0 0 0),(11,.tree 2 (rowsOf dj l)),(12,NX l.length),(13,NX i)],[.var (ao m)]⟩:St))
  (λi=>i<=l.length/\∀ a,a<i->zO m g l a=true) (λi=>l.length-i) 0 ⟨aT _,λa ha=>absurd ha (u4 _)⟩ (Xv X0) ?_
 rintro i⟨hi,cZ⟩Ql ak ar;by_cases aq:i<l.length
 ·have e9:=eZ aq;have mf:=KB (f:=zO m g l) aq;rw[au]at mf;have ai':∀ b∈l.take i,jl m b.1 b.2=true:=λb hb=>by
   obtain⟨a,ha,rfl⟩:=qW hb;rw[e8]at ha;have:=cZ a Iv;unfold zO at this;simp only[Bool.and_eq_true]at this;rw[List.getElem_take];rw[aB,bT Iv]at this;exact this.1.2
  have cC:zO m g l i=true->∀ a,a<i+1->zO m g l a=true:=λh a ha=>by
   by_cases e:a=i
   ·subst e;exact h
   ·exact cZ a Iv
  unfold zO at mf cC;have BI:(rowsOf dj l).take i=rowsOf dj (l.take i):=by unfold rowsOf;rw[List.map_take]
  have nk:(l.take i).length=i:=by rw[e8];omega
  generalize cW:l.getD i default=x at *;obtain⟨c,o⟩:=x;dsimp only at mf cC;have iP:=Yd g c tx;have hgc:g.contains c=true->0<=c/\c<m.cls.length:=λh=>hg c (uY.1 h);have mV:=λh=>hm.opt _ (aG (l:=m.cls) (i:=c.toNat) (d:=default) h);have oM:=@kR m c o;generalize hA:m.cls.getD c.toNat default=A at *;by_cases eP:g.contains c=true;rotate_left
  ·rw[AO]at eP;rw[eP]at mf iP;have hr:=mf Iw;((repeat'(first|refine Vc (X2 @cW @dj.eq_1) iP ?_|(refine Xi ?_ ?_<;>try intro ht)|exact Xx|fail)))
   all_goals
    repeat(refine Xu ?_)
    refine Vb X0 ?_;exact aS rfl (by rw[hr])
  obtain⟨lj,x9⟩:=hgc eP;have mV:=mV Iv;rw[eP]at iP mf;by_cases l':jl m c o=true;rotate_left
  ·have qc:¬(0<=c/\c<m.cls.length/\0<=o/\o<A.length):=λh=>l' (oM.2 h);rw[AO]at l';rw[l']at mf;have hr:=mf Iw;repeat'(first|((fail_if_success (first|refine ei 6 ?_|refine ej 6 ?_));refine Xq (X4 @cW @dj.eq_1 @hA @aQ.eq_1) ?_;intro K hK)|refine Xo (X4 @cW @dj.eq_1 @hA @aQ.eq_1) ?_|refine Xc (iP) ?_|(refine hK _ ?_;clear hK K)|(refine Xg (X4 @cW @dj.eq_1 @hA @aQ.eq_1) ?_ ?_<;>try intro hb)|(refine Xi ?_ ?_<;>try intro ht)|refine Xy ?_|refine Xd ?_ ?_|exact Xx|fail)
   all_goals
    repeat(refine Xu ?_)
    ((repeat'(first|refine Vb X0 ?_|fail)))
    exact aS rfl (by rw[hr])
  obtain⟨o1,o2,o3,o4⟩:=oM.1 l';rw[l',iu,iu]at mf;rw[eP,l',iu,iu]at cC;((repeat'(first|refine Vc (X5 @cW @dj.eq_1 @hA @aQ.eq_1 (X4 @BI @nk @pQ.{0,0} @implies_true.{0})) iP ?_|(refine V2 (X5 @cW @dj.eq_1 @hA @aQ.eq_1 (X4 @BI @nk @pQ.{0,0} @implies_true.{0})) ?_ ?_<;>try with_reducible intro hb)|(refine Xi ?_ ?_<;>try intro ht)|exact Xx|fail)))
  refine aU (λj:Nat=>(⟨an [(1,.tree 1 (ints g)),(2,.tree 2 (rowsOf dj l)),(3,.ptr 0 0 0),(8,.ptr 1 0 0),(11,.tree 2 (rowsOf dj l)),(12,NX l.length),(13,NX i),(42,.tree 2 (rowsOf dj (l.take i))),(43,NX i),(44,NX j)],[.var (ao m),.var [NX c,NX o]]⟩:St))
   (λj=>j<=i/\∀ a,a<j->Dp m (c,o) ((l.take i).getD a default)=true) (λj=>i-j) 0 ⟨aT _,λa ha=>absurd ha (u4 _)⟩ (Xv X0) ?_
  rintro j⟨hj,lN⟩c7 br bx;by_cases fe:j<i
  ·have cH:=aG (l:=l.take i) (i:=j) (d:=default) Iv;have bI:=ai' _ cH;have Ak:Dp m (c,o) ((l.take i).getD j default)=true->∀ a,a<j+1->Dp m (c,o) ((l.take i).getD a default)=true:=λh a ha=>by
    by_cases e:a=j
    ·subst e;exact h
    ·exact lN a Iv
   have B7:=λh=>mf (all_false cH h);generalize vM:(l.take i).getD j default=y at *;obtain⟨b,u⟩:=y;unfold Dp at B7 Ak;dsimp only at bI B7 Ak;have bG:=ai8 m c o b u hm l' bI;generalize Gy m c o b u=cl at *;by_cases Zk:c=b
   ·((repeat'(first|refine Va (X3 @vM @nk @dj.eq_1) ?_|(refine V2 (X3 @vM @nk @dj.eq_1) ?_ ?_<;>try with_reducible intro hb)|(refine Xi ?_ ?_<;>try intro ht)|exact Xx|fail)))
    exact br _ (j+1) ⟨Iv,Ak (by rw[decide_eq_true Zk];rfl)⟩ Iv (Xs false [0,1] X0)
   ·rw[decide_eq_false Zk,Bool.false_or]at B7;cases cl
    ·have hr:=B7 rfl;((repeat'(first|refine Vc (X3 @vM @nk @dj.eq_1) bG ?_|(refine V2 (X3 @vM @nk @dj.eq_1) ?_ ?_<;>try with_reducible intro hb)|(refine Xi ?_ ?_<;>try intro ht)|exact Xx|fail)))
     all_goals
      repeat(refine Xu ?_)
      refine Vb X0 ?_;exact aS rfl (by rw[hr])
    ·((repeat'(first|refine Vc (X4 @vM @nk @dj.eq_1 @lI) bG ?_|(refine V2 (X4 @vM @nk @dj.eq_1 @lI) ?_ ?_<;>try with_reducible intro hb)|(refine Xi ?_ ?_<;>try intro ht)|exact Xx|fail)))
     exact br _ (j+1) ⟨Iv,Ak (by rw[Bool.or_true])⟩ Iv (Xs false [0,1] X0)
  ·obtain rfl:j=i:=Iv;((repeat'(first|refine Va X0 ?_|(refine V2 X0 ?_ ?_<;>try with_reducible intro hb)|(refine Xi ?_ ?_<;>try intro ht)|exact Xx|fail)))
   refine bx _ _ rfl ?_;clear br bx c7;repeat(refine Xu ?_)
   refine Va X0 ?_;refine ak _ (j+1) ⟨Iv,cC ?_⟩ Iv (Xs false [0] X0);rw[gH];intro b hb;obtain⟨a,ha,rfl⟩:=qW hb;have:=lN a Iv;rwa [aB,bT ha]at this
 ·obtain rfl:i=l.length:=Iv;rw[Gz.2 cZ]at au;((repeat'(first|refine Va X0 ?_|(refine Xi ?_ ?_<;>try intro ht)|exact Xx|fail)))
  refine ar _ _ rfl ?_;clear ak ar Ql;repeat(refine Xu ?_)
  refine Vb X0 ?_;exact aS rfl (by rw[<- au])
def ajb(m:ah)(x:Nd)(hm:VM m)(hg:∀ c∈x.bh,0<=c/\c<m.cls.length)(tx:x.bh.length<9223372036854775808)(l:List (Int×Int))(fh:l.length<9223372036854775808):
  Holds Tryz.prog 99 [.tree 2 (rowsOf dj l),.ptr 0 0 0,.ptr 1 0 0] [.var (ao m),.var (bz x)] (.lit (.bool (!vH m x.bh l))) [.var (ao m),.var (bz x)]:=by
 have h:=ai9 m x.bh l hm hg tx fh;generalize vH m x.bh l=res at *;refine Holds.aK 11 2 [.tmp 4] Tryz.func99 ?_;refine Vd @bz.eq_1 h ?_;exact ed rfl Iw rfl
def ajc(m:ah)(x:Nd)(c o:Int)(l:List (Int×Int))(fh:l.length<9223372036854775808):
  Holds Tryz.prog 101 [.tree 2 (rowsOf dj l),.ptr 2 0 0,.ptr 3 0 0] [.var (ao m),.var (bz x),.var [NX c],.var [NX o]] (.lit (.bool (l.any (pA c o)))) [.var (ao m),.var (bz x),.var [NX c],.var [NX o]]:=by
 have h:=ai7 l c o fh;generalize l.any (pA c o)=res at *;refine Holds.aK 10 4 [.tmp 4] Tryz.func101 ?_;refine Vd X0 h ?_;exact ed rfl Iw rfl
def agA(m:ah)(x:Nd)(left:List (List Bool))(hm:VM m)(hf:df m left)(tx:x.bh.length<9223372036854775808)(bG:x.cells.length<9223372036854775808)(fh:∀ l∈x.cells,l.length<9223372036854775808):
  Holds Tryz.prog 67 [.agg (ao m),.agg (bz x),.tree 1 (rowsOf aA left)] [] (.lit (.bool (pB m x left))) []:=by
 have qD:=hm.cls;have iy:=hf.1;generalize au:pB m x left=res;have lj:=@afx m x left;have x9:=@afy m x left;have Mo:=@afz m x left;have qG:=@afA m x left;have yH:=@afB m x left;rw[au]at lj x9 Mo qG yH;obtain⟨cl,kids,ew,bh,cells⟩:=x;dsimp only at *;refine Holds.aK 87 0 [.tmp 6] Tryz.func67 ?_;refine Vb @bz.eq_1 ?_;refine aU (λi:Nat=>(⟨an [(2,.tree 1 (rowsOf aA left)),(3,.ptr 0 0 0),(4,.ptr 1 0 0),(15,.tree 1 (ints bh)),(16,NX bh.length),(17,NX i)],[.var (ao m),.var (bz ⟨cl,kids,ew,bh,cells⟩)]⟩:St))
  (λi=>i<=bh.length/\∀ a,a<i->decide (0<=bh.getD a 0/\bh.getD a 0<m.cls.length/\(a=0\/bh.getD (a-1) 0<bh.getD a 0))=true) (λi=>bh.length-i) 0 ⟨aT _,λa ha=>absurd ha (u4 _)⟩ (Xv @bz.eq_1) ?_
 rintro i⟨hi,gj⟩Ql ak ar;by_cases aq:i<bh.length
 ·have mf:=KB (f:=λi=>decide (0<=bh.getD i 0/\bh.getD i 0<m.cls.length/\(i=0\/bh.getD (i-1) 0<bh.getD i 0))) aq;have cC:decide (0<=bh.getD i 0/\bh.getD i 0<m.cls.length/\(i=0\/bh.getD (i-1) 0<bh.getD i 0))=true->∀ a,a<i+1->decide (0<=bh.getD a 0/\bh.getD a 0<m.cls.length/\(a=0\/bh.getD (a-1) 0<bh.getD a 0))=true:=λh a ha=>by
   by_cases e:a=i
   ·subst e;exact h
   ·exact gj a Iv
  have gu:0<i->((i:Int)-1).toNat=i-1/\i-1<bh.length:=λh=>⟨Iv,Iv⟩;have nN:0<i->bh.getD ((i:Int)-1).toNat 0=bh.getD (i-1) 0:=λh=>by rw[(gu h).1]
  generalize bd:bh.getD i 0=c at *;generalize YG:bh.getD (i-1) 0=q at *;have kD:c=c:=rfl;rcases Nat.eq_zero_or_pos i with h0|h0
  ·by_cases ay:0<=c/\c<m.cls.length
   ·((repeat'(first|refine Va (X2 @bz.eq_1 @bd) ?_|(refine V2 (X2 @bz.eq_1 @bd) ?_ ?_<;>try with_reducible intro hb)|(refine Xi ?_ ?_<;>try intro ht)|exact Xx|fail)))
    exact ak _ (i+1) ⟨Iv,cC (decide_eq_true ⟨ay.1,ay.2,.inl h0⟩)⟩ Iv (Xv @bz.eq_1)
   ·have hr:=lj (mf (decide_eq_false λh=>ay ⟨h.1,h.2.1⟩));((repeat'(first|refine Va (X2 @bz.eq_1 @bd) ?_|(refine V2 (X2 @bz.eq_1 @bd) ?_ ?_<;>try with_reducible intro hb)|(refine Xi ?_ ?_<;>try intro ht)|exact Xx|fail)))
    all_goals
     repeat(refine Xu ?_)
     ((repeat'(first|refine Vb X0 ?_|fail)))
     exact aS rfl (by rw[hr])
  ·have nN:=nN h0;obtain⟨Ee,Mn⟩:=gu h0;by_cases ay:0<=c/\c<m.cls.length/\q<c
   ·((repeat'(first|refine Va (X3 @bz.eq_1 @bd @nN) ?_|(refine V2 (X3 @bz.eq_1 @bd @nN) ?_ ?_<;>try with_reducible intro hb)|(refine Xi ?_ ?_<;>try intro ht)|exact Xx|fail)))
    exact ak _ (i+1) ⟨Iv,cC (decide_eq_true ⟨ay.1,ay.2.1,.inr ay.2.2⟩)⟩ Iv (Xv @bz.eq_1)
   ·have hr:=lj (mf (decide_eq_false λh=>ay ⟨h.1,h.2.1,Iv⟩));((repeat'(first|refine Va (X3 @bz.eq_1 @bd @nN) ?_|(refine V2 (X3 @bz.eq_1 @bd @nN) ?_ ?_<;>try with_reducible intro hb)|(refine Xi ?_ ?_<;>try intro ht)|exact Xx|fail)))
    all_goals
     repeat(refine Xu ?_)
     ((repeat'(first|refine Vb X0 ?_|fail)))
     exact aS rfl (by rw[hr])
 obtain rfl:i=bh.length:=Iv;have BN:Dq m bh=true:=Gz.2 gj;have Gs:=afw BN;clear lj gj;((repeat'(first|refine Va X0 ?_|(refine V2 X0 ?_ ?_<;>try with_reducible intro hb)|(refine Xi ?_ ?_<;>try intro ht)|exact Xx|fail)))
 refine ar _ _ rfl ?_;clear ak ar Ql;repeat(refine Xu ?_)
 have vT:=QW cells 99 [.ptr 0 0 0,.ptr 1 0 0] [.var (ao m),.var (bz ⟨cl,kids,ew,bh,cells⟩)] (λl=>!vH m bh l) bG (λl hl=>ajb m ⟨cl,kids,ew,bh,cells⟩ hm Gs tx l (fh l hl));rw[Wj]at vT;by_cases a6:cells.length<bh.length;rotate_left
 ·have hr:=x9 a6;((repeat'(first|refine Vb @bz.eq_1 ?_|(refine V2 @bz.eq_1 ?_ ?_<;>try with_reducible intro hb)|(refine Xi ?_ ?_<;>try intro ht)|exact Xx|fail)))
  exact aS rfl (by rw[hr])
 cases kM:cells.all (vH m bh)
 ·have hr:=Mo kM;rw[kM]at vT;((repeat'(first|refine Vb @bz.eq_1 ?_|(refine V2 @bz.eq_1 ?_ ?_<;>try with_reducible intro hb)|(refine Xi ?_ ?_<;>try intro ht)|exact Xx|fail))<;>try with_reducible intro K hK)
  refine fF vT Iw ?_;((try revert hK K);(repeat'(first|refine Vb (X2 @bz.eq_1 @mK) ?_|(refine Xi ?_ ?_<;>try intro ht)|exact Xx|fail)))
  exact aS rfl (by rw[hr])
 rw[kM]at vT;have yH:=yH BN a6 kM;clear x9 Mo;((repeat'(first|refine Vb @bz.eq_1 ?_|(refine V2 @bz.eq_1 ?_ ?_<;>try with_reducible intro hb)|(refine Xi ?_ ?_<;>try intro ht)|exact Xx|fail))<;>try with_reducible intro K hK)
 refine fF vT Iw ?_;((try revert hK K);(repeat'(first|refine Vb (X2 @bz.eq_1 @lI) ?_|(refine Xi ?_ ?_<;>try intro ht)|exact Xx|fail)))
 refine aU (λi:Nat=>(⟨an [(2,.tree 1 (rowsOf aA left)),(3,.ptr 0 0 0),(4,.ptr 1 0 0),(60,.tree 1 (ints bh)),(61,NX bh.length),(62,NX i)],[.var (ao m),.var (bz ⟨cl,kids,ew,bh,cells⟩)]⟩:St))
  (λi=>i<=bh.length/\∀ a,a<i->zP left cells (bh.getD a 0)=true) (λi=>bh.length-i) 0 ⟨aT _,λa ha=>absurd ha (u4 _)⟩ (Xv @bz.eq_1) ?_
 rintro i⟨hi,gj⟩Ql ak ar;by_cases aq:i<bh.length
 ·have cH:=aG (l:=bh) (i:=i) (d:=0) aq;have mf:=λh=>qG (all_false cH h);have vo:=Gs _ cH;have cC:zP left cells (bh.getD i 0)=true->∀ a,a<i+1->zP left cells (bh.getD a 0)=true:=λh a ha=>by
   by_cases e:a=i
   ·subst e;exact h
   ·exact gj a Iv
  generalize bd:bh.getD i 0=c at *;have amz:=hf.row hm _ (aG (l:=left) (i:=c.toNat) (d:=default) Iv);unfold zP at mf cC;generalize gr:left.getD c.toNat default=row at *;((repeat'(first|refine Va (X4 @bz.eq_1 @bd @aA.eq_1 @gr) ?_|(refine Xi ?_ ?_<;>try intro ht)|exact Xx|fail)))
  refine aU (λo:Nat=>(⟨an [(2,.tree 1 (rowsOf aA left)),(3,.ptr 0 0 0),(4,.ptr 1 0 0),(10,.ptr 2 0 0),(60,.tree 1 (ints bh)),(61,NX bh.length),(62,NX i),(69,.tree 1 (bm row)),(70,NX row.length),(71,NX o)],[.var (ao m),.var (bz ⟨cl,kids,ew,bh,cells⟩),.var [NX c]]⟩:St))
   (λo=>o<=row.length/\∀ a,a<o->(!row.getD a false||cells.any λl=>l.any (pA c a))=true) (λo=>row.length-o) 0 ⟨aT _,λa ha=>absurd ha (u4 _)⟩ (Xv @bz.eq_1) ?_
  rintro o⟨ho,Zl⟩c7 br bx;by_cases cD:o<row.length
  ·have B7:=λh=>mf (KB (f:=λo:Nat=>!row.getD o false||cells.any λl=>l.any (pA c o)) cD h);have Ak:(!row.getD o false||cells.any λl=>l.any (pA c o))=true->∀ a,a<o+1->(!row.getD a false||cells.any λl=>l.any (pA c a))=true:=λh a ha=>by
    by_cases e:a=o
    ·subst e;exact h
    ·exact Zl a Iv
   have Zm:=QW cells 101 [.ptr 2 0 0,.ptr 3 0 0] [.var (ao m),.var (bz ⟨cl,kids,ew,bh,cells⟩),.var [NX c],.var [NX (o:Int)]] (λl=>l.any (pA c o)) bG (λl hl=>ajc m ⟨cl,kids,ew,bh,cells⟩ c o l (fh l hl));generalize lW:row.getD o false=b at *;generalize cells.any (λl=>l.any (pA c o))=cov at *;cases b
   ·((repeat'(first|refine Va (X2 @bz.eq_1 @lW) ?_|(refine Xi ?_ ?_<;>try intro ht)|exact Xx|fail)))
    exact br _ (o+1) ⟨Iv,Ak rfl⟩ Iv (Xs false [0,1,2] @bz.eq_1)
   ·cases cov
    ·have hr:=B7 rfl;((repeat'(first|refine Va (X2 @bz.eq_1 @lW) ?_|(refine Xi ?_ ?_<;>try intro ht)|exact Xx|fail))<;>try with_reducible intro K hK)
     refine fF Zm Iw ?_;((try revert hK K);(repeat'(first|refine Va (X2 @bz.eq_1 @mK) ?_|(refine Xi ?_ ?_<;>try intro ht)|exact Xx|fail)))
     all_goals
      repeat(refine Xu ?_)
      refine Vb X0 ?_;exact aS rfl (by rw[hr])
    ·((repeat'(first|refine Va (X2 @bz.eq_1 @lW) ?_|(refine Xi ?_ ?_<;>try intro ht)|exact Xx|fail))<;>try with_reducible intro K hK)
     refine fF Zm Iw ?_;((try revert hK K);(repeat'(first|refine Va (X2 @bz.eq_1 @lI) ?_|(refine Xi ?_ ?_<;>try intro ht)|exact Xx|fail)))
     exact br _ (o+1) ⟨Iv,Ak rfl⟩ Iv (Xs false [0,1,2] @bz.eq_1)
  ·obtain rfl:o=row.length:=Iv;((repeat'(first|refine Va @bz.eq_1 ?_|(refine V2 @bz.eq_1 ?_ ?_<;>try with_reducible intro hb)|(refine Xi ?_ ?_<;>try intro ht)|exact Xx|fail)))
   refine bx _ _ rfl ?_;clear br bx c7;repeat(refine Xu ?_)
   refine Va @bz.eq_1 ?_;exact ak _ (i+1) ⟨Iv,cC (Gz.2 Zl)⟩ Iv (Xs false [0,1] @bz.eq_1)
 ·obtain rfl:i=bh.length:=Iv;have hr:=yH (by
   rw[gH];intro c hc;obtain⟨a,ha,rfl⟩:=qW hc;have:=gj a ha;rwa [aB,bT ha]at this)
  ((repeat'(first|refine Va X0 ?_|(refine Xi ?_ ?_<;>try intro ht)|exact Xx|fail)))
  refine ar _ _ rfl ?_;clear ak ar Ql;repeat(refine Xu ?_)
  refine Vb X0 ?_;exact aS rfl (by rw[hr])
end T

