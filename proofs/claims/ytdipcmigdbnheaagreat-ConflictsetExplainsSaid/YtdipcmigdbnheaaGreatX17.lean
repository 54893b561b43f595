import Derived.Test.YtdipcmigdbnheaaGreatX13
import Derived.Test.YtdipcmigdbnheaaGreatX16
set_option linter.all false
set_option maxHeartbeats 0
set_option maxRecDepth 20000
open Nat renaming zero_le→aI,not_lt_zero→m8
open List renaming getElem_of_mem→mJ,length_take→eN,getD_eq_getElem?_getD→aA,getElem?_eq_getElem→bK,all_eq_true→fT
open Bool renaming not_eq_true→PG,true_and→eQ,not_true→gT,not_false→je
open Option renaming map_none→oU
open Go Go.Am Go.Proofs
namespace T
def aji:vZ Tryz.prog 180 2:=vZ.of 4 (by kernel_rfl)
def ajj:Tryz.prog.eqGuardType Tryz.prog.depth 180=false:=by kernel_rfl
def ajk(l:List (Int×Int))(c o:Int)(hl:l.length<9223372036854775808):ao Tryz.prog 173 [.tree 2 (rowsOf aL l),.agg [aaC c,aaC o]] [] (aaC (dG (jA c o) 0 l)) []:=by
 generalize ak:dG (jA c o) 0 l=res;refine ao.aD 19 0 [.tmp 4] Tryz.func173 ?_;refine Vb X0 ?_;refine aM (λk:Nat=>(⟨aw [(0,.tree 2 (rowsOf aL l)),(3,.ptr 0 0 0),(7,aaC l.length),(8,aaC k)],[.var [aaC c,aaC o]]⟩:St)) (λk=>k<=l.length/\dG (jA c o) k (l.drop k)=res) (λk=>l.length-k) 0 ⟨aI _,ak⟩ (Xv X0) ?_;rintro k⟨hk,hr⟩Ql an ar;by_cases aK:k<l.length
 ·have hd:=cP l k default aK;generalize aS:l.getD k default=x at *;rw[hd,dG]at hr;obtain⟨x1,x2⟩:=x;unfold jA at hr;((repeat'(first|refine Va (X2 @aS @aL.eq_1) ?_|(refine Xi ?_ ?_<;>try intro ht)|refine VD ?_ ?_|exact Xx|fail)))
  ·exact aji
  ·exact ajj
  ·simp only[List.cons.injEq,and_true]at ht;rw[if_pos (by rw[decide_eq_true_eq,ht.1,ht.2])]at hr;repeat(refine Xu ?_)
   refine Vb X0 ?_;exact aE rfl (by rw[<- hr])
  ·simp only[List.cons.injEq,and_true]at ht;rw[if_neg (by rw[decide_eq_true_eq,Prod.mk.injEq];exact λh=>ht ⟨h.1.symm,h.2.symm⟩)]at hr;exact an _ (k+1) ⟨GC,hr⟩ GC (Xv X0)
 ·((repeat'(first|refine Va X0 ?_|(refine Xi ?_ ?_<;>try intro ht)|exact Xx|fail)))
  rw[List.drop_eq_nil_of_le GC,dG]at hr;refine ar _ _ rfl ?_;clear an ar Ql;repeat(refine Xu ?_)
  refine Vb X0 ?_;exact aE rfl (by rw[<- hr])
def ajl(l:List (Int×Int))(c o:Int)(hl:l.length<9223372036854775808):ao Tryz.prog 131 [.tree 2 (rowsOf aL l),.agg [aaC c,aaC o]] [] (.lit (.bool (l.any (jA c o)))) []:=by
 rw[<- zG (jA c o) l 0];refine ao.aD 9 0 [.tmp 4] Tryz.func131 ?_;refine Vd X0 (ajk l c o hl) ?_;exact aE rfl rfl
def aav(m:aj)(a x b y:Int)(hm:VM m)(ha:eW m a x=true)(n7:eW m b y=true)(p:Pr)(hp:p∈m.ae):
  ao Tryz.prog 197 [.agg (aP p),.ptr 1 0 0,.ptr 2 0 0,.ptr 0 0 0] [.var (aq m),.var [aaC a,aaC x],.var [aaC b,aaC y]] (.lit (.bool (n8 m a x b y p))) [.var (aq m),.var [aaC a,aaC x],.var [aaC b,aaC y]]:=by
 obtain⟨a1,a2,a3,a4⟩:=fD.1 ha;obtain⟨b1,b2,b3,b4⟩:=fD.1 n7;have dE:=iA hm.pr _ hp;obtain⟨q1,q2,q3,q4,q5⟩:=lT dE;have xU:=hm.opt _ (ay (l:=m.cls) (i:=a.toNat) (d:=default) GC);have mj:=hm.opt _ (ay (l:=m.cls) (i:=b.toNat) (d:=default) GC);have nu:=hm.cls;generalize ak:n8 m a x b y p=res;unfold n8 lV at ak;obtain⟨fs,sn,ru,aB⟩:=p;dsimp only at *;by_cases yl:fs=a/\sn=b
 ·obtain⟨rfl,rfl⟩:=yl;generalize hA:m.cls.getD fs.toNat default=A at *;generalize hB:m.cls.getD sn.toNat default=B at *;obtain⟨e1,e2,e3⟩:=vr ⟨a3,a4⟩ ⟨b3,b4⟩ GC GC;generalize eh:x*(B.length:Int)=ix at *;have I9:((A.length*B.length:Nat):Int)=A.length*B.length:=GF;generalize hv:aB.getD (ix+y).toNat 0=v at *;refine ao.aD 38 3 [.tmp 5] Tryz.func197 ?_;by_cases h3:v=1099511627776
  ·rw[decide_eq_true ⟨rfl,rfl,h3⟩]at ak;refine Vb (X5 @aP.eq_1 @hB @bu.eq_1 @eh @hv) ?_;all_goals(subst ak;subst h3;exact Xw false [0,1,2] X0)
  ·rw[decide_eq_false (λh=>h3 h.2.2)]at ak;refine Vb (X5 @aP.eq_1 @hB @bu.eq_1 @eh @hv) ?_;all_goals(subst ak;rw[show(v==1099511627776)=false by simpa using h3];exact Xw false [0,1,2] X0)
 ·refine ao.aD 38 3 [.tmp 5] Tryz.func197 ?_;rw[decide_eq_false (λh=>yl ⟨h.1,h.2.1⟩)]at ak;((repeat'(first|refine Vb @aP.eq_1 ?_|(refine V2 @aP.eq_1 ?_ ?_<;>try with_reducible intro hb)|exact Xx|fail)))
  all_goals(subst ak;exact Xw false [0,1,2] X0)
def ajm(m:aj)(a x b y:Int)(hm:VM m)(ha:eW m a x=true)(n7:eW m b y=true):
  ao Tryz.prog 172 [.agg (aq m),.agg [aaC a,aaC x],.agg [aaC b,aaC y]] [] (.lit (.bool (py m a x b y))) []:=by
 have rS:=hm.ae;unfold py;by_cases h:b<a
 ·rw[if_pos h];have hc:=aai m.ae 197 [.ptr 1 0 0,.ptr 2 0 0,.ptr 0 0 0] [.var (aq m),.var [aaC b,aaC y],.var [aaC a,aaC x]] (n8 m b y a x) GC (λp hp=>aav m b y a x hm n7 ha p hp);generalize m.ae.any (n8 m b y a x)=res at *;refine ao.aD 18 0 [.tmp 6] Tryz.func172 ?_;((repeat'(first|refine Vb X0 ?_|(refine Xi ?_ ?_<;>try intro ht)|exact Xx|fail))<;>try with_reducible intro K hK)
  refine ig hc GF ?_;((try revert hK K);(refine Vb X0 ?_))
  exact aE rfl rfl
 ·rw[if_neg h];have hc:=aai m.ae 197 [.ptr 1 0 0,.ptr 2 0 0,.ptr 0 0 0] [.var (aq m),.var [aaC a,aaC x],.var [aaC b,aaC y]] (n8 m a x b y) GC (λp hp=>aav m a x b y hm ha n7 p hp);generalize m.ae.any (n8 m a x b y)=res at *;refine ao.aD 18 0 [.tmp 6] Tryz.func172 ?_;((repeat'(first|refine Vb X0 ?_|(refine Xi ?_ ?_<;>try intro ht)|exact Xx|fail))<;>try with_reducible intro K hK)
  refine ig hc GF ?_;((try revert hK K);(refine Vb X0 ?_))
  exact aE rfl rfl
def ajn(m:aj)(g:List Int)(l:List (Int×Int))(hm:VM m)(hg:∀ c∈g,0<=c/\c<m.cls.length)(ym:g.length<9223372036854775808)(e7:l.length<9223372036854775808):
  ao Tryz.prog 129 [.agg (aq m),.tree 1 (ints g),.tree 2 (rowsOf aL l)] [] (.lit (.bool (p6 m g l))) []:=by
 have nu:=hm.cls;generalize ak:p6 m g l=res;unfold p6 at ak;refine ao.aD 62 0 [.tmp 6] Tryz.func129 ?_;refine Vb X0 ?_;refine aM (λi:Nat=>(⟨aw [(1,.tree 1 (ints g)),(2,.tree 2 (rowsOf aL l)),(3,.ptr 0 0 0),(11,.tree 2 (rowsOf aL l)),(12,aaC l.length),(13,aaC i)],[.var (aq m)]⟩:St))
  (λi=>i<=l.length/\∀ a,a<i->sr m g l a=true) (λi=>l.length-i) 0 ⟨aI _,λa ha=>absurd ha (m8 _)⟩ (Xv X0) ?_
 rintro i⟨hi,da⟩Ql an ar;by_cases hi':i<l.length
 ·have cN:=eG hi';have gQ:=CS (f:=sr m g l) hi';rw[ak]at gQ;have ajo:∀ b∈l.take i,eW m b.1 b.2=true:=λb hb=>by
   obtain⟨a,ha,rfl⟩:=mJ hb;rw[eN]at ha;have:=da a GC;unfold sr at this;simp only[Bool.and_eq_true]at this;rw[List.getElem_take];rw[aA,bK GC]at this;exact this.1.2
  have bP:sr m g l i=true->∀ a,a<i+1->sr m g l a=true:=λh a ha=>by
   by_cases e:a=i
   ·subst e;exact h
   ·exact da a GC
  unfold sr at gQ bP;have mT:(rowsOf aL l).take i=rowsOf aL (l.take i):=by unfold rowsOf;rw[List.map_take]
  have nW:(l.take i).length=i:=by rw[eN];omega
  generalize aS:l.getD i default=x at *;obtain⟨c,o⟩:=x;dsimp only at gQ bP;have e9:=Np g c ym;have hgc:g.contains c=true->0<=c/\c<m.cls.length:=λh=>hg c (List.contains_iff_mem.1 h);have fZ:=λh=>hm.opt _ (ay (l:=m.cls) (i:=c.toNat) (d:=default) h);have ui:=@fD m c o;generalize hA:m.cls.getD c.toNat default=A at *;by_cases ez:g.contains c=true;rotate_left
  ·rw[PG]at ez;rw[ez]at gQ e9;have hr:=gQ GF;((repeat'(first|refine Vc (X2 @aS @aL.eq_1) e9 ?_|(refine Xi ?_ ?_<;>try intro ht)|exact Xx|fail)))
   all_goals
    repeat(refine Xu ?_)
    refine Vb X0 ?_;exact aE rfl (by rw[hr])
  obtain⟨lN,u4⟩:=hgc ez;have fZ:=fZ GC;rw[ez]at e9 gQ;by_cases kA:eW m c o=true;rotate_left
  ·have nS:¬(0<=c/\c<m.cls.length/\0<=o/\o<A.length):=λh=>kA (ui.2 h);rw[PG]at kA;rw[kA]at gQ;have hr:=gQ GF;repeat'(first|((fail_if_success (first|refine eT 6 ?_|refine eU 6 ?_));refine Xq (X4 @aS @aL.eq_1 @hA @bu.eq_1) ?_;intro K hK)|refine Xo (X4 @aS @aL.eq_1 @hA @bu.eq_1) ?_|refine Xc (e9) ?_|(refine hK _ ?_;clear hK K)|(refine Xg (X4 @aS @aL.eq_1 @hA @bu.eq_1) ?_ ?_<;>try intro hb)|(refine Xi ?_ ?_<;>try intro ht)|refine Xy ?_|refine Xd ?_ ?_|exact Xx|fail)
   all_goals
    repeat(refine Xu ?_)
    ((repeat'(first|refine Vb X0 ?_|fail)))
    exact aE rfl (by rw[hr])
  obtain⟨o1,o2,o3,o4⟩:=ui.1 kA;rw[kA,eQ,eQ]at gQ;rw[ez,kA,eQ,eQ]at bP;((repeat'(first|refine Vc (X5 @aS @aL.eq_1 @hA @bu.eq_1 (X4 @mT @nW @oU.{0,0} @implies_true.{0})) e9 ?_|(refine V2 (X5 @aS @aL.eq_1 @hA @bu.eq_1 (X4 @mT @nW @oU.{0,0} @implies_true.{0})) ?_ ?_<;>try with_reducible intro hb)|(refine Xi ?_ ?_<;>try intro ht)|exact Xx|fail)))
  refine aM (λj:Nat=>(⟨aw [(1,.tree 1 (ints g)),(2,.tree 2 (rowsOf aL l)),(3,.ptr 0 0 0),(8,.ptr 1 0 0),(11,.tree 2 (rowsOf aL l)),(12,aaC l.length),(13,aaC i),(42,.tree 2 (rowsOf aL (l.take i))),(43,aaC i),(44,aaC j)],[.var (aq m),.var [aaC c,aaC o]]⟩:St))
   (λj=>j<=i/\∀ a,a<j->sq m (c,o) ((l.take i).getD a default)=true) (λj=>i-j) 0 ⟨aI _,λa ha=>absurd ha (m8 _)⟩ (Xv X0) ?_
  rintro j⟨hj,lp⟩cJ ba bd;by_cases db:j<i
  ·have bO:=ay (l:=l.take i) (i:=j) (d:=default) GC;have bk:=ajo _ bO;have ss:sq m (c,o) ((l.take i).getD j default)=true->∀ a,a<j+1->sq m (c,o) ((l.take i).getD a default)=true:=λh a ha=>by
    by_cases e:a=j
    ·subst e;exact h
    ·exact lp a GC
   have su:=λh=>gQ (all_false bO h);generalize gw:(l.take i).getD j default=y at *;obtain⟨b,u⟩:=y;unfold sq at su ss;dsimp only at bk su ss;have cm:=ajm m c o b u hm kA bk;generalize py m c o b u=cl at *;by_cases oJ:c=b
   ·((repeat'(first|refine Va (X3 @gw @nW @aL.eq_1) ?_|(refine V2 (X3 @gw @nW @aL.eq_1) ?_ ?_<;>try with_reducible intro hb)|(refine Xi ?_ ?_<;>try intro ht)|exact Xx|fail)))
    exact ba _ (j+1) ⟨GC,ss (by rw[decide_eq_true oJ];rfl)⟩ GC (Xs false [0,1] X0)
   ·rw[decide_eq_false oJ,Bool.false_or]at su;cases cl
    ·have hr:=su rfl;((repeat'(first|refine Vc (X3 @gw @nW @aL.eq_1) cm ?_|(refine V2 (X3 @gw @nW @aL.eq_1) ?_ ?_<;>try with_reducible intro hb)|(refine Xi ?_ ?_<;>try intro ht)|exact Xx|fail)))
     all_goals
      repeat(refine Xu ?_)
      refine Vb X0 ?_;exact aE rfl (by rw[hr])
    ·((repeat'(first|refine Vc (X4 @gw @nW @aL.eq_1 @gT) cm ?_|(refine V2 (X4 @gw @nW @aL.eq_1 @gT) ?_ ?_<;>try with_reducible intro hb)|(refine Xi ?_ ?_<;>try intro ht)|exact Xx|fail)))
     exact ba _ (j+1) ⟨GC,ss (by rw[Bool.or_true])⟩ GC (Xs false [0,1] X0)
  ·obtain rfl:j=i:=GC;((repeat'(first|refine Va X0 ?_|(refine V2 X0 ?_ ?_<;>try with_reducible intro hb)|(refine Xi ?_ ?_<;>try intro ht)|exact Xx|fail)))
   refine bd _ _ rfl ?_;clear ba bd cJ;repeat(refine Xu ?_)
   refine Va X0 ?_;refine an _ (j+1) ⟨GC,bP ?_⟩ GC (Xs false [0] X0);rw[fT];intro b hb;obtain⟨a,ha,rfl⟩:=mJ hb;have:=lp a GC;rwa [aA,bK ha]at this
 ·obtain rfl:i=l.length:=GC;rw[wQ.2 da]at ak;((repeat'(first|refine Va X0 ?_|(refine Xi ?_ ?_<;>try intro ht)|exact Xx|fail)))
  refine ar _ _ rfl ?_;clear an ar Ql;repeat(refine Xu ?_)
  refine Vb X0 ?_;exact aE rfl (by rw[<- ak])
def ajq(m:aj)(x:Nd)(hm:VM m)(hg:∀ c∈x.a9,0<=c/\c<m.cls.length)(ym:x.a9.length<9223372036854775808)(l:List (Int×Int))(e7:l.length<9223372036854775808):
  ao Tryz.prog 128 [.tree 2 (rowsOf aL l),.ptr 0 0 0,.ptr 1 0 0] [.var (aq m),.var (aG x)] (.lit (.bool (!p6 m x.a9 l))) [.var (aq m),.var (aG x)]:=by
 have h:=ajn m x.a9 l hm hg ym e7;generalize p6 m x.a9 l=res at *;refine ao.aD 11 2 [.tmp 4] Tryz.func128 ?_;refine Vd @aG.eq_1 h ?_;exact eu rfl GF rfl
def ajr(m:aj)(x:Nd)(c o:Int)(l:List (Int×Int))(e7:l.length<9223372036854775808):
  ao Tryz.prog 130 [.tree 2 (rowsOf aL l),.ptr 2 0 0,.ptr 3 0 0] [.var (aq m),.var (aG x),.var [aaC c],.var [aaC o]] (.lit (.bool (l.any (jA c o)))) [.var (aq m),.var (aG x),.var [aaC c],.var [aaC o]]:=by
 have h:=ajl l c o e7;generalize l.any (jA c o)=res at *;refine ao.aD 10 4 [.tmp 4] Tryz.func130 ?_;refine Vd X0 h ?_;exact eu rfl GF rfl
def ajs(m:aj)(x:Nd)(left:List (List Bool))(hm:VM m)(hf:dD m left)(ym:x.a9.length<9223372036854775808)(cm:x.cells.length<9223372036854775808)(e7:∀ l∈x.cells,l.length<9223372036854775808):
  ao Tryz.prog 76 [.agg (aq m),.agg (aG x),.tree 1 (rowsOf aQ left)] [] (.lit (.bool (lW m x left))) []:=by
 have nu:=hm.cls;have fC:=hf.1;generalize ak:lW m x left=res;have lN:=@aaa m x left;have u4:=@aab m x left;have Nv:=@aac m x left;have yn:=@aad m x left;have oM:=@aae m x left;rw[ak]at lN u4 Nv yn oM;obtain⟨cl,kids,cV,a9,cells⟩:=x;dsimp only at *;refine ao.aD 87 0 [.tmp 6] Tryz.func76 ?_;refine Vb @aG.eq_1 ?_;refine aM (λi:Nat=>(⟨aw [(2,.tree 1 (rowsOf aQ left)),(3,.ptr 0 0 0),(4,.ptr 1 0 0),(15,.tree 1 (ints a9)),(16,aaC a9.length),(17,aaC i)],[.var (aq m),.var (aG ⟨cl,kids,cV,a9,cells⟩)]⟩:St))
  (λi=>i<=a9.length/\∀ a,a<i->decide (0<=a9.getD a 0/\a9.getD a 0<m.cls.length/\(a=0\/a9.getD (a-1) 0<a9.getD a 0))=true) (λi=>a9.length-i) 0 ⟨aI _,λa ha=>absurd ha (m8 _)⟩ (Xv @aG.eq_1) ?_
 rintro i⟨hi,dF⟩Ql an ar;by_cases hi':i<a9.length
 ·have gQ:=CS (f:=λi=>decide (0<=a9.getD i 0/\a9.getD i 0<m.cls.length/\(i=0\/a9.getD (i-1) 0<a9.getD i 0))) hi';have bP:decide (0<=a9.getD i 0/\a9.getD i 0<m.cls.length/\(i=0\/a9.getD (i-1) 0<a9.getD i 0))=true->∀ a,a<i+1->decide (0<=a9.getD a 0/\a9.getD a 0<m.cls.length/\(a=0\/a9.getD (a-1) 0<a9.getD a 0))=true:=λh a ha=>by
   by_cases e:a=i
   ·subst e;exact h
   ·exact dF a GC
  have ky:0<i->((i:Int)-1).toNat=i-1/\i-1<a9.length:=λh=>⟨GC,GC⟩;have eh:0<i->a9.getD ((i:Int)-1).toNat 0=a9.getD (i-1) 0:=λh=>by rw[(ky h).1]
  generalize aR:a9.getD i 0=c at *;generalize MU:a9.getD (i-1) 0=q at *;have lU:c=c:=rfl;rcases Nat.eq_zero_or_pos i with h0|h0
  ·by_cases ax:0<=c/\c<m.cls.length
   ·((repeat'(first|refine Va (X2 @aG.eq_1 @aR) ?_|(refine V2 (X2 @aG.eq_1 @aR) ?_ ?_<;>try with_reducible intro hb)|(refine Xi ?_ ?_<;>try intro ht)|exact Xx|fail)))
    exact an _ (i+1) ⟨GC,bP (decide_eq_true ⟨ax.1,ax.2,.inl h0⟩)⟩ GC (Xv @aG.eq_1)
   ·have hr:=lN (gQ (decide_eq_false λh=>ax ⟨h.1,h.2.1⟩));((repeat'(first|refine Va (X2 @aG.eq_1 @aR) ?_|(refine V2 (X2 @aG.eq_1 @aR) ?_ ?_<;>try with_reducible intro hb)|(refine Xi ?_ ?_<;>try intro ht)|exact Xx|fail)))
    all_goals
     repeat(refine Xu ?_)
     ((repeat'(first|refine Vb X0 ?_|fail)))
     exact aE rfl (by rw[hr])
  ·have eh:=eh h0;obtain⟨xT,yl⟩:=ky h0;by_cases ax:0<=c/\c<m.cls.length/\q<c
   ·((repeat'(first|refine Va (X3 @aG.eq_1 @aR @eh) ?_|(refine V2 (X3 @aG.eq_1 @aR @eh) ?_ ?_<;>try with_reducible intro hb)|(refine Xi ?_ ?_<;>try intro ht)|exact Xx|fail)))
    exact an _ (i+1) ⟨GC,bP (decide_eq_true ⟨ax.1,ax.2.1,.inr ax.2.2⟩)⟩ GC (Xv @aG.eq_1)
   ·have hr:=lN (gQ (decide_eq_false λh=>ax ⟨h.1,h.2.1,GC⟩));((repeat'(first|refine Va (X3 @aG.eq_1 @aR @eh) ?_|(refine V2 (X3 @aG.eq_1 @aR @eh) ?_ ?_<;>try with_reducible intro hb)|(refine Xi ?_ ?_<;>try intro ht)|exact Xx|fail)))
    all_goals
     repeat(refine Xu ?_)
     ((repeat'(first|refine Vb X0 ?_|fail)))
     exact aE rfl (by rw[hr])
 obtain rfl:i=a9.length:=GC;have Be:CR m a9=true:=wQ.2 dF;have CW:=Nn Be;clear lN dF;((repeat'(first|refine Va X0 ?_|(refine V2 X0 ?_ ?_<;>try with_reducible intro hb)|(refine Xi ?_ ?_<;>try intro ht)|exact Xx|fail)))
 refine ar _ _ rfl ?_;clear an ar Ql;repeat(refine Xu ?_)
 have yi:=aah cells 128 [.ptr 0 0 0,.ptr 1 0 0] [.var (aq m),.var (aG ⟨cl,kids,cV,a9,cells⟩)] (λl=>!p6 m a9 l) cm (λl hl=>ajq m ⟨cl,kids,cV,a9,cells⟩ hm CW ym l (e7 l hl));rw[Z9]at yi;by_cases br:cells.length<a9.length;rotate_left
 ·have hr:=u4 br;((repeat'(first|refine Vb @aG.eq_1 ?_|(refine V2 @aG.eq_1 ?_ ?_<;>try with_reducible intro hb)|(refine Xi ?_ ?_<;>try intro ht)|exact Xx|fail)))
  exact aE rfl (by rw[hr])
 cases fX:cells.all (p6 m a9)
 ·have hr:=Nv fX;rw[fX]at yi;((repeat'(first|refine Vb @aG.eq_1 ?_|(refine V2 @aG.eq_1 ?_ ?_<;>try with_reducible intro hb)|(refine Xi ?_ ?_<;>try intro ht)|exact Xx|fail))<;>try with_reducible intro K hK)
  refine ig yi GF ?_;((try revert hK K);(repeat'(first|refine Vb (X2 @aG.eq_1 @je) ?_|(refine Xi ?_ ?_<;>try intro ht)|exact Xx|fail)))
  exact aE rfl (by rw[hr])
 rw[fX]at yi;have oM:=oM Be br fX;clear u4 Nv;((repeat'(first|refine Vb @aG.eq_1 ?_|(refine V2 @aG.eq_1 ?_ ?_<;>try with_reducible intro hb)|(refine Xi ?_ ?_<;>try intro ht)|exact Xx|fail))<;>try with_reducible intro K hK)
 refine ig yi GF ?_;((try revert hK K);(repeat'(first|refine Vb (X2 @aG.eq_1 @gT) ?_|(refine Xi ?_ ?_<;>try intro ht)|exact Xx|fail)))
 refine aM (λi:Nat=>(⟨aw [(2,.tree 1 (rowsOf aQ left)),(3,.ptr 0 0 0),(4,.ptr 1 0 0),(60,.tree 1 (ints a9)),(61,aaC a9.length),(62,aaC i)],[.var (aq m),.var (aG ⟨cl,kids,cV,a9,cells⟩)]⟩:St))
  (λi=>i<=a9.length/\∀ a,a<i->s9 left cells (a9.getD a 0)=true) (λi=>a9.length-i) 0 ⟨aI _,λa ha=>absurd ha (m8 _)⟩ (Xv @aG.eq_1) ?_
 rintro i⟨hi,dF⟩Ql an ar;by_cases hi':i<a9.length
 ·have bO:=ay (l:=a9) (i:=i) (d:=0) hi';have gQ:=λh=>yn (all_false bO h);have nU:=CW _ bO;have bP:s9 left cells (a9.getD i 0)=true->∀ a,a<i+1->s9 left cells (a9.getD a 0)=true:=λh a ha=>by
   by_cases e:a=i
   ·subst e;exact h
   ·exact dF a GC
  generalize aR:a9.getD i 0=c at *;have Cr:=hf.row hm _ (ay (l:=left) (i:=c.toNat) (d:=default) GC);unfold s9 at gQ bP;generalize cE:left.getD c.toNat default=row at *;((repeat'(first|refine Va (X4 @aG.eq_1 @aR @aQ.eq_1 @cE) ?_|(refine Xi ?_ ?_<;>try intro ht)|exact Xx|fail)))
  refine aM (λo:Nat=>(⟨aw [(2,.tree 1 (rowsOf aQ left)),(3,.ptr 0 0 0),(4,.ptr 1 0 0),(10,.ptr 2 0 0),(60,.tree 1 (ints a9)),(61,aaC a9.length),(62,aaC i),(69,.tree 1 (aX row)),(70,aaC row.length),(71,aaC o)],[.var (aq m),.var (aG ⟨cl,kids,cV,a9,cells⟩),.var [aaC c]]⟩:St))
   (λo=>o<=row.length/\∀ a,a<o->(!row.getD a false||cells.any λl=>l.any (jA c a))=true) (λo=>row.length-o) 0 ⟨aI _,λa ha=>absurd ha (m8 _)⟩ (Xv @aG.eq_1) ?_
  rintro o⟨ho,Fx⟩cJ ba bd;by_cases cG:o<row.length
  ·have su:=λh=>gQ (CS (f:=λo:Nat=>!row.getD o false||cells.any λl=>l.any (jA c o)) cG h);have ss:(!row.getD o false||cells.any λl=>l.any (jA c o))=true->∀ a,a<o+1->(!row.getD a false||cells.any λl=>l.any (jA c a))=true:=λh a ha=>by
    by_cases e:a=o
    ·subst e;exact h
    ·exact Fx a GC
   have aaw:=aah cells 130 [.ptr 2 0 0,.ptr 3 0 0] [.var (aq m),.var (aG ⟨cl,kids,cV,a9,cells⟩),.var [aaC c],.var [aaC (o:Int)]] (λl=>l.any (jA c o)) cm (λl hl=>ajr m ⟨cl,kids,cV,a9,cells⟩ c o l (e7 l hl));generalize fY:row.getD o false=b at *;generalize cells.any (λl=>l.any (jA c o))=Nw at *;cases b
   ·((repeat'(first|refine Va (X2 @aG.eq_1 @fY) ?_|(refine Xi ?_ ?_<;>try intro ht)|exact Xx|fail)))
    exact ba _ (o+1) ⟨GC,ss rfl⟩ GC (Xs false [0,1,2] @aG.eq_1)
   ·cases Nw
    ·have hr:=su rfl;((repeat'(first|refine Va (X2 @aG.eq_1 @fY) ?_|(refine Xi ?_ ?_<;>try intro ht)|exact Xx|fail))<;>try with_reducible intro K hK)
     refine ig aaw GF ?_;((try revert hK K);(repeat'(first|refine Va (X2 @aG.eq_1 @je) ?_|(refine Xi ?_ ?_<;>try intro ht)|exact Xx|fail)))
     all_goals
      repeat(refine Xu ?_)
      refine Vb X0 ?_;exact aE rfl (by rw[hr])
    ·((repeat'(first|refine Va (X2 @aG.eq_1 @fY) ?_|(refine Xi ?_ ?_<;>try intro ht)|exact Xx|fail))<;>try with_reducible intro K hK)
     refine ig aaw GF ?_;((try revert hK K);(repeat'(first|refine Va (X2 @aG.eq_1 @gT) ?_|(refine Xi ?_ ?_<;>try intro ht)|exact Xx|fail)))
     exact ba _ (o+1) ⟨GC,ss rfl⟩ GC (Xs false [0,1,2] @aG.eq_1)
  ·obtain rfl:o=row.length:=GC;((repeat'(first|refine Va @aG.eq_1 ?_|(refine V2 @aG.eq_1 ?_ ?_<;>try with_reducible intro hb)|(refine Xi ?_ ?_<;>try intro ht)|exact Xx|fail)))
   refine bd _ _ rfl ?_;clear ba bd cJ;repeat(refine Xu ?_)
   refine Va @aG.eq_1 ?_;exact an _ (i+1) ⟨GC,bP (wQ.2 Fx)⟩ GC (Xs false [0,1] @aG.eq_1)
 ·obtain rfl:i=a9.length:=GC;have hr:=oM (by
   rw[fT];intro c hc;obtain⟨a,ha,rfl⟩:=mJ hc;have:=dF a ha;rwa [aA,bK ha]at this)
  ((repeat'(first|refine Va X0 ?_|(refine Xi ?_ ?_<;>try intro ht)|exact Xx|fail)))
  refine ar _ _ rfl ?_;clear an ar Ql;repeat(refine Xu ?_)
  refine Vb X0 ?_;exact aE rfl (by rw[hr])
end T

