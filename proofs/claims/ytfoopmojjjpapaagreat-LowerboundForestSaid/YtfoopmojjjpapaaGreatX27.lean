import Derived.Test.YtfoopmojjjpapaaGreatX22
import Derived.Test.YtfoopmojjjpapaaGreatX25
set_option linter.all false
set_option maxHeartbeats 0
set_option maxRecDepth 20000
open Nat renaming zero_le→aS,not_lt_zero→rW
open List renaming drop_eq_nil_of_le→j9,contains_iff_mem→uX,getElem_of_mem→pW,length_take→fZ,getD_eq_getElem?_getD→az,getElem?_eq_getElem→bS,all_eq_true→e8
open Bool renaming not_eq_true→AU,true_and→iI,not_true→km,not_false→lG
open Option renaming map_none→pS
open Go Go.Am Go.Proofs
namespace T
def xA(v:Int):List Int->Int->Int
 |[],_=>-1
 |x::r,k=>if v=x then k else xA v r (k+1)
def aa6(v:Int):∀ (l:List Int) (k:Int),0<=k->(0<=xA v l k↔v∈l)
 |[],k,hk=>by simp[xA]
 |x::r,k,hk=>by
  rw[xA];split
  ·rename_i h;simp[h,hk]
  ·rename_i h;rw[aa6 v r (k+1) CZ];simp[h]
def ajO(l:List Int)(v:Int)(hl:l.length<9223372036854775808):Holds Tryz.prog 129 [.tree 1 (ints l),OJ v] [] (OJ (xA v l 0)) []:=by
 generalize au:xA v l 0=res;refine Holds.aQ 19 0 [.tmp 4] Tryz.func129 ?_;repeat'(first|(refine Xr X0 ?_;intro K hK)|(refine hK _ ?_;clear hK K)|refine Xz ?_|fail)
 refine bd (λk:Nat=>(⟨ar [(0,.tree 1 (ints l)),(1,OJ v),(7,OJ l.length),(8,OJ k)],[]⟩:St)) (λk=>k<=l.length/\xA v (l.drop k) k=res) (λk=>l.length-k) 0 ⟨aS _,au⟩ (Xv X0) ?_;rintro k⟨hk,hr⟩Ql ao ax;by_cases bc:k<l.length
 ·have hd:=lk l k 0 bc;generalize bf:l.getD k 0=x at *;rw[hd,xA]at hr;((repeat'(first|refine Va @bf ?_|(refine Xi ?_ ?_<;>try intro ht)|exact Xx|fail)))
  ·rw[if_pos (by assumption)]at hr;repeat(refine Xu ?_)
   refine Vb X0 ?_;rw[<- hr];exact JS rfl
  ·rw[if_neg (by assumption)]at hr;exact ao _ (k+1) ⟨CZ,hr⟩ CZ (Xv X0)
 ·((repeat'(first|refine Va X0 ?_|(refine Xi ?_ ?_<;>try intro ht)|exact Xx|fail)))
  rw[j9 CZ,xA]at hr;refine ax _ _ rfl ?_;clear ao ax Ql;repeat(refine Xu ?_)
  refine Vb X0 ?_;rw[<- hr];exact JS rfl
def aa7(l:List Int)(v:Int)(hl:l.length<9223372036854775808):Holds Tryz.prog 96 [.tree 1 (ints l),OJ v] [] (.lit (.bool (l.contains v))) []:=by
 have h:=aa6 v l 0 CZ;refine Holds.aQ 9 0 [.tmp 4] Tryz.func96 ?_;repeat'(first|(refine Xq X0 ?_;intro K hK)|refine Xo X0 ?_|refine Xc (ajO l v hl) ?_|(refine hK _ ?_;clear hK K)|refine Xz ?_|(refine Xe ?_;first|refine aW rfl ?_|refine Xl ?_ ?_)|fail)
 rw[<- uX]at h;cases hb:l.contains v<;>rw[hb]at h
 ·rw[decide_eq_false (by simpa using h)]
 ·rw[decide_eq_true (by simpa using h)]
def ajP:vg Tryz.prog 152 2:=vg.of 4 (by kernel_rfl)
def ajQ:Tryz.prog.eqGuardType Tryz.prog.depth 152=false:=by kernel_rfl
def ajR(l:List (Int×Int))(c o:Int)(hl:l.length<9223372036854775808):Holds Tryz.prog 133 [.tree 2 (rowsOf dt l),.agg [OJ c,OJ o]] [] (OJ (fD (pK c o) 0 l)) []:=by
 generalize au:fD (pK c o) 0 l=res;refine Holds.aQ 19 0 [.tmp 4] Tryz.func133 ?_;refine Vb X0 ?_;refine bd (λk:Nat=>(⟨ar [(0,.tree 2 (rowsOf dt l)),(3,.ptr 0 0 0),(7,OJ l.length),(8,OJ k)],[.var [OJ c,OJ o]]⟩:St)) (λk=>k<=l.length/\fD (pK c o) k (l.drop k)=res) (λk=>l.length-k) 0 ⟨aS _,au⟩ (Xv X0) ?_;rintro k⟨hk,hr⟩Ql ao ax;by_cases bc:k<l.length
 ·have hd:=lk l k default bc;generalize cE:l.getD k default=x at *;rw[hd,fD]at hr;obtain⟨x1,x2⟩:=x;unfold pK at hr;((repeat'(first|refine Va (X2 @cE @dt.eq_1) ?_|(refine Xi ?_ ?_<;>try intro ht)|refine VD ?_ ?_|exact Xx|fail)))
  ·exact ajP
  ·exact ajQ
  ·simp only[List.cons.injEq,and_true]at ht;rw[if_pos (by rw[decide_eq_true_eq,ht.1,ht.2])]at hr;repeat(refine Xu ?_)
   refine Vb X0 ?_;exact aW rfl (by rw[<- hr])
  ·simp only[List.cons.injEq,and_true]at ht;rw[if_neg (by rw[decide_eq_true_eq,Prod.mk.injEq];exact λh=>ht ⟨h.1.symm,h.2.symm⟩)]at hr;exact ao _ (k+1) ⟨CZ,hr⟩ CZ (Xv X0)
 ·((repeat'(first|refine Va X0 ?_|(refine Xi ?_ ?_<;>try intro ht)|exact Xx|fail)))
  rw[j9 CZ,fD]at hr;refine ax _ _ rfl ?_;clear ao ax Ql;repeat(refine Xu ?_)
  refine Vb X0 ?_;exact aW rfl (by rw[<- hr])
def ajS(l:List (Int×Int))(c o:Int)(hl:l.length<9223372036854775808):Holds Tryz.prog 102 [.tree 2 (rowsOf dt l),.agg [OJ c,OJ o]] [] (.lit (.bool (l.any (pK c o)))) []:=by
 rw[<- yN (pK c o) l 0];refine Holds.aQ 9 0 [.tmp 4] Tryz.func102 ?_;refine Vd X0 (ajR l c o hl) ?_;exact aW rfl rfl
def aa8(m:aj)(a x b y:Int)(hm:VM m)(ha:jy m a x=true)(pA:jy m b y=true)(p:Pr)(hp:p∈m.ae):
  Holds Tryz.prog 150 [.agg (aL p),.ptr 1 0 0,.ptr 2 0 0,.ptr 0 0 0] [.var (ay m),.var [OJ a,OJ x],.var [OJ b,OJ y]] (.lit (.bool (xw m a x b y p))) [.var (ay m),.var [OJ a,OJ x],.var [OJ b,OJ y]]:=by
 obtain⟨a1,a2,a3,a4⟩:=jK.1 ha;obtain⟨b1,b2,b3,b4⟩:=jK.1 pA;have dj:=jV hm.pr _ hp;obtain⟨q1,q2,q3,q4,q5⟩:=qI dj;have yp:=hm.opt _ (aF (l:=m.cls) (i:=a.toNat) (d:=default) CZ);have re:=hm.opt _ (aF (l:=m.cls) (i:=b.toNat) (d:=default) CZ);have s8:=hm.cls;generalize au:xw m a x b y p=res;unfold xw yG at au;obtain⟨fs,sn,ru,aC⟩:=p;dsimp only at *;by_cases MV:fs=a/\sn=b
 ·obtain⟨rfl,rfl⟩:=MV;generalize hA:m.cls.getD fs.toNat default=A at *;generalize hB:m.cls.getD sn.toNat default=B at *;obtain⟨e1,e2,e3⟩:=Aj ⟨a3,a4⟩ ⟨b3,b4⟩ CZ CZ;generalize lZ:x*(B.length:Int)=ix at *;have yr:((A.length*B.length:Nat):Int)=A.length*B.length:=Fl;generalize hv:aC.getD (ix+y).toNat 0=v at *;refine Holds.aQ 38 3 [.tmp 5] Tryz.func150 ?_;by_cases h3:v=1099511627776
  ·rw[decide_eq_true ⟨rfl,rfl,h3⟩]at au;refine Vb (X5 @aL.eq_1 @hB @bm.eq_1 @lZ @hv) ?_;all_goals(subst au;subst h3;exact Xw false [0,1,2] X0)
  ·rw[decide_eq_false (λh=>h3 h.2.2)]at au;refine Vb (X5 @aL.eq_1 @hB @bm.eq_1 @lZ @hv) ?_;all_goals(subst au;rw[show(v==1099511627776)=false by simpa using h3];exact Xw false [0,1,2] X0)
 ·refine Holds.aQ 38 3 [.tmp 5] Tryz.func150 ?_;rw[decide_eq_false (λh=>MV ⟨h.1,h.2.1⟩)]at au;((repeat'(first|refine Vb @aL.eq_1 ?_|(refine V2 @aL.eq_1 ?_ ?_<;>try with_reducible intro hb)|exact Xx|fail)))
  all_goals(subst au;exact Xw false [0,1,2] X0)
def ajT(m:aj)(a x b y:Int)(hm:VM m)(ha:jy m a x=true)(pA:jy m b y=true):
  Holds Tryz.prog 132 [.agg (ay m),.agg [OJ a,OJ x],.agg [OJ b,OJ y]] [] (.lit (.bool (HU m a x b y))) []:=by
 have xd:=hm.ae;unfold HU;by_cases h:b<a
 ·rw[if_pos h];have hc:=aa9 m.ae 150 [.ptr 1 0 0,.ptr 2 0 0,.ptr 0 0 0] [.var (ay m),.var [OJ b,OJ y],.var [OJ a,OJ x]] (xw m b y a x) CZ (λp hp=>aa8 m b y a x hm pA ha p hp);generalize m.ae.any (xw m b y a x)=res at *;refine Holds.aQ 18 0 [.tmp 6] Tryz.func132 ?_;((repeat'(first|refine Vb X0 ?_|(refine Xi ?_ ?_<;>try intro ht)|exact Xx|fail))<;>try with_reducible intro K hK)
  refine gj hc Fl ?_;((try revert hK K);(refine Vb X0 ?_))
  exact aW rfl rfl
 ·rw[if_neg h];have hc:=aa9 m.ae 150 [.ptr 1 0 0,.ptr 2 0 0,.ptr 0 0 0] [.var (ay m),.var [OJ a,OJ x],.var [OJ b,OJ y]] (xw m a x b y) CZ (λp hp=>aa8 m a x b y hm ha pA p hp);generalize m.ae.any (xw m a x b y)=res at *;refine Holds.aQ 18 0 [.tmp 6] Tryz.func132 ?_;((repeat'(first|refine Vb X0 ?_|(refine Xi ?_ ?_<;>try intro ht)|exact Xx|fail))<;>try with_reducible intro K hK)
  refine gj hc Fl ?_;((try revert hK K);(refine Vb X0 ?_))
  exact aW rfl rfl
def ajU(m:aj)(g:List Int)(l:List (Int×Int))(hm:VM m)(hg:∀ c∈g,0<=c/\c<m.cls.length)(vJ:g.length<9223372036854775808)(ic:l.length<9223372036854775808):
  Holds Tryz.prog 100 [.agg (ay m),.tree 1 (ints g),.tree 2 (rowsOf dt l)] [] (.lit (.bool (wc m g l))) []:=by
 have s8:=hm.cls;generalize au:wc m g l=res;unfold wc at au;refine Holds.aQ 62 0 [.tmp 6] Tryz.func100 ?_;refine Vb X0 ?_;refine bd (λi:Nat=>(⟨ar [(1,.tree 1 (ints g)),(2,.tree 2 (rowsOf dt l)),(3,.ptr 0 0 0),(11,.tree 2 (rowsOf dt l)),(12,OJ l.length),(13,OJ i)],[.var (ay m)]⟩:St))
  (λi=>i<=l.length/\∀ a,a<i->Aq m g l a=true) (λi=>l.length-i) 0 ⟨aS _,λa ha=>absurd ha (rW _)⟩ (Xv X0) ?_
 rintro i⟨hi,cO⟩Ql ao ax;by_cases aq:i<l.length
 ·have fP:=eQ aq;have l7:=MW (f:=Aq m g l) aq;rw[au]at l7;have ajV:∀ b∈l.take i,jy m b.1 b.2=true:=λb hb=>by
   obtain⟨a,ha,rfl⟩:=pW hb;rw[fZ]at ha;have:=cO a CZ;unfold Aq at this;simp only[Bool.and_eq_true]at this;rw[List.getElem_take];rw[az,bS CZ]at this;exact this.1.2
  have cG:Aq m g l i=true->∀ a,a<i+1->Aq m g l a=true:=λh a ha=>by
   by_cases e:a=i
   ·subst e;exact h
   ·exact cO a CZ
  unfold Aq at l7 cG;have LZ:(rowsOf dt l).take i=rowsOf dt (l.take i):=by unfold rowsOf;rw[List.map_take]
  have kF:(l.take i).length=i:=by rw[fZ];omega
  generalize cE:l.getD i default=x at *;obtain⟨c,o⟩:=x;dsimp only at l7 cG;have iV:=aa7 g c vJ;have hgc:g.contains c=true->0<=c/\c<m.cls.length:=λh=>hg c (uX.1 h);have nE:=λh=>hm.opt _ (aF (l:=m.cls) (i:=c.toNat) (d:=default) h);have oF:=@jK m c o;generalize hA:m.cls.getD c.toNat default=A at *;by_cases dP:g.contains c=true;rotate_left
  ·rw[AU]at dP;rw[dP]at l7 iV;have hr:=l7 Fl;((repeat'(first|refine Vc (X2 @cE @dt.eq_1) iV ?_|(refine Xi ?_ ?_<;>try intro ht)|exact Xx|fail)))
   all_goals
    repeat(refine Xu ?_)
    refine Vb X0 ?_;exact aW rfl (by rw[hr])
  obtain⟨nD,um⟩:=hgc dP;have nE:=nE CZ;rw[dP]at iV l7;by_cases l8:jy m c o=true;rotate_left
  ·have qg:¬(0<=c/\c<m.cls.length/\0<=o/\o<A.length):=λh=>l8 (oF.2 h);rw[AU]at l8;rw[l8]at l7;have hr:=l7 Fl;repeat'(first|((fail_if_success (first|refine eH 6 ?_|refine eI 6 ?_));refine Xq (X4 @cE @dt.eq_1 @hA @bm.eq_1) ?_;intro K hK)|refine Xo (X4 @cE @dt.eq_1 @hA @bm.eq_1) ?_|refine Xc (iV) ?_|(refine hK _ ?_;clear hK K)|(refine Xg (X4 @cE @dt.eq_1 @hA @bm.eq_1) ?_ ?_<;>try intro hb)|(refine Xi ?_ ?_<;>try intro ht)|refine Xy ?_|refine Xd ?_ ?_|exact Xx|fail)
   all_goals
    repeat(refine Xu ?_)
    ((repeat'(first|refine Vb X0 ?_|fail)))
    exact aW rfl (by rw[hr])
  obtain⟨o1,o2,o3,o4⟩:=oF.1 l8;rw[l8,iI,iI]at l7;rw[dP,l8,iI,iI]at cG;((repeat'(first|refine Vc (X5 @cE @dt.eq_1 @hA @bm.eq_1 (X4 @LZ @kF @pS.{0,0} @implies_true.{0})) iV ?_|(refine V2 (X5 @cE @dt.eq_1 @hA @bm.eq_1 (X4 @LZ @kF @pS.{0,0} @implies_true.{0})) ?_ ?_<;>try with_reducible intro hb)|(refine Xi ?_ ?_<;>try intro ht)|exact Xx|fail)))
  refine bd (λj:Nat=>(⟨ar [(1,.tree 1 (ints g)),(2,.tree 2 (rowsOf dt l)),(3,.ptr 0 0 0),(8,.ptr 1 0 0),(11,.tree 2 (rowsOf dt l)),(12,OJ l.length),(13,OJ i),(42,.tree 2 (rowsOf dt (l.take i))),(43,OJ i),(44,OJ j)],[.var (ay m),.var [OJ c,OJ o]]⟩:St))
   (λj=>j<=i/\∀ a,a<j->EB m (c,o) ((l.take i).getD a default)=true) (λj=>i-j) 0 ⟨aS _,λa ha=>absurd ha (rW _)⟩ (Xv X0) ?_
  rintro j⟨hj,lK⟩du bE bG;by_cases gx:j<i
  ·have cD:=aF (l:=l.take i) (i:=j) (d:=default) CZ;have bK:=ajV _ cD;have Ar:EB m (c,o) ((l.take i).getD j default)=true->∀ a,a<j+1->EB m (c,o) ((l.take i).getD a default)=true:=λh a ha=>by
    by_cases e:a=j
    ·subst e;exact h
    ·exact lK a CZ
   have Ch:=λh=>l7 (all_false cD h);generalize we:(l.take i).getD j default=y at *;obtain⟨b,u⟩:=y;unfold EB at Ch Ar;dsimp only at bK Ch Ar;have bz:=ajT m c o b u hm l8 bK;generalize HU m c o b u=cl at *;by_cases hcb:c=b
   ·((repeat'(first|refine Va (X3 @we @kF @dt.eq_1) ?_|(refine V2 (X3 @we @kF @dt.eq_1) ?_ ?_<;>try with_reducible intro hb)|(refine Xi ?_ ?_<;>try intro ht)|exact Xx|fail)))
    exact bE _ (j+1) ⟨CZ,Ar (by rw[decide_eq_true hcb];rfl)⟩ CZ (Xs false [0,1] X0)
   ·rw[decide_eq_false hcb,Bool.false_or]at Ch;cases cl
    ·have hr:=Ch rfl;((repeat'(first|refine Vc (X3 @we @kF @dt.eq_1) bz ?_|(refine V2 (X3 @we @kF @dt.eq_1) ?_ ?_<;>try with_reducible intro hb)|(refine Xi ?_ ?_<;>try intro ht)|exact Xx|fail)))
     all_goals
      repeat(refine Xu ?_)
      refine Vb X0 ?_;exact aW rfl (by rw[hr])
    ·((repeat'(first|refine Vc (X4 @we @kF @dt.eq_1 @km) bz ?_|(refine V2 (X4 @we @kF @dt.eq_1 @km) ?_ ?_<;>try with_reducible intro hb)|(refine Xi ?_ ?_<;>try intro ht)|exact Xx|fail)))
     exact bE _ (j+1) ⟨CZ,Ar (by rw[Bool.or_true])⟩ CZ (Xs false [0,1] X0)
  ·obtain rfl:j=i:=CZ;((repeat'(first|refine Va X0 ?_|(refine V2 X0 ?_ ?_<;>try with_reducible intro hb)|(refine Xi ?_ ?_<;>try intro ht)|exact Xx|fail)))
   refine bG _ _ rfl ?_;clear bE bG du;repeat(refine Xu ?_)
   refine Va X0 ?_;refine ao _ (j+1) ⟨CZ,cG ?_⟩ CZ (Xs false [0] X0);rw[e8];intro b hb;obtain⟨a,ha,rfl⟩:=pW hb;have:=lK a CZ;rwa [az,bS ha]at this
 ·obtain rfl:i=l.length:=CZ;rw[H6.2 cO]at au;((repeat'(first|refine Va X0 ?_|(refine Xi ?_ ?_<;>try intro ht)|exact Xx|fail)))
  refine ax _ _ rfl ?_;clear ao ax Ql;repeat(refine Xu ?_)
  refine Vb X0 ?_;exact aW rfl (by rw[<- au])
def ajX(m:aj)(x:Nd)(hm:VM m)(hg:∀ c∈x.bj,0<=c/\c<m.cls.length)(vJ:x.bj.length<9223372036854775808)(l:List (Int×Int))(ic:l.length<9223372036854775808):
  Holds Tryz.prog 99 [.tree 2 (rowsOf dt l),.ptr 0 0 0,.ptr 1 0 0] [.var (ay m),.var (bC x)] (.lit (.bool (!wc m x.bj l))) [.var (ay m),.var (bC x)]:=by
 have h:=ajU m x.bj l hm hg vJ ic;generalize wc m x.bj l=res at *;refine Holds.aQ 11 2 [.tmp 4] Tryz.func99 ?_;refine Vd @bC.eq_1 h ?_;exact dX rfl Fl rfl
def ajY(m:aj)(x:Nd)(c o:Int)(l:List (Int×Int))(ic:l.length<9223372036854775808):
  Holds Tryz.prog 101 [.tree 2 (rowsOf dt l),.ptr 2 0 0,.ptr 3 0 0] [.var (ay m),.var (bC x),.var [OJ c],.var [OJ o]] (.lit (.bool (l.any (pK c o)))) [.var (ay m),.var (bC x),.var [OJ c],.var [OJ o]]:=by
 have h:=ajS l c o ic;generalize l.any (pK c o)=res at *;refine Holds.aQ 10 4 [.tmp 4] Tryz.func101 ?_;refine Vd X0 h ?_;exact dX rfl Fl rfl
def ajZ(m:aj)(x:Nd)(left:List (List Bool))(hm:VM m)(hf:cP m left)(vJ:x.bj.length<9223372036854775808)(bz:x.cells.length<9223372036854775808)(ic:∀ l∈x.cells,l.length<9223372036854775808):
  Holds Tryz.prog 67 [.agg (ay m),.agg (bC x),.tree 1 (rowsOf aE left)] [] (.lit (.bool (oM m x left))) []:=by
 have s8:=hm.cls;have iL:=hf.1;generalize au:oM m x left=res;have nD:=@aj0 m x left;have um:=@aj1 m x left;have MX:=@aj2 m x left;have qE:=@aj3 m x left;have uK:=@aj4 m x left;rw[au]at nD um MX qE uK;obtain⟨cl,kids,dW,bj,cells⟩:=x;dsimp only at *;refine Holds.aQ 87 0 [.tmp 6] Tryz.func67 ?_;refine Vb @bC.eq_1 ?_;refine bd (λi:Nat=>(⟨ar [(2,.tree 1 (rowsOf aE left)),(3,.ptr 0 0 0),(4,.ptr 1 0 0),(15,.tree 1 (ints bj)),(16,OJ bj.length),(17,OJ i)],[.var (ay m),.var (bC ⟨cl,kids,dW,bj,cells⟩)]⟩:St))
  (λi=>i<=bj.length/\∀ a,a<i->decide (0<=bj.getD a 0/\bj.getD a 0<m.cls.length/\(a=0\/bj.getD (a-1) 0<bj.getD a 0))=true) (λi=>bj.length-i) 0 ⟨aS _,λa ha=>absurd ha (rW _)⟩ (Xv @bC.eq_1) ?_
 rintro i⟨hi,fk⟩Ql ao ax;by_cases aq:i<bj.length
 ·have l7:=MW (f:=λi=>decide (0<=bj.getD i 0/\bj.getD i 0<m.cls.length/\(i=0\/bj.getD (i-1) 0<bj.getD i 0))) aq;have cG:decide (0<=bj.getD i 0/\bj.getD i 0<m.cls.length/\(i=0\/bj.getD (i-1) 0<bj.getD i 0))=true->∀ a,a<i+1->decide (0<=bj.getD a 0/\bj.getD a 0<m.cls.length/\(a=0\/bj.getD (a-1) 0<bj.getD a 0))=true:=λh a ha=>by
   by_cases e:a=i
   ·subst e;exact h
   ·exact fk a CZ
  have eK:0<i->((i:Int)-1).toNat=i-1/\i-1<bj.length:=λh=>⟨CZ,CZ⟩;have lZ:0<i->bj.getD ((i:Int)-1).toNat 0=bj.getD (i-1) 0:=λh=>by rw[(eK h).1]
  generalize bf:bj.getD i 0=c at *;generalize hqq:bj.getD (i-1) 0=q at *;have kD:c=c:=rfl;rcases Nat.eq_zero_or_pos i with h0|h0
  ·by_cases aA:0<=c/\c<m.cls.length
   ·((repeat'(first|refine Va (X2 @bC.eq_1 @bf) ?_|(refine V2 (X2 @bC.eq_1 @bf) ?_ ?_<;>try with_reducible intro hb)|(refine Xi ?_ ?_<;>try intro ht)|exact Xx|fail)))
    exact ao _ (i+1) ⟨CZ,cG (decide_eq_true ⟨aA.1,aA.2,.inl h0⟩)⟩ CZ (Xv @bC.eq_1)
   ·have hr:=nD (l7 (decide_eq_false λh=>aA ⟨h.1,h.2.1⟩));((repeat'(first|refine Va (X2 @bC.eq_1 @bf) ?_|(refine V2 (X2 @bC.eq_1 @bf) ?_ ?_<;>try with_reducible intro hb)|(refine Xi ?_ ?_<;>try intro ht)|exact Xx|fail)))
    all_goals
     repeat(refine Xu ?_)
     ((repeat'(first|refine Vb X0 ?_|fail)))
     exact aW rfl (by rw[hr])
  ·have lZ:=lZ h0;obtain⟨DM,MV⟩:=eK h0;by_cases aA:0<=c/\c<m.cls.length/\q<c
   ·((repeat'(first|refine Va (X3 @bC.eq_1 @bf @lZ) ?_|(refine V2 (X3 @bC.eq_1 @bf @lZ) ?_ ?_<;>try with_reducible intro hb)|(refine Xi ?_ ?_<;>try intro ht)|exact Xx|fail)))
    exact ao _ (i+1) ⟨CZ,cG (decide_eq_true ⟨aA.1,aA.2.1,.inr aA.2.2⟩)⟩ CZ (Xv @bC.eq_1)
   ·have hr:=nD (l7 (decide_eq_false λh=>aA ⟨h.1,h.2.1,CZ⟩));((repeat'(first|refine Va (X3 @bC.eq_1 @bf @lZ) ?_|(refine V2 (X3 @bC.eq_1 @bf @lZ) ?_ ?_<;>try with_reducible intro hb)|(refine Xi ?_ ?_<;>try intro ht)|exact Xx|fail)))
    all_goals
     repeat(refine Xu ?_)
     ((repeat'(first|refine Vb X0 ?_|fail)))
     exact aW rfl (by rw[hr])
 obtain rfl:i=bj.length:=CZ;have BI:EC m bj=true:=H6.2 fk;have HS:=aj5 BI;clear nD fk;((repeat'(first|refine Va X0 ?_|(refine V2 X0 ?_ ?_<;>try with_reducible intro hb)|(refine Xi ?_ ?_<;>try intro ht)|exact Xx|fail)))
 refine ax _ _ rfl ?_;clear ao ax Ql;repeat(refine Xu ?_)
 have vD:=abb cells 99 [.ptr 0 0 0,.ptr 1 0 0] [.var (ay m),.var (bC ⟨cl,kids,dW,bj,cells⟩)] (λl=>!wc m bj l) bz (λl hl=>ajX m ⟨cl,kids,dW,bj,cells⟩ hm HS vJ l (ic l hl));rw[abc]at vD;by_cases ba:cells.length<bj.length;rotate_left
 ·have hr:=um ba;((repeat'(first|refine Vb @bC.eq_1 ?_|(refine V2 @bC.eq_1 ?_ ?_<;>try with_reducible intro hb)|(refine Xi ?_ ?_<;>try intro ht)|exact Xx|fail)))
  exact aW rfl (by rw[hr])
 cases kO:cells.all (wc m bj)
 ·have hr:=MX kO;rw[kO]at vD;((repeat'(first|refine Vb @bC.eq_1 ?_|(refine V2 @bC.eq_1 ?_ ?_<;>try with_reducible intro hb)|(refine Xi ?_ ?_<;>try intro ht)|exact Xx|fail))<;>try with_reducible intro K hK)
  refine gj vD Fl ?_;((try revert hK K);(repeat'(first|refine Vb (X2 @bC.eq_1 @lG) ?_|(refine Xi ?_ ?_<;>try intro ht)|exact Xx|fail)))
  exact aW rfl (by rw[hr])
 rw[kO]at vD;have uK:=uK BI ba kO;clear um MX;((repeat'(first|refine Vb @bC.eq_1 ?_|(refine V2 @bC.eq_1 ?_ ?_<;>try with_reducible intro hb)|(refine Xi ?_ ?_<;>try intro ht)|exact Xx|fail))<;>try with_reducible intro K hK)
 refine gj vD Fl ?_;((try revert hK K);(repeat'(first|refine Vb (X2 @bC.eq_1 @km) ?_|(refine Xi ?_ ?_<;>try intro ht)|exact Xx|fail)))
 refine bd (λi:Nat=>(⟨ar [(2,.tree 1 (rowsOf aE left)),(3,.ptr 0 0 0),(4,.ptr 1 0 0),(60,.tree 1 (ints bj)),(61,OJ bj.length),(62,OJ i)],[.var (ay m),.var (bC ⟨cl,kids,dW,bj,cells⟩)]⟩:St))
  (λi=>i<=bj.length/\∀ a,a<i->As left cells (bj.getD a 0)=true) (λi=>bj.length-i) 0 ⟨aS _,λa ha=>absurd ha (rW _)⟩ (Xv @bC.eq_1) ?_
 rintro i⟨hi,fk⟩Ql ao ax;by_cases aq:i<bj.length
 ·have cD:=aF (l:=bj) (i:=i) (d:=0) aq;have l7:=λh=>qE (all_false cD h);have vt:=HS _ cD;have cG:As left cells (bj.getD i 0)=true->∀ a,a<i+1->As left cells (bj.getD a 0)=true:=λh a ha=>by
   by_cases e:a=i
   ·subst e;exact h
   ·exact fk a CZ
  generalize bf:bj.getD i 0=c at *;have an2:=hf.row hm _ (aF (l:=left) (i:=c.toNat) (d:=default) CZ);unfold As at l7 cG;generalize gU:left.getD c.toNat default=row at *;((repeat'(first|refine Va (X4 @bC.eq_1 @bf @aE.eq_1 @gU) ?_|(refine Xi ?_ ?_<;>try intro ht)|exact Xx|fail)))
  refine bd (λo:Nat=>(⟨ar [(2,.tree 1 (rowsOf aE left)),(3,.ptr 0 0 0),(4,.ptr 1 0 0),(10,.ptr 2 0 0),(60,.tree 1 (ints bj)),(61,OJ bj.length),(62,OJ i),(69,.tree 1 (br row)),(70,OJ row.length),(71,OJ o)],[.var (ay m),.var (bC ⟨cl,kids,dW,bj,cells⟩),.var [OJ c]]⟩:St))
   (λo=>o<=row.length/\∀ a,a<o->(!row.getD a false||cells.any λl=>l.any (pK c a))=true) (λo=>row.length-o) 0 ⟨aS _,λa ha=>absurd ha (rW _)⟩ (Xv @bC.eq_1) ?_
  rintro o⟨ho,hao⟩du bE bG;by_cases cH:o<row.length
  ·have Ch:=λh=>l7 (MW (f:=λo:Nat=>!row.getD o false||cells.any λl=>l.any (pK c o)) cH h);have Ar:(!row.getD o false||cells.any λl=>l.any (pK c o))=true->∀ a,a<o+1->(!row.getD a false||cells.any λl=>l.any (pK c a))=true:=λh a ha=>by
    by_cases e:a=o
    ·subst e;exact h
    ·exact hao a CZ
   have abe:=abb cells 101 [.ptr 2 0 0,.ptr 3 0 0] [.var (ay m),.var (bC ⟨cl,kids,dW,bj,cells⟩),.var [OJ c],.var [OJ (o:Int)]] (λl=>l.any (pK c o)) bz (λl hl=>ajY m ⟨cl,kids,dW,bj,cells⟩ c o l (ic l hl));generalize ov:row.getD o false=b at *;generalize cells.any (λl=>l.any (pK c o))=cov at *;cases b
   ·((repeat'(first|refine Va (X2 @bC.eq_1 @ov) ?_|(refine Xi ?_ ?_<;>try intro ht)|exact Xx|fail)))
    exact bE _ (o+1) ⟨CZ,Ar rfl⟩ CZ (Xs false [0,1,2] @bC.eq_1)
   ·cases cov
    ·have hr:=Ch rfl;((repeat'(first|refine Va (X2 @bC.eq_1 @ov) ?_|(refine Xi ?_ ?_<;>try intro ht)|exact Xx|fail))<;>try with_reducible intro K hK)
     refine gj abe Fl ?_;((try revert hK K);(repeat'(first|refine Va (X2 @bC.eq_1 @lG) ?_|(refine Xi ?_ ?_<;>try intro ht)|exact Xx|fail)))
     all_goals
      repeat(refine Xu ?_)
      refine Vb X0 ?_;exact aW rfl (by rw[hr])
    ·((repeat'(first|refine Va (X2 @bC.eq_1 @ov) ?_|(refine Xi ?_ ?_<;>try intro ht)|exact Xx|fail))<;>try with_reducible intro K hK)
     refine gj abe Fl ?_;((try revert hK K);(repeat'(first|refine Va (X2 @bC.eq_1 @km) ?_|(refine Xi ?_ ?_<;>try intro ht)|exact Xx|fail)))
     exact bE _ (o+1) ⟨CZ,Ar rfl⟩ CZ (Xs false [0,1,2] @bC.eq_1)
  ·obtain rfl:o=row.length:=CZ;((repeat'(first|refine Va @bC.eq_1 ?_|(refine V2 @bC.eq_1 ?_ ?_<;>try with_reducible intro hb)|(refine Xi ?_ ?_<;>try intro ht)|exact Xx|fail)))
   refine bG _ _ rfl ?_;clear bE bG du;repeat(refine Xu ?_)
   refine Va @bC.eq_1 ?_;exact ao _ (i+1) ⟨CZ,cG (H6.2 hao)⟩ CZ (Xs false [0,1] @bC.eq_1)
 ·obtain rfl:i=bj.length:=CZ;have hr:=uK (by
   rw[e8];intro c hc;obtain⟨a,ha,rfl⟩:=pW hc;have:=fk a ha;rwa [az,bS ha]at this)
  ((repeat'(first|refine Va X0 ?_|(refine Xi ?_ ?_<;>try intro ht)|exact Xx|fail)))
  refine ax _ _ rfl ?_;clear ao ax Ql;repeat(refine Xu ?_)
  refine Vb X0 ?_;exact aW rfl (by rw[hr])
def UU(xs:List Int)(h:0<xs.length)(hl:xs.length<549755813888):Holds Tryz.prog 69 [.tree 1 (ints xs)] [] (.ref 0 1 0 xs.length) [.arr 1 (ints xs)]:=by
 refine Holds.aQ 8 0 [.tmp 2] Tryz.func69 ?_;((repeat'(first|refine Vb @FJ ?_|(refine Xi ?_ ?_<;>try intro ht)|exact Xx|fail)))
 exact Xw false [1] X0
def aj7(xs:List (List Bool))(h:0<xs.length)(hl:xs.length<549755813888):Holds Tryz.prog 130 [.tree 1 (rowsOf aE xs)] [] (.ref 0 1 0 xs.length) [.arr 1 (rowsOf aE xs)]:=by
 refine Holds.aQ 8 0 [.tmp 2] Tryz.func130 ?_;((repeat'(first|refine Vb X0 ?_|(refine Xi ?_ ?_<;>try intro ht)|exact Xx|fail)))
 exact Xw false [1] X0
def aj8:Holds Tryz.prog 69 [.lit (.slice none 0 0)] [] (.lit (.slice none 0 0)) []:=by
 refine Holds.aQ 8 0 [.tmp 2] Tryz.func69 ?_;((repeat'(first|refine Vb @Option.isNone_none.{0} ?_|(refine Xi ?_ ?_<;>try intro ht)|exact Xx|fail)))
 all_goals first|exact aW rfl rfl|(exfalso;simp at *;done)
def aj9(left:List (List Bool))(c o:Nat)(hc:c<left.length)(ho:o<(left.getD c default).length)(hl:left.length<549755813888)(hw:(left.getD c default).length<549755813888):
  Holds Tryz.prog 97 [.tree 1 (rowsOf aE left),OJ c,OJ o] [] (.tree 1 (rowsOf aE (mB left c o))) []:=by
 unfold mB;have iT:∀ r:List AV,((rowsOf aE left).set c r)[c]?=some r:=λr=>by rw[List.getElem?_set,if_pos rfl,if_pos (by simpa [rowsOf] using hc)]
 have ln:∀ r:List AV,((rowsOf aE left).set c r).length=left.length:=λr=>by simp[rowsOf]
 generalize gU:left.getD c default=row at *;have MY:(List.replicate row.length false).length=row.length:=List.length_replicate;refine Holds.aQ 26 0 [.tmp 6] Tryz.func97 ?_;((refine Vb X0 ?_)<;>try with_reducible intro K hK)
 (refine Xn [] (aj7 left CZ hl) ?_;simp(disch:=omega)only[Ac,↓Pc,simprocAttr,Nat.sub_self,Nat.sub_zero])
 ((try revert hK K);(refine Vb (X5 @gU @aE.eq_1 @A8 @iT (X3 @ln @MY @r9)) ?_))
 refine xS [] true Fs trivial Fs Fs (.snap _ _ rfl ?_);have cr:(yP row.length o).length=row.length:=abf _ _;exact aj' (k:=1) (r:=yP row.length o) hc (by rw[cr];rfl) (rY Fs) rfl (rY Fs)
end T

