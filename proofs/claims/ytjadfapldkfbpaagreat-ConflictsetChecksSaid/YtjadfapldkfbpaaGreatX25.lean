import Derived.Test.YtjadfapldkfbpaaGreatX22
import Derived.Test.YtjadfapldkfbpaaGreatX24
set_option linter.all false
set_option maxHeartbeats 0
set_option maxRecDepth 20000
open List renaming replicate→bG,length→rq,ext_getElem?→jR,getElem?_map→b6,getElem?_set→cm,getElem?_eq_getElem→bT,getElem?_eq_none→ei,cons_append→dP,nil_append→dZ,drop_eq_nil_of_le→cM,getElem_of_mem→ry,length_take→fy,getD_eq_getElem?_getD→aG,all_eq_true→gV,mem_map→cC,getElem?_eq_some_iff→aY,mem_cons→cu,map_cons→dK,nodup_cons→uH,append_assoc→cY,Perm→tw,range→aZ,getElem?_range→lT,length_set→bw,mem_filter→z8
open Option renaming some→dD,map_some→fE,map_none→oN
open Nat renaming zero_le→aF,le_refl→aR,not_lt_zero→mQ
open Bool renaming not_eq_true→Kv,true_and→eX,not_true→iZ,not_false→jP
open Go Go.Am Go.Proofs
namespace T
def nS(w o:Nat):List Bool:=(bG w false).set o true
def cf(left:List (List Bool))(c o:Nat):List (List Bool):=left.set c (nS (left.getD c default).length o)
def Je(w o:Nat):(nS w o).length=w:=by simp[nS]
def Jf(left:List (List Bool))(c o:Nat):(cf left c o).map rq=left.map rq:=by
 unfold cf;apply jR;intro j;rw[b6,b6,cm];split
 ·rename_i e;subst e;split
  ·rename_i h2;rw[bT h2];simp[Je,h2]
  ·rename_i h2;rw[ei G3]
 ·rfl
def JF{σ:St}{kp:Nat->Prop}{c d:List AV}(h:∀ v∈c,(∃ x,v=AV.lit x)\/∃ s r,v=AV.tree s r)(e:d=c):eY (cG σ kp) c d:=by
 subst e
 induction d with
 |nil=>trivial
 |cons v l ih =>
  refine⟨?_,ih λx hx=>h x (by simp[hx])⟩;rcases h v G9 with⟨x,rfl⟩|⟨s,r,rfl⟩
  ·exact .lit _
  ·exact .tree _ _
def ajS{σ:St}{kp:Nat->Prop}{oi k c:Nat}{left:List (List Bool)}{r:List Bool}(hc:c<left.length)(ho:σ.aa[oi]?=some (.arr 1 ((rowsOf aT left).set c [.ref k 1 0 r.length])))(hk:¬ kp oi)(hr:σ.aa[k]?=some (.arr 1 (aX r)))(Ak:¬ kp k):
  cG σ kp (.tree 1 (rowsOf aT (left.set c r))) (.ref oi 1 0 left.length) :=
 cG.mk ho (by simp[rowsOf]) hk (fQ _) (kG.AZ (f:=λ_=>[]) (g:=λ_=>[]) (by simp[rowsOf]) λj x d hx hd=>by
  unfold rowsOf at hx hd;rw[b6,cm]at hx;rw[cm]at hd;by_cases e:c=j
  ·subst e;rw[if_pos rfl,if_pos hc]at hx;rw[if_pos rfl,if_pos (by simpa using hc)]at hd;cases hx;cases hd;exact⟨Yi hr Ak,trivial⟩
  ·rw[if_neg e]at hx hd;rw[b6]at hd;rw[hx]at hd;simp only[dD.injEq]at hd;cases hl:left[j]? with
   |none=>rw[hl]at hx;cases hx
   |some y =>
    rw[hl]at hx;simp only[fE,dD.injEq]at hx;subst hx;exact JF (λv hv=>by simp only[aT,List.mem_singleton]at hv;exact .inr ⟨_,_,hv⟩) hd.symm)
def ajT(l:List (List (Int×Int)))(g:FuncId)(a6:List AV)(aa:List Ob)(p:(List (Int×Int))->Bool)(hl:l.length<9223372036854775808)(hg:∀ x∈l,an Tryz.prog g ([.tree 2 (rowsOf aK x)]++a6) aa (.lit (.bool (p x))) aa):
  an Tryz.prog 141 [.tree 1 (rowsOf rN l),.fn g a6] aa (aaa (dH p 0 l)) aa:=by
 generalize aj:dH p 0 l=res;refine an.aC 19 aa.length [.tmp 4] Tryz.func141 ?_;refine Vb (X3 @bX @fY @rN.eq_1) ?_;refine aO (λk:Nat=>(⟨au [(0,.tree 1 (rowsOf rN l)),(1,.fn g a6),(7,aaa l.length),(8,aaa k)],aa⟩:St)) (λk=>k<=l.length/\dH p k (l.drop k)=res) (λk=>l.length-k) 0 ⟨aF _,aj⟩ (Xv X0) ?_;rintro k⟨hk,hr⟩Ql ak ar;by_cases aL:k<l.length
 ·have hx:=hg _ (aB (d:=default) aL);have hd:=cN l k default aL;generalize aS:l.getD k default=x at *;rw[hd,dH]at hr;simp only[dP,dZ,rN]at hx;((repeat'(first|refine Vb (X4 @bX @fY @rN.eq_1 @aS) ?_|(refine Xi ?_ ?_<;>try intro ht)|exact Xx|fail))<;>try with_reducible intro K hK)
  refine il hx (aR _) ?_;((try revert hK K);(repeat'(first|refine Vb (X3 @bX @fY @rN.eq_1) ?_|(refine Xi ?_ ?_<;>try intro ht)|fail)))
  ·rw[if_pos (by assumption)]at hr;rw[<- hr];exact ey rfl (aR _) rfl
  ·rw[if_neg (by simp_all)]at hr;exact ak _ (k+1) ⟨G3,hr⟩ G3 (Xv X0)
 ·((repeat'(first|refine Vb (X3 @bX @fY @rN.eq_1) ?_|(refine Xi ?_ ?_<;>try intro ht)|exact Xx|fail)))
  rw[cM G3,dH]at hr;rw[<- hr];exact ey rfl (aR _) rfl
def aaM(l:List (List (Int×Int)))(g:FuncId)(a6:List AV)(aa:List Ob)(p:(List (Int×Int))->Bool)(hl:l.length<9223372036854775808)(hg:∀ x∈l,an Tryz.prog g ([.tree 2 (rowsOf aK x)]++a6) aa (.lit (.bool (p x))) aa):
  an Tryz.prog 104 [.tree 1 (rowsOf rN l),.fn g a6] aa (.lit (.bool (l.any p))) aa:=by
 rw[<- zj p l 0];refine an.aC 9 aa.length [.tmp 4] Tryz.func104 ?_;((refine Vb (X3 @bX @fY @rN.eq_1) ?_)<;>try with_reducible intro K hK)
 refine il (ajT l g a6 aa p hl hg) (aR _) ?_;((try revert hK K);(refine Vb (X3 @bX @fY @rN.eq_1) ?_))
 exact ey rfl (aR _) rfl
def ajU(l:List Pr)(g:FuncId)(a6:List AV)(aa:List Ob)(p:Pr->Bool)(hl:l.length<9223372036854775808)(hg:∀ x∈l,an Tryz.prog g ([.agg (aQ x)]++a6) aa (.lit (.bool (p x))) aa):
  an Tryz.prog 166 [.tree 4 (rowsOf aQ l),.fn g a6] aa (aaa (dH p 0 l)) aa:=by
 generalize aj:dH p 0 l=res;refine an.aC 19 aa.length [.tmp 4] Tryz.func166 ?_;refine Vb (X3 @bX @fY @aQ.eq_1) ?_;refine aO (λk:Nat=>(⟨au [(0,.tree 4 (rowsOf aQ l)),(1,.fn g a6),(7,aaa l.length),(8,aaa k)],aa⟩:St)) (λk=>k<=l.length/\dH p k (l.drop k)=res) (λk=>l.length-k) 0 ⟨aF _,aj⟩ (Xv X0) ?_;rintro k⟨hk,hr⟩Ql ak ar;by_cases aL:k<l.length
 ·have hx:=hg _ (aB (d:=default) aL);have hd:=cN l k default aL;generalize aS:l.getD k default=x at *;rw[hd,dH]at hr;simp only[dP,dZ,aQ]at hx;((repeat'(first|refine Vb (X4 @bX @fY @aQ.eq_1 @aS) ?_|(refine Xi ?_ ?_<;>try intro ht)|exact Xx|fail))<;>try with_reducible intro K hK)
  refine il hx (aR _) ?_;((try revert hK K);(repeat'(first|refine Vb (X3 @bX @fY @aQ.eq_1) ?_|(refine Xi ?_ ?_<;>try intro ht)|fail)))
  ·rw[if_pos (by assumption)]at hr;rw[<- hr];exact ey rfl (aR _) rfl
  ·rw[if_neg (by simp_all)]at hr;exact ak _ (k+1) ⟨G3,hr⟩ G3 (Xv X0)
 ·((repeat'(first|refine Vb (X3 @bX @fY @aQ.eq_1) ?_|(refine Xi ?_ ?_<;>try intro ht)|exact Xx|fail)))
  rw[cM G3,dH]at hr;rw[<- hr];exact ey rfl (aR _) rfl
def aaN(l:List Pr)(g:FuncId)(a6:List AV)(aa:List Ob)(p:Pr->Bool)(hl:l.length<9223372036854775808)(hg:∀ x∈l,an Tryz.prog g ([.agg (aQ x)]++a6) aa (.lit (.bool (p x))) aa):
  an Tryz.prog 159 [.tree 4 (rowsOf aQ l),.fn g a6] aa (.lit (.bool (l.any p))) aa:=by
 rw[<- zj p l 0];refine an.aC 9 aa.length [.tmp 4] Tryz.func159 ?_;((refine Vb (X3 @bX @fY @aQ.eq_1) ?_)<;>try with_reducible intro K hK)
 refine il (ajU l g a6 aa p hl hg) (aR _) ?_;((try revert hK K);(refine Vb (X3 @bX @fY @aQ.eq_1) ?_))
 exact ey rfl (aR _) rfl
def ajV:v9 Tryz.prog 169 2:=v9.of 4 (by kernel_rfl)
def ajW:Tryz.prog.eqGuardType Tryz.prog.depth 169=false:=by kernel_rfl
def ajX(l:List (Int×Int))(c o:Int)(hl:l.length<9223372036854775808):an Tryz.prog 143 [.tree 2 (rowsOf aK l),.agg [aaa c,aaa o]] [] (aaa (dH (jz c o) 0 l)) []:=by
 generalize aj:dH (jz c o) 0 l=res;refine an.aC 19 0 [.tmp 4] Tryz.func143 ?_;refine Vb X0 ?_;refine aO (λk:Nat=>(⟨au [(0,.tree 2 (rowsOf aK l)),(3,.ptr 0 0 0),(7,aaa l.length),(8,aaa k)],[.var [aaa c,aaa o]]⟩:St)) (λk=>k<=l.length/\dH (jz c o) k (l.drop k)=res) (λk=>l.length-k) 0 ⟨aF _,aj⟩ (Xv X0) ?_;rintro k⟨hk,hr⟩Ql ak ar;by_cases aL:k<l.length
 ·have hd:=cN l k default aL;generalize aS:l.getD k default=x at *;rw[hd,dH]at hr;obtain⟨x1,x2⟩:=x;unfold jz at hr;((repeat'(first|refine Va (X2 @aS @aK.eq_1) ?_|(refine Xi ?_ ?_<;>try intro ht)|refine VD ?_ ?_|exact Xx|fail)))
  ·exact ajV
  ·exact ajW
  ·simp only[List.cons.injEq,and_true]at ht;rw[if_pos (by rw[decide_eq_true_eq,ht.1,ht.2])]at hr;repeat(refine Xu ?_)
   refine Vb X0 ?_;exact aE rfl (by rw[<- hr])
  ·simp only[List.cons.injEq,and_true]at ht;rw[if_neg (by rw[decide_eq_true_eq,Prod.mk.injEq];exact λh=>ht ⟨h.1.symm,h.2.symm⟩)]at hr;exact ak _ (k+1) ⟨G3,hr⟩ G3 (Xv X0)
 ·((repeat'(first|refine Va X0 ?_|(refine Xi ?_ ?_<;>try intro ht)|exact Xx|fail)))
  rw[cM G3,dH]at hr;refine ar _ _ rfl ?_;clear ak ar Ql;repeat(refine Xu ?_)
  refine Vb X0 ?_;exact aE rfl (by rw[<- hr])
def ajY(l:List (Int×Int))(c o:Int)(hl:l.length<9223372036854775808):an Tryz.prog 108 [.tree 2 (rowsOf aK l),.agg [aaa c,aaa o]] [] (.lit (.bool (l.any (jz c o)))) []:=by
 rw[<- zj (jz c o) l 0];refine an.aC 9 0 [.tmp 4] Tryz.func108 ?_;refine Vd X0 (ajX l c o hl) ?_;exact aE rfl rfl
def aaO(m:ah)(a x b y:Int)(hm:VM m)(ha:eU m a x=true)(nJ:eU m b y=true)(p:Pr)(hp:p∈m.ae):
  an Tryz.prog 160 [.agg (aQ p),.ptr 1 0 0,.ptr 2 0 0,.ptr 0 0 0] [.var (ao m),.var [aaa a,aaa x],.var [aaa b,aaa y]] (.lit (.bool (pf m a x b y p))) [.var (ao m),.var [aaa a,aaa x],.var [aaa b,aaa y]]:=by
 obtain⟨a1,a2,a3,a4⟩:=iv.1 ha;obtain⟨b1,b2,b3,b4⟩:=iv.1 nJ;have dJ:=jy hm.pr _ hp;obtain⟨q1,q2,q3,q4,q5⟩:=m4 dJ;have Bv:=hm.opt _ (aB (l:=m.cls) (i:=a.toNat) (d:=default) G3);have qx:=hm.opt _ (aB (l:=m.cls) (i:=b.toNat) (d:=default) G3);have nL:=hm.cls;generalize aj:pf m a x b y p=res;unfold pf o9 at aj;obtain⟨fs,sn,ru,aD⟩:=p;dsimp only at *;by_cases yu:fs=a/\sn=b
 ·obtain⟨rfl,rfl⟩:=yu;generalize hA:m.cls.getD fs.toNat default=A at *;generalize hB:m.cls.getD sn.toNat default=B at *;obtain⟨e1,e2,e3⟩:=wz ⟨a3,a4⟩ ⟨b3,b4⟩ G3 G3;generalize eM:x*(B.length:Int)=ix at *;have IG:((A.length*B.length:Nat):Int)=A.length*B.length:=G9;generalize hv:aD.getD (ix+y).toNat 0=v at *;refine an.aC 38 3 [.tmp 5] Tryz.func160 ?_;by_cases h3:v=1099511627776
  ·rw[decide_eq_true ⟨rfl,rfl,h3⟩]at aj;refine Vb (X5 @aQ.eq_1 @hB @a9.eq_1 @eM @hv) ?_;all_goals(subst aj;subst h3;exact Xw false [0,1,2] X0)
  ·rw[decide_eq_false (λh=>h3 h.2.2)]at aj;refine Vb (X5 @aQ.eq_1 @hB @a9.eq_1 @eM @hv) ?_;all_goals(subst aj;rw[show(v==1099511627776)=false by simpa using h3];exact Xw false [0,1,2] X0)
 ·refine an.aC 38 3 [.tmp 5] Tryz.func160 ?_;rw[decide_eq_false (λh=>yu ⟨h.1,h.2.1⟩)]at aj;((repeat'(first|refine Vb @aQ.eq_1 ?_|(refine V2 @aQ.eq_1 ?_ ?_<;>try with_reducible intro hb)|exact Xx|fail)))
  all_goals(subst aj;exact Xw false [0,1,2] X0)
def ajZ(m:ah)(a x b y:Int)(hm:VM m)(ha:eU m a x=true)(nJ:eU m b y=true):
  an Tryz.prog 142 [.agg (ao m),.agg [aaa a,aaa x],.agg [aaa b,aaa y]] [] (.lit (.bool (sV m a x b y))) []:=by
 have rW:=hm.ae;unfold sV;by_cases h:b<a
 ·rw[if_pos h];have hc:=aaN m.ae 160 [.ptr 1 0 0,.ptr 2 0 0,.ptr 0 0 0] [.var (ao m),.var [aaa b,aaa y],.var [aaa a,aaa x]] (pf m b y a x) G3 (λp hp=>aaO m b y a x hm nJ ha p hp);generalize m.ae.any (pf m b y a x)=res at *;refine an.aC 18 0 [.tmp 6] Tryz.func142 ?_;((repeat'(first|refine Vb X0 ?_|(refine Xi ?_ ?_<;>try intro ht)|exact Xx|fail))<;>try with_reducible intro K hK)
  refine il hc G9 ?_;((try revert hK K);(refine Vb X0 ?_))
  exact aE rfl rfl
 ·rw[if_neg h];have hc:=aaN m.ae 160 [.ptr 1 0 0,.ptr 2 0 0,.ptr 0 0 0] [.var (ao m),.var [aaa a,aaa x],.var [aaa b,aaa y]] (pf m a x b y) G3 (λp hp=>aaO m a x b y hm ha nJ p hp);generalize m.ae.any (pf m a x b y)=res at *;refine an.aC 18 0 [.tmp 6] Tryz.func142 ?_;((repeat'(first|refine Vb X0 ?_|(refine Xi ?_ ?_<;>try intro ht)|exact Xx|fail))<;>try with_reducible intro K hK)
  refine il hc G9 ?_;((try revert hK K);(refine Vb X0 ?_))
  exact aE rfl rfl
def aj0(m:ah)(g:List Int)(l:List (Int×Int))(hm:VM m)(hg:∀ c∈g,0<=c/\c<m.cls.length)(yv:g.length<9223372036854775808)(dI:l.length<9223372036854775808):
  an Tryz.prog 106 [.agg (ao m),.tree 1 (ints g),.tree 2 (rowsOf aK l)] [] (.lit (.bool (qM m g l))) []:=by
 have nL:=hm.cls;generalize aj:qM m g l=res;unfold qM at aj;refine an.aC 62 0 [.tmp 6] Tryz.func106 ?_;refine Vb X0 ?_;refine aO (λi:Nat=>(⟨au [(1,.tree 1 (ints g)),(2,.tree 2 (rowsOf aK l)),(3,.ptr 0 0 0),(11,.tree 2 (rowsOf aK l)),(12,aaa l.length),(13,aaa i)],[.var (ao m)]⟩:St))
  (λi=>i<=l.length/\∀ a,a<i->sX m g l a=true) (λi=>l.length-i) 0 ⟨aF _,λa ha=>absurd ha (mQ _)⟩ (Xv X0) ?_
 rintro i⟨hi,cU⟩Ql ak ar;by_cases hi':i<l.length
 ·have cq:=eJ hi';have iJ:=CN (f:=sX m g l) hi';rw[aj]at iJ;have aj1:∀ b∈l.take i,eU m b.1 b.2=true:=λb hb=>by
   obtain⟨a,ha,rfl⟩:=ry hb;rw[fy]at ha;have:=cU a G3;unfold sX at this;simp only[Bool.and_eq_true]at this;rw[List.getElem_take];rw[aG,bT G3]at this;exact this.1.2
  have bE:sX m g l i=true->∀ a,a<i+1->sX m g l a=true:=λh a ha=>by
   by_cases e:a=i
   ·subst e;exact h
   ·exact cU a G3
  unfold sX at iJ bE;have nR:(rowsOf aK l).take i=rowsOf aK (l.take i):=by unfold rowsOf;rw[List.map_take]
  have mJ:(l.take i).length=i:=by rw[fy];omega
  generalize aS:l.getD i default=x at *;obtain⟨c,o⟩:=x;dsimp only at iJ bE;have eK:=MU g c yv;have hgc:g.contains c=true->0<=c/\c<m.cls.length:=λh=>hg c (List.contains_iff_mem.1 h);have fX:=λh=>hm.opt _ (aB (l:=m.cls) (i:=c.toNat) (d:=default) h);have ux:=@iv m c o;generalize hA:m.cls.getD c.toNat default=A at *;by_cases iV:g.contains c=true;rotate_left
  ·rw[Kv]at iV;rw[iV]at iJ eK;have hr:=iJ G9;((repeat'(first|refine Vc (X2 @aS @aK.eq_1) eK ?_|(refine Xi ?_ ?_<;>try intro ht)|exact Xx|fail)))
   all_goals
    repeat(refine Xu ?_)
    refine Vb X0 ?_;exact aE rfl (by rw[hr])
  obtain⟨lr,sP⟩:=hgc iV;have fX:=fX G3;rw[iV]at eK iJ;by_cases l5:eU m c o=true;rotate_left
  ·have nD:¬(0<=c/\c<m.cls.length/\0<=o/\o<A.length):=λh=>l5 (ux.2 h);rw[Kv]at l5;rw[l5]at iJ;have hr:=iJ G9;repeat'(first|((fail_if_success (first|refine dE 6 ?_|refine dF 6 ?_));refine Xq (X4 @aS @aK.eq_1 @hA @a9.eq_1) ?_;intro K hK)|refine Xo (X4 @aS @aK.eq_1 @hA @a9.eq_1) ?_|refine Xc (eK) ?_|(refine hK _ ?_;clear hK K)|(refine Xg (X4 @aS @aK.eq_1 @hA @a9.eq_1) ?_ ?_<;>try intro hb)|(refine Xi ?_ ?_<;>try intro ht)|refine Xy ?_|refine Xd ?_ ?_|exact Xx|fail)
   all_goals
    repeat(refine Xu ?_)
    ((repeat'(first|refine Vb X0 ?_|fail)))
    exact aE rfl (by rw[hr])
  obtain⟨o1,o2,o3,o4⟩:=ux.1 l5;rw[l5,eX,eX]at iJ;rw[iV,l5,eX,eX]at bE;((repeat'(first|refine Vc (X5 @aS @aK.eq_1 @hA @a9.eq_1 (X4 @nR @mJ @oN.{0,0} @implies_true.{0})) eK ?_|(refine V2 (X5 @aS @aK.eq_1 @hA @a9.eq_1 (X4 @nR @mJ @oN.{0,0} @implies_true.{0})) ?_ ?_<;>try with_reducible intro hb)|(refine Xi ?_ ?_<;>try intro ht)|exact Xx|fail)))
  refine aO (λj:Nat=>(⟨au [(1,.tree 1 (ints g)),(2,.tree 2 (rowsOf aK l)),(3,.ptr 0 0 0),(8,.ptr 1 0 0),(11,.tree 2 (rowsOf aK l)),(12,aaa l.length),(13,aaa i),(42,.tree 2 (rowsOf aK (l.take i))),(43,aaa i),(44,aaa j)],[.var (ao m),.var [aaa c,aaa o]]⟩:St))
   (λj=>j<=i/\∀ a,a<j->sW m (c,o) ((l.take i).getD a default)=true) (λj=>i-j) 0 ⟨aF _,λa ha=>absurd ha (mQ _)⟩ (Xv X0) ?_
  rintro j⟨hj,kH⟩cL a7 ba;by_cases dx:j<i
  ·have bJ:=aB (l:=l.take i) (i:=j) (d:=default) G3;have a8:=aj1 _ bJ;have sr:sW m (c,o) ((l.take i).getD j default)=true->∀ a,a<j+1->sW m (c,o) ((l.take i).getD a default)=true:=λh a ha=>by
    by_cases e:a=j
    ·subst e;exact h
    ·exact kH a G3
   have ss:=λh=>iJ (all_false bJ h);generalize gA:(l.take i).getD j default=y at *;obtain⟨b,u⟩:=y;unfold sW at ss sr;dsimp only at a8 ss sr;have bY:=ajZ m c o b u hm l5 a8;generalize sV m c o b u=cl at *;by_cases jr:c=b
   ·((repeat'(first|refine Va (X3 @gA @mJ @aK.eq_1) ?_|(refine V2 (X3 @gA @mJ @aK.eq_1) ?_ ?_<;>try with_reducible intro hb)|(refine Xi ?_ ?_<;>try intro ht)|exact Xx|fail)))
    exact a7 _ (j+1) ⟨G3,sr (by rw[decide_eq_true jr];rfl)⟩ G3 (Xs false [0,1] X0)
   ·rw[decide_eq_false jr,Bool.false_or]at ss;cases cl
    ·have hr:=ss rfl;((repeat'(first|refine Vc (X3 @gA @mJ @aK.eq_1) bY ?_|(refine V2 (X3 @gA @mJ @aK.eq_1) ?_ ?_<;>try with_reducible intro hb)|(refine Xi ?_ ?_<;>try intro ht)|exact Xx|fail)))
     all_goals
      repeat(refine Xu ?_)
      refine Vb X0 ?_;exact aE rfl (by rw[hr])
    ·((repeat'(first|refine Vc (X4 @gA @mJ @aK.eq_1 @iZ) bY ?_|(refine V2 (X4 @gA @mJ @aK.eq_1 @iZ) ?_ ?_<;>try with_reducible intro hb)|(refine Xi ?_ ?_<;>try intro ht)|exact Xx|fail)))
     exact a7 _ (j+1) ⟨G3,sr (by rw[Bool.or_true])⟩ G3 (Xs false [0,1] X0)
  ·obtain rfl:j=i:=G3;((repeat'(first|refine Va X0 ?_|(refine V2 X0 ?_ ?_<;>try with_reducible intro hb)|(refine Xi ?_ ?_<;>try intro ht)|exact Xx|fail)))
   refine ba _ _ rfl ?_;clear a7 ba cL;repeat(refine Xu ?_)
   refine Va X0 ?_;refine ak _ (j+1) ⟨G3,bE ?_⟩ G3 (Xs false [0] X0);rw[gV];intro b hb;obtain⟨a,ha,rfl⟩:=ry hb;have:=kH a G3;rwa [aG,bT ha]at this
 ·obtain rfl:i=l.length:=G3;rw[A3.2 cU]at aj;((repeat'(first|refine Va X0 ?_|(refine Xi ?_ ?_<;>try intro ht)|exact Xx|fail)))
  refine ar _ _ rfl ?_;clear ak ar Ql;repeat(refine Xu ?_)
  refine Vb X0 ?_;exact aE rfl (by rw[<- aj])
def aj3(m:ah)(x:Nd)(hm:VM m)(hg:∀ c∈x.bh,0<=c/\c<m.cls.length)(yv:x.bh.length<9223372036854775808)(l:List (Int×Int))(dI:l.length<9223372036854775808):
  an Tryz.prog 105 [.tree 2 (rowsOf aK l),.ptr 0 0 0,.ptr 1 0 0] [.var (ao m),.var (az x)] (.lit (.bool (!qM m x.bh l))) [.var (ao m),.var (az x)]:=by
 have h:=aj0 m x.bh l hm hg yv dI;generalize qM m x.bh l=res at *;refine an.aC 11 2 [.tmp 4] Tryz.func105 ?_;refine Vd @az.eq_1 h ?_;exact ey rfl G9 rfl
def aj4(m:ah)(x:Nd)(c o:Int)(l:List (Int×Int))(dI:l.length<9223372036854775808):
  an Tryz.prog 107 [.tree 2 (rowsOf aK l),.ptr 2 0 0,.ptr 3 0 0] [.var (ao m),.var (az x),.var [aaa c],.var [aaa o]] (.lit (.bool (l.any (jz c o)))) [.var (ao m),.var (az x),.var [aaa c],.var [aaa o]]:=by
 have h:=ajY l c o dI;generalize l.any (jz c o)=res at *;refine an.aC 10 4 [.tmp 4] Tryz.func107 ?_;refine Vd X0 h ?_;exact ey rfl G9 rfl
def aiB(m:ah)(x:Nd)(left:List (List Bool))(hm:VM m)(hf:fD m left)(yv:x.bh.length<9223372036854775808)(bY:x.cells.length<9223372036854775808)(dI:∀ l∈x.cells,l.length<9223372036854775808):
  an Tryz.prog 69 [.agg (ao m),.agg (az x),.tree 1 (rowsOf aT left)] [] (.lit (.bool (mG m x left))) []:=by
 have nL:=hm.cls;have fK:=hf.1;generalize aj:mG m x left=res;have lr:=@YB m x left;have sP:=@YC m x left;have Oo:=@YD m x left;have yp:=@YE m x left;have zH:=@YF m x left;rw[aj]at lr sP Oo yp zH;obtain⟨cl,kids,cR,bh,cells⟩:=x;dsimp only at *;refine an.aC 87 0 [.tmp 6] Tryz.func69 ?_;refine Vb @az.eq_1 ?_;refine aO (λi:Nat=>(⟨au [(2,.tree 1 (rowsOf aT left)),(3,.ptr 0 0 0),(4,.ptr 1 0 0),(15,.tree 1 (ints bh)),(16,aaa bh.length),(17,aaa i)],[.var (ao m),.var (az ⟨cl,kids,cR,bh,cells⟩)]⟩:St))
  (λi=>i<=bh.length/\∀ a,a<i->decide (0<=bh.getD a 0/\bh.getD a 0<m.cls.length/\(a=0\/bh.getD (a-1) 0<bh.getD a 0))=true) (λi=>bh.length-i) 0 ⟨aF _,λa ha=>absurd ha (mQ _)⟩ (Xv @az.eq_1) ?_
 rintro i⟨hi,eB⟩Ql ak ar;by_cases hi':i<bh.length
 ·have iJ:=CN (f:=λi=>decide (0<=bh.getD i 0/\bh.getD i 0<m.cls.length/\(i=0\/bh.getD (i-1) 0<bh.getD i 0))) hi';have bE:decide (0<=bh.getD i 0/\bh.getD i 0<m.cls.length/\(i=0\/bh.getD (i-1) 0<bh.getD i 0))=true->∀ a,a<i+1->decide (0<=bh.getD a 0/\bh.getD a 0<m.cls.length/\(a=0\/bh.getD (a-1) 0<bh.getD a 0))=true:=λh a ha=>by
   by_cases e:a=i
   ·subst e;exact h
   ·exact eB a G3
  have ke:0<i->((i:Int)-1).toNat=i-1/\i-1<bh.length:=λh=>⟨G3,G3⟩;have eM:0<i->bh.getD ((i:Int)-1).toNat 0=bh.getD (i-1) 0:=λh=>by rw[(ke h).1]
  generalize aM:bh.getD i 0=c at *;generalize Ol:bh.getD (i-1) 0=q at *;have kh:c=c:=rfl;rcases Nat.eq_zero_or_pos i with h0|h0
  ·by_cases aw:0<=c/\c<m.cls.length
   ·((repeat'(first|refine Va (X2 @az.eq_1 @aM) ?_|(refine V2 (X2 @az.eq_1 @aM) ?_ ?_<;>try with_reducible intro hb)|(refine Xi ?_ ?_<;>try intro ht)|exact Xx|fail)))
    exact ak _ (i+1) ⟨G3,bE (decide_eq_true ⟨aw.1,aw.2,.inl h0⟩)⟩ G3 (Xv @az.eq_1)
   ·have hr:=lr (iJ (decide_eq_false λh=>aw ⟨h.1,h.2.1⟩));((repeat'(first|refine Va (X2 @az.eq_1 @aM) ?_|(refine V2 (X2 @az.eq_1 @aM) ?_ ?_<;>try with_reducible intro hb)|(refine Xi ?_ ?_<;>try intro ht)|exact Xx|fail)))
    all_goals
     repeat(refine Xu ?_)
     ((repeat'(first|refine Vb X0 ?_|fail)))
     exact aE rfl (by rw[hr])
  ·have eM:=eM h0;obtain⟨JG,yu⟩:=ke h0;by_cases aw:0<=c/\c<m.cls.length/\q<c
   ·((repeat'(first|refine Va (X3 @az.eq_1 @aM @eM) ?_|(refine V2 (X3 @az.eq_1 @aM @eM) ?_ ?_<;>try with_reducible intro hb)|(refine Xi ?_ ?_<;>try intro ht)|exact Xx|fail)))
    exact ak _ (i+1) ⟨G3,bE (decide_eq_true ⟨aw.1,aw.2.1,.inr aw.2.2⟩)⟩ G3 (Xv @az.eq_1)
   ·have hr:=lr (iJ (decide_eq_false λh=>aw ⟨h.1,h.2.1,G3⟩));((repeat'(first|refine Va (X3 @az.eq_1 @aM @eM) ?_|(refine V2 (X3 @az.eq_1 @aM @eM) ?_ ?_<;>try with_reducible intro hb)|(refine Xi ?_ ?_<;>try intro ht)|exact Xx|fail)))
    all_goals
     repeat(refine Xu ?_)
     ((repeat'(first|refine Vb X0 ?_|fail)))
     exact aE rfl (by rw[hr])
 obtain rfl:i=bh.length:=G3;have Bk:CM m bh=true:=A3.2 eB;have uc:=Yz Bk;clear lr eB;((repeat'(first|refine Va X0 ?_|(refine V2 X0 ?_ ?_<;>try with_reducible intro hb)|(refine Xi ?_ ?_<;>try intro ht)|exact Xx|fail)))
 refine ar _ _ rfl ?_;clear ak ar Ql;repeat(refine Xu ?_)
 have x8:=aaM cells 105 [.ptr 0 0 0,.ptr 1 0 0] [.var (ao m),.var (az ⟨cl,kids,cR,bh,cells⟩)] (λl=>!qM m bh l) bY (λl hl=>aj3 m ⟨cl,kids,cR,bh,cells⟩ hm uc yv l (dI l hl));rw[YA]at x8;by_cases bx:cells.length<bh.length;rotate_left
 ·have hr:=sP bx;((repeat'(first|refine Vb @az.eq_1 ?_|(refine V2 @az.eq_1 ?_ ?_<;>try with_reducible intro hb)|(refine Xi ?_ ?_<;>try intro ht)|exact Xx|fail)))
  exact aE rfl (by rw[hr])
 cases gJ:cells.all (qM m bh)
 ·have hr:=Oo gJ;rw[gJ]at x8;((repeat'(first|refine Vb @az.eq_1 ?_|(refine V2 @az.eq_1 ?_ ?_<;>try with_reducible intro hb)|(refine Xi ?_ ?_<;>try intro ht)|exact Xx|fail))<;>try with_reducible intro K hK)
  refine il x8 G9 ?_;((try revert hK K);(repeat'(first|refine Vb (X2 @az.eq_1 @jP) ?_|(refine Xi ?_ ?_<;>try intro ht)|exact Xx|fail)))
  exact aE rfl (by rw[hr])
 rw[gJ]at x8;have zH:=zH Bk bx gJ;clear sP Oo;((repeat'(first|refine Vb @az.eq_1 ?_|(refine V2 @az.eq_1 ?_ ?_<;>try with_reducible intro hb)|(refine Xi ?_ ?_<;>try intro ht)|exact Xx|fail))<;>try with_reducible intro K hK)
 refine il x8 G9 ?_;((try revert hK K);(repeat'(first|refine Vb (X2 @az.eq_1 @iZ) ?_|(refine Xi ?_ ?_<;>try intro ht)|exact Xx|fail)))
 refine aO (λi:Nat=>(⟨au [(2,.tree 1 (rowsOf aT left)),(3,.ptr 0 0 0),(4,.ptr 1 0 0),(60,.tree 1 (ints bh)),(61,aaa bh.length),(62,aaa i)],[.var (ao m),.var (az ⟨cl,kids,cR,bh,cells⟩)]⟩:St))
  (λi=>i<=bh.length/\∀ a,a<i->ue left cells (bh.getD a 0)=true) (λi=>bh.length-i) 0 ⟨aF _,λa ha=>absurd ha (mQ _)⟩ (Xv @az.eq_1) ?_
 rintro i⟨hi,eB⟩Ql ak ar;by_cases hi':i<bh.length
 ·have bJ:=aB (l:=bh) (i:=i) (d:=0) hi';have iJ:=λh=>yp (all_false bJ h);have ln:=uc _ bJ;have bE:ue left cells (bh.getD i 0)=true->∀ a,a<i+1->ue left cells (bh.getD a 0)=true:=λh a ha=>by
   by_cases e:a=i
   ·subst e;exact h
   ·exact eB a G3
  generalize aM:bh.getD i 0=c at *;have Dk:=hf.row hm _ (aB (l:=left) (i:=c.toNat) (d:=default) G3);unfold ue at iJ bE;generalize cB:left.getD c.toNat default=row at *;((repeat'(first|refine Va (X4 @az.eq_1 @aM @aT.eq_1 @cB) ?_|(refine Xi ?_ ?_<;>try intro ht)|exact Xx|fail)))
  refine aO (λo:Nat=>(⟨au [(2,.tree 1 (rowsOf aT left)),(3,.ptr 0 0 0),(4,.ptr 1 0 0),(10,.ptr 2 0 0),(60,.tree 1 (ints bh)),(61,aaa bh.length),(62,aaa i),(69,.tree 1 (aX row)),(70,aaa row.length),(71,aaa o)],[.var (ao m),.var (az ⟨cl,kids,cR,bh,cells⟩),.var [aaa c]]⟩:St))
   (λo=>o<=row.length/\∀ a,a<o->(!row.getD a false||cells.any λl=>l.any (jz c a))=true) (λo=>row.length-o) 0 ⟨aF _,λa ha=>absurd ha (mQ _)⟩ (Xv @az.eq_1) ?_
  rintro o⟨ho,Gl⟩cL a7 ba;by_cases cy:o<row.length
  ·have ss:=λh=>iJ (CN (f:=λo:Nat=>!row.getD o false||cells.any λl=>l.any (jz c o)) cy h);have sr:(!row.getD o false||cells.any λl=>l.any (jz c o))=true->∀ a,a<o+1->(!row.getD a false||cells.any λl=>l.any (jz c a))=true:=λh a ha=>by
    by_cases e:a=o
    ·subst e;exact h
    ·exact Gl a G3
   have aaP:=aaM cells 107 [.ptr 2 0 0,.ptr 3 0 0] [.var (ao m),.var (az ⟨cl,kids,cR,bh,cells⟩),.var [aaa c],.var [aaa (o:Int)]] (λl=>l.any (jz c o)) bY (λl hl=>aj4 m ⟨cl,kids,cR,bh,cells⟩ c o l (dI l hl));generalize fW:row.getD o false=b at *;generalize cells.any (λl=>l.any (jz c o))=Oq at *;cases b
   ·((repeat'(first|refine Va (X2 @az.eq_1 @fW) ?_|(refine Xi ?_ ?_<;>try intro ht)|exact Xx|fail)))
    exact a7 _ (o+1) ⟨G3,sr rfl⟩ G3 (Xs false [0,1,2] @az.eq_1)
   ·cases Oq
    ·have hr:=ss rfl;((repeat'(first|refine Va (X2 @az.eq_1 @fW) ?_|(refine Xi ?_ ?_<;>try intro ht)|exact Xx|fail))<;>try with_reducible intro K hK)
     refine il aaP G9 ?_;((try revert hK K);(repeat'(first|refine Va (X2 @az.eq_1 @jP) ?_|(refine Xi ?_ ?_<;>try intro ht)|exact Xx|fail)))
     all_goals
      repeat(refine Xu ?_)
      refine Vb X0 ?_;exact aE rfl (by rw[hr])
    ·((repeat'(first|refine Va (X2 @az.eq_1 @fW) ?_|(refine Xi ?_ ?_<;>try intro ht)|exact Xx|fail))<;>try with_reducible intro K hK)
     refine il aaP G9 ?_;((try revert hK K);(repeat'(first|refine Va (X2 @az.eq_1 @iZ) ?_|(refine Xi ?_ ?_<;>try intro ht)|exact Xx|fail)))
     exact a7 _ (o+1) ⟨G3,sr rfl⟩ G3 (Xs false [0,1,2] @az.eq_1)
  ·obtain rfl:o=row.length:=G3;((repeat'(first|refine Va @az.eq_1 ?_|(refine V2 @az.eq_1 ?_ ?_<;>try with_reducible intro hb)|(refine Xi ?_ ?_<;>try intro ht)|exact Xx|fail)))
   refine ba _ _ rfl ?_;clear a7 ba cL;repeat(refine Xu ?_)
   refine Va @az.eq_1 ?_;exact ak _ (i+1) ⟨G3,bE (A3.2 Gl)⟩ G3 (Xs false [0,1] @az.eq_1)
 ·obtain rfl:i=bh.length:=G3;have hr:=zH (by
   rw[gV];intro c hc;obtain⟨a,ha,rfl⟩:=ry hc;have:=eB a ha;rwa [aG,bT ha]at this)
  ((repeat'(first|refine Va X0 ?_|(refine Xi ?_ ?_<;>try intro ht)|exact Xx|fail)))
  refine ar _ _ rfl ?_;clear ak ar Ql;repeat(refine Xu ?_)
  refine Vb X0 ?_;exact aE rfl (by rw[hr])
def aj5(xs:List (List Bool))(h:0<xs.length)(hl:xs.length<549755813888):an Tryz.prog 140 [.tree 1 (rowsOf aT xs)] [] (.ref 0 1 0 xs.length) [.arr 1 (rowsOf aT xs)]:=by
 refine an.aC 8 0 [.tmp 2] Tryz.func140 ?_;((repeat'(first|refine Vb X0 ?_|(refine Xi ?_ ?_<;>try intro ht)|exact Xx|fail)))
 exact Xw false [1] X0
def aix:an Tryz.prog 62 [.lit (.slice none 0 0)] [] (.lit (.slice none 0 0)) []:=by
 refine an.aC 8 0 [.tmp 2] Tryz.func62 ?_;((repeat'(first|refine Vb @Option.isNone_none.{0} ?_|(refine Xi ?_ ?_<;>try intro ht)|exact Xx|fail)))
 all_goals first|exact aE rfl rfl|(exfalso;simp at *;done)
def aiw(left:List (List Bool))(c o:Nat)(hc:c<left.length)(ho:o<(left.getD c default).length)(hl:left.length<549755813888)(hw:(left.getD c default).length<549755813888):
  an Tryz.prog 103 [.tree 1 (rowsOf aT left),aaa c,aaa o] [] (.tree 1 (rowsOf aT (cf left c o))) []:=by
 unfold cf;have iq:∀ r:List AV,((rowsOf aT left).set c r)[c]?=some r:=λr=>by rw[cm,if_pos rfl,if_pos (by simpa [rowsOf] using hc)]
 have fA:∀ r:List AV,((rowsOf aT left).set c r).length=left.length:=λr=>by simp[rowsOf]
 generalize cB:left.getD c default=row at *;have F3:(bG row.length false).length=row.length:=List.length_replicate;refine an.aC 26 0 [.tmp 6] Tryz.func103 ?_;((refine Vb X0 ?_)<;>try with_reducible intro K hK)
 (refine Xn [] (aj5 left G3 hl) ?_;simp(disch:=omega)only[Ac,↓Pc,simprocAttr,Nat.sub_self,Nat.sub_zero])
 ((try revert hK K);(refine Vb (X5 @cB @aT.eq_1 @KO @iq (X3 @fA @F3 @wc)) ?_))
 refine dr [] true Kq trivial Kq Kq (.snap _ _ rfl ?_);have cZ:(nS row.length o).length=row.length:=Je _ _;exact ajS (k:=1) (r:=nS row.length o) hc (by rw[cZ];rfl) (iD Kq) rfl (iD Kq)
structure Fc(C:List (Nat×Ob))(os:List Ob):Prop where
 at_:∀ b∈C,os[b.1]?=some b.2
 nd:(C.map (·.1)).Nodup
section
variable {C D:List (Nat×Ob)} {os:List Ob}
def Fc.b0{a:Nat×Ob}(h:Fc (a::C) os):os[a.1]?=some a.2:=h.at_ a G9
def Fc.b1{a b:Nat×Ob}(h:Fc (a::b::C) os):os[b.1]?=some b.2:=h.at_ b G9
def Fc.b2{a b c:Nat×Ob}(h:Fc (a::b::c::C) os):os[c.1]?=some c.2:=h.at_ c G9
def Fc.b3{a b c d:Nat×Ob}(h:Fc (a::b::c::d::C) os):os[d.1]?=some d.2:=h.at_ d G9
def Fc.app(h:Fc C os)(l:List Ob):Fc C (os++l):=⟨λb hb=>bf (h.at_ b hb) l,h.nd⟩
def Fc.perm(h:Fc C os)(hp:C.Perm D):Fc D os:=⟨λb hb=>h.at_ b (hp.mem_iff.2 hb),((hp.map (·.1)).nodup_iff).1 h.nd⟩
def Fc.front{b:Nat×Ob}(A:List (Nat×Ob))(h:Fc (A++b::C) os):Fc (b::(A++C)) os:=h.perm List.perm_middle
def Fc.fresh(h:Fc C os){p:Nat}(hp:os.length<=p):p ∉ C.map (·.1):=λhh=>by
 obtain⟨q,hq,rfl⟩:=cC.1 hh;have:=(aY.1 (h.at_ q hq)).1;omega
def Fc.other(h:Fc C os){i:Nat}(hi:i ∉ C.map (·.1))(y:Ob):Fc C (os.set i y) :=
 ⟨λb hb=>by rw[List.getElem?_set_ne (λe=>hi (cC.2 ⟨b,hb,e.symm⟩))];exact h.at_ b hb,h.nd⟩
def Fc.add(h:Fc C os){k:Nat}{x:Ob}(hk:os[k]?=some x)(hf:k ∉ C.map (·.1)):Fc ((k,x)::C) os :=
 ⟨λb hb=>by rcases cu.1 hb with rfl|hb;exact hk;exact h.at_ b hb,by rw[dK,uH];exact⟨hf,h.nd⟩⟩
def Fc.drop{i:Nat}{x:Ob}(h:Fc ((i,x)::C) os):Fc C os/\i ∉ C.map (·.1):=by
 have hn:=h.nd;rw[dK,uH]at hn;exact⟨⟨λb hb=>h.at_ b (by simp[hb]),hn.2⟩,hn.1⟩
def Fc.put{i:Nat}{x:Ob}(h:Fc ((i,x)::C) os)(y:Ob):Fc ((i,y)::C) (os.set i y):=by
 obtain⟨h1,h2⟩:=h.drop;exact(h1.other h2 y).add (j3 h.b0) h2
def Fc.kill{i:Nat}{x:Ob}(h:Fc ((i,x)::C) os)(y:Ob):Fc C (os.set i y):=by
 obtain⟨h1,h2⟩:=h.drop;exact h1.other h2 y
def Fc.sub(h:Fc (C++D) os):Fc C os:=⟨λb hb=>h.at_ b (List.mem_append_left _ hb),by
 have:=h.nd;rw[List.map_append,List.nodup_append]at this;exact this.1⟩
end
structure Rw where
 c:Int
 Dl:Option (Nat×List Int)
 mv:Option (Nat×List Mv)
instance:Inhabited Rw:=⟨⟨0,none,none⟩⟩
def kE:Option (Nat×List Int)->AV
 |none=>.lit (.slice none 0 0)
 |some x=>.ref x.1 1 0 x.2.length
def mE:Option (Nat×List Mv)->AV
 |none=>.lit (.slice none 0 0)
 |some x=>.ref x.1 4 0 x.2.length
def cP(r:Rw):List AV:=[aaa r.c,kE r.Dl,mE r.mv,.lit (.slice none 0 0),.lit (.slice none 0 0)]
def kO:Option (Nat×List Int)->List (Nat×Ob)
 |none=>[]
 |some x=>[(x.1,.arr 1 (ints x.2))]
def mO:Option (Nat×List Mv)->List (Nat×Ob)
 |none=>[]
 |some x=>[(x.1,.arr 4 (rowsOf bN x.2))]
def nV(r:Rw):List (Nat×Ob):=kO r.Dl++mO r.mv
def gU(R:List Rw):List (Nat×Ob):=R.flatMap nV
def dC:Rw:=⟨-1,none,none⟩
def Gm(A B:List Rw):gU (A++B)=gU A++gU B:=by unfold gU;rw[List.flatMap_append]
def JH(r:Rw):gU [r]=nV r:=by simp[gU]
def aaQ(R:List Rw):(rowsOf cP R).length=R.length:=by simp[rowsOf]
def aj6(R:List Rw)(r:Rw):rowsOf cP R++[cP r]=rowsOf cP (R++[r]):=by simp[rowsOf]
def JI{α:Type}(a b c:List α):(a++(b++c)).Perm (b++(a++c)):=by
 rw[<- cY,<- cY];exact tw.append_right _ List.perm_append_comm
def aaR{R:List Rw}{j:Nat}(hj:j<R.length)(r:Rw):(nV (R.getD j default)++gU (R.set j r)).Perm (nV r++gU R):=by
 have h1:R=R.take j++R.getD j default::R.drop (j+1):=by
  rw[aG,bT hj,Option.getD_some,List.getElem_cons_drop,List.take_append_drop]
 have h2:R.set j r=R.take j++r::R.drop (j+1):=by rw[List.set_eq_take_append_cons_drop,if_pos hj]
 generalize R.getD j default=x at *;generalize R.take j=A at *;generalize R.drop (j+1)=B at *;rw[h2,h1];have h3:∀ y,gU (A++y::B)=gU A++(nV y++gU B):=λy=>by rw[show A++y::B=A++([y]++B) from rfl,Gm,Gm,JH]
 rw[h3,h3];generalize gU A=a;generalize gU B=b;generalize nV x=u;generalize nV r=v;exact((tw.append_left u (JI a v b)).trans ((JI u v (a++b)).trans (tw.append_left v (JI u a b))))
def canon(F:List (Nat×Ob))(n:Nat):List Ob:=(aZ n).map λj=>((F.find? λb=>b.1==j).map (·.2)).getD .gone
structure FK(F:List (Nat×Ob))(n:Nat):Prop where
 lt:∀ b∈F,b.1<n
 nd:(F.map (·.1)).Nodup
def Fc.fk{F:List (Nat×Ob)}{os:List Ob}(h:Fc F os):FK F os.length:=⟨λb hb=>(aY.1 (h.at_ b hb)).1,h.nd⟩
def Bw(F:List (Nat×Ob))(n:Nat):(canon F n).length=n:=by simp[canon]
def JJ:∀ {F:List (Nat×Ob)},(F.map (·.1)).Nodup->∀ b∈F,F.find? (λx=>x.1==b.1)=some b
 |a::F,h,b,hb=>by
  rw[dK,uH]at h;rcases cu.1 hb with rfl|hb
  ·simp
  ·have:a.1≠b.1:=λe=>h.1 (cC.2 ⟨b,hb,e.symm⟩);rw[List.find?_cons_of_neg (by simpa using this)];exact JJ h.2 b hb
def FK.canon{F:List (Nat×Ob)}{n:Nat}(h:FK F n):Fc F (canon F n):=⟨λb hb=>by
 unfold T.canon;rw[b6,lT (h.lt b hb),fE,JJ h.nd b hb];rfl,h.nd⟩
def vD:List Nat->List Ob->List Ob
 |[],os=>os
 |j::l,os=>vD l (os.set j .gone)
def aaS:∀ (l:List Nat) (os:List Ob),(vD l os).length=os.length
 |[],os=>rfl
 |j::l,os=>by rw[vD,aaS l,bw]
def aaT:∀ (l:List Nat) (os:List Ob) (j:Nat),j<os.length->(vD l os)[j]?=if j∈l then some .gone else os[j]?
 |[],os,j,hj=>by simp[vD]
 |i::l,os,j,hj=>by
  rw[vD,aaT l _ j (by rw[bw];exact hj)];by_cases h1:j∈l
  ·rw[if_pos h1,if_pos (by simp[h1])]
  ·rw[if_neg h1,cm];by_cases h2:i=j
   ·subst h2;rw[if_pos rfl,if_pos hj,if_pos G9]
   ·rw[if_neg h2,if_neg (by simp only[cu,not_or];exact⟨λe=>h2 e.symm,h1⟩)]
def aj7{F:List (Nat×Ob)}{os:List Ob}(h:Fc F os):vD ((aZ os.length).filter λj=>!(F.map (·.1)).contains j) os=canon F os.length:=by
 apply jR;intro j;by_cases hj:j<os.length
 ·rw[aaT _ _ _ hj];by_cases hm:j∈F.map (·.1)
  ·obtain⟨b,hb,rfl⟩:=cC.1 hm;rw[if_neg (by simp[z8,hm]),h.fk.canon.at_ b hb,h.at_ b hb]
  ·rw[if_pos (by rw[z8];exact⟨List.mem_range.2 hj,by simp at hm ⊢;exact hm⟩)];unfold canon;rw[b6,lT hj,fE];have:F.find? (λb=>b.1==j)=none:=by
    rw[List.find?_eq_none];intro b hb e;exact hm (cC.2 ⟨b,hb,by simpa using e⟩)
   rw[this];rfl
 ·rw[ei (by rw[aaS];omega),ei (by rw[Bw];omega)]
def ay.vD{n0:Nat}:∀ (l:List Nat) (σ:St),ay n0 σ ⟨σ.env,T.vD l σ.aa⟩
 |[],σ=>by intro os γ0 γ _ hs hf;exact⟨γ,rfl,rfl,hs,hf⟩
 |j::l,σ=>by
  refine ay.trans (σ1:=⟨σ.env,σ.aa.set j .gone⟩) ?_ (ay.vD l ⟨σ.env,σ.aa.set j .gone⟩);intro os γ0 γ _ hs hf;exact⟨γ,rfl,rfl,hs.kill j,hf.trans (Fr.kill _ _ j)⟩
def ay.canon{n0:Nat}{σ:St}{F:List (Nat×Ob)}(h:Fc F σ.aa):ay n0 σ ⟨σ.env,T.canon F σ.aa.length⟩:=by
 rw[<- aj7 h];exact ay.vD _ σ
section
variable {F G:List (Nat×Ob)} {n:Nat}
def FK.mono(h:FK F n){k:Nat}(hk:n<=k):FK F k:=⟨λb hb=>Nat.lt_of_lt_of_le (h.lt b hb) hk,h.nd⟩
def FK.perm(h:FK F n)(hp:F.Perm G):FK G n:=⟨λb hb=>h.lt b (hp.mem_iff.2 hb),((hp.map (·.1)).nodup_iff).1 h.nd⟩
def FK.add(h:FK F n){i:Nat}{x:Ob}(h1:n<=i){k:Nat}(h2:i<k):FK ((i,x)::F) k:=⟨λb hb=>by
 rcases cu.1 hb with rfl|hb
 ·exact h2
 ·have:=h.lt b hb;omega,by
 rw[dK,uH];exact⟨λhh=>by obtain⟨b,hb,e⟩:=cC.1 hh;have:=h.lt b hb;omega,h.nd⟩⟩
def FK.keys(h:FK F n)(hk:G.map (·.1)=F.map (·.1)):FK G n:=⟨λb hb=>by
 have:b.1∈F.map (·.1):=by rw[<- hk];exact cC.2 ⟨b,hb,rfl⟩
 obtain⟨c,hc,e⟩:=cC.1 this;rw[<- e];exact h.lt c hc,by rw[hk];exact h.nd⟩
def FK.drop{b:Nat×Ob}(h:FK (b::F) n):FK F n:=⟨λc hc=>h.lt c (by simp[hc]),by have:=h.nd;rw[dK,uH]at this;exact this.2⟩
end
structure GS where
 n:Nat
 p:Nat
 R:List Rw
 k:Nat
end T

