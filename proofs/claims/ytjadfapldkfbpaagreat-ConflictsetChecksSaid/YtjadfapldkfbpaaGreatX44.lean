import Derived.Test.YtjadfapldkfbpaaGreatX42
set_option linter.all false
set_option maxHeartbeats 0
set_option maxRecDepth 20000
open Nat renaming zero_le→aF,not_lt_zero→mQ,eq_zero_or_pos→n7
open List renaming getElem_of_mem→ry,getD_eq_getElem?_getD→aG,getElem?_eq_getElem→bT,range→aZ,getElem?_map→b6,getElem?_range→lT,replicate→bG,ext_getElem?→jR,getElem?_replicate_of_lt→KD,getElem?_eq_none→ei,getElem?_set→cm,contains_iff_mem→qh,length_range→Ks,all_eq_true→gV,length_take→fy,append_assoc→cY,length_set→bw,take_length→sH
open Option renaming getD_some→k9,map_some→fE
open Int renaming eq_ofNat_of_zero_le→DY,toNat_natCast→ig
open Bool renaming true_and→eX,and_eq_true→bk
open Go Go.Am Go.Proofs
namespace T
def am1(m:ah)(a x b y:Int)(hm:VM m)(ha:eU m a x=true)(nJ:eU m b y=true):
  an Tryz.prog 118 [.agg (ao m),.agg [aaa a,aaa x],.agg [aaa b,aaa y]] [] (.lit (.bool (sV m a x b y))) []:=by
 have dh:=hm.ae;have hsw :∃A X B Y,eU m A X=true/\eU m B Y=true/\sV m a x b y=m.ae.any (pf m A X B Y)/\((b<a/\A=b/\X=y/\B=a/\Y=x)\/(¬ b<a/\A=a/\X=x/\B=b/\Y=y)):=by
  unfold sV;by_cases h:b<a
  ·exact⟨b,y,a,x,nJ,ha,by rw[if_pos h],.inl ⟨h,rfl,rfl,rfl,rfl⟩⟩
  ·exact⟨a,x,b,y,ha,nJ,by rw[if_neg h],.inr ⟨h,rfl,rfl,rfl,rfl⟩⟩
 obtain⟨A,X,B,Y,hA,hB,bY,gZ⟩:=hsw;generalize aj:sV m a x b y=res at *;refine an.aC 60 0 [.tmp 6] Tryz.func118 ?_;repeat'(first|((fail_if_success (first|refine dE 1 ?_|refine dF 1 ?_));refine Xr X0 ?_;intro K hK)|(refine hK _ ?_;clear hK K)|refine Xy ?_|fail)
 (refine Ms ?_);intro Q0 eA pT
 refine wa ⟨au [(3,.ptr 0 0 0),(4,.ptr 1 0 0),(5,.ptr 2 0 0)],[.var (ao m),.var [aaa A,aaa X],.var [aaa B,aaa Y]]⟩ eA ?_ (λkey=>?_);rotate_left
 ·(try clear eA)
  rcases gZ with⟨h,rfl,rfl,rfl,rfl⟩|⟨h,rfl,rfl,rfl,rfl⟩;all_goals
   ((repeat'(first|refine Va X0 ?_|(refine Xi ?_ ?_<;>try intro ht)|exact Xx|fail)))
   all_goals
    refine key _ ?_;exact Xv X0
 (try clear eA)
 try(try clear Q0)
 clear gZ;refine Va X0 ?_;refine aO (λi:Nat=>(⟨au [(3,.ptr 0 0 0),(4,.ptr 1 0 0),(5,.ptr 2 0 0),(7,aaa i)],[.var (ao m),.var [aaa A,aaa X],.var [aaa B,aaa Y]]⟩:St))
  (λi=>i<=m.ae.length/\∀ a,a<i->pf m A X B Y (m.ae.getD a default)=false) (λi=>m.ae.length-i) 0 ⟨aF _,λa ha=>absurd ha (mQ _)⟩ (Xv X0) ?_
 rintro i⟨hi,nD⟩Ql ak ar;by_cases hi':i<m.ae.length
 ·have wR:=aB (l:=m.ae) (i:=i) (d:=default) hi';have dJ:=jy hm.pr _ wR;have bE:pf m A X B Y (m.ae.getD i default)=false->∀ a,a<i+1->pf m A X B Y (m.ae.getD a default)=false:=λh a ha=>by
   by_cases e:a=i
   ·subst e;exact h
   ·exact nD a G3
  have ac':pf m A X B Y (m.ae.getD i default)=true->res=true:=λh=>by
   rw[bY];exact List.any_eq_true.2 ⟨_,wR,h⟩
  obtain⟨a1,a2,a3,a4⟩:=iv.1 hA;obtain⟨b1,b2,b3,b4⟩:=iv.1 hB;obtain⟨q1,q2,q3,q4,q5⟩:=m4 dJ;have Bv:=hm.opt _ (aB (l:=m.cls) (i:=A.toNat) (d:=default) G3);have qx:=hm.opt _ (aB (l:=m.cls) (i:=B.toNat) (d:=default) G3);have nL:=hm.cls;generalize bL:m.ae.getD i default=p at *;unfold pf o9 at ac';obtain⟨fs,sn,ru,aD⟩:=p;dsimp only at *;by_cases yu:fs=A/\sn=B
  ·obtain⟨rfl,rfl⟩:=yu;unfold pf o9 at bE;dsimp only at bE;generalize Ya:m.cls.getD fs.toNat default=CA at *;generalize hcB:m.cls.getD sn.toNat default=CB at *;obtain⟨e1,e2,e3⟩:=wz ⟨a3,a4⟩ ⟨b3,b4⟩ G3 G3;generalize eM:X*(CB.length:Int)=ix at *;have IG:((CA.length*CB.length:Nat):Int)=CA.length*CB.length:=G9;generalize hv:aD.getD (ix+Y).toNat 0=v at *;by_cases h3:v=1099511627776
   ·have hr:=ac' (decide_eq_true ⟨rfl,rfl,h3⟩);((repeat'(first|refine Va (X5 @bL @aQ.eq_1 @hcB @a9.eq_1 (X2 @eM @hv)) ?_|(refine Xi ?_ ?_<;>try intro ht)|exact Xx|fail)))
    all_goals
     repeat(refine Xu ?_)
     subst hr;refine Vb X0 ?_;exact aE rfl rfl
   ·have bE:=bE (decide_eq_false λh=>h3 h.2.2);((repeat'(first|refine Va (X5 @bL @aQ.eq_1 @hcB @a9.eq_1 (X2 @eM @hv)) ?_|(refine Xi ?_ ?_<;>try intro ht)|exact Xx|fail)))
    all_goals exact ak _ (i+1) ⟨G3,bE⟩ G3 (Xs false [0,1,2] X0)
  ·have bE:=bE (by unfold pf;exact decide_eq_false λh=>yu ⟨h.1,h.2.1⟩);((repeat'(first|refine Va (X2 @bL @aQ.eq_1) ?_|(refine V2 (X2 @bL @aQ.eq_1) ?_ ?_<;>try with_reducible intro hb)|(refine Xi ?_ ?_<;>try intro ht)|exact Xx|fail)))
   all_goals exact ak _ (i+1) ⟨G3,bE⟩ G3 (Xs false [0,1,2] X0)
 ·((repeat'(first|refine Va X0 ?_|(refine V2 X0 ?_ ?_<;>try with_reducible intro hb)|(refine Xi ?_ ?_<;>try intro ht)|exact Xx|fail)))
  refine ar _ _ rfl ?_;clear ak ar Ql;repeat(refine Xu ?_)
  have hr:res=false:=by
   rw[bY,List.any_eq_false];intro p hp;obtain⟨a,ha,rfl⟩:=ry hp;have:=nD a G3;rw[aG,bT ha,k9]at this;rw[this];simp
  subst hr;refine Vb X0 ?_;exact aE rfl rfl
def rf(m:ah)(g:List Int):List Bool:=(aZ m.cls.length).map λ(c:Nat)=>g.contains (c:Int)
def Ps(m:ah)(g:List Int):(rf m g).length=m.cls.length:=by simp[rf]
def am3{m:ah}(g:List Int){c:Nat}(h:c<m.cls.length):(rf m g).getD c false=g.contains (c:Int):=by
 unfold rf;rw[aG,b6,lT h];rfl
def am4(m:ah):rf m []=bG m.cls.length false:=by
 apply jR;intro j;unfold rf;rw[b6];by_cases h:j<m.cls.length
 ·rw[lT h,KD h];rfl
 ·rw[ei PX,ei PX];rfl
def adb{m:ah}(g:List Int){c:Nat}(h:c<m.cls.length):rf m (g++[(c:Int)])=(rf m g).set c true:=by
 apply jR;intro j;rw[cm,Ps];unfold rf;rw[b6,b6];by_cases hj:j<m.cls.length
 ·rw[lT hj,fE,fE];by_cases e:c=j
  ·subst e;rw[if_pos rfl,if_pos h];simp
  ·rw[if_neg e];congr 1;rw[Bool.eq_iff_iff,qh,qh,List.mem_append,List.mem_singleton];constructor
   ·rintro(h1|h1)
    ·exact h1
    ·omega
   ·exact .inl
 ·rw[ei PX];by_cases e:c=j
  ·subst e;omega
  ·rw[if_neg e];rfl
def lS(m:ah)(L:List (Int×Int)):List (List Bool):=(aZ m.cls.length).map λ(c:Nat)=>(aZ (m.cls.getD c default).length).map λ(o:Nat)=>L.any (jz (c:Int) (o:Int))
def DB(m:ah)(L:List (Int×Int)):(lS m L).length=m.cls.length:=by simp[lS]
def Kd{m:ah}(L:List (Int×Int)){c:Nat}(h:c<m.cls.length):(lS m L).getD c default=(aZ (m.cls.getD c default).length).map λ(o:Nat)=>L.any (jz (c:Int) (o:Int)):=by
 unfold lS;rw[aG,b6,lT h];rfl
def am5{m:ah}(L:List (Int×Int)){c o:Nat}(h:c<m.cls.length)(ho:o<(m.cls.getD c default).length):((lS m L).getD c default).getD o false=L.any (jz (c:Int) (o:Int)):=by
 rw[Kd L h,aG,b6,lT ho];rfl
def am6(m:ah):lS m []=m.cls.map λl=>bG l.length false:=by
 apply jR;intro j;unfold lS;rw[b6,b6];by_cases h:j<m.cls.length
 ·rw[lT h,bT h,fE,fE];congr 1;rw[aG,bT h,k9];apply jR;intro o;rw[b6];by_cases ho:o<m.cls[j].length
  ·rw[lT ho,KD ho];rfl
  ·rw[ei PX,ei PX];rfl
 ·rw[ei PX,ei G3];rfl
def am7{m:ah}(L:List (Int×Int)){c o:Nat}(h:c<m.cls.length)(ho:o<(m.cls.getD c default).length):
  lS m (L++[((c:Int),(o:Int))])=(lS m L).set c (((lS m L).getD c default).set o true):=by
 apply jR;intro j;rw[cm,DB,Kd L h];by_cases hj:j<m.cls.length
 ·have hg:∀ K,(lS m K)[j]?=some ((aZ (m.cls.getD j default).length).map λ(o:Nat)=>K.any (jz (j:Int) (o:Int))):=λK=>by
   unfold lS;rw[b6,lT hj];rfl
  rw[hg,hg];by_cases e:c=j
  ·subst e;rw[if_pos rfl,if_pos h];congr 1;apply jR;intro q;rw[cm,List.length_map,Ks,b6,b6];by_cases hq:q<(m.cls.getD c default).length
   ·rw[lT hq,fE,fE,List.any_append];by_cases e2:o=q
    ·subst e2;rw[if_pos rfl,if_pos ho];simp[jz]
    ·rw[if_neg e2];congr 1;have:jz (c:Int) (q:Int) ((c:Int),(o:Int))=false:=by
      unfold jz;rw[decide_eq_false_iff_not,Prod.mk.injEq];omega
     simp[this]
   ·rw[ei (by rw[Ks];omega)];by_cases e2:o=q
    ·subst e2;omega
    ·rw[if_neg e2];rfl
  ·rw[if_neg e];congr 2;funext q;rw[List.any_append];have:jz (j:Int) (q:Int) ((c:Int),(o:Int))=false:=by
    unfold jz;rw[decide_eq_false_iff_not,Prod.mk.injEq];omega
   simp[this]
 ·rw[ei (by rw[DB];omega)];by_cases e:c=j
  ·subst e;omega
  ·rw[if_neg e,ei (by rw[DB];omega)]
def ade{m:ah}{g:List Int}{l:List (Int×Int)}{k:Nat}{c o:Int}(h:l.getD k default=(c,o)):sX m g l k=(g.contains c&&eU m c o&&(l.take k).all (sW m (c,o))):=by unfold sX;rw[h]
def am8{l:List (Int×Int)}{k:Nat}{f:Int×Int->Bool}(hk:k<=l.length)(h:∀ j,j<k->f (l.getD j default)=true):(l.take k).all f=true:=by
 rw[gV];intro x hx;obtain⟨j,hj,rfl⟩:=ry hx;rw[fy]at hj;have:=h j G3;rw[aG,bT (show j<l.length by omega)]at this;rw[List.getElem_take];exact this
def am9{l:List (Int×Int)}{k j:Nat}{f:Int×Int->Bool}(hk:k<=l.length)(hj:j<k)(h:f (l.getD j default)=false):(l.take k).all f=false:=by
 refine all_false (x:=l.getD j default) ?_ h;rw[aG,bT (show j<l.length by omega),List.mem_take_iff_getElem];exact⟨j,G3,rfl⟩
def am'(cells:List (List (Int×Int)))(f:Int×Int->Bool):(cells.any λl=>l.any f)=cells.flatten.any f:=by
 induction cells with
 |nil=>rfl
 |cons x r ih=>rw[List.any_cons,List.flatten_cons,List.any_append,ih]
def ana{cells:List (List (Int×Int))}{a:Nat}(h:a<cells.length):(cells.take (a+1)).flatten=(cells.take a).flatten++cells.getD a default:=by
 rw[eJ h,List.flatten_append];simp
def ahL(m:ah)(x:Nd)(left:List (List Bool))(hm:VM m)(hf:fD m left)(sO:x.bh.length<9223372036854775808)(mW:x.cells.length<9223372036854775808)(adf:∀ l∈x.cells,l.length<9223372036854775808):
  an Tryz.prog 81 [.agg (ao m),.agg (az x),.tree 1 (rowsOf aT left)] [] (.lit (.bool (mG m x left))) []:=by
 have nL:=hm.cls;have zD:=hf.1;generalize aj:mG m x left=res;have Pt:=λh=>aj.symm.trans (YB (m:=m) (x:=x) (left:=left) h);have Pu:=λh=>aj.symm.trans (YC (m:=m) (x:=x) (left:=left) h);have Pv:=λh=>aj.symm.trans (YD (m:=m) (x:=x) (left:=left) h);have adg:=λh=>aj.symm.trans (YE (m:=m) (x:=x) (left:=left) h);have DC:=λh1 h2 h3 h4=>aj.symm.trans (YF (m:=m) (x:=x) (left:=left) h1 h2 h3 h4);obtain⟨xc,xk,xm,g,cells⟩:=x;dsimp only at sO mW adf Pt Pu Pv adg DC;refine an.aC 208 0 [.tmp 6] Tryz.func81 ?_;by_cases bx:cells.length<g.length;rotate_left
 ·have hr:=Pu bx;subst hr;((repeat'(first|refine Vb @az.eq_1 ?_|(refine Xi ?_ ?_<;>try intro ht)|exact Xx|fail)))
  exact aE rfl rfl
 ((repeat'(first|refine Va @az.eq_1 ?_|(refine Xi ?_ ?_<;>try intro ht)|exact Xx|fail)))
 have hN0:eC [(3,.arr 1 []),(0,.var (ao m)),(1,.var (az ⟨xc,xk,xm,g,cells⟩)),(2,.arr 1 (aX (bG m.cls.length false)))] [] [] [.var (ao m),.var (az ⟨xc,xk,xm,g,cells⟩),.arr 1 (aX (bG m.cls.length false)),.arr 1 []] :=
  ⟨G9,rfl,G9,(show([3,0,1,2]:List Nat).Nodup by decide)⟩
 refine aO (λz:Nat×List (List Bool)×List Ob×Nat×List (Nat×Nat)=>(⟨au [(2,.tree 1 (rowsOf aT left)),(3,.ptr 0 0 0),(4,.ptr 1 0 0),(7,.ref 2 1 0 m.cls.length),(8,.ref z.2.2.2.1 1 0 z.2.2.2.2.length),(9,aaa z.1)],z.2.2.1⟩:St))
  (λz=>z.1<=m.cls.length/\z.2.1=(lS m []).take z.1/\eC [(z.2.2.2.1,.arr 1 (rowsOf m9 z.2.2.2.2)),(0,.var (ao m)),(1,.var (az ⟨xc,xk,xm,g,cells⟩)),(2,.arr 1 (aX (bG m.cls.length false)))] z.2.2.2.2 z.2.1 z.2.2.1) (λz=>m.cls.length-z.1) (0,[],[.var (ao m),.var (az ⟨xc,xk,xm,g,cells⟩),.arr 1 (aX (bG m.cls.length false)),.arr 1 []],3,[]) ⟨aF _,rfl,hN0⟩ ?_ ?_
 ·refine ay.trans (ay.nil 8 1 (by simp only[Kc,simprocAttr]) Kq) ?_;exact Xv @az.eq_1
 rintro⟨i,S,os,oi,D⟩⟨hi,hS,hB⟩Ql ak ar;dsimp only at hi hS hB ⊢;have Bo:=hB.len;have fo:=hB.b0;have fm:=hB.b1;have fx:=hB.b2;dsimp only at fm fo fx;have bY:=DB m [];by_cases hi':i<m.cls.length
 ·have w5:S.length=i:=by rw[hS,fy];omega
  have cq:(lS m []).take (i+1)=S++[bG (m.cls.getD i default).length false]:=by
   rw[eJ G3,<- hS,am6,kU _ _ _ hi']
  have sh:=hm.opt _ (aB (l:=m.cls) (i:=i) (d:=default) hi');generalize aM:m.cls.getD i default=c at *;((repeat'(first|refine Va (X5 @fm @aM @a9.eq_1 @fo (X5 (bf fo) (gz fo) @Yh @cD (X3 @cY.{0} @List.length_append.{0} @bw.{0}))) ?_|(refine Xi ?_ ?_<;>try intro ht)|exact Xx|fail)))
  have fX:oi<os.length:=(List.getElem?_eq_some_iff.1 fo).1;have q8:=((hB.app [.arr 1 (aX (bG c.length false))]).add (kj _ _ _) (hB.fresh (Nat.le_refl _))).snoc;rw[List.length_replicate]at q8;obtain⟨qb,dV⟩:=q8.drop;refine ak _ (i+1,S++[bG c.length false],os.set oi .gone++[.arr 1 (aX (bG c.length false)),.arr 1 [[.ref os.length 1 0 c.length]],.arr 1 (rowsOf m9 (D++[(os.length,c.length)]))],os.length+2,D++[(os.length,c.length)]) ⟨Kw,cq.symm,?_⟩ Kw ?_
  ·have zZ:=(qb.other dV .gone).app [.arr 1 [[.ref os.length 1 0 c.length]],.arr 1 (rowsOf m9 (D++[(os.length,c.length)]))];have ane:=(qb.other dV .gone).fresh (p:=os.length+2) G9;rw[List.set_append_left _ _ fX,cY]at zZ;refine zZ.add ?_ ane;have vx:(os.set oi Ob.gone).length=os.length:=bw ..;rw[<- vx,nN];rfl
  ·exact Xv X0
 ·rw[List.take_of_length_le G3]at hS;subst hS;((repeat'(first|refine Va (X2 @fm @az.eq_1) ?_|(refine Xi ?_ ?_<;>try intro ht)|exact Xx|fail)))
  refine ar _ _ rfl ?_;clear ak ar Ql;repeat(refine Xu ?_)
  have uw:eC [(2,.arr 1 (aX (rf m []))),(oi,.arr 1 (rowsOf m9 D)),(0,.var (ao m)),(1,.var (az ⟨xc,xk,xm,g,cells⟩))] D (lS m []) os:=by
   rw[am4];have hp:[(oi,Ob.arr 1 (rowsOf m9 D)),(0,.var (ao m)),(1,.var (az ⟨xc,xk,xm,g,cells⟩)),(2,.arr 1 (aX (bG m.cls.length false)))].Perm [(2,.arr 1 (aX (bG m.cls.length false))),(oi,Ob.arr 1 (rowsOf m9 D)),(0,.var (ao m)),(1,.var (az ⟨xc,xk,xm,g,cells⟩))]:=List.perm_append_comm (l₁:=[_,_,_]) (l₂:=[_]);exact⟨λb hb=>hB.base b (hp.mem_iff.2 hb),hB.len,hB.row,(((hp.map (·.1)).append_right _).nodup_iff).1 hB.nd⟩
  have hD:D.length=m.cls.length:=by rw[Bo,bY]
  rw[hD];clear hB fo fm fx Bo;refine Va X0 ?_;refine aO (λz:Nat×List Ob=>(⟨au [(2,.tree 1 (rowsOf aT left)),(3,.ptr 0 0 0),(4,.ptr 1 0 0),(7,.ref 2 1 0 m.cls.length),(8,.ref oi 1 0 m.cls.length),(10,aaa z.1)],z.2⟩:St))
   (λz=>z.1<=g.length/\(∀ a,a<z.1->decide (0<=g.getD a 0/\g.getD a 0<m.cls.length/\(a=0\/g.getD (a-1) 0<g.getD a 0))=true)/\eC [(2,.arr 1 (aX (rf m (g.take z.1)))),(oi,.arr 1 (rowsOf m9 D)),(0,.var (ao m)),(1,.var (az ⟨xc,xk,xm,g,cells⟩))] D (lS m []) z.2) (λz=>g.length-z.1) (0,os) ⟨aF _,λa ha=>absurd ha (mQ _),uw⟩ (Xv X0) ?_
  rintro⟨i,te⟩⟨hi,eB,q8⟩Ql ak ar;dsimp only at hi eB q8 ⊢;have f2:=q8.b0;have fo:=q8.b1;have fm:=q8.b2;have fx:=q8.b3;dsimp only at f2 fo fm fx;by_cases hi':i<g.length
  ·have iJ:=CN (f:=λi=>decide (0<=g.getD i 0/\g.getD i 0<m.cls.length/\(i=0\/g.getD (i-1) 0<g.getD i 0))) hi';have bE:decide (0<=g.getD i 0/\g.getD i 0<m.cls.length/\(i=0\/g.getD (i-1) 0<g.getD i 0))=true->∀ a,a<i+1->decide (0<=g.getD a 0/\g.getD a 0<m.cls.length/\(a=0\/g.getD (a-1) 0<g.getD a 0))=true:=λh a ha=>by
    by_cases e:a=i
    ·subst e;exact h
    ·exact eB a G3
   have ke:0<i->((i:Int)-1).toNat=i-1/\i-1<g.length:=λh=>⟨G3,G3⟩;have eM:0<i->g.getD ((i:Int)-1).toNat 0=g.getD (i-1) 0:=λh=>by rw[(ke h).1]
   have cq:g.take (i+1)=g.take i++[g.getD i 0]:=eJ hi';generalize aM:g.getD i 0=c at *;generalize Ol:g.getD (i-1) 0=q at *;have iU:=Ps m (g.take i);by_cases aw:0<=c/\c<m.cls.length/\(i=0\/q<c)
   ·obtain⟨Px,zf,mY⟩:=aw;obtain⟨c,rfl⟩:=DY Px;rcases n7 i with h0|h0
    ·((repeat'(first|refine Va (X5 @az.eq_1 @fm @fx @aM (X3 @f2 @iU @wc)) ?_|(refine V2 (X5 @az.eq_1 @fm @fx @aM (X3 @f2 @iU @wc)) ?_ ?_<;>try with_reducible intro hb)|(refine Xi ?_ ?_<;>try intro ht)|exact Xx|fail)))
     refine ak _ (i+1,te.set 2 (.arr 1 (aX ((rf m (g.take i)).set c true)))) ⟨Kw,bE (decide_eq_true ⟨Px,zf,mY⟩),?_⟩ Kw (Xv @az.eq_1);dsimp only;rw[cq,adb _ G3];exact q8.put _
    ·have eM:=eM h0;obtain⟨JG,yu⟩:=ke h0;((repeat'(first|refine Va (X5 @az.eq_1 @fm @fx @aM (X4 @f2 @iU @wc @eM)) ?_|(refine V2 (X5 @az.eq_1 @fm @fx @aM (X4 @f2 @iU @wc @eM)) ?_ ?_<;>try with_reducible intro hb)|(refine Xi ?_ ?_<;>try intro ht)|exact Xx|fail)))
     refine ak _ (i+1,te.set 2 (.arr 1 (aX ((rf m (g.take i)).set c true)))) ⟨Kw,bE (decide_eq_true ⟨Px,zf,mY⟩),?_⟩ Kw (Xv @az.eq_1);dsimp only;rw[cq,adb _ G3];exact q8.put _
   ·have hr:=Pt (iJ (decide_eq_false aw));rcases n7 i with h0|h0
    ·((repeat'(first|refine Va (X5 @az.eq_1 @fm @fx @aM (X2 @f2 @iU)) ?_|(refine V2 (X5 @az.eq_1 @fm @fx @aM (X2 @f2 @iU)) ?_ ?_<;>try with_reducible intro hb)|(refine Xi ?_ ?_<;>try intro ht)|exact Xx|fail)))
     all_goals
      repeat(refine Xu ?_)
      ((repeat'(first|refine Vb X0 ?_|fail)))
      exact aE rfl (by rw[hr])
    ·have eM:=eM h0;obtain⟨JG,yu⟩:=ke h0;((repeat'(first|refine Va (X5 @az.eq_1 @fm @fx @aM (X3 @f2 @iU @eM)) ?_|(refine V2 (X5 @az.eq_1 @fm @fx @aM (X3 @f2 @iU @eM)) ?_ ?_<;>try with_reducible intro hb)|(refine Xi ?_ ?_<;>try intro ht)|exact Xx|fail)))
     all_goals
      repeat(refine Xu ?_)
      ((repeat'(first|refine Vb X0 ?_|fail)))
      exact aE rfl (by rw[hr])
  obtain rfl:i=g.length:=G3;have Bk:CM m g=true:=A3.2 eB;have uc:=Yz Bk;rw[sH]at *;clear eB Pt Pu;have DC:=DC Bk bx;((repeat'(first|refine Va (X2 @fx @az.eq_1) ?_|(refine V2 (X2 @fx @az.eq_1) ?_ ?_<;>try with_reducible intro hb)|(refine Xi ?_ ?_<;>try intro ht)|exact Xx|fail)))
  refine ar _ _ rfl ?_;clear ak ar Ql;repeat(refine Xu ?_)
  clear fm fx f2 fo uw;refine Va X0 ?_;refine aO (λz:Nat×List Ob=>(⟨au [(2,.tree 1 (rowsOf aT left)),(3,.ptr 0 0 0),(4,.ptr 1 0 0),(7,.ref 2 1 0 m.cls.length),(8,.ref oi 1 0 m.cls.length),(12,aaa z.1)],z.2⟩:St))
   (λz=>z.1<=cells.length/\(∀ a,a<z.1->qM m g (cells.getD a default)=true)/\eC [(2,.arr 1 (aX (rf m g))),(oi,.arr 1 (rowsOf m9 D)),(0,.var (ao m)),(1,.var (az ⟨xc,xk,xm,g,cells⟩))] D (lS m (cells.take z.1).flatten) z.2) (λz=>cells.length-z.1) (0,te) ⟨aF _,λa ha=>absurd ha (mQ _),q8⟩ (Xv X0) ?_
  clear q8 te;rintro⟨a,eD⟩⟨ha,q6,z3⟩Ql ak ar;dsimp only at ha q6 z3 ⊢;have fx:=z3.b3;dsimp only at fx;by_cases m7:a<cells.length
  ·have bJ:=aB (l:=cells) (i:=a) (d:=default) m7;have vA:=adf _ bJ;have iJ:qM m g (cells.getD a default)=false->false=res:=λh=>(Pv (all_false bJ h)).symm;have cq:=ana m7;have bE:qM m g (cells.getD a default)=true->∀ b,b<a+1->qM m g (cells.getD b default)=true:=λh b hb=>by
    by_cases e:b=a
    ·subst e;exact h
    ·exact q6 b G3
   generalize dI:cells.getD a default=l at *;generalize (cells.take a).flatten=L0 at *;((repeat'(first|refine Va (X3 @fx @az.eq_1 @dI) ?_|(refine Xi ?_ ?_<;>try intro ht)|exact Xx|fail)))
   refine aO (λz:Nat×List Ob=>(⟨au [(2,.tree 1 (rowsOf aT left)),(3,.ptr 0 0 0),(4,.ptr 1 0 0),(7,.ref 2 1 0 m.cls.length),(8,.ref oi 1 0 m.cls.length),(12,aaa a),(13,.tree 2 (rowsOf aK l)),(14,aaa z.1)],z.2⟩:St))
    (λz=>z.1<=l.length/\(∀ b,b<z.1->sX m g l b=true)/\eC [(2,.arr 1 (aX (rf m g))),(oi,.arr 1 (rowsOf m9 D)),(0,.var (ao m)),(1,.var (az ⟨xc,xk,xm,g,cells⟩))] D (lS m (L0++l.take z.1)) z.2) (λz=>l.length-z.1) (0,eD) ⟨aF _,λa ha=>absurd ha (mQ _),by rw[List.take_zero,List.append_nil];exact z3⟩ (Xv X0) ?_
   clear z3 fx;rintro⟨k,os3⟩⟨hk,Ke,qb⟩cL a7 ba;dsimp only at hk Ke qb ⊢;have f2:=qb.b0;have fo:=qb.b1;have fm:=qb.b2;have fx:=qb.b3;dsimp only at f2 fo fm fx;by_cases aL:k<l.length
   ·have ss:sX m g l k=false->false=res:=λh=>iJ (CN aL h);have JA:L0++l.take (k+1)=L0++l.take k++[l.getD k default]:=by rw[eJ aL,cY]
    have sr:sX m g l k=true->∀ b,b<k+1->sX m g l b=true:=λh b hb=>by
     by_cases e:b=k
     ·subst e;exact h
     ·exact Ke b G3
    rcases g9:l.getD k default with⟨c,o⟩;rw[g9]at JA;rw[ade g9]at ss sr;have cU:=E3 m c o;have iU:=Ps m g;cases hb:eU m c o
    ·rw[hb]at cU;have hr:=ss (by rw[hb];simp);((repeat'(first|refine Vc (X5 @az.eq_1 @fm @fx @g9 @aK.eq_1) cU ?_|(refine Xi ?_ ?_<;>try intro ht)|exact Xx|fail)))
     all_goals
      repeat(refine Xu ?_)
      refine Vb X0 ?_;exact aE rfl (by rw[hr])
    rw[hb]at cU;obtain⟨h01,h02,h03,h04⟩:=iv.1 hb;obtain⟨c,rfl⟩:=DY h01;obtain⟨o,rfl⟩:=DY h03;rw[ig]at h04;have Kf:=am3 (m:=m) g (c:=c) G3;cases iV:g.contains (c:Int)
    ·have hr:=ss (by rw[iV];rfl);rw[iV]at Kf;((repeat'(first|refine Vc (X5 @az.eq_1 @fm @fx @g9 (X4 @aK.eq_1 @f2 @iU @Kf)) cU ?_|(refine Xi ?_ ?_<;>try intro ht)|exact Xx|fail)))
     all_goals
      repeat(refine Xu ?_)
      refine Vb X0 ?_;exact aE rfl (by rw[hr])
    rw[iV]at Kf;rw[hb,iV,eX,eX]at ss sr;have bY:=DB m (L0++l.take k);have yJ:=IL qb (j:=c) G3;obtain⟨bj,cZ⟩:=qb.row c G3;have z4:((lS m (L0++l.take k)).getD c default).length=(m.cls.getD c default).length:=by rw[Kd _ G3];simp
    have zZ:=qb.setRow (j:=c) G3 (r:=((lS m (L0++l.take k)).getD c default).set o true) (bw ..);rw[<- am7 _ G3 G3,<- JA]at zZ;generalize sS:(lS m (L0++l.take k)).getD c default=row at *;generalize hdd:D.getD c default=dd at *;obtain⟨dp,dn⟩:=dd;dsimp only at bj yJ zZ cZ;((repeat'(first|refine Vc (X5 @az.eq_1 @fm @fx @g9 (X5 @aK.eq_1 @f2 @iU @Kf (X5 @fo @yJ @bj @z4 @wc))) cU ?_|(refine Xi ?_ ?_<;>try intro ht)|exact Xx|fail)))
    generalize os3.set dp (.arr 1 (aX (row.set o true)))=os4 at *;have fm:=zZ.b2;have fx:=zZ.b3;dsimp only at fm fx;refine aO (λz:Nat=>(⟨au [(2,.tree 1 (rowsOf aT left)),(3,.ptr 0 0 0),(4,.ptr 1 0 0),(7,.ref 2 1 0 m.cls.length),(8,.ref oi 1 0 m.cls.length),(12,aaa a),(13,.tree 2 (rowsOf aK l)),(14,aaa k),(15,aaa z)],os4⟩:St))
     (λz=>z<=k/\∀ b,b<z->sW m (c,o) (l.getD b default)=true) (λz=>k-z) 0 ⟨aF _,λa ha=>absurd ha (mQ _)⟩ (Xv X0) ?_
    rintro j⟨hj,kH⟩kX fJ eR;by_cases dx:j<k
    ·have Py:sW m (c,o) (l.getD j default)=false->false=res:=λh=>ss (am9 hk dx h);have Kg:sW m (c,o) (l.getD j default)=true->∀ b,b<j+1->sW m (c,o) (l.getD b default)=true:=λh b hb=>by
      by_cases e:b=j
      ·subst e;exact h
      ·exact kH b G3
     have Fb:=Ke j dx;rcases tJ:l.getD j default with⟨d,p⟩;rw[tJ]at Py Kg;rw[ade tJ,bk,bk]at Fb;have hex:=am1 m d p c o hm Fb.1.2 hb;by_cases Pz:d=c
     ·subst Pz;((repeat'(first|refine Va (X5 @az.eq_1 @g9 @tJ @aK.eq_1 @bne_self_eq_false.{0}) ?_|(refine Xi ?_ ?_<;>try intro ht)|exact Xx|fail)))
      exact fJ _ (j+1) ⟨G3,Kg (by simp[sW])⟩ G3 (Xv X0)
     ·have ani:sW m ((c:Int),(o:Int)) (d,p)=sV m d p c o:=by
       unfold sW;rw[decide_eq_false (λh=>Pz h.symm),Bool.false_or];exact ag6 (λh=>Pz h.symm)
      rw[ani]at Py Kg;cases bu:sV m d p c o
      ·have hr:=Py bu;rw[bu]at hex;((repeat'(first|refine Vc (X5 @az.eq_1 @g9 @tJ @aK.eq_1 @fm) hex ?_|(refine V2 (X5 @az.eq_1 @g9 @tJ @aK.eq_1 @fm) ?_ ?_<;>try with_reducible intro hb)|(refine Xi ?_ ?_<;>try intro ht)|exact Xx|fail)))
       all_goals
        repeat(refine Xu ?_)
        refine Vb X0 ?_;exact aE rfl (by rw[hr])
      ·rw[bu]at hex;((repeat'(first|refine Vc (X5 @az.eq_1 @g9 @tJ @aK.eq_1 @fm) hex ?_|(refine V2 (X5 @az.eq_1 @g9 @tJ @aK.eq_1 @fm) ?_ ?_<;>try with_reducible intro hb)|(refine Xi ?_ ?_<;>try intro ht)|exact Xx|fail)))
       exact fJ _ (j+1) ⟨G3,Kg bu⟩ G3 (Xv X0)
    ·obtain rfl:j=k:=G3;((repeat'(first|refine Va X0 ?_|(refine V2 X0 ?_ ?_<;>try with_reducible intro hb)|(refine Xi ?_ ?_<;>try intro ht)|exact Xx|fail)))
     refine eR _ _ rfl ?_;clear fJ eR kX;repeat(refine Xu ?_)
     refine Va X0 ?_;exact a7 _ (j+1,os4) ⟨Kw,sr (am8 hk kH),zZ⟩ Kw (Xv X0)
   ·obtain rfl:k=l.length:=G3;((repeat'(first|refine Va X0 ?_|(refine Xi ?_ ?_<;>try intro ht)|exact Xx|fail)))
    refine ba _ _ rfl ?_;clear a7 ba cL;repeat(refine Xu ?_)
    refine Va X0 ?_;rw[sH,<- cq]at qb;exact ak _ (a+1,os3) ⟨Kw,bE (A3.2 Ke),qb⟩ Kw (Xv X0)
  obtain rfl:a=cells.length:=G3;have anj:cells.all (qM m g)=true:=by
   rw[gV];intro c hc;obtain⟨b,hb,rfl⟩:=ry hc;have:=q6 b hb;rwa [aG,bT hb]at this
  rw[sH]at *;clear q6 Pv;have DC:=DC anj;((repeat'(first|refine Va (X2 @fx @az.eq_1) ?_|(refine Xi ?_ ?_<;>try intro ht)|exact Xx|fail)))
  refine ar _ _ rfl ?_;clear ak ar Ql;repeat(refine Xu ?_)
  have fo:=z3.b1;have fm:=z3.b2;dsimp only at fo fm;have bY:=DB m cells.flatten;refine Va X0 ?_;refine aO (λi:Nat=>(⟨au [(2,.tree 1 (rowsOf aT left)),(3,.ptr 0 0 0),(4,.ptr 1 0 0),(7,.ref 2 1 0 m.cls.length),(8,.ref oi 1 0 m.cls.length),(16,aaa i)],eD⟩:St))
   (λi=>i<=g.length/\∀ a,a<i->ue left cells (g.getD a 0)=true) (λi=>g.length-i) 0 ⟨aF _,λa ha=>absurd ha (mQ _)⟩ (Xv X0) ?_
  rintro i⟨hi,eB⟩Ql ak ar;by_cases hi':i<g.length
  ·have bJ:=aB (l:=g) (i:=i) (d:=0) hi';have iJ:ue left cells (g.getD i 0)=false->false=res:=λh=>(adg (all_false bJ h)).symm;have ln:=uc _ bJ;have bE:ue left cells (g.getD i 0)=true->∀ a,a<i+1->ue left cells (g.getD a 0)=true:=λh a ha=>by
    by_cases e:a=i
    ·subst e;exact h
    ·exact eB a G3
   generalize aM:g.getD i 0=c at *;obtain⟨c,rfl⟩:=DY ln.1;have lr:c<m.cls.length:=G3;have Dk:=hf.row hm _ (aB (l:=left) (i:=c) (d:=default) G3);have vC:=hf.2 c G3;unfold ue at iJ bE;rw[ig]at iJ bE;have yJ:=IL z3 (j:=c) G3;obtain⟨bj,cZ⟩:=z3.row c G3;have z4:((lS m cells.flatten).getD c default).length=(m.cls.getD c default).length:=by rw[Kd _ G3];simp
   have DD:=λo=>am5 (m:=m) cells.flatten (o:=o) lr;rw[<- vC]at z4 DD;generalize cB:left.getD c default=row at *;generalize hdd:D.getD c default=dd at *;obtain⟨dp,dn⟩:=dd;dsimp only at bj yJ cZ;generalize sS:(lS m cells.flatten).getD c default=aoL at *;((repeat'(first|refine Va (X5 @az.eq_1 @aM @fx @fo (X2 @yJ @z4)) ?_|(refine Xi ?_ ?_<;>try intro ht)|exact Xx|fail)))
   refine aO (λo:Nat=>(⟨au [(2,.tree 1 (rowsOf aT left)),(3,.ptr 0 0 0),(4,.ptr 1 0 0),(7,.ref 2 1 0 m.cls.length),(8,.ref oi 1 0 m.cls.length),(16,aaa i),(17,aaa c),(18,aaa o)],eD⟩:St))
    (λo=>o<=row.length/\∀ a,a<o->(!row.getD a false||cells.any λl=>l.any (jz c a))=true) (λo=>row.length-o) 0 ⟨aF _,λa ha=>absurd ha (mQ _)⟩ (Xv @az.eq_1) ?_
   rintro o⟨ho,Gl⟩cL a7 ba;by_cases cy:o<row.length
   ·have ss:=λh=>iJ (CN (f:=λo:Nat=>!row.getD o false||cells.any λl=>l.any (jz c o)) cy h);have sr:(!row.getD o false||cells.any λl=>l.any (jz c o))=true->∀ a,a<o+1->(!row.getD a false||cells.any λl=>l.any (jz c a))=true:=λh a ha=>by
     by_cases e:a=o
     ·subst e;exact h
     ·exact Gl a G3
    have DD:=DD o cy;rw[<- am']at DD;generalize fW:row.getD o false=b at *;generalize cells.any (λl=>l.any (jz c o))=Oq at *;cases b
    ·((repeat'(first|refine Va (X5 @az.eq_1 @aT.eq_1 @cB @fW (X4 @fo @yJ @bj @z4)) ?_|(refine Xi ?_ ?_<;>try intro ht)|exact Xx|fail)))
     exact a7 _ (o+1) ⟨G3,sr rfl⟩ G3 (Xv @az.eq_1)
    ·cases Oq
     ·have hr:=ss rfl;((repeat'(first|refine Va (X5 @az.eq_1 @aT.eq_1 @cB @fW (X5 @fo @yJ @bj @z4 @DD)) ?_|(refine Xi ?_ ?_<;>try intro ht)|exact Xx|fail)))
      all_goals
       repeat(refine Xu ?_)
       refine Vb X0 ?_;exact aE rfl (by rw[hr])
     ·((repeat'(first|refine Va (X5 @az.eq_1 @aT.eq_1 @cB @fW (X5 @fo @yJ @bj @z4 @DD)) ?_|(refine Xi ?_ ?_<;>try intro ht)|exact Xx|fail)))
      exact a7 _ (o+1) ⟨G3,sr rfl⟩ G3 (Xv @az.eq_1)
   ·obtain rfl:o=row.length:=G3;((repeat'(first|refine Va (X4 @fo @yJ @bj @z4) ?_|(refine Xi ?_ ?_<;>try intro ht)|exact Xx|fail)))
    refine ba _ _ rfl ?_;clear a7 ba cL;repeat(refine Xu ?_)
    refine Va @az.eq_1 ?_;exact ak _ (i+1) ⟨G3,bE (A3.2 Gl)⟩ G3 (Xv X0)
  ·obtain rfl:i=g.length:=G3;have hr:=DC (by
    rw[gV];intro c hc;obtain⟨a,ha,rfl⟩:=ry hc;have:=eB a ha;rwa [aG,bT ha]at this)
   ((repeat'(first|refine Va (X2 @fx @az.eq_1) ?_|(refine Xi ?_ ?_<;>try intro ht)|exact Xx|fail)))
   refine ar _ _ rfl ?_;clear ak ar Ql;repeat(refine Xu ?_)
   refine Vb X0 ?_;exact aE rfl (by rw[hr])
end T

