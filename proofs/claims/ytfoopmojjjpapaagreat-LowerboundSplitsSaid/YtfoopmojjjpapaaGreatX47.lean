import Derived.Test.YtfoopmojjjpapaaGreatX42
import Derived.Test.YtfoopmojjjpapaaGreatX46
set_option linter.all false
set_option maxHeartbeats 0
set_option maxRecDepth 20000
open Nat renaming zero_le→aP,not_lt_zero→my,eq_zero_or_pos→pD
open Bool renaming not_true→iH,true_and→ic,and_eq_true→bc
open List renaming getElem_of_mem→kr,getD_eq_getElem?_getD→ay,getElem?_eq_getElem→bx,all_eq_true→gA,length_take→e9,replicate→aK,append_assoc→bH,length_set→bJ,take_length→xd
open Int renaming eq_ofNat_of_zero_le→Hm,toNat_natCast→dg
open Go Go.Am Go.Proofs
namespace T
def ae7{m:ah}{rounds:Int}{P:List Nd}(hP:PB P)(hd:Down P):∀ (r:List Int) (L:List (List Bool)) (lo:Nat),r.length<1000000->lo<P.length->Sg m rounds P r L lo ->
  Holds Tryz.prog 55 [.agg (aJ P),QM lo,.tree 1 (ints r)] [] (.lit (.bool true)) []
 |[],L,lo,hr,gI,h=>by
  unfold Sg at h;have bG:P.getD lo default=eP (jJ m L rounds):=h;have uW:=hP.z';have fY:ints []=([]:List (List AV)):=rfl;refine Holds.aM 49 0 [.tmp 6] Tryz.func55 ?_;((try revert hK K);(repeat'(first|refine Vb (X5 @aJ.eq_1 @bG @ax.eq_1 @eP.eq_1 @fY) ?_|(refine V2 (X5 @aJ.eq_1 @bG @ax.eq_1 @eP.eq_1 @fY) ?_ ?_<;>try with_reducible intro hb)|(refine Xi ?_ ?_<;>try intro ht)|refine VD ?_ ?_|exact Xx|fail))<;>try with_reducible intro K hK)
  all_goals try(exfalso;omega)
  all_goals exact aN rfl rfl
 |c::r,L,lo,hr,gI,h=>by
  unfold Sg at h;obtain⟨ks,h1,h2,h3⟩:=h;have bG:P.getD lo default=⟨c,ks,[],[],[]⟩:=h1;have uW:=hP.z';have hk0:=hP.kids _ (aF (l:=P) (i:=lo) (d:=default) gI);rw[bG]at hk0;dsimp only at hk0;have cV:r.length<1000000:=by simp at hr;omega
  have ih:=λo (ho:o<ks.length)=>by
   have Dz:=hd lo gI (ks.getD o 0) (by rw[h1];exact aF ho);have:=ae7 hP hd r (cM L c.toNat o) (ks.getD o 0).toNat cV Ey (h3 o ho);rw[Int.toNat_of_nonneg Ey]at this;exact this
  have da:ints (c::r)=[QM c]::ints r:=rfl;have KH:∀ (f:Operand->AV),Option.map f none=none:=λ_=>rfl;have KI:List.drop 1 ([AV.lit (.int .i64 c)]::ints r)=ints r:=rfl;have Ar:([AV.lit (.int .i64 c)]::ints r).length=(ints r).length+1:=rfl;have iW:(ints r).length=r.length:=by simp[ints]
  refine Holds.aM 49 0 [.tmp 6] Tryz.func55 ?_;((try revert hK K);(repeat'(first|refine Vb (X5 @aJ.eq_1 @bG @ax.eq_1 @da @bne_self_eq_false.{0}) ?_|(refine V2 (X5 @aJ.eq_1 @bG @ax.eq_1 @da @bne_self_eq_false.{0}) ?_ ?_<;>try with_reducible intro hb)|(refine Xi ?_ ?_<;>try intro ht)|refine VD ?_ ?_|exact Xx|fail))<;>try with_reducible intro K hK)
  all_goals try(exfalso;omega)
  refine bP (aD.uK 3 0 (cells:=aJ P) QI (by simp only[Kc,simprocAttr]) (by simp[aJ])) ?_;refine bP (aD.uK 7 1 (cells:=ax ⟨c,ks,[],[],[]⟩) QI (by simp only[Kc,simprocAttr]) (by simp[ax])) ?_;refine aQ (λi:Nat=>(⟨ar [(2,.tree 1 ([QM c]::ints r)),(3,.b6 (aJ P)),(7,.b6 (ax ⟨c,ks,[],[],[]⟩)),(8,QM i)],[]⟩:St)) (λi=>i<=ks.length) (λi=>ks.length-i) 0 (aP _) ?_ ?_
  ·exact Xs false [] (X2 @aJ.eq_1 @ax.eq_1)
  rintro i hi Ql ak aq;by_cases au:i<ks.length
  ·have GY:=ih i au;generalize BG:ks.getD i 0=k at *;((try revert hK K);(repeat'(first|refine Vc (X5 @aJ.eq_1 @ax.eq_1 @BG @iW (X4 @iH @KH @KI @Ar)) GY ?_|(refine V2 (X5 @aJ.eq_1 @ax.eq_1 @BG @iW (X4 @iH @KH @KI @Ar)) ?_ ?_<;>try with_reducible intro hb)|(refine Xi ?_ ?_<;>try intro ht)|refine VD ?_ ?_|exact Xx|fail))<;>try with_reducible intro K hK)
   exact ak _ (i+1) Ey Ey (Xs false [] (X2 @aJ.eq_1 @ax.eq_1))
  ·obtain rfl:i=ks.length:=Ey;((try revert hK K);(repeat'(first|refine Va @ax.eq_1 ?_|(refine V2 @ax.eq_1 ?_ ?_<;>try with_reducible intro hb)|(refine Xi ?_ ?_<;>try intro ht)|refine VD ?_ ?_|exact Xx|fail))<;>try with_reducible intro K hK)
   refine aq _ _ rfl ?_;clear ak aq Ql;repeat(first|refine Xu ?_)
   ((try revert hK K);(repeat'(first|refine Vb X0 ?_|(refine V2 X0 ?_ ?_<;>try with_reducible intro hb)|(refine Xi ?_ ?_<;>try intro ht)|refine VD ?_ ?_|exact Xx|fail))<;>try with_reducible intro K hK)
   exact aN rfl rfl
def apm(m:ah)(a x b y:Int)(hm:VM m)(ha:iD m a x=true)(l9:iD m b y=true):
  Holds Tryz.prog 85 [.agg (ao m),.agg [QM a,QM x],.agg [QM b,QM y]] [] (.lit (.bool (tH m a x b y))) []:=by
 have dG:=hm.ae;have Ky :∃A X B Y,iD m A X=true/\iD m B Y=true/\tH m a x b y=m.ae.any (px m A X B Y)/\((b<a/\A=b/\X=y/\B=a/\Y=x)\/(¬ b<a/\A=a/\X=x/\B=b/\Y=y)):=by
  unfold tH;by_cases h:b<a
  ·exact⟨b,y,a,x,l9,ha,by rw[if_pos h],.inl ⟨h,rfl,rfl,rfl,rfl⟩⟩
  ·exact⟨a,x,b,y,ha,l9,by rw[if_neg h],.inr ⟨h,rfl,rfl,rfl,rfl⟩⟩
 obtain⟨A,X,B,Y,hA,hB,bI,fX⟩:=Ky;generalize an:tH m a x b y=res at *;refine Holds.aM 60 0 [.tmp 6] Tryz.func85 ?_;repeat'(first|((fail_if_success (first|refine dW 1 ?_|refine dX 1 ?_));refine Xr X0 ?_;intro K hK)|(refine hK _ ?_;clear hK K)|refine Xy ?_|fail)
 (refine YO ?_);intro Q0 fY gu
 refine pH ⟨ar [(3,.ptr 0 0 0),(4,.ptr 1 0 0),(5,.ptr 2 0 0)],[.var (ao m),.var [QM A,QM X],.var [QM B,QM Y]]⟩ fY ?_ (λkey=>?_);rotate_left
 ·(try clear fY)
  rcases fX with⟨h,rfl,rfl,rfl,rfl⟩|⟨h,rfl,rfl,rfl,rfl⟩;all_goals
   ((repeat'(first|refine Va X0 ?_|(refine Xi ?_ ?_<;>try intro ht)|exact Xx|fail)))
   all_goals
    refine key _ ?_;exact Xv X0
 (try clear fY)
 try(try clear Q0)
 clear fX;refine Va X0 ?_;refine aQ (λi:Nat=>(⟨ar [(3,.ptr 0 0 0),(4,.ptr 1 0 0),(5,.ptr 2 0 0),(7,QM i)],[.var (ao m),.var [QM A,QM X],.var [QM B,QM Y]]⟩:St))
  (λi=>i<=m.ae.length/\∀ a,a<i->px m A X B Y (m.ae.getD a default)=false) (λi=>m.ae.length-i) 0 ⟨aP _,λa ha=>absurd ha (my _)⟩ (Xv X0) ?_
 rintro i⟨hi,iz⟩Ql ak aq;by_cases au:i<m.ae.length
 ·have Jf:=aF (l:=m.ae) (i:=i) (d:=default) au;have dY:=kC hm.pr _ Jf;have bL:px m A X B Y (m.ae.getD i default)=false->∀ a,a<i+1->px m A X B Y (m.ae.getD a default)=false:=λh a ha=>by
   by_cases e:a=i
   ·subst e;exact h
   ·exact iz a Ey
  have ae9:px m A X B Y (m.ae.getD i default)=true->res=true:=λh=>by
   rw[bI];exact List.any_eq_true.2 ⟨_,Jf,h⟩
  obtain⟨a1,a2,a3,a4⟩:=k0.1 hA;obtain⟨b1,b2,b3,b4⟩:=k0.1 hB;obtain⟨q1,q2,q3,q4,q5⟩:=rZ dY;have hl1:=hm.opt _ (aF (l:=m.cls) (i:=A.toNat) (d:=default) Ey);have tg:=hm.opt _ (aF (l:=m.cls) (i:=B.toNat) (d:=default) Ey);have np:=hm.cls;generalize cu:m.ae.getD i default=p at *;unfold px yR at ae9;obtain⟨fs,sn,ru,aB⟩:=p;dsimp only at *;by_cases zb:fs=A/\sn=B
  ·obtain⟨rfl,rfl⟩:=zb;unfold px yR at bL;dsimp only at bL;generalize hcA:m.cls.getD fs.toNat default=CA at *;generalize hcB:m.cls.getD sn.toNat default=CB at *;obtain⟨e1,e2,e3⟩:=BO ⟨a3,a4⟩ ⟨b3,b4⟩ Ey Ey;generalize kI:X*(CB.length:Int)=ix at *;have y8:((CA.length*CB.length:Nat):Int)=CA.length*CB.length:=G9;generalize hv:aB.getD (ix+Y).toNat 0=v at *;by_cases h3:v=1099511627776
   ·have hr:=ae9 (decide_eq_true ⟨rfl,rfl,h3⟩);((repeat'(first|refine Va (X5 @cu @aI.eq_1 @hcB @aT.eq_1 (X2 @kI @hv)) ?_|(refine Xi ?_ ?_<;>try intro ht)|exact Xx|fail)))
    all_goals
     repeat(refine Xu ?_)
     subst hr;refine Vb X0 ?_;exact aN rfl rfl
   ·have bL:=bL (decide_eq_false λh=>h3 h.2.2);((repeat'(first|refine Va (X5 @cu @aI.eq_1 @hcB @aT.eq_1 (X2 @kI @hv)) ?_|(refine Xi ?_ ?_<;>try intro ht)|exact Xx|fail)))
    all_goals exact ak _ (i+1) ⟨Ey,bL⟩ Ey (Xs false [0,1,2] X0)
  ·have bL:=bL (by unfold px;exact decide_eq_false λh=>zb ⟨h.1,h.2.1⟩);((repeat'(first|refine Va (X2 @cu @aI.eq_1) ?_|(refine V2 (X2 @cu @aI.eq_1) ?_ ?_<;>try with_reducible intro hb)|(refine Xi ?_ ?_<;>try intro ht)|exact Xx|fail)))
   all_goals exact ak _ (i+1) ⟨Ey,bL⟩ Ey (Xs false [0,1,2] X0)
 ·((repeat'(first|refine Va X0 ?_|(refine V2 X0 ?_ ?_<;>try with_reducible intro hb)|(refine Xi ?_ ?_<;>try intro ht)|exact Xx|fail)))
  refine aq _ _ rfl ?_;clear ak aq Ql;repeat(refine Xu ?_)
  have hr:res=false:=by
   rw[bI,List.any_eq_false];intro p hp;obtain⟨a,ha,rfl⟩:=kr hp;have:=iz a Ey;rw[ay,bx ha,Option.getD_some]at this;rw[this];simp
  subst hr;refine Vb X0 ?_;exact aN rfl rfl
def afa{m:ah}{g:List Int}{l:List (Int×Int)}{k:Nat}{c o:Int}(h:l.getD k default=(c,o)):tI m g l k=(g.contains c&&iD m c o&&(l.take k).all (tG m (c,o))):=by unfold tI;rw[h]
def apn{l:List (Int×Int)}{k:Nat}{f:Int×Int->Bool}(hk:k<=l.length)(h:∀ j,j<k->f (l.getD j default)=true):(l.take k).all f=true:=by
 rw[gA];intro x hx;obtain⟨j,hj,rfl⟩:=kr hx;rw[e9]at hj;have:=h j Ey;rw[ay,bx (show j<l.length by omega)]at this;rw[List.getElem_take];exact this
def apo{l:List (Int×Int)}{k j:Nat}{f:Int×Int->Bool}(hk:k<=l.length)(hj:j<k)(h:f (l.getD j default)=false):(l.take k).all f=false:=by
 refine all_false (x:=l.getD j default) ?_ h;rw[ay,bx (show j<l.length by omega),List.mem_take_iff_getElem];exact⟨j,Ey,rfl⟩
def apq(cells:List (List (Int×Int)))(f:Int×Int->Bool):(cells.any λl=>l.any f)=cells.flatten.any f:=by
 induction cells with
 |nil=>rfl
 |cons x r ih=>rw[List.any_cons,List.flatten_cons,List.any_append,ih]
def apr{cells:List (List (Int×Int))}{a:Nat}(h:a<cells.length):(cells.take (a+1)).flatten=(cells.take a).flatten++cells.getD a default:=by
 rw[ep h,List.flatten_append];simp
def aps(m:ah)(x:Nd)(left:List (List Bool))(hm:VM m)(hf:cK m left)(tv:x.a8.length<9223372036854775808)(mD:x.cells.length<9223372036854775808)(afb:∀ l∈x.cells,l.length<9223372036854775808):
  Holds Tryz.prog 54 [.agg (ao m),.agg (ax x),.tree 1 (rowsOf aA left)] [] (.lit (.bool (ma m x left))) []:=by
 have np:=hm.cls;have wM:=hf.1;generalize an:ma m x left=res;have Qp:=λh=>an.symm.trans (aax (m:=m) (x:=x) (left:=left) h);have Qq:=λh=>an.symm.trans (aay (m:=m) (x:=x) (left:=left) h);have Qr:=λh=>an.symm.trans (aaz (m:=m) (x:=x) (left:=left) h);have afc:=λh=>an.symm.trans (aaA (m:=m) (x:=x) (left:=left) h);have Eo:=λh1 h2 h3 h4=>an.symm.trans (aaB (m:=m) (x:=x) (left:=left) h1 h2 h3 h4);obtain⟨xc,xk,xm,g,cells⟩:=x;dsimp only at tv mD afb Qp Qq Qr afc Eo;refine Holds.aM 208 0 [.tmp 6] Tryz.func54 ?_;by_cases aX:cells.length<g.length;rotate_left
 ·have hr:=Qq aX;subst hr;((repeat'(first|refine Vb @ax.eq_1 ?_|(refine Xi ?_ ?_<;>try intro ht)|exact Xx|fail)))
  exact aN rfl rfl
 ((repeat'(first|refine Va @ax.eq_1 ?_|(refine Xi ?_ ?_<;>try intro ht)|exact Xx|fail)))
 have hN0:dI [(3,.arr 1 []),(0,.var (ao m)),(1,.var (ax ⟨xc,xk,xm,g,cells⟩)),(2,.arr 1 (aV (aK m.cls.length false)))] [] [] [.var (ao m),.var (ax ⟨xc,xk,xm,g,cells⟩),.arr 1 (aV (aK m.cls.length false)),.arr 1 []] :=
  ⟨G9,rfl,G9,(show([3,0,1,2]:List Nat).Nodup by decide)⟩
 refine aQ (λz:Nat×List (List Bool)×List Ob×Nat×List (Nat×Nat)=>(⟨ar [(2,.tree 1 (rowsOf aA left)),(3,.ptr 0 0 0),(4,.ptr 1 0 0),(7,.ref 2 1 0 m.cls.length),(8,.ref z.2.2.2.1 1 0 z.2.2.2.2.length),(9,QM z.1)],z.2.2.1⟩:St))
  (λz=>z.1<=m.cls.length/\z.2.1=(lP m []).take z.1/\dI [(z.2.2.2.1,.arr 1 (rowsOf nu z.2.2.2.2)),(0,.var (ao m)),(1,.var (ax ⟨xc,xk,xm,g,cells⟩)),(2,.arr 1 (aV (aK m.cls.length false)))] z.2.2.2.2 z.2.1 z.2.2.1) (λz=>m.cls.length-z.1) (0,[],[.var (ao m),.var (ax ⟨xc,xk,xm,g,cells⟩),.arr 1 (aV (aK m.cls.length false)),.arr 1 []],3,[]) ⟨aP _,rfl,hN0⟩ ?_ ?_
 ·refine aD.trans (aD.nil 8 1 (by simp only[Kc,simprocAttr]) Hg) ?_;exact Xv @ax.eq_1
 rintro⟨i,S,os,oi,D⟩⟨hi,hS,hB⟩Ql ak aq;dsimp only at hi hS hB ⊢;have B4:=hB.len;have fo:=hB.b0;have fm:=hB.b1;have fx:=hB.b2;dsimp only at fm fo fx;have bI:=En m [];by_cases au:i<m.cls.length
 ·have FQ:S.length=i:=by rw[hS,e9];omega
  have eu:(lP m []).take (i+1)=S++[aK (m.cls.getD i default).length false]:=by
   rw[ep Ey,<- hS,ao5,kD _ _ _ au]
  have p8:=hm.opt _ (aF (l:=m.cls) (i:=i) (d:=default) au);generalize a6:m.cls.getD i default=c at *;((repeat'(first|refine Va (X5 @fm @a6 @aT.eq_1 @fo (X5 (aR fo) (jm fo) @acf @bT (X3 @bH.{0} @List.length_append.{0} @bJ.{0}))) ?_|(refine Xi ?_ ?_<;>try intro ht)|exact Xx|fail)))
  have nN:oi<os.length:=(List.getElem?_eq_some_iff.1 fo).1;have qB:=((hB.app [.arr 1 (aV (aK c.length false))]).add (kF _ _ _) (hB.fresh (Nat.le_refl _))).snoc;rw[List.length_replicate]at qB;obtain⟨qE,eG⟩:=qB.drop;refine ak _ (i+1,S++[aK c.length false],os.set oi .gone++[.arr 1 (aV (aK c.length false)),.arr 1 [[.ref os.length 1 0 c.length]],.arr 1 (rowsOf nu (D++[(os.length,c.length)]))],os.length+2,D++[(os.length,c.length)]) ⟨Hi,eu.symm,?_⟩ Hi ?_
  ·have AI:=(qE.other eG .gone).app [.arr 1 [[.ref os.length 1 0 c.length]],.arr 1 (rowsOf nu (D++[(os.length,c.length)]))];have apu:=(qE.other eG .gone).fresh (p:=os.length+2) G9;rw[List.set_append_left _ _ nN,bH]at AI;refine AI.add ?_ apu;have pW:(os.set oi Ob.gone).length=os.length:=bJ ..;rw[<- pW,lf];rfl
  ·exact Xv X0
 ·rw[List.take_of_length_le Ey]at hS;subst hS;((repeat'(first|refine Va (X2 @fm @ax.eq_1) ?_|(refine Xi ?_ ?_<;>try intro ht)|exact Xx|fail)))
  refine aq _ _ rfl ?_;clear ak aq Ql;repeat(refine Xu ?_)
  have ve:dI [(2,.arr 1 (aV (rB m []))),(oi,.arr 1 (rowsOf nu D)),(0,.var (ao m)),(1,.var (ax ⟨xc,xk,xm,g,cells⟩))] D (lP m []) os:=by
   rw[ao3];have hp:[(oi,Ob.arr 1 (rowsOf nu D)),(0,.var (ao m)),(1,.var (ax ⟨xc,xk,xm,g,cells⟩)),(2,.arr 1 (aV (aK m.cls.length false)))].Perm [(2,.arr 1 (aV (aK m.cls.length false))),(oi,Ob.arr 1 (rowsOf nu D)),(0,.var (ao m)),(1,.var (ax ⟨xc,xk,xm,g,cells⟩))]:=List.perm_append_comm (l₁:=[_,_,_]) (l₂:=[_]);exact⟨λb hb=>hB.base b (hp.mem_iff.2 hb),hB.len,hB.row,(((hp.map (·.1)).append_right _).nodup_iff).1 hB.nd⟩
  have hD:D.length=m.cls.length:=by rw[B4,bI]
  rw[hD];clear hB fo fm fx B4;refine Va X0 ?_;refine aQ (λz:Nat×List Ob=>(⟨ar [(2,.tree 1 (rowsOf aA left)),(3,.ptr 0 0 0),(4,.ptr 1 0 0),(7,.ref 2 1 0 m.cls.length),(8,.ref oi 1 0 m.cls.length),(10,QM z.1)],z.2⟩:St))
   (λz=>z.1<=g.length/\(∀ a,a<z.1->decide (0<=g.getD a 0/\g.getD a 0<m.cls.length/\(a=0\/g.getD (a-1) 0<g.getD a 0))=true)/\dI [(2,.arr 1 (aV (rB m (g.take z.1)))),(oi,.arr 1 (rowsOf nu D)),(0,.var (ao m)),(1,.var (ax ⟨xc,xk,xm,g,cells⟩))] D (lP m []) z.2) (λz=>g.length-z.1) (0,os) ⟨aP _,λa ha=>absurd ha (my _),ve⟩ (Xv X0) ?_
  rintro⟨i,lI⟩⟨hi,dS,qB⟩Ql ak aq;dsimp only at hi dS qB ⊢;have f2:=qB.b0;have fo:=qB.b1;have fm:=qB.b2;have fx:=qB.b3;dsimp only at f2 fo fm fx;by_cases au:i<g.length
  ·have iF:=DT (f:=λi=>decide (0<=g.getD i 0/\g.getD i 0<m.cls.length/\(i=0\/g.getD (i-1) 0<g.getD i 0))) au;have bL:decide (0<=g.getD i 0/\g.getD i 0<m.cls.length/\(i=0\/g.getD (i-1) 0<g.getD i 0))=true->∀ a,a<i+1->decide (0<=g.getD a 0/\g.getD a 0<m.cls.length/\(a=0\/g.getD (a-1) 0<g.getD a 0))=true:=λh a ha=>by
    by_cases e:a=i
    ·subst e;exact h
    ·exact dS a Ey
   have gj:0<i->((i:Int)-1).toNat=i-1/\i-1<g.length:=λh=>⟨Ey,Ey⟩;have kI:0<i->g.getD ((i:Int)-1).toNat 0=g.getD (i-1) 0:=λh=>by rw[(gj h).1]
   have eu:g.take (i+1)=g.take i++[g.getD i 0]:=ep au;generalize a6:g.getD i 0=c at *;generalize M5:g.getD (i-1) 0=q at *;have iW:=Qm m (g.take i);by_cases az:0<=c/\c<m.cls.length/\(i=0\/q<c)
   ·obtain⟨Qs,xy,xz⟩:=az;obtain⟨c,rfl⟩:=Hm Qs;rcases pD i with h0|h0
    ·((repeat'(first|refine Va (X5 @ax.eq_1 @fm @fx @a6 (X3 @f2 @iW @uj)) ?_|(refine V2 (X5 @ax.eq_1 @fm @fx @a6 (X3 @f2 @iW @uj)) ?_ ?_<;>try with_reducible intro hb)|(refine Xi ?_ ?_<;>try intro ht)|exact Xx|fail)))
     refine ak _ (i+1,lI.set 2 (.arr 1 (aV ((rB m (g.take i)).set c true)))) ⟨Hi,bL (decide_eq_true ⟨Qs,xy,xz⟩),?_⟩ Hi (Xv @ax.eq_1);dsimp only;rw[eu,aeZ _ Ey];exact qB.put _
    ·have kI:=kI h0;obtain⟨zd,zb⟩:=gj h0;((repeat'(first|refine Va (X5 @ax.eq_1 @fm @fx @a6 (X4 @f2 @iW @uj @kI)) ?_|(refine V2 (X5 @ax.eq_1 @fm @fx @a6 (X4 @f2 @iW @uj @kI)) ?_ ?_<;>try with_reducible intro hb)|(refine Xi ?_ ?_<;>try intro ht)|exact Xx|fail)))
     refine ak _ (i+1,lI.set 2 (.arr 1 (aV ((rB m (g.take i)).set c true)))) ⟨Hi,bL (decide_eq_true ⟨Qs,xy,xz⟩),?_⟩ Hi (Xv @ax.eq_1);dsimp only;rw[eu,aeZ _ Ey];exact qB.put _
   ·have hr:=Qp (iF (decide_eq_false az));rcases pD i with h0|h0
    ·((repeat'(first|refine Va (X5 @ax.eq_1 @fm @fx @a6 (X2 @f2 @iW)) ?_|(refine V2 (X5 @ax.eq_1 @fm @fx @a6 (X2 @f2 @iW)) ?_ ?_<;>try with_reducible intro hb)|(refine Xi ?_ ?_<;>try intro ht)|exact Xx|fail)))
     all_goals
      repeat(refine Xu ?_)
      ((repeat'(first|refine Vb X0 ?_|fail)))
      exact aN rfl (by rw[hr])
    ·have kI:=kI h0;obtain⟨zd,zb⟩:=gj h0;((repeat'(first|refine Va (X5 @ax.eq_1 @fm @fx @a6 (X3 @f2 @iW @kI)) ?_|(refine V2 (X5 @ax.eq_1 @fm @fx @a6 (X3 @f2 @iW @kI)) ?_ ?_<;>try with_reducible intro hb)|(refine Xi ?_ ?_<;>try intro ht)|exact Xx|fail)))
     all_goals
      repeat(refine Xu ?_)
      ((repeat'(first|refine Vb X0 ?_|fail)))
      exact aN rfl (by rw[hr])
  obtain rfl:i=g.length:=Ey;have ze:DR m g=true:=B3.2 dS;have DC:=aav ze;rw[xd]at *;clear dS Qp Qq;have Eo:=Eo ze aX;((repeat'(first|refine Va (X2 @fx @ax.eq_1) ?_|(refine V2 (X2 @fx @ax.eq_1) ?_ ?_<;>try with_reducible intro hb)|(refine Xi ?_ ?_<;>try intro ht)|exact Xx|fail)))
  refine aq _ _ rfl ?_;clear ak aq Ql;repeat(refine Xu ?_)
  clear fm fx f2 fo ve;refine Va X0 ?_;refine aQ (λz:Nat×List Ob=>(⟨ar [(2,.tree 1 (rowsOf aA left)),(3,.ptr 0 0 0),(4,.ptr 1 0 0),(7,.ref 2 1 0 m.cls.length),(8,.ref oi 1 0 m.cls.length),(12,QM z.1)],z.2⟩:St))
   (λz=>z.1<=cells.length/\(∀ a,a<z.1->q8 m g (cells.getD a default)=true)/\dI [(2,.arr 1 (aV (rB m g))),(oi,.arr 1 (rowsOf nu D)),(0,.var (ao m)),(1,.var (ax ⟨xc,xk,xm,g,cells⟩))] D (lP m (cells.take z.1).flatten) z.2) (λz=>cells.length-z.1) (0,lI) ⟨aP _,λa ha=>absurd ha (my _),qB⟩ (Xv X0) ?_
  clear qB lI;rintro⟨a,os2⟩⟨ha,xI,AJ⟩Ql ak aq;dsimp only at ha xI AJ ⊢;have fx:=AJ.b3;dsimp only at fx;by_cases nQ:a<cells.length
  ·have bR:=aF (l:=cells) (i:=a) (d:=default) nQ;have xF:=afb _ bR;have iF:q8 m g (cells.getD a default)=false->false=res:=λh=>(Qr (all_false bR h)).symm;have eu:=apr nQ;have bL:q8 m g (cells.getD a default)=true->∀ b,b<a+1->q8 m g (cells.getD b default)=true:=λh b hb=>by
    by_cases e:b=a
    ·subst e;exact h
    ·exact xI b Ey
   generalize eY:cells.getD a default=l at *;generalize (cells.take a).flatten=L0 at *;((repeat'(first|refine Va (X3 @fx @ax.eq_1 @eY) ?_|(refine Xi ?_ ?_<;>try intro ht)|exact Xx|fail)))
   refine aQ (λz:Nat×List Ob=>(⟨ar [(2,.tree 1 (rowsOf aA left)),(3,.ptr 0 0 0),(4,.ptr 1 0 0),(7,.ref 2 1 0 m.cls.length),(8,.ref oi 1 0 m.cls.length),(12,QM a),(13,.tree 2 (rowsOf bf l)),(14,QM z.1)],z.2⟩:St))
    (λz=>z.1<=l.length/\(∀ b,b<z.1->tI m g l b=true)/\dI [(2,.arr 1 (aV (rB m g))),(oi,.arr 1 (rowsOf nu D)),(0,.var (ao m)),(1,.var (ax ⟨xc,xk,xm,g,cells⟩))] D (lP m (L0++l.take z.1)) z.2) (λz=>l.length-z.1) (0,os2) ⟨aP _,λa ha=>absurd ha (my _),by rw[List.take_zero,List.append_nil];exact AJ⟩ (Xv X0) ?_
   clear AJ fx;rintro⟨k,Kv⟩⟨hk,GU,qE⟩cR bg bm;dsimp only at hk GU qE ⊢;have f2:=qE.b0;have fo:=qE.b1;have fm:=qE.b2;have fx:=qE.b3;dsimp only at f2 fo fm fx;by_cases bj:k<l.length
   ·have sP:tI m g l k=false->false=res:=λh=>iF (DT bj h);have Jj:L0++l.take (k+1)=L0++l.take k++[l.getD k default]:=by rw[ep bj,bH]
    have sN:tI m g l k=true->∀ b,b<k+1->tI m g l b=true:=λh b hb=>by
     by_cases e:b=k
     ·subst e;exact h
     ·exact GU b Ey
    rcases gH:l.getD k default with⟨c,o⟩;rw[gH]at Jj;rw[afa gH]at sP sN;have cT:=Na m c o;have iW:=Qm m g;cases hb:iD m c o
    ·rw[hb]at cT;have hr:=sP (by rw[hb];simp);((repeat'(first|refine Vc (X5 @ax.eq_1 @fm @fx @gH @bf.eq_1) cT ?_|(refine Xi ?_ ?_<;>try intro ht)|exact Xx|fail)))
     all_goals
      repeat(refine Xu ?_)
      refine Vb X0 ?_;exact aN rfl (by rw[hr])
    rw[hb]at cT;obtain⟨h01,h02,h03,h04⟩:=k0.1 hb;obtain⟨c,rfl⟩:=Hm h01;obtain⟨o,rfl⟩:=Hm h03;rw[dg]at h04;have KJ:=ao2 (m:=m) g (c:=c) Ey;cases da:g.contains (c:Int)
    ·have hr:=sP (by rw[da];rfl);rw[da]at KJ;((repeat'(first|refine Vc (X5 @ax.eq_1 @fm @fx @gH (X4 @bf.eq_1 @f2 @iW @KJ)) cT ?_|(refine Xi ?_ ?_<;>try intro ht)|exact Xx|fail)))
     all_goals
      repeat(refine Xu ?_)
      refine Vb X0 ?_;exact aN rfl (by rw[hr])
    rw[da]at KJ;rw[hb,da,ic,ic]at sP sN;have bI:=En m (L0++l.take k);have zx:=JA qE (j:=c) Ey;obtain⟨bK,cV⟩:=qE.row c Ey;have AK:((lP m (L0++l.take k)).getD c default).length=(m.cls.getD c default).length:=by rw[KE _ Ey];simp
    have AI:=qE.setRow (j:=c) Ey (r:=((lP m (L0++l.take k)).getD c default).set o true) (bJ ..);rw[<- ao6 _ Ey Ey,<- Jj]at AI;generalize u4:(lP m (L0++l.take k)).getD c default=row at *;generalize hdd:D.getD c default=dd at *;obtain⟨dp,dn⟩:=dd;dsimp only at bK zx AI cV;((repeat'(first|refine Vc (X5 @ax.eq_1 @fm @fx @gH (X5 @bf.eq_1 @f2 @iW @KJ (X5 @fo @zx @bK @AK @uj))) cT ?_|(refine Xi ?_ ?_<;>try intro ht)|exact Xx|fail)))
    generalize Kv.set dp (.arr 1 (aV (row.set o true)))=qz at *;have fm:=AI.b2;have fx:=AI.b3;dsimp only at fm fx;refine aQ (λz:Nat=>(⟨ar [(2,.tree 1 (rowsOf aA left)),(3,.ptr 0 0 0),(4,.ptr 1 0 0),(7,.ref 2 1 0 m.cls.length),(8,.ref oi 1 0 m.cls.length),(12,QM a),(13,.tree 2 (rowsOf bf l)),(14,QM k),(15,QM z)],qz⟩:St))
     (λz=>z<=k/\∀ b,b<z->tG m (c,o) (l.getD b default)=true) (λz=>k-z) 0 ⟨aP _,λa ha=>absurd ha (my _)⟩ (Xv X0) ?_
    rintro j⟨hj,lz⟩mH gw fK;by_cases fI:j<k
    ·have Qt:tG m (c,o) (l.getD j default)=false->false=res:=λh=>sP (apo hk fI h);have KK:tG m (c,o) (l.getD j default)=true->∀ b,b<j+1->tG m (c,o) (l.getD b default)=true:=λh b hb=>by
      by_cases e:b=j
      ·subst e;exact h
      ·exact lz b Ey
     have Gb:=GU j fI;rcases uz:l.getD j default with⟨d,p⟩;rw[uz]at Qt KK;rw[afa uz,bc,bc]at Gb;have hex:=apm m d p c o hm Gb.1.2 hb;by_cases Qu:d=c
     ·subst Qu;((repeat'(first|refine Va (X5 @ax.eq_1 @gH @uz @bf.eq_1 @bne_self_eq_false.{0}) ?_|(refine Xi ?_ ?_<;>try intro ht)|exact Xx|fail)))
      exact gw _ (j+1) ⟨Ey,KK (by simp[tG])⟩ Ey (Xv X0)
     ·have apy:tG m ((c:Int),(o:Int)) (d,p)=tH m d p c o:=by
       unfold tG;rw[decide_eq_false (λh=>Qu h.symm),Bool.false_or];exact ajn (λh=>Qu h.symm)
      rw[apy]at Qt KK;cases aW:tH m d p c o
      ·have hr:=Qt aW;rw[aW]at hex;((repeat'(first|refine Vc (X5 @ax.eq_1 @gH @uz @bf.eq_1 @fm) hex ?_|(refine V2 (X5 @ax.eq_1 @gH @uz @bf.eq_1 @fm) ?_ ?_<;>try with_reducible intro hb)|(refine Xi ?_ ?_<;>try intro ht)|exact Xx|fail)))
       all_goals
        repeat(refine Xu ?_)
        refine Vb X0 ?_;exact aN rfl (by rw[hr])
      ·rw[aW]at hex;((repeat'(first|refine Vc (X5 @ax.eq_1 @gH @uz @bf.eq_1 @fm) hex ?_|(refine V2 (X5 @ax.eq_1 @gH @uz @bf.eq_1 @fm) ?_ ?_<;>try with_reducible intro hb)|(refine Xi ?_ ?_<;>try intro ht)|exact Xx|fail)))
       exact gw _ (j+1) ⟨Ey,KK aW⟩ Ey (Xv X0)
    ·obtain rfl:j=k:=Ey;((repeat'(first|refine Va X0 ?_|(refine V2 X0 ?_ ?_<;>try with_reducible intro hb)|(refine Xi ?_ ?_<;>try intro ht)|exact Xx|fail)))
     refine fK _ _ rfl ?_;clear gw fK mH;repeat(refine Xu ?_)
     refine Va X0 ?_;exact bg _ (j+1,qz) ⟨Hi,sN (apn hk lz),AI⟩ Hi (Xv X0)
   ·obtain rfl:k=l.length:=Ey;((repeat'(first|refine Va X0 ?_|(refine Xi ?_ ?_<;>try intro ht)|exact Xx|fail)))
    refine bm _ _ rfl ?_;clear bg bm cR;repeat(refine Xu ?_)
    refine Va X0 ?_;rw[xd,<- eu]at qE;exact ak _ (a+1,Kv) ⟨Hi,bL (B3.2 GU),qE⟩ Hi (Xv X0)
  obtain rfl:a=cells.length:=Ey;have Qa:cells.all (q8 m g)=true:=by
   rw[gA];intro c hc;obtain⟨b,hb,rfl⟩:=kr hc;have:=xI b hb;rwa [ay,bx hb]at this
  rw[xd]at *;clear xI Qr;have Eo:=Eo Qa;((repeat'(first|refine Va (X2 @fx @ax.eq_1) ?_|(refine Xi ?_ ?_<;>try intro ht)|exact Xx|fail)))
  refine aq _ _ rfl ?_;clear ak aq Ql;repeat(refine Xu ?_)
  have fo:=AJ.b1;have fm:=AJ.b2;dsimp only at fo fm;have bI:=En m cells.flatten;refine Va X0 ?_;refine aQ (λi:Nat=>(⟨ar [(2,.tree 1 (rowsOf aA left)),(3,.ptr 0 0 0),(4,.ptr 1 0 0),(7,.ref 2 1 0 m.cls.length),(8,.ref oi 1 0 m.cls.length),(16,QM i)],os2⟩:St))
   (λi=>i<=g.length/\∀ a,a<i->vc left cells (g.getD a 0)=true) (λi=>g.length-i) 0 ⟨aP _,λa ha=>absurd ha (my _)⟩ (Xv X0) ?_
  rintro i⟨hi,dS⟩Ql ak aq;by_cases au:i<g.length
  ·have bR:=aF (l:=g) (i:=i) (d:=0) au;have iF:vc left cells (g.getD i 0)=false->false=res:=λh=>(afc (all_false bR h)).symm;have qO:=DC _ bR;have bL:vc left cells (g.getD i 0)=true->∀ a,a<i+1->vc left cells (g.getD a 0)=true:=λh a ha=>by
    by_cases e:a=i
    ·subst e;exact h
    ·exact dS a Ey
   generalize a6:g.getD i 0=c at *;obtain⟨c,rfl⟩:=Hm qO.1;have kT:c<m.cls.length:=Ey;have ak8:=hf.row hm _ (aF (l:=left) (i:=c) (d:=default) Ey);have BF:=hf.2 c Ey;unfold vc at iF bL;rw[dg]at iF bL;have zx:=JA AJ (j:=c) Ey;obtain⟨bK,cV⟩:=AJ.row c Ey;have AK:((lP m cells.flatten).getD c default).length=(m.cls.getD c default).length:=by rw[KE _ Ey];simp
   have Ep:=λo=>ao4 (m:=m) cells.flatten (o:=o) kT;rw[<- BF]at AK Ep;generalize eV:left.getD c default=row at *;generalize hdd:D.getD c default=dd at *;obtain⟨dp,dn⟩:=dd;dsimp only at bK zx cV;generalize u4:(lP m cells.flatten).getD c default=ara at *;((repeat'(first|refine Va (X5 @ax.eq_1 @a6 @fx @fo (X2 @zx @AK)) ?_|(refine Xi ?_ ?_<;>try intro ht)|exact Xx|fail)))
   refine aQ (λo:Nat=>(⟨ar [(2,.tree 1 (rowsOf aA left)),(3,.ptr 0 0 0),(4,.ptr 1 0 0),(7,.ref 2 1 0 m.cls.length),(8,.ref oi 1 0 m.cls.length),(16,QM i),(17,QM c),(18,QM o)],os2⟩:St))
    (λo=>o<=row.length/\∀ a,a<o->(!row.getD a false||cells.any λl=>l.any (jy c a))=true) (λo=>row.length-o) 0 ⟨aP _,λa ha=>absurd ha (my _)⟩ (Xv @ax.eq_1) ?_
   rintro o⟨ho,Gj⟩cR bg bm;by_cases cz:o<row.length
   ·have sP:=λh=>iF (DT (f:=λo:Nat=>!row.getD o false||cells.any λl=>l.any (jy c o)) cz h);have sN:(!row.getD o false||cells.any λl=>l.any (jy c o))=true->∀ a,a<o+1->(!row.getD a false||cells.any λl=>l.any (jy c a))=true:=λh a ha=>by
     by_cases e:a=o
     ·subst e;exact h
     ·exact Gj a Ey
    have Ep:=Ep o cz;rw[<- apq]at Ep;generalize lX:row.getD o false=b at *;generalize cells.any (λl=>l.any (jy c o))=OK at *;cases b
    ·((repeat'(first|refine Va (X5 @ax.eq_1 @aA.eq_1 @eV @lX (X4 @fo @zx @bK @AK)) ?_|(refine Xi ?_ ?_<;>try intro ht)|exact Xx|fail)))
     exact bg _ (o+1) ⟨Ey,sN rfl⟩ Ey (Xv @ax.eq_1)
    ·cases OK
     ·have hr:=sP rfl;((repeat'(first|refine Va (X5 @ax.eq_1 @aA.eq_1 @eV @lX (X5 @fo @zx @bK @AK @Ep)) ?_|(refine Xi ?_ ?_<;>try intro ht)|exact Xx|fail)))
      all_goals
       repeat(refine Xu ?_)
       refine Vb X0 ?_;exact aN rfl (by rw[hr])
     ·((repeat'(first|refine Va (X5 @ax.eq_1 @aA.eq_1 @eV @lX (X5 @fo @zx @bK @AK @Ep)) ?_|(refine Xi ?_ ?_<;>try intro ht)|exact Xx|fail)))
      exact bg _ (o+1) ⟨Ey,sN rfl⟩ Ey (Xv @ax.eq_1)
   ·obtain rfl:o=row.length:=Ey;((repeat'(first|refine Va (X4 @fo @zx @bK @AK) ?_|(refine Xi ?_ ?_<;>try intro ht)|exact Xx|fail)))
    refine bm _ _ rfl ?_;clear bg bm cR;repeat(refine Xu ?_)
    refine Va @ax.eq_1 ?_;exact ak _ (i+1) ⟨Ey,bL (B3.2 Gj)⟩ Ey (Xv X0)
  ·obtain rfl:i=g.length:=Ey;have hr:=Eo (by
    rw[gA];intro c hc;obtain⟨a,ha,rfl⟩:=kr hc;have:=dS a ha;rwa [ay,bx ha]at this)
   ((repeat'(first|refine Va (X2 @fx @ax.eq_1) ?_|(refine Xi ?_ ?_<;>try intro ht)|exact Xx|fail)))
   refine aq _ _ rfl ?_;clear ak aq Ql;repeat(refine Xu ?_)
   refine Vb X0 ?_;exact aN rfl (by rw[hr])
def U6{m:ah}{P:List Nd}{Q:List Int->Prop}(h:gz m P Q 0 P.length []):∀ x left,x∈P->VM m->cK m left->Holds Tryz.prog 54 [.agg (ao m),.agg (ax x),.tree 1 (rowsOf aA left)] [] (.lit (.bool (ma m x left))) []:=λx left hx hv hf=>by
 obtain⟨i,hi,rfl⟩:=kr hx;have e:nd P i=P[i]:=by unfold nd;rw[ay,bx hi];rfl
 obtain⟨h1,h2,h3⟩:=h.flat i (aP _) hi;rw[e]at h1 h2 h3;exact aps m _ left hv hf (by rw[h2];show(0:Nat)<_;decide) (by rw[h3];show(0:Nat)<_;decide) (by rw[h3];simp)
def ahu{m:ah}{rounds:Int}{P:List Nd}{Q:List Int->Prop}{l:List Int}{L:List (List Bool)}{n:Int}(hm:VM m)(eY:l.length<1000000)(pX:gz m P Q 0 P.length [])(nm:P.length<=20000)(hc:mh m P=(n,true))(uM:Sg m rounds P l L 0):
  Holds Tryz.prog 28 [.agg (ao m),.agg (aJ P),.tree 1 (ints l)] [] (.lit (.bool true)) []:=by
 have hP:=pX.pb hm nm;have hd:=vj (gz.shaped pX nm);have h1:=U5 m P hm.mb hP (U6 pX);rw[U7,hc]at h1;have h2:=ae7 hP hd l L 0 eY pX.lt uM;rw[show((0:Nat):Int)=0 from rfl]at h2;refine Holds.aM 20 0 [.tmp 6] Tryz.func28 ?_;((try revert hK K);(repeat'(first|refine Vd (X2 @aJ.eq_1 @iH) (X2 h1 h2) ?_|(refine V2 (X2 @aJ.eq_1 @iH) ?_ ?_<;>try with_reducible intro hb)|(refine Xi ?_ ?_<;>try intro ht)|refine VD ?_ ?_|exact Xx|fail))<;>try with_reducible intro K hK)
 all_goals exact aN rfl rfl
end T

