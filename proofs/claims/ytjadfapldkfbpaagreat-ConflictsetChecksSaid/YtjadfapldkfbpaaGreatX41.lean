import Derived.Test.YtjadfapldkfbpaaGreatX30
set_option linter.all false
set_option maxHeartbeats 0
set_option maxRecDepth 20000
open List renaming replicate→bG,getD_eq_getElem?_getD→aG,getElem?_replicate_of_lt→KD,length_replicate→ri,append_assoc→cY,count_append→tv,take_zero→ky,append_nil→ic,take_length→sH,getElem_of_mem→ry,getElem?_eq_getElem→bT,all_eq_true→gV,take_append_drop→DH,mem_map→cC
open Int renaming toNat_natCast→ig
open Option renaming bind_eq_some_iff→yM,getD_some→k9
open Bool renaming not_eq_false→DP,true_and→eX
open Nat renaming le_refl→aR,sub_self→jv,zero_le→aF
open Go Go.Am Go.Proofs
namespace T
abbrev eh:=List (Int×Int)
def fh(up:eh)(j:Nat):Int×Int:=up.getD j default
def BL(n:Nat):eh:=bG n (-1,0)
def BM(up:eh):Nat->Nat->eh
 |0,_=>[]
 |f+1,k=>if 0<=(fh up k).1 then fh up k::BM up f (fh up k).1.toNat else []
def lR(up:eh)(k:Nat):eh:=BM up (k+1) k
def q9(P:List Nd)(c:Int)(l:eh):Bool:=l.any λa=>(nd P a.1.toNat).cls==c
def oK(n i:Nat)(kids:List Int)(up:eh):Nat->Option eh
 |0=>some up
 |o+1=>(oK n i kids up o).bind λu=>if lX n i (kids.getD o 0)=true/\(fh u (kids.getD o 0).toNat).1<0 then some (u.set (kids.getD o 0).toNat ((i:Int),(o:Int))) else none
def py(m:ah)(P:List Nd)(i:Nat)(up:eh):Option eh :=
 if 0<i/\(fh up i).1<0 then none
 else if nf m (nd P i)=false then none
 else if(nd P i).cls = -1 then some up
 else if q9 P (nd P i).cls (lR up i)=true then none
 else oK P.length i (nd P i).kids up (nd P i).kids.length
def mP(m:ah)(P:List Nd):Nat->Option eh
 |0=>some (BL P.length)
 |i+1=>(mP m P i).bind (py m P i)
def nY(m:ah)(P:List Nd):Option eh:=if 1<=P.length/\P.length<=20000 then mP m P P.length else none
def ac3{n i:Nat}{kids:List Int}{up:eh}{o:Nat}(h:oK n i kids up o=none):∀ o',o<=o'->oK n i kids up o'=none:=by
 intro o' ho
 induction o' with
 |zero =>
  obtain rfl:o=0:=G3;exact h
 |succ q ih =>
  by_cases e:o=q+1
  ·subst e;exact h
  ·have:=ih G3;show(oK n i kids up q).bind _=none;rw[this];rfl
def Pp{m:ah}{P:List Nd}{o:Nat}(h:mP m P o=none):∀ o',o<=o'->mP m P o'=none:=by
 intro o' ho
 induction o' with
 |zero =>
  obtain rfl:o=0:=G3;exact h
 |succ q ih =>
  by_cases e:o=q+1
  ·subst e;exact h
  ·have:=ih G3;show(mP m P q).bind _=none;rw[this];rfl
structure UI(P:List Nd)(i o:Nat)(up:eh):Prop where
 len:up.length=P.length
 low:∀ j,j<P.length->fh up j=(-1,0)\/∃ p q:Nat,fh up j=((p:Int),(q:Int))/\p<j/\q<(nd P p).kids.length/\(p<i\/p=i/\q<o)
 set:∀ p q,(p<i\/p=i/\q<o)->p<P.length->q<(nd P p).kids.length->∃ j,j<P.length/\p<j/\(nd P p).kids.getD q 0=(j:Int)/\fh up j=((p:Int),(q:Int))
 BN:∀ j:Nat,j<P.length->((gw (P.take i)++(nd P i).kids.take o).count (j:Int)=if 0<=(fh up j).1 then 1 else 0)
def ac4(n j:Nat)(h:j<n):fh (BL n) j=(-1,0):=by
 unfold fh BL;rw[aG,KD h];rfl
def UI.zero(P:List Nd):UI P 0 0 (BL P.length) where
 len:=ri
 low j hj:=.inl (ac4 _ _ hj)
 set p q h:=G3
 BN j hj:=by rw[ac4 _ _ hj];simp[gw]
def Ka{up:eh}{k j:Nat}{x:Int×Int}(hk:k<up.length):fh (up.set k x) j=if k=j then x else fh up j:=by
 unfold fh;rw[aG,List.getElem?_set];by_cases e:k=j
 ·subst e;rw[if_pos rfl,if_pos hk,if_pos rfl];rfl
 ·rw[if_neg e,if_neg e,aG]
def UI.Dl{P:List Nd}{i o:Nat}{up:eh}(h:UI P i o up)(hi:i<P.length)(ho:o<(nd P i).kids.length)(hk:lX P.length i ((nd P i).kids.getD o 0)=true)(hu:(fh up ((nd P i).kids.getD o 0).toNat).1<0):
  UI P i (o+1) (up.set ((nd P i).kids.getD o 0).toNat ((i:Int),(o:Int))):=by
 unfold lX at hk;rw[decide_eq_true_eq]at hk;have jg:(nd P i).kids.take (o+1)=(nd P i).kids.take o++[(nd P i).kids.getD o 0]:=eJ ho;generalize iK:(nd P i).kids.getD o 0=k at *;obtain⟨kn,rfl⟩:∃kn:Nat,k=kn:=⟨k.toNat,G3⟩;rw[ig]at hu ⊢;have cF:kn<up.length:=by rw[h.len];omega
 refine⟨by rw[List.length_set];exact h.len,λj hj=>?_,λp q pj hp hq=>?_,λj hj=>?_⟩
 ·rw[Ka cF];by_cases e:kn=j
  ·subst e;rw[if_pos rfl];exact .inr ⟨i,o,rfl,G3,ho,.inr ⟨rfl,G3⟩⟩
  ·rw[if_neg e];rcases h.low j hj with h1|⟨p,q,h1,h2,h3,h4⟩
   ·exact .inl h1
   ·exact .inr ⟨p,q,h1,h2,h3,G3⟩
 ·by_cases e:p=i/\q=o
  ·obtain⟨rfl,rfl⟩:=e;exact⟨kn,G3,G3,iK,by rw[Ka cF,if_pos rfl]⟩
  ·obtain⟨j,h1,h2,h3,h4⟩:=h.set p q G3 hp hq;refine⟨j,h1,h2,h3,?_⟩;rw[Ka cF,if_neg ?_,h4];rintro rfl;rw[h4]at hu;dsimp only at hu;omega
 ·rw[jg,<- cY,tv,h.BN j hj,Ka cF];by_cases e:kn=j
  ·subst e;rw[if_neg G3,if_pos rfl,if_pos Kw];simp
  ·have hb:((kn:Int)==(j:Int))=false:=by rw[beq_eq_false_iff_ne];omega
   rw[if_neg e,List.count_singleton,hb];rfl
def ac5{P:List Nd}{i:Nat}(hi:i<P.length):P.take (i+1)=P.take i++[nd P i]:=eJ hi
def UI.next{P:List Nd}{i:Nat}{up:eh}(h:UI P i (nd P i).kids.length up)(hi:i<P.length):UI P (i+1) 0 up where
 len:=h.len
 low j hj:=by
  rcases h.low j hj with h1|⟨p,q,h1,h2,h3,h4⟩
  ·exact .inl h1
  ·exact .inr ⟨p,q,h1,h2,h3,G3⟩
 set p q pj hp hq:=h.set p q (by
  by_cases e:p=i
  ·subst e;exact .inr ⟨rfl,hq⟩
  ·omega) hp hq
 BN j hj:=by
  rw[ky,ic,ac5 hi,MT,<- h.BN j hj,sH]
def UI.kids{P:List Nd}{i:Nat}(hi:i<P.length){up:eh}(h:UI P i 0 up):∀ o u,o<=(nd P i).kids.length->oK P.length i (nd P i).kids up o=some u->UI P i o u:=by
 intro o
 induction o with
 |zero=>intro u _ hu;cases hu;exact h
 |succ o ih =>
  intro u ho hu;unfold oK at hu;obtain⟨v,hv,hu⟩:=yM.1 hu;by_cases hc:lX P.length i ((nd P i).kids.getD o 0)=true/\(fh v ((nd P i).kids.getD o 0).toNat).1<0
  ·rw[if_pos hc]at hu;cases hu;exact(ih v G3 hv).Dl hi G3 hc.1 hc.2
  ·rw[if_neg hc]at hu;cases hu
def Pj{m:ah}{x:Nd}(h:nf m x=true)(hc:x.cls = -1):x.kids.length=0:=by
 unfold nf at h;rw[if_pos hc,decide_eq_true_eq]at h;exact h.1
def UI.node{m:ah}{P:List Nd}{i:Nat}(hi:i<P.length){up u:eh}(h:UI P i 0 up)(hu:py m P i up=some u):UI P (i+1) 0 u:=by
 unfold py at hu;split at hu
 ·cases hu
 split at hu
 ·cases hu
 rename_i h1 h2;rw[DP]at h2;split at hu
 ·rename_i h3;cases hu;have:=Pj h2 h3;refine UI.next ?_ hi;rw[this];exact h
 split at hu
 ·cases hu
 exact(UI.kids hi h _ _ (aR _) hu).next hi
def zY{m:ah}{P:List Nd}:∀ i u,i<=P.length->mP m P i=some u->UI P i 0 u:=by
 intro i
 induction i with
 |zero=>intro u _ hu;cases hu;exact UI.zero P
 |succ i ih =>
  intro u hi hu;unfold mP at hu;obtain⟨v,hv,hu⟩:=yM.1 hu;exact(ih v G3 hv).node G3 hu
def UI.lt{P:List Nd}{i o:Nat}{up:eh}(h:UI P i o up){k:Nat}(hk:k<P.length)(h0:0<=(fh up k).1):(fh up k).1.toNat<k:=by
 rcases h.low k hk with h1|⟨p,q,h1,h2,h3,h4⟩
 ·rw[h1]at h0;exact absurd h0 Kq
 ·rw[h1];simpa using h2
def amM{P:List Nd}{i o:Nat}{up:eh}(h:UI P i o up):∀ k,k<P.length->∀ f g,k+1<=f->k+1<=g->BM up f k=BM up g k:=by
 intro k
 induction k using Nat.strongRecOn with
 |_ k ih =>
  intro hk f g hf hg;obtain⟨f,rfl⟩:∃f',f=f'+1:=⟨f-1,G3⟩;obtain⟨g,rfl⟩:∃g',g=g'+1:=⟨g-1,G3⟩;show(if 0<=(fh up k).1 then fh up k::BM up f (fh up k).1.toNat else [])=(if 0<=(fh up k).1 then fh up k::BM up g (fh up k).1.toNat else []);by_cases h0:0<=(fh up k).1
  ·have hl:=h.lt hk h0;rw[if_pos h0,if_pos h0,ih _ hl G3 f g G3 G3]
  ·rw[if_neg h0,if_neg h0]
def DA{P:List Nd}{i o:Nat}{up:eh}(h:UI P i o up){k:Nat}(hk:k<P.length):
  lR up k=if 0<=(fh up k).1 then fh up k::lR up (fh up k).1.toNat else []:=by
 show(if 0<=(fh up k).1 then fh up k::BM up k (fh up k).1.toNat else [])=_;by_cases h0:0<=(fh up k).1
 ·have hl:=h.lt hk h0;rw[if_pos h0,if_pos h0];congr 1;exact amM h _ G3 _ _ G3 G3
 ·rw[if_neg h0,if_neg h0]
def amN{m:ah}{P:List Nd}{i:Nat}{up:eh}(hi:i<P.length)(h:mP m P i=some up)(hn:py m P i up=none):nY m P=none:=by
 unfold nY;split
 ·refine Pp (o:=i+1) ?_ _ G3;show(mP m P i).bind _=none;rw[h];exact hn
 ·rfl
def ac6{n i:Nat}{kids:List Int}{up u:eh}{o:Nat}(h:oK n i kids up o=some u)(ho:o<kids.length)(hn:¬(lX n i (kids.getD o 0)=true/\(fh u (kids.getD o 0).toNat).1<0)):oK n i kids up kids.length=none:=by
 refine ac3 (o:=o+1) ?_ _ G3;show(oK n i kids up o).bind _=none;rw[h];show(if _ then _ else _)=_;rw[if_neg hn]
def ac7{n i:Nat}{kids:List Int}{up u:eh}{o:Nat}(h:oK n i kids up o=some u)(hn:lX n i (kids.getD o 0)=true/\(fh u (kids.getD o 0).toNat).1<0):oK n i kids up (o+1)=some (u.set (kids.getD o 0).toNat ((i:Int),(o:Int))):=by
 show(oK n i kids up o).bind _=_;rw[h];show(if _ then _ else _)=_;rw[if_pos hn]
def Pq(up:eh)(i:Nat)(a b:Int):(rowsOf aK up).set i [aaa a,aaa b]=rowsOf aK (up.set i (a,b)):=by simp[rowsOf,aK,List.map_set]
def amO(n:Nat)(a b:Int):bG n [AV.lit (.int .i64 a),aaa b]=rowsOf aK (bG n (a,b)):=by simp[rowsOf,aK]
def uF(n i:Nat):eh:=bG i (-1,0)++bG (n-i) (0,0)
def amP{n i:Nat}(h:i<=n):(uF n i).length=n:=by simp[uF];omega
def amQ{n i:Nat}(h:i<n):(uF n i).getD i default=(0,0):=by
 unfold uF;rw[aG,List.getElem?_append_right G9,ri,jv,KD G3];rfl
def amR{n i:Nat}(h:i<n):(uF n i).set i (-1,0)=uF n (i+1):=by
 unfold uF;rw[List.set_append_right _ _ G9,ri,jv,show n-i=(n-(i+1))+1 by omega,List.replicate_succ,List.set_cons_zero,List.replicate_succ' (n:=i),cY];rfl
def amk(m:ah)(P:List Nd)(hm:VM m)(hP:PB P):an Tryz.prog 79 [.agg (ao m),.agg (aU P)] [] (.bH [.tree 2 (rowsOf aK ((nY m P).getD [])),.lit (.bool (nY m P).isSome)]) []:=by
 have x7:=hP.sU;have nL:=hm.cls;generalize aj:nY m P=res;refine an.aC 187 0 [.tmp 4,.tmp 5] Tryz.func79 ?_;by_cases bg:1<=P.length/\P.length<=20000;rotate_left
 ·have hr:res=none:=by rw[<- aj];unfold nY;rw[if_neg bg]
  subst hr;((repeat'(first|refine Vb @aU.eq_1 ?_|(refine V2 @aU.eq_1 ?_ ?_<;>try with_reducible intro hb)|(refine Xi ?_ ?_<;>try intro ht)|exact Xx|fail)))
  all_goals exact dr [] true Kq trivial Kq Kq (aI.mn aI.nil (.pure rfl))
 obtain⟨jk,jS⟩:=bg;have hI0:rowsOf aK (uF P.length 0)=bG P.length [AV.lit (.int .i64 0),aaa 0]:=by rw[amO];rfl
 ((repeat'(first|refine Va @aU.eq_1 ?_|(refine V2 @aU.eq_1 ?_ ?_<;>try with_reducible intro hb)|(refine Xi ?_ ?_<;>try intro ht)|exact Xx|fail)))
 refine aO (λi:Nat=>(⟨au [(2,.ptr 0 0 0),(3,.ptr 1 0 0),(6,aaa P.length),(7,.ref 2 2 0 P.length),(8,aaa i)],[.var (ao m),.var (aU P),.arr 2 (rowsOf aK (uF P.length i))]⟩:St))
  (λi=>i<=P.length) (λi=>P.length-i) 0 (aF _) (by show ay _ _ ⟨_,[_,_,.arr 2 (rowsOf aK (uF P.length 0))]⟩;rw[hI0];exact Xv @aU.eq_1) ?_
 ·rintro i hi Ql ak ar;by_cases hi':i<P.length
  ·have j9:=amP (Nat.le_of_lt hi');have hug:=amQ hi';((repeat'(first|refine Va (X5 @j9 @hug @aK.eq_1 @Pq (amR hi')) ?_|(refine Xi ?_ ?_<;>try intro ht)|exact Xx|fail)))
   exact ak _ (i+1) G3 G3 (Xv @aU.eq_1)
  ·obtain rfl:i=P.length:=G3;have hu0:uF P.length P.length=BL P.length:=by simp[uF,BL]
   rw[hu0];((repeat'(first|refine Va X0 ?_|(refine Xi ?_ ?_<;>try intro ht)|exact Xx|fail)))
   refine ar _ _ rfl ?_;clear ak ar Ql;repeat(refine Xu ?_)
   refine Va X0 ?_;refine aO (λz:Nat×eh=>(⟨au [(2,.ptr 0 0 0),(3,.ptr 1 0 0),(6,aaa P.length),(7,.ref 2 2 0 P.length),(9,aaa z.1)],[.var (ao m),.var (aU P),.arr 2 (rowsOf aK z.2)]⟩:St))
    (λz=>z.1<=P.length/\mP m P z.1=some z.2) (λz=>P.length-z.1) (0,BL P.length) ⟨aF _,rfl⟩ (Xv @aU.eq_1) ?_
   rintro⟨i,u⟩⟨hi,Av⟩Ql ak ar;dsimp only at hi Av ⊢;have lE:=zY i u hi Av;have j9:=lE.len;by_cases hi':i<P.length;rotate_left
   ·obtain rfl:i=P.length:=G3;have hr:res=some u:=by rw[<- aj];unfold nY;rw[if_pos ⟨jk,jS⟩];exact Av
    ((repeat'(first|refine Va X0 ?_|(refine Xi ?_ ?_<;>try intro ht)|exact Xx|fail)))
    refine ar _ _ rfl ?_;clear ak ar Ql;repeat(refine Xu ?_)
    subst hr;refine Vb X0 ?_;refine Ma [] true trivial (aI.mn ?_ (.pure rfl));exact .fz rfl (by rw[bX];exact j9.symm)
   have su:py m P i u=none->res=none:=λh=>by rw[<- aj];exact amN hi' Av h
   have bE:mP m P (i+1)=py m P i u:=by show(mP m P i).bind _=_;rw[Av];rfl
   have bJ:=aB (l:=P) (i:=i) (d:=default) hi';have b1:=hP.kids _ bJ;have b2:=hP.cR _ bJ;have b3:=hP.bh _ bJ;have b4:=hP.cells _ bJ;by_cases yI:0<i/\(fh u i).1<0
   ·have hr:=su (by unfold py;rw[if_pos yI]);unfold fh at yI;generalize re:u.getD i default=ua at *;obtain⟨ua,ub⟩:=ua;dsimp only at yI;((repeat'(first|refine Va (X5 @aU.eq_1 @j9 @re @aK.eq_1 @az.eq_1) ?_|(refine V2 (X5 @aU.eq_1 @j9 @re @aK.eq_1 @az.eq_1) ?_ ?_<;>try with_reducible intro hb)|(refine Xi ?_ ?_<;>try intro ht)|exact Xx|fail)))
    all_goals
     repeat(refine Xu ?_)
     subst hr;refine Vb X0 ?_;exact dr [] true Kq trivial Kq Kq (aI.mn aI.nil (.pure rfl))
   by_cases gy:nf m (nd P i)=true;rotate_left
   ·have hr:=su (by unfold py;rw[if_neg yI,if_pos (Bool.eq_false_iff.2 gy)]);unfold nd at gy;unfold fh at yI;generalize re:u.getD i default=ua at *;obtain⟨ua,ub⟩:=ua;generalize aS:P.getD i default=x at *;obtain⟨c,kids,cR,bh,cells⟩:=x;dsimp only at b1 b2 b3 b4 yI;generalize oG:m.cls.getD c.toNat default=wl at *;have zs:0<=c/\c<m.cls.length->wl.length<=24:=λh=>by rw[<- oG];exact hm.opt _ (aB G3)
    unfold nf at gy;dsimp only at gy;rw[oG]at gy;subst hr;by_cases eK:c = -1
    ·rw[if_pos eK,decide_eq_true_eq]at gy;((repeat'(first|refine Va (X5 @aU.eq_1 @j9 @re @aK.eq_1 (X2 @aS @az.eq_1)) ?_|(refine V2 (X5 @aU.eq_1 @j9 @re @aK.eq_1 (X2 @aS @az.eq_1)) ?_ ?_<;>try with_reducible intro hb)|(refine Xi ?_ ?_<;>try intro ht)|exact Xx|fail)))
     all_goals
      repeat(refine Xu ?_)
      ((repeat'(first|refine Vb X0 ?_|fail)))
      exact dr [] true Kq trivial Kq Kq (aI.mn aI.nil (.pure rfl))
    ·rw[if_neg eK,decide_eq_true_eq]at gy;by_cases aw:0<=c/\c<m.cls.length
     ·have zs:=zs aw;((repeat'(first|refine Va (X5 @aU.eq_1 @j9 @re @aK.eq_1 (X4 @aS @az.eq_1 @oG @a9.eq_1)) ?_|(refine V2 (X5 @aU.eq_1 @j9 @re @aK.eq_1 (X4 @aS @az.eq_1 @oG @a9.eq_1)) ?_ ?_<;>try with_reducible intro hb)|(refine Xi ?_ ?_<;>try intro ht)|exact Xx|fail)))
      all_goals
       repeat(refine Xu ?_)
       ((repeat'(first|refine Vb X0 ?_|fail)))
       exact dr [] true Kq trivial Kq Kq (aI.mn aI.nil (.pure rfl))
     ·((repeat'(first|refine Va (X5 @aU.eq_1 @j9 @re @aK.eq_1 (X2 @aS @az.eq_1)) ?_|(refine V2 (X5 @aU.eq_1 @j9 @re @aK.eq_1 (X2 @aS @az.eq_1)) ?_ ?_<;>try with_reducible intro hb)|(refine Xi ?_ ?_<;>try intro ht)|exact Xx|fail)))
      all_goals
       repeat(refine Xu ?_)
       ((repeat'(first|refine Vb X0 ?_|fail)))
       exact dr [] true Kq trivial Kq Kq (aI.mn aI.nil (.pure rfl))
   have hnu:py m P i u=if(nd P i).cls = -1 then some u else if q9 P (nd P i).cls (lR u i)=true then none else oK P.length i (nd P i).kids u (nd P i).kids.length:=by
    unfold py;rw[if_neg yI,if_neg (by rw[gy];simp)]
   have Fh:=λo v=>UI.kids hi' lE o v;rw[hnu]at su bE;clear hnu;unfold nd at gy su bE Fh;unfold fh at yI;generalize re:u.getD i default=ua at *;obtain⟨ua,ub⟩:=ua;generalize aS:P.getD i default=x at *;obtain⟨c,kids,cR,bh,cells⟩:=x;have Fg:=IP hm gy;dsimp only at b1 b2 b3 b4 yI Fg su bE Fh;generalize oG:m.cls.getD c.toNat default=wl at *;unfold nf at gy;dsimp only at gy;rw[oG]at gy;by_cases eK:c = -1
   ·rw[if_pos eK,decide_eq_true_eq]at gy;rw[if_pos eK]at bE;((repeat'(first|refine Va (X5 @aU.eq_1 @j9 @re @aK.eq_1 (X2 @aS @az.eq_1)) ?_|(refine V2 (X5 @aU.eq_1 @j9 @re @aK.eq_1 (X2 @aS @az.eq_1)) ?_ ?_<;>try with_reducible intro hb)|(refine Xi ?_ ?_<;>try intro ht)|exact Xx|fail)))
    all_goals exact ak _ (i+1,u) ⟨Kw,bE⟩ Kw (Xs false [0,1,2] @aU.eq_1)
   rw[if_neg eK,decide_eq_true_eq]at gy;rw[if_neg eK]at bE su;have zs:wl.length<=24:=by rw[<- oG];exact hm.opt _ (aB G3)
   repeat'(first|((fail_if_success (first|refine dE 13 ?_|refine dF 13 ?_));refine Xr (X5 @aU.eq_1 @j9 @re @aK.eq_1 (X4 @aS @az.eq_1 @oG @a9.eq_1)) ?_;intro K hK)|(refine hK _ ?_;clear hK K)|(refine Xi ?_ ?_<;>try intro ht)|refine Xy ?_|refine Xd ?_ ?_|exact Xx|fail)
   (refine Ms ?_);intro Q0 eA pT
   refine wa ⟨au [(2,.ptr 0 0 0),(3,.ptr 1 0 0),(6,aaa P.length),(7,.ref 2 2 0 P.length),(9,aaa i),(10,.ptr 3 0 0)],[.var (ao m),.var (aU P),.arr 2 (rowsOf aK u),.var (az ⟨c,kids,cR,bh,cells⟩)]⟩ eA ?_ (λkey=>?_);rotate_left
   ·(try clear eA)
    ((repeat'(first|refine Va (X4 @aU.eq_1 @j9 @re @aK.eq_1) ?_|(refine V2 (X4 @aU.eq_1 @j9 @re @aK.eq_1) ?_ ?_<;>try with_reducible intro hb)|(refine Xi ?_ ?_<;>try intro ht)|exact Xx|fail)))
    all_goals
     refine key _ ?_;exact Xv (X2 @aU.eq_1 @az.eq_1)
   (try clear eA)
   try(try clear Q0)
   ((repeat'(first|refine Va (X5 @aU.eq_1 @j9 @az.eq_1 @oG @a9.eq_1) ?_|(refine V2 (X5 @aU.eq_1 @j9 @az.eq_1 @oG @a9.eq_1) ?_ ?_<;>try with_reducible intro hb)|(refine Xi ?_ ?_<;>try intro ht)|exact Xx|fail)))
   refine aO (λk:Nat=>(⟨au [(2,.ptr 0 0 0),(3,.ptr 1 0 0),(6,aaa P.length),(7,.ref 2 2 0 P.length),(9,aaa i),(10,.ptr 3 0 0),(11,aaa k)],[.var (ao m),.var (aU P),.arr 2 (rowsOf aK u),.var (az ⟨c,kids,cR,bh,cells⟩)]⟩:St))
    (λk=>k<P.length/\q9 P c (lR u i)=q9 P c (lR u k)) (λk=>k) i ⟨hi',rfl⟩ (Xv (X2 @aU.eq_1 @az.eq_1)) ?_
   rintro k⟨hk,oT⟩cL a7 ba;rw[DA lE hk]at oT;have bx:=lE.lt hk;unfold fh at oT bx;generalize yH:u.getD k default=uk at *;obtain⟨p,q⟩:=uk;dsimp only at oT bx;by_cases h0:0<=p
   ·have bx:=bx h0;rw[if_pos h0]at oT;obtain⟨p,rfl⟩:∃pn:Nat,p=pn:=⟨p.toNat,G3⟩;rw[ig]at bx;have oT:q9 P c (lR u i)=((nd P (p:Int).toNat).cls==c||q9 P c (lR u (p:Int).toNat)):=oT;rw[ig]at oT;unfold nd at oT;by_cases u9:(P.getD p default).cls=c
    ·have hr:=su (by rw[oT,u9];simp);subst hr;generalize gA:P.getD p default=y at *;obtain⟨yc,y1,y2,y3,y4⟩:=y;dsimp only at u9;subst u9;((repeat'(first|refine Va (X5 @aU.eq_1 @j9 @yH @aK.eq_1 (X2 @az.eq_1 @gA)) ?_|(refine Xi ?_ ?_<;>try intro ht)|exact Xx|fail)))
     all_goals
      repeat(refine Xu ?_)
      refine Vb X0 ?_;exact dr [] true Kq trivial Kq Kq (aI.mn aI.nil (.pure rfl))
    ·have p5:q9 P c (lR u i)=q9 P c (lR u p):=by rw[oT,beq_false_of_ne u9,Bool.false_or]
     generalize gA:P.getD p default=y at *;obtain⟨yc,y1,y2,y3,y4⟩:=y;dsimp only at u9;((repeat'(first|refine Va (X5 @aU.eq_1 @j9 @yH @aK.eq_1 (X2 @az.eq_1 @gA)) ?_|(refine Xi ?_ ?_<;>try intro ht)|exact Xx|fail)))
     exact a7 _ p ⟨G3,p5⟩ G3 (Xv (X2 @aU.eq_1 @az.eq_1))
   rw[if_neg h0]at oT;have oT:q9 P c (lR u i)=false:=oT;rw[if_neg (by rw[oT];simp)]at bE su;((repeat'(first|refine Va (X3 @j9 @yH @aK.eq_1) ?_|(refine Xi ?_ ?_<;>try intro ht)|exact Xx|fail)))
   refine ba _ _ rfl ?_;clear a7 ba cL;repeat(refine Xu ?_)
   refine Va (X2 @aU.eq_1 @az.eq_1) ?_;refine aO (λz:Nat×eh=>(⟨au [(2,.ptr 0 0 0),(3,.ptr 1 0 0),(6,aaa P.length),(7,.ref 2 2 0 P.length),(9,aaa i),(10,.ptr 3 0 0),(12,aaa z.1)],[.var (ao m),.var (aU P),.arr 2 (rowsOf aK z.2),.var (az ⟨c,kids,cR,bh,cells⟩)]⟩:St))
    (λz=>z.1<=kids.length/\oK P.length i kids u z.1=some z.2) (λz=>kids.length-z.1) (0,u) ⟨aF _,rfl⟩ (Xv (X2 @aU.eq_1 @az.eq_1)) ?_
   rintro⟨o,v⟩⟨ho,hv⟩cL a7 ba;dsimp only at ho hv ⊢;have hvi:=Fh o v ho hv;have sm:=hvi.len;by_cases cy:o<kids.length
   ·have vz:=ac6 hv cy;have ym:=ac7 hv;unfold fh at vz ym;generalize iK:kids.getD o 0=k at *;generalize Kb:v.getD k.toNat default=vk at *;obtain⟨va,vb⟩:=vk;dsimp only at vz ym;by_cases aw:lX P.length i k=true/\va<0
    ·have ym:=ym aw;unfold lX at aw;rw[decide_eq_true_eq]at aw;((repeat'(first|refine Va (X5 @aU.eq_1 @az.eq_1 @iK @sm (X3 @Kb @aK.eq_1 @Pq)) ?_|(refine V2 (X5 @aU.eq_1 @az.eq_1 @iK @sm (X3 @Kb @aK.eq_1 @Pq)) ?_ ?_<;>try with_reducible intro hb)|(refine Xi ?_ ?_<;>try intro ht)|exact Xx|fail)))
     exact a7 _ (o+1,v.set k.toNat ((i:Int),(o:Int))) ⟨Kw,ym⟩ Kw (Xv (X2 @aU.eq_1 @az.eq_1))
    ·have hr:=su (vz aw);unfold lX at aw;rw[decide_eq_true_eq]at aw;subst hr;((repeat'(first|refine Va (X5 @aU.eq_1 @az.eq_1 @iK @sm (X2 @Kb @aK.eq_1)) ?_|(refine V2 (X5 @aU.eq_1 @az.eq_1 @iK @sm (X2 @Kb @aK.eq_1)) ?_ ?_<;>try with_reducible intro hb)|(refine Xi ?_ ?_<;>try intro ht)|exact Xx|fail)))
     all_goals
      repeat(refine Xu ?_)
      ((repeat'(first|refine Vb X0 ?_|fail)))
      exact dr [] true Kq trivial Kq Kq (aI.mn aI.nil (.pure rfl))
   ·obtain rfl:o=kids.length:=G3;rw[hv]at bE;((repeat'(first|refine Va (X2 @aU.eq_1 @az.eq_1) ?_|(refine V2 (X2 @aU.eq_1 @az.eq_1) ?_ ?_<;>try with_reducible intro hb)|(refine Xi ?_ ?_<;>try intro ht)|exact Xx|fail)))
    refine ba _ _ rfl ?_;clear a7 ba cL;refine Va X0 ?_;all_goals exact ak _ (i+1,v) ⟨Kw,bE⟩ Kw (Xs false [0,1,2] @aU.eq_1)
def acZ{m:ah}{P:List Nd}{n:Nat}{up:eh}(h:mP m P n=some up):∀ i,i<n->∃ u v,mP m P i=some u/\py m P i u=some v:=by
 intro i hi;cases hu:mP m P i with
 |none=>rw[Pp hu n G3]at h;cases h
 |some u =>
  cases hv:py m P i u with
  |none =>
   have h1:mP m P (i+1)=none:=by
    show(mP m P i).bind _=none;rw[hu];exact hv
   rw[Pp h1 n G3]at h;cases h
  |some v=>exact⟨u,v,rfl,hv⟩
def amW{n i:Nat}{kids:List Int}{up v:eh}(h:oK n i kids up kids.length=some v):∀ k∈kids,lX n i k=true:=by
 intro k hk;obtain⟨o,ho,rfl⟩:=ry hk;cases hw:oK n i kids up o with
 |none=>rw[ac3 hw kids.length G3]at h;cases h
 |some w =>
  by_cases hc:lX n i (kids.getD o 0)=true/\(fh w (kids.getD o 0).toNat).1<0
  ·have:=hc.1;rwa [aG,bT ho]at this
  ·rw[ac6 hw ho hc]at h;cases h
def Pl{m:ah}{P:List Nd}{i:Nat}{u v:eh}(h:py m P i u=some v):
  ¬(0<i/\(fh u i).1<0)/\nf m (nd P i)=true/\((nd P i).cls≠-1->q9 P (nd P i).cls (lR u i)=false)/\lL m P.length i (nd P i)=true:=by
 unfold py at h;split at h
 ·cases h
 rename_i h1;split at h
 ·cases h
 rename_i h2;rw[DP]at h2;split at h
 ·rename_i h3;refine⟨h1,h2,λhh=>absurd h3 hh,?_⟩;unfold lL;rw[h2,eX,List.eq_nil_of_length_eq_zero (Pj h2 h3)];rfl
 split at h
 ·cases h
 rename_i h3 h4;refine⟨h1,h2,λ_=>by simpa using h4,?_⟩;unfold lL;rw[h2,eX,gV];exact amW h
def ac9{P:List Nd}(i:Nat)(k:Int):(gw (P.take i)).count k<=(gw P).count k:=by
 conv=>rhs;rw[<- DH i P]
 unfold gw;rw[List.flatMap_append,tv];omega
def GV{m:ah}{P:List Nd}{up:eh}(h:nY m P=some up):(1<=P.length/\P.length<=20000)/\mP m P P.length=some up:=by
 unfold nY at h;split at h
 ·rename_i hs;exact⟨hs,h⟩
 ·cases h
def UI.full{P:List Nd}{up:eh}(h:UI P P.length 0 up)(j:Nat)(hj:j<P.length):(gw P).count (j:Int)=if 0<=(fh up j).1 then 1 else 0:=by
 have:=h.BN j hj;rwa [ky,ic,sH]at this
def Dy{m:ah}{P:List Nd}{up:eh}(h:nY m P=some up):j4 m P=true:=by
 obtain⟨hs,hf⟩:=GV h;have eB:=acZ hf;have lE:=zY _ _ (aR _) hf;have lu:∀ j,1<=j->j<P.length->(gw P).count (j:Int)=1:=λj h1 h2=>by
  obtain⟨u,v,hu,hv⟩:=eB j h2;have hn:=(Pl hv).1;have hc:=(zY _ _ G3 hu).BN j h2;rw[ky,ic,if_pos G3]at hc;have hle:=ac9 (P:=P) j (j:Int);have GU:=lE.full j h2;split at GU<;>omega
 rw[IQ hs λi hi=>by obtain⟨u,v,_,hv⟩:=eB i hi;exact(Pl hv).2.2.2,Bool.not_eq_true'];rw[List.any_eq_false];intro x hx;obtain⟨j,hj,rfl⟩:=ry hx;rw[List.length_drop,A0]at hj;rw[List.getElem_drop];have:=IS (gw P) (j:=1+j) (show 1+j<P.length by omega);rw[aG,bT (by rw[A0];omega),lu (1+j) G3 G3]at this;rw[k9]at this;rw[this];decide
def amX{P:List Nd}(hd:Down P)(R:ee->Prop)(dX:∀ s o,s.1<P.length->o<(nd P s.1).kids.length->R s->R (nT P s o)):
  ∀ (f:Nat) (s:ee),s.1<P.length->R s->∀ v∈l6 P f s,R v:=by
 intro f
 induction f with
 |zero=>intro s _ _ v hv;exact absurd hv (by simp[l6])
 |succ f ih =>
  intro s hs hr v hv;rw[l6]at hv;rcases List.mem_cons.1 hv with rfl|hv
  ·exact hr
  ·obtain⟨t,ht,hv⟩:=List.mem_flatMap.1 hv;obtain⟨o,ho,rfl⟩:=wV (List.mem_reverse.1 ht);exact ih _ (yl hd hs ho).2.1 (dX s o hs ho hr) v hv
def qa(P:List Nd)(l:eh)(x:List (List Bool)):List (List Bool):=l.foldl (λacc a=>cf acc (nd P a.1.toNat).cls.toNat a.2.toNat) x
def GX(m:ah)(P:List Nd)(u:eh)(s:ee):Prop:=(lR u s.1).map (λa=>(nd P a.1.toNat).cls)=s.2.2.reverse/\s.2.1=qa P (lR u s.1).reverse (fM m)
def J8{m:ah}{P:List Nd}(hd:Down P){i:Nat}{u:eh}(h:UI P i 0 u)(h0:0<P.length):∀ v∈vs P (root m),v.1<=i->GX m P u v:=by
 refine amX hd (λs=>s.1<=i->GX m P u s) ?_ _ (root m) h0 ?_
 ·intro s o hs ho hr hle;obtain⟨h1,h2,h3⟩:=yl hd hs ho;obtain⟨r1,r2⟩:=hr G3;obtain⟨j,qC,EA,hj3,hj4⟩:=h.set s.1 o (.inl G3) hs ho;have e:(nT P s o).1=j:=G3;unfold GX;rw[e,DA h qC,hj4,if_pos Kw];dsimp only;rw[ig];refine⟨?_,?_⟩
  ·rw[List.map_cons,r1];show _=(s.2.2++[(nd P s.1).cls]).reverse;rw[List.reverse_append];rfl
  ·unfold qa;rw[List.reverse_cons,List.foldl_append];show cf s.2.1 _ _=_;rw[r2];rfl
 ·intro _;have u6:fh u 0=(-1,0):=by
   rcases h.low 0 h0 with h1|⟨p,q,h1,h2,_⟩
   ·exact h1
   ·omega
  unfold GX;rw[DA h (show(root m).1<P.length from h0)];show _/\_;have:(fh u (root m).1)=(-1,0):=u6;rw[this,if_neg Kq];exact⟨rfl,rfl⟩
def Pk{m:ah}{P:List Nd}{u:eh}{s:ee}(h:GX m P u s)(c:Int):q9 P c (lR u s.1)=s.2.2.contains c:=by
 have h1:q9 P c (lR u s.1)=((lR u s.1).map λa=>(nd P a.1.toNat).cls).any (· == c):=by
  unfold q9;rw[List.any_map];rfl
 rw[h1,h.1,List.any_reverse,Bool.eq_iff_iff,List.any_eq_true,List.contains_iff_mem];constructor
 ·rintro⟨x,hx,e⟩;rw[beq_iff_eq]at e;subst e;exact hx
 ·exact λhx=>⟨c,hx,G9⟩
def ac0{m:ah}{P:List Nd}(h:j4 m P=true){j:Nat}(hj:j<P.length):∃v∈vs P (root m),v.1=j:=by
 have:=aai h (s:=root m) rfl j hj;have hm:j∈(vs P (root m)).map (·.1):=by
  rw[<- List.count_pos_iff];omega
 obtain⟨v,hv,e⟩:=cC.1 hm;exact⟨v,hv,e⟩
def amA{m:ah}{P:List Nd}(h:j4 m P=true)(hn:nY m P=none):∃v∈vs P (root m),v.2.2.contains (nd P v.1).cls=true:=by
 have hl:=wY h;have hd:=wW h;have iJ :∃i u,i<P.length/\mP m P i=some u/\py m P i u=none:=by
  refine Classical.byContradiction λnD=>?_;have eB:∀ i,i<=P.length->∃ u,mP m P i=some u:=by
   intro i
   induction i with
   |zero=>exact λ_=>⟨_,rfl⟩
   |succ i ih =>
    intro hi;obtain⟨u,hu⟩:=ih G3;cases hv:py m P i u with
    |none=>exact absurd ⟨i,u,G3,hu,hv⟩ nD
    |some v =>
     refine⟨v,?_⟩;show(mP m P i).bind _=_;rw[hu];exact hv
  obtain⟨u,hu⟩:=eB _ (aR _);unfold nY at hn;rw[if_pos hl,hu]at hn;cases hn
 obtain⟨i,u,hi,hu,hv⟩:=iJ;have lE:=zY i u G3 hu;obtain⟨v,bP,Pm⟩:=ac0 h hi;refine⟨v,bP,?_⟩;have lq:=J8 hd lE G3 v bP G3;rw[<- Pk lq,Pm];have wF:=FV h hi;unfold lL at wF;rw[Bool.and_eq_true,gV]at wF;unfold py at hv;split at hv
 ·rename_i hp;obtain⟨p,JG,yu,_⟩:=aag h (show 1<=i by omega) hi;have:i∈kN P p:=by rw[<- List.count_pos_iff];omega
  unfold kN at this;obtain⟨k,hk,e⟩:=cC.1 this;obtain⟨q,hq,rfl⟩:=ry hk;obtain⟨j,h1,h2,h3,h4⟩:=lE.set p q (.inl JG) G3 hq;rw[aG,bT hq,k9]at h3;rw[h3,ig]at e;subst e;rw[h4]at hp;exact absurd hp.2 Kw
 split at hv
 ·rename_i h2;rw[wF.1]at h2;cases h2
 split at hv
 ·cases hv
 split at hv
 ·assumption
 exfalso;have amZ:∀ o,o<=(nd P i).kids.length->∃ w,oK P.length i (nd P i).kids u o=some w:=by
  intro o
  induction o with
  |zero=>exact λ_=>⟨_,rfl⟩
  |succ o ih =>
   intro ho;obtain⟨w,hw⟩:=ih G3;have p5:=wF.2 _ (aB (l:=(nd P i).kids) (i:=o) (d:=0) G3);refine⟨_,ac7 hw ⟨p5,?_⟩⟩;unfold lX at p5;rw[decide_eq_true_eq]at p5;have hwi:=UI.kids hi lE o w G3 hw;have jg:(nd P i).kids.take (o+1)=(nd P i).kids.take o++[(nd P i).kids.getD o 0]:=eJ G3;generalize iK:(nd P i).kids.getD o 0=k at *;obtain⟨kn,rfl⟩:∃kn:Nat,k=kn:=⟨k.toNat,G3⟩;rw[ig];refine Classical.byContradiction λog=>?_;have hc:=hwi.BN kn G3;rw[if_pos G3]at hc;have h1:=aaf h (j:=kn) G3 G3;have h2:(gw (P.take (i+1))).count (kn:Int)<=(gw P).count (kn:Int):=ac9 _ _;rw[ac5 hi,MT,tv]at h2;have h3:((nd P i).kids.take (o+1)).count (kn:Int)<=(nd P i).kids.count (kn:Int):=by
    conv=>rhs;rw[<- DH (o+1) (nd P i).kids]
    rw[tv];omega
   rw[jg,tv]at h3;rw[tv]at hc;have h4:([(kn:Int)]:List Int).count (kn:Int)=1:=G9;omega
 obtain⟨w,hw⟩:=amZ _ (aR _);rw[hw]at hv;cases hv
end T

