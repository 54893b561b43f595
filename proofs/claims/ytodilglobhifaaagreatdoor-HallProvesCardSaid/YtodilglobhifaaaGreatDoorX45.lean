import Derived.Test.YtodilglobhifaaaGreatDoorX42
import Derived.Test.YtodilglobhifaaaGreatDoorX44
set_option linter.all false
set_option maxHeartbeats 0
set_option maxRecDepth 20000
open Nat renaming zero_le→aS,not_lt_zero→ns,le_refl→aM,reduceBEq→oT,le_of_eq→JP
open List renaming take_zero→qT,getElem_of_mem→q7,length_take→fE,getD_eq_getElem?_getD→ax,getElem?_eq_getElem→aT,all_eq_true→eS,length_append→aK,append_assoc→bn,take_length→y9,length_drop→yZ,flatMap_cons→qW,cons_append→ew,getElem?_append_right→dy,map_take→yX,take_append_of_le_length→JL,take_of_length_le→fD,length_cons→cf,mem_cons→cI,not_mem_nil→lf,set_append_right→vq,set_cons_succ→w5,set_cons_zero→sC,flatMap_append→sG,mem_reverse→JM,pairwise_iff_getElem→sI,getElem_take→E7,getElem_mem→mD,nil_append→dx,mem_filter→kF,any_eq_true→np
open Bool renaming and_eq_true→bb,eq_false_iff→EP,true_and→eR,not_false→mC,not_true→lS
open Int renaming toNat_of_nonneg→oW
open Option renaming map_none→jf
open Go Go.Am Go.Proofs
namespace T
def adO(n:Int):ak Tryz.prog 117 [aam n] [] (.lit (.bool (n != 1))) []:=by
 refine ak.aL 5 0 [.tmp 2] Tryz.func117 ?_;refine Vb X0 ?_;exact aQ rfl rfl
def adP(m:ah)(P:List Nd)(hm:VM m)(hP:PB P):ak Tryz.prog 78 [.agg (aB m),.agg (bZ P)] [] (.lit (.bool (mq m P))) []:=by
 have UQ:=hP.HN;have wv:=hm.cls;generalize aq:mq m P=res;refine ak.aL 136 0 [.tmp 4] Tryz.func78 ?_;by_cases aH:1<=P.length/\P.length<=20000;rotate_left
 ·rw[Sx aH]at aq;subst aq;((repeat'(first|refine Vb @bZ.eq_1 ?_|(refine V2 @bZ.eq_1 ?_ ?_<;>try with_reducible intro hb)|(refine Xi ?_ ?_<;>try intro ht)|exact Xx|fail)))
  all_goals exact aQ rfl rfl
 obtain⟨lB,oy⟩:=aH;((repeat'(first|refine Vb @bZ.eq_1 ?_|(refine V2 @bZ.eq_1 ?_ ?_<;>try with_reducible intro hb)|(refine Xi ?_ ?_<;>try intro ht)|exact Xx|fail)))
 refine aW (λi:Nat=>(⟨ao [(2,.ptr 0 0 0),(3,.ptr 1 0 0),(5,.ref 2 1 0 P.length),(25,.tree 5 (rowsOf bk P)),(26,aam P.length),(27,aam i)],[.var (aB m),.var (bZ P),.arr 1 (ints (iS P.length (iR (P.take i))))]⟩:St))
  (λi=>i<=P.length/\∀ a,a<i->kY m P.length a (P.getD a default)=true) (λi=>P.length-i) 0 ⟨aS _,λa ha=>absurd ha (ns _)⟩ (by rw[qT];show aC _ _ ⟨_,[_,_,.arr 1 (ints (iS P.length []))]⟩;rw[Z2];exact Xv (X2 @bZ.eq_1 @FE)) ?_
 rintro i⟨hi,hall⟩Ql an aw;by_cases hi':i<P.length
 ·have bP:=aF (l:=P) (i:=i) (d:=default) hi';have b1:=hP.kids _ bP;have b2:=hP.gk _ bP;have b3:=hP.aX _ bP;have b4:=hP.cells _ bP;have lI:=jb hi';have EK:∀ l,iR (P.take (i+1))=iR (P.take i)++l↔l=(P.getD i default).kids:=λl=>by rw[lI,Z4];exact⟨λh=>(List.append_cancel_left h).symm,λh=>by rw[h]⟩
  have j5:=Sw (m:=m) hi';have hlen:=Sv (n:=0) hm (P.take i) λy hy=>by
   obtain⟨a,ha,rfl⟩:=q7 hy;rw[fE]at ha;have:=hall a Bv;unfold kY at this;rw[bb,ax,aT Bv]at this;simpa using this.1
  rw[fE]at hlen;generalize br:P.getD i default=x at *;obtain⟨c,kids,gk,aX,cells⟩:=x;dsimp only at b1 b2 b3 b4 EK;have EK:=(EK _).2 rfl;have cp:¬(r8 m ⟨c,kids,gk,aX,cells⟩=true)->res=false:=λh=>by
   rw[<- aq];refine j5 ?_;unfold kY;rw[EP.2 h,Bool.false_and]
  have Ex:∀ j,j<kids.length->¬(tC P.length i (kids.getD j 0)=true)->res=false:=λj hj h=>by
   rw[<- aq];refine j5 ?_;unfold kY;have:kids.all (tC P.length i)=false:=by
    rw[EP];intro h2;rw[eS]at h2;exact h (h2 _ (aF hj))
   dsimp only;rw[this,Bool.and_false]
  clear j5;generalize wV:m.cls.getD c.toNat default=wl at *;have yx:0<=c/\c<m.cls.length->wl.length<=24:=λh=>by rw[<- wV];exact hm.opt _ (aF Bv)
  by_cases jc:r8 m ⟨c,kids,gk,aX,cells⟩=true;rotate_left
  ·have hr:=cp jc;unfold r8 at jc;dsimp only at jc;rw[wV]at jc;by_cases mB:c = -1
   ·rw[if_pos mB,decide_eq_true_eq]at jc;((repeat'(first|refine Va (X3 @bZ.eq_1 @br @bk.eq_1) ?_|(refine V2 (X3 @bZ.eq_1 @br @bk.eq_1) ?_ ?_<;>try with_reducible intro hb)|(refine Xi ?_ ?_<;>try intro ht)|exact Xx|fail)))
    all_goals
     repeat(refine Xu ?_)
     ((repeat'(first|refine Vb X0 ?_|fail)))
     exact aQ rfl (by rw[hr])
   ·rw[if_neg mB,decide_eq_true_eq]at jc;by_cases az:0<=c/\c<m.cls.length
    ·have yx:=yx az;((repeat'(first|refine Va (X5 @bZ.eq_1 @br @bk.eq_1 @wV @bw.eq_1) ?_|(refine V2 (X5 @bZ.eq_1 @br @bk.eq_1 @wV @bw.eq_1) ?_ ?_<;>try with_reducible intro hb)|(refine Xi ?_ ?_<;>try intro ht)|exact Xx|fail)))
     all_goals
      repeat(refine Xu ?_)
      ((repeat'(first|refine Vb X0 ?_|fail)))
      exact aQ rfl (by rw[hr])
    ·((repeat'(first|refine Va (X3 @bZ.eq_1 @br @bk.eq_1) ?_|(refine V2 (X3 @bZ.eq_1 @br @bk.eq_1) ?_ ?_<;>try with_reducible intro hb)|(refine Xi ?_ ?_<;>try intro ht)|exact Xx|fail)))
     all_goals
      repeat(refine Xu ?_)
      ((repeat'(first|refine Vb X0 ?_|fail)))
      exact aQ rfl (by rw[hr])
  have Jj:=HO hm jc;have adQ:(∀ j,j<kids.length->tC P.length i (kids.getD j 0)=true)->kY m P.length i ⟨c,kids,gk,aX,cells⟩=true:=λh=>by
   unfold kY;rw[jc,eR,eS];intro k hk;obtain⟨j,hj,rfl⟩:=q7 hk;have:=h j hj;rwa [ax,aT hj]at this
  dsimp only at Jj;repeat'(first|((fail_if_success (first|refine gx 7 ?_|refine gy 7 ?_));refine Xr (X3 @bZ.eq_1 @br @bk.eq_1) ?_;intro K hK)|(refine hK _ ?_;clear hK K)|(refine Xi ?_ ?_<;>try intro ht)|refine Xy ?_|refine Xd ?_ ?_|exact Xx|fail)
  (refine MF ?_);intro Q0 kK lA
  refine uB ⟨ao [(2,.ptr 0 0 0),(3,.ptr 1 0 0),(5,.ref 2 1 0 P.length),(6,aam i),(7,.ptr 3 0 0),(25,.tree 5 (rowsOf bk P)),(26,aam P.length),(27,aam i)],[.var (aB m),.var (bZ P),.arr 1 (ints (iS P.length (iR (P.take i)))),.var (bk ⟨c,kids,gk,aX,cells⟩)]⟩ kK ?_ (λkey=>?_);rotate_left
  ·(try clear kK)
   unfold r8 at jc;dsimp only at jc;rw[wV]at jc;by_cases mB:c = -1
   ·rw[if_pos mB,decide_eq_true_eq]at jc;((repeat'(first|refine Va (X3 @bZ.eq_1 @br @bk.eq_1) ?_|(refine V2 (X3 @bZ.eq_1 @br @bk.eq_1) ?_ ?_<;>try with_reducible intro hb)|(refine Xi ?_ ?_<;>try intro ht)|exact Xx|fail)))
    all_goals
     refine key _ ?_;exact Xv (X2 @bZ.eq_1 @bk.eq_1)
   ·rw[if_neg mB,decide_eq_true_eq]at jc;have yx:=yx ⟨jc.1,jc.2.1⟩;((repeat'(first|refine Va (X5 @bZ.eq_1 @br @bk.eq_1 @wV @bw.eq_1) ?_|(refine V2 (X5 @bZ.eq_1 @br @bk.eq_1 @wV @bw.eq_1) ?_ ?_<;>try with_reducible intro hb)|(refine Xi ?_ ?_<;>try intro ht)|exact Xx|fail)))
    all_goals
     refine key _ ?_;exact Xv (X2 @bZ.eq_1 @bk.eq_1)
  (try clear kK;try clear lA)
  refine Va (X2 @bZ.eq_1 @bk.eq_1) ?_;refine aW (λj:Nat=>(⟨ao [(2,.ptr 0 0 0),(3,.ptr 1 0 0),(5,.ref 2 1 0 P.length),(6,aam i),(25,.tree 5 (rowsOf bk P)),(26,aam P.length),(27,aam i),(108,.tree 1 (ints kids)),(109,aam kids.length),(110,aam j)],[.var (aB m),.var (bZ P),.arr 1 (ints (iS P.length (iR (P.take i)++kids.take j)))]⟩:St))
   (λj=>j<=kids.length/\∀ a,a<j->tC P.length i (kids.getD a 0)=true) (λj=>kids.length-j) 0 ⟨aS _,λa ha=>absurd ha (ns _)⟩ (by rw[qT,List.append_nil];exact Xs false [0,1,2] @bZ.eq_1) ?_
  rintro j⟨hj,UR⟩dh bc bz;by_cases eF:j<kids.length
  ·have lV:=jb eF;have hkd:kids.getD j default=kids.getD j 0:=rfl;have adS:=Ex j eF;rw[hkd]at lV;have rK:(iR (P.take i)++kids.take j).length<=24*P.length+24:=by rw[aK,fE];omega
   generalize ng:kids.getD j 0=k at *;by_cases Br:tC P.length i k=true;rotate_left
   ·have hr:=adS Br;unfold tC at Br;rw[decide_eq_true_eq]at Br;((repeat'(first|refine Va (X2 @bZ.eq_1 @ng) ?_|(refine V2 (X2 @bZ.eq_1 @ng) ?_ ?_<;>try with_reducible intro hb)|(refine Xi ?_ ?_<;>try intro ht)|exact Xx|fail)))
    all_goals
     repeat(refine Xu ?_)
     ((repeat'(first|refine Vb X0 ?_|fail)))
     exact aQ rfl (by rw[hr])
   have US:=Br;unfold tC at US;rw[decide_eq_true_eq]at US;have zZ:=Z3 (n:=P.length) (l:=iR (P.take i)++kids.take j) (j:=k.toNat) Bv;have eL:=DH P.length (iR (P.take i)++kids.take j);have ik:=Z1 P.length (iR (P.take i)++kids.take j) k.toNat Bv;rw[oW Bv,bn,<- lV]at ik;((repeat'(first|refine Va (X3 @bZ.eq_1 @ng @eL) ?_|(refine V2 (X3 @bZ.eq_1 @ng @eL) ?_ ?_<;>try with_reducible intro hb)|(refine Xi ?_ ?_<;>try intro ht)|exact Xx|fail)))
   refine bc _ (j+1) ⟨Bv,λa ha=>?_⟩ Bv (by rw[ik];exact Xv @bZ.eq_1);by_cases e:a=j
   ·subst e;rw[ng];exact Br
   ·exact UR a Bv
  ·obtain rfl:j=kids.length:=Bv;rw[y9,<- EK];((repeat'(first|refine Va X0 ?_|(refine V2 X0 ?_ ?_<;>try with_reducible intro hb)|(refine Xi ?_ ?_<;>try intro ht)|exact Xx|fail)))
   refine bz _ _ rfl ?_;clear bc bz dh;repeat(refine Xu ?_)
   refine Va X0 ?_;refine an _ (i+1) ⟨Bv,λa ha=>?_⟩ Bv (Xv @bZ.eq_1);by_cases e:a=i
   ·subst e;rw[br];exact adQ UR
   ·exact hall a Bv
 ·obtain rfl:i=P.length:=Bv;rw[y9];have tM:=Z5 (m:=m) ⟨lB,oy⟩ hall;rw[aq]at tM;have wW:=J3 ((iS P.length (iR P)).drop 1) 117 [] [] (λx=>x != 1) (by rw[yZ,DH];omega) (λx _=>adO x);have eL:=DH P.length (iR P);have tY:(ints (iS P.length (iR P))).drop 1=ints ((iS P.length (iR P)).drop 1):=by unfold ints;rw[List.map_drop]
  have yl:((iS P.length (iR P)).drop 1).length=P.length-1:=by rw[yZ,DH]
  ((repeat'(first|refine Va X0 ?_|(refine Xi ?_ ?_<;>try intro ht)|exact Xx|fail)))
  refine aw _ _ rfl ?_;clear an aw Ql;repeat(refine Xu ?_)
  generalize iS P.length (iR P)=pc at *;refine cU (σ':=⟨ao [(5,.tree 1 (ints pc))],[]⟩) (by rw[<- eL];exact Xs true [] X0) ?_;((repeat'(first|refine Vd (X4 @eL @tY @yl @jf.{0,0}) wW ?_|refine VD ?_ ?_|fail)))
  ·intro _;trivial
  exact aQ rfl (by rw[tM])
structure adT(α:Type)(m:ah)(P:List Nd)(A B C:α->Ob)(bg:List AV)(g:FuncId)(step:α->e8->α×Bool)(Inv:α->List e8->Prop):Prop where
 ra:∀ (ρ:Nat->Nat),ρ 0=0->ρ 1=1->ρ 2=2->∀ a,bD ρ (A a)=A a/\bD ρ (B a)=B a/\bD ρ (C a)=C a
 rc:∀ (ρ:Nat->Nat),ρ 0=0->ρ 1=1->ρ 2=2->∀ v∈bg,aU ρ v=v
 inv:∀ a s L,wz m P s->Inv a (s::L)->Inv (step a s).1 L
 call:VM m->∀ a s L,wz m P s->Inv a (s::L)->ak Tryz.prog g (.agg [.lit (.int .i64 s.1),.tree 1 (rowsOf bl s.2.1)]::bg) [A a,B a,C a] (.lit (.bool (step a s).2)) [A (step a s).1,B (step a s).1,C (step a s).1]
def Jk{σ:St}{kp:Nat->Prop}{ρ:Nat->Nat}{snap:Bool}:∀ (l:List AV),(∀ v∈l,aU ρ v=v)->kJ (bt σ kp ρ snap) l l
 |[],_=>trivial
 |v::l,h=>⟨.eq (h v Jy).symm,Jk l λx hx=>h x (by simp[hx])⟩
def adU{α:Type}(m:ah)(P:List Nd)(hm:MB m)(hP:PB P)(A B C:α->Ob)(bg:List AV)(g:FuncId)(step:α->e8->α×Bool){Inv:α->List e8->Prop}(hE:adT α m P A B C bg g step Inv)(a:α)(hI:VM m->mq m P=true->Inv a (vs P (root m))):
  ak Tryz.prog 38 [.agg (aB m),.agg (bZ P),.fn g bg] [A a,B a,C a] (.lit (.bool (qI m P step a).2)) [A (qI m P step a).1,B (qI m P step a).1,C (qI m P step a).1]:=by
 have hv:=Fh m hm;have UQ:=hP.HN;have nj:∀ n l a,bD (bu n (0::1::2::l)) (A a)=A a:=λn l a=>(hE.ra _ rfl rfl rfl a).1;have nk:∀ n l a,bD (bu n (0::1::2::l)) (B a)=B a:=λn l a=>(hE.ra _ rfl rfl rfl a).2.1;have nm:∀ n l a,bD (bu n (0::1::2::l)) (C a)=C a:=λn l a=>(hE.ra _ rfl rfl rfl a).2.2;have zX:∀ n l,aU (bu n (0::1::2::l)) (.fn g bg)=.fn g bg:=λn l=>by
  rw[aU];refine congrArg _ ?_;have h:=hE.rc (bu n (0::1::2::l)) rfl rfl rfl;rw[uD];exact(List.map_congr_left h).trans (List.map_id bg)
 have hfn:∀ (σ:St) (kp:Nat->Prop) n l snap,bt σ kp (bu n (0::1::2::l)) snap (.fn g bg) (.fn g bg):=λσ kp n l snap=>.eq (zX n l).symm;generalize aq:qI m P step a=res;unfold qI at aq;refine ak.aL 88 3 [.tmp 6] Tryz.func38 ?_;by_cases Bs:mI m=0;rotate_left
 ·rw[if_neg (λh=>Bs h.1)]at aq;((repeat'(first|refine Vd @bZ.eq_1 hv ?_|(refine V2 @bZ.eq_1 ?_ ?_<;>try with_reducible intro hb)|(refine Xi ?_ ?_<;>try intro ht)|exact Xx|fail)))
  subst aq;exact Xw false [0,1,2] (X3 @nj @nk @nm)
 rw[Bs]at hv;have kA:=v5.1 Bs;have yI:=adP m P kA hP;cases hs:mq m P
 ·rw[hs]at yI aq;rw[if_neg Jy]at aq;((repeat'(first|refine Vd (X3 @bZ.eq_1 @bne_self_eq_false.{0} @mC) (X2 hv yI) ?_|(refine Xi ?_ ?_<;>try intro ht)|exact Xx|fail)))
  subst aq;exact Xw false [0,1,2] (X3 @nj @nk @nm)
 rw[hs]at yI aq;rw[if_pos ⟨Bs,rfl⟩]at aq;have fS:=aaL m hm;have UT:=aaU kA;have EL:=aaN hs;have rK:=aaO hs;clear Bs;have hIn:=hI kA hs;unfold root at aq hIn;generalize iv m=al at *;((repeat'(first|refine Vd (X3 @bZ.eq_1 @bne_self_eq_false.{0} @lS) (X3 hv yI fS) ?_|(refine Xi ?_ ?_<;>try intro ht)|exact Xx|fail)))
 refine aW (λz:List e8×List e8×α=>(⟨ao [(2,.fn g bg),(3,.ptr 3 0 0),(4,.ptr 4 0 0),(7,.ref 5 3 0 z.1.length)],[A z.2.2,B z.2.2,C z.2.2,.var (aB m),.var (bZ P),.arr 3 (rowsOf j3 (z.1.reverse++z.2.1))]⟩:St))
  (λz=>(∀ s∈z.1,wz m P s)/\wA z.1/\Inv z.2.2 (z.1.flatMap (vs P))/\wy P step (z.1.flatMap (vs P)) z.2.2=res) (λz=>(z.1.flatMap (vs P)).length) ([(0,al,[])],[],a) ⟨λs hs=>by rw[List.mem_singleton]at hs;subst hs;exact⟨rK.1,UT,aM _⟩,⟨aS _,trivial⟩,by simpa using hIn,by simpa using aq⟩ (Xv @bZ.eq_1) ?_
 clear aq UT hI hIn;rintro⟨T,J,a⟩⟨xH,iV,EN,aq⟩Ql an aw;dsimp only at xH iV EN aq ⊢;cases T with
 |nil =>
  rw[List.flatMap_nil,wy]at aq;((repeat'(first|refine Va X0 ?_|(refine Xi ?_ ?_<;>try intro ht)|exact Xx|fail)))
  refine aw _ _ rfl ?_;clear an aw Ql;repeat(refine Xu ?_)
  refine Vb X0 ?_;subst aq;exact Xw false [0,1,2] (X3 @nj @nk @nm)
 |cons s T =>
  have pM:=xH s Jy;have hgT:∀ t∈T,wz m P t:=λt ht=>xH t (by simp[ht]);have Jl:=aaQ EL pM.1;rw[qW,Jl,ew]at EN;have UU:=hE.inv a s _ pM EN;rw[qW,Jl,ew,wy]at aq;have AS:(rowsOf j3 ((s::T).reverse++J))[T.length]?=some (j3 s):=by
   unfold rowsOf;rw[List.getElem?_map,List.reverse_cons,bn,dy Jy];simp
  have lV:(rowsOf j3 ((s::T).reverse++J)).take T.length=rowsOf j3 T.reverse:=by
   unfold rowsOf;rw[<- yX,List.reverse_cons,bn,JL Jy,fD Jy]
  have j4:T.length+1<=((s::T).reverse++J).length:=Jy;have AO:(((T.length+1:Nat):Int)-1).toNat=T.length:=Bv;have qA:=aaM;rw[cf];generalize El:(s::T).reverse++J=L at *;obtain⟨AP,iV⟩:=iV;obtain⟨i,left,ab⟩:=s;dsimp only at AP;have hi:i<P.length:=pM.1;have mh:iP m left:=pM.2.1;have wB:ab.length<=i:=pM.2.2;have cp:P.getD i default=nd P i:=rfl;have bP:=aF (l:=P) (i:=i) (d:=default) hi;have b1:=hP.kids _ bP;have hdi:=EL i hi;have EO:=λo=>AL (o:=o) EL pM.1;have Jm:=λo=>aaS (o:=o) EL pM;have jc:=SL hs hi;have Bt:∀ o,tK P (i,left,ab) o=(((nd P i).kids.getD o 0).toNat,wx left (nd P i).cls.toNat o,ab++[(nd P i).cls]):=λo=>rfl;have Jn:sh P (i,left,ab)=iw P (i,left,ab) (nd P i).kids.length:=rfl;rw[cp]at b1 bP;dsimp only at aq EO Jm;generalize br:nd P i=x at *;obtain⟨c,kids,gk,aX,cells⟩:=x;dsimp only at b1 hdi EO Jm Bt Jn aq;repeat'(first|((fail_if_success (first|refine gx 8 ?_|refine gy 8 ?_));refine Xr (X5 @AS @j3.eq_1 @AO @qA (X4 @bZ.eq_1 @cp @bk.eq_1 @jf.{0,0})) ?_;intro K hK)|(refine hK _ ?_;clear hK K)|(refine Xi ?_ ?_<;>try intro ht)|refine Xy ?_|refine Xd ?_ ?_|exact Xx|fail)
  refine cU (aC.z6 8 6 (cells:=[aam i,.tree 1 (rowsOf bl left),oN ab]) aal (by simp only[Kc,simprocAttr]) (by
   intro v hv;simp only[cI,lf,or_false]at hv;rcases hv with rfl|rfl|rfl
   ·exact .inl ⟨_,rfl⟩
   ·exact .inr ⟨_,_,rfl⟩
   ·rcases SI ab with⟨y,h,_⟩|h
    ·exact .inl ⟨y,h⟩
    ·exact .inr h)) ?_
  refine cU (aC.z6 9 7 (cells:=bk ⟨c,kids,gk,aX,cells⟩) aal (by simp only[Kc,simprocAttr]) (by simp[bk])) ?_;refine cU (σ':=⟨ao [(2,.fn g bg),(3,.ptr 3 0 0),(4,.ptr 4 0 0),(7,.ref 5 3 0 T.length),(8,.bU [aam i,.tree 1 (rowsOf bl left),oN ab]),(9,.bU (bk ⟨c,kids,gk,aX,cells⟩))],[A a,B a,C a,.var (aB m),.var (bZ P),.arr 3 (rowsOf j3 L)]⟩) (by((refine aC.se [0,1,2,3,4,5] false (by simp only[Oc,simprocAttr,nj,nk,nm,bZ]) ?_;simp only[Hr,↓reduceIte,Nat.reduceEqDiff,oT,Nat.reduceAdd,nj,nk,nm,bZ];try(and_intros<;>first|exact .pure rfl|exact .eq rfl|exact .fz rfl (by simp only[Bc,Rc]))));(and_intros<;>first|exact hfn ..|exact .pure rfl|exact .eq rfl)) ?_;have mB:ak Tryz.prog 29 [oN ab,aam c] [] (.lit (.bool (ab.contains c))) []:=by
   have:=I' ab c Bv;cases ab with
   |nil=>exact ak.YH (pre:=[]) (post:=[aam c]) this
   |cons x r=>exact this
  cases UW:ab.contains c;rotate_left
  ·rw[UW]at mB aq;rw[if_pos rfl]at aq;((refine Va @bk.eq_1 ?_)<;>try with_reducible intro K hK)
   refine bx mB (SJ _ _) rfl ?_;((try revert hK K);(repeat'(first|refine Va @bk.eq_1 ?_|(refine Xi ?_ ?_<;>try intro ht)|exact Xx|fail)))
   repeat(refine Xu ?_)
   refine Vb X0 ?_;rw[<- aq];exact Xw false [0,1,2] (X3 @nj @nk @nm)
  rw[UW]at mB aq;rw[if_neg Jy]at aq;have fX:=hE.call kA a (i,left,ab) _ pM EN;dsimp only at fX;generalize c9:step a (i,left,ab)=sa at *;obtain⟨a2,b⟩:=sa;dsimp only at fX aq UU;((refine Va @bk.eq_1 ?_)<;>try with_reducible intro K hK)
  refine bx mB (SJ _ _) rfl ?_;cases b
  ·rw[if_neg Jy]at aq;((try revert hK K);(refine Va @bk.eq_1 ?_)<;>try with_reducible intro K hK)
   refine fw [0,1,2] fX aac ⟨by rw[nj];rfl,by rw[nk];rfl,by rw[nm];rfl,trivial⟩ ⟨.pure rfl,Jk bg (hE.rc _ rfl rfl rfl)⟩ ?_;((try revert hK K);(repeat'(first|refine Va (X4 @bk.eq_1 @nj @nk @nm) ?_|(refine Xi ?_ ?_<;>try intro ht)|exact Xx|fail)))
   repeat(refine Xu ?_)
   refine Vb X0 ?_;rw[<- aq];exact Xw false [0,1,2] (X3 @nj @nk @nm)
  rw[if_pos rfl]at aq;((try revert hK K);(refine Va @bk.eq_1 ?_)<;>try with_reducible intro K hK)
  refine fw [0,1,2] fX aac ⟨by rw[nj];rfl,by rw[nk];rfl,by rw[nm];rfl,trivial⟩ ⟨.pure rfl,Jk bg (hE.rc _ rfl rfl rfl)⟩ ?_;((try revert hK K);(repeat'(first|refine Va (X4 @bk.eq_1 @nj @nk @nm) ?_|(refine Xi ?_ ?_<;>try intro ht)|exact Xx|fail)))
  have kD:0<kids.length->0<=c/\c<m.cls.length/\kids.length=(m.cls.getD c.toNat default).length:=λh=>by
   unfold kY r8 at jc;dsimp only at jc;rw[bb]at jc;have h1:=jc.1;split at h1
   ·rw[decide_eq_true_eq]at h1;omega
   ·rw[decide_eq_true_eq]at h1;exact⟨h1.1,h1.2.1,h1.2.2.1⟩
  have Jj:kids.length<=24:=by
   unfold kY at jc;rw[bb]at jc;exact HO kA jc.1
  refine aW (λz:Nat×List e8=>(⟨ao [(2,.fn g bg),(3,.ptr 3 0 0),(4,.ptr 4 0 0),(7,.ref 5 3 0 (T.length+z.1)),(8,.bU [aam i,.tree 1 (rowsOf bl left),oN ab]),(9,.bU (bk ⟨c,kids,gk,aX,cells⟩)),(60,.tree 1 (ints kids)),(61,aam kids.length),(62,aam z.1)],[A a2,B a2,C a2,.var (aB m),.var (bZ P),.arr 3 (rowsOf j3 z.2)]⟩:St))
   (λz=>z.1<=kids.length/\T.length+z.1<=z.2.length/\z.2.take (T.length+z.1)=T.reverse++iw P (i,left,ab) z.1) (λz=>kids.length-z.1) (0,L) ⟨aS _,aad,by
    dsimp only;rw[<- El,Nat.add_zero,List.reverse_cons,bn,JL Jy,fD Jy];simp[iw]⟩ (Xv (X2 @bZ.eq_1 @bk.eq_1)) ?_
  rintro⟨o,L2⟩⟨ho,qJ,Jo⟩dh bc bz;dsimp only at ho qJ Jo ⊢;by_cases cD:o<kids.length
  ·obtain⟨c1,c2,c3⟩:=kD Bv;obtain⟨k1,k2,k3⟩:=EO o cD;have Bt:=Bt o;have Io:(left.getD c.toNat default).length=kids.length:=by rw[c3];exact mh.2 c.toNat (by have:=mh.1;omega)
   have pj:=adX left c.toNat o (by have:=mh.1;omega) Bv (by have:=mh.1;have:=kA.cls;omega) Bv;rw[oW c1]at pj;have EC:(rowsOf j3 L2).take (T.length+o)=rowsOf j3 (T.reverse++iw P (i,left,ab) o):=by unfold rowsOf;rw[<- yX,Jo]
   have eL:(T.reverse++iw P (i,left,ab) o).length=T.length+o:=by simp[iw]
   generalize ng:kids.getD o 0=k at *;generalize wx left c.toNat o=on at *;by_cases UX:ab=[]
   ·subst UX;((repeat'(first|refine Vc (X5 @bk.eq_1 @ng (X2 @oN.eq_1 @oN.eq_2) @EC @eL) (X2 pj adY) ?_|(refine Xi ?_ ?_<;>try intro ht)|exact Xx|fail)))
    have va:(rowsOf j3 (T.reverse++iw P (i,left,[]) o)++[[AV.lit (.int .i64 k),.tree 1 (rowsOf bl on),.ref 7 1 0 1]])[T.length+o]?=some [AV.lit (.int .i64 k),.tree 1 (rowsOf bl on),.ref 7 1 0 1]:=by
     rw[dy (by simp[rowsOf,<- eL])];simp[rowsOf,<- eL]
    have Jp:rowsOf j3 (T.reverse++iw P (i,left,[]) (o+1))=(rowsOf j3 (T.reverse++iw P (i,left,[]) o)++[[AV.lit (.int .i64 k),.tree 1 (rowsOf bl on),.ref 7 1 0 1]]).set (T.length+o) [AV.lit (.int .i64 k),.tree 1 (rowsOf bl on),.tree 1 [[AV.lit (.int .i64 c)]]]:=by
     rw[vq _ _ (by simp[rowsOf,<- eL]),SK,Bt];have:(((k.toNat:Nat):Int))=k:=Bv;simp[rowsOf,<- eL,j3,oN,ints,this]
    have lN:(T.reverse++iw P (i,left,[]) (o+1)).length=T.length+(o+1):=by simp[iw]
    refine bc _ (o+1,T.reverse++iw P (i,left,[]) (o+1)) ⟨aad,JP lN.symm,fD (JP lN)⟩ aad ?_;refine aC.trans (aC.PU 7 9 (T.length+o) 2 1 3 (rows:=[[AV.lit (.int .i64 c)]]) rfl va rfl rfl aac Jy Jy) ?_;simp only[w5,sC];rw[<- Jp];((refine aC.se [0,1,2,3,4,9] false (by simp only[Oc,simprocAttr,nj,nk,nm,bZ]) ?_;simp only[Hr,↓reduceIte,Nat.reduceEqDiff,oT,Nat.reduceAdd,nj,nk,nm,bZ];try(and_intros<;>first|exact .pure rfl|exact .eq rfl|exact .fz rfl (by simp only[Bc,Rc]))))
    and_intros<;>first|exact hfn ..|exact .pure rfl|exact .eq rfl
   ·have oe:0<ab.length:=by
     cases ab with
     |nil=>exact absurd rfl UX
     |cons=>simp
    have BS:∀ l:List Int,0<l.length->oN l=.tree 1 (ints l):=λl h=>by
     cases l with
     |nil=>simp at h
     |cons=>rfl
    have yJ:=BS ab oe;have adZ:=BS (ab++[c]) Jy;have cz:=ady ab oe Bv;have ou:(ints (ab++[c])).length=ab.length+1:=by simp[ints]
    have va:(rowsOf j3 (T.reverse++iw P (i,left,ab) o)++[[AV.lit (.int .i64 k),.tree 1 (rowsOf bl on),.ref 8 1 0 (ab.length+1)]])[T.length+o]?=some [AV.lit (.int .i64 k),.tree 1 (rowsOf bl on),.ref 8 1 0 (ab.length+1)]:=by
     rw[dy (by simp[rowsOf,<- eL])];simp[rowsOf,<- eL]
    have Jp:rowsOf j3 (T.reverse++iw P (i,left,ab) (o+1))=(rowsOf j3 (T.reverse++iw P (i,left,ab) o)++[[AV.lit (.int .i64 k),.tree 1 (rowsOf bl on),.ref 8 1 0 (ab.length+1)]]).set (T.length+o) [AV.lit (.int .i64 k),.tree 1 (rowsOf bl on),.tree 1 (ints (ab++[c]))]:=by
     rw[vq _ _ (by simp[rowsOf,<- eL]),SK,Bt];have:(((k.toNat:Nat):Int))=k:=Bv;simp[rowsOf,<- eL,j3,adZ,this]
    have lN:(T.reverse++iw P (i,left,ab) (o+1)).length=T.length+(o+1):=by simp[iw]
    repeat'(first|((fail_if_success (first|refine gx 13 ?_|refine gy 13 ?_));refine Xr (X3 @bk.eq_1 @ng @yJ) ?_;intro K hK)|(refine hK _ ?_;clear hK K)|(refine Xi ?_ ?_<;>try intro ht)|refine Xy ?_|refine Xd ?_ ?_|exact Xx|fail)
    refine ln [4,6,8,11,14] (.take 0 (.take 1 (.take 2 (.take 3 (.take 4 (.take 5 (.take 6 (.take 7 (.take 8 (.take 9 (.take 10 (.take 11 (.both 12 (.take 13 (.take 14 (.take 15 (.take 16 (.take 17 (.take 18 (.take 19 (.take 20 .nil)))))))) 13 (.take 14 (.both 12 (.take 15 (.take 16 (.take 17 (.take 18 (.take 19 (.take 20 .nil)))))) 15 (.take 12 (.take 16 (.take 17 (.take 18 (.take 19 (.take 20 .nil))))))))))))))))))))) rfl aac (by decide +kernel) ?_;simp(disch:=omega)only[Ac,↓Pc,simprocAttr,Pw,↓Lq,bk,ng,yJ];refine bJ pj rfl rfl ?_;simp(disch:=omega)only[Ac,↓Pc,simprocAttr,Pw,↓Lq,bk,ng,yJ];repeat'(with_reducible refine And.intro ?_ ?_)
    all_goals try(refine fw [] cz aac trivial ⟨.pure rfl,trivial⟩ ?_;simp(disch:=omega)only[Ac,↓Pc,simprocAttr,Pw,↓Lq,bk,ng,yJ,Nat.sub_self,Nat.sub_zero,EC,eL,FD])
    repeat'(first|with_reducible refine And.intro ?_ ?_|omega)
    all_goals
     repeat(refine Xu ?_)
     ((repeat'(first|refine Va X0 ?_|fail)))
    all_goals
     refine bc _ (o+1,T.reverse++iw P (i,left,ab) (o+1)) ⟨aad,JP lN.symm,fD (JP lN)⟩ aad ?_;refine aC.trans (aC.PU 8 10 (T.length+o) 2 1 3 (rows:=ints (ab++[c])) rfl va rfl (by rw[ou];rfl) aac (lh _) (o9 _)) ?_;simp only[w5,sC];rw[<- Jp];((refine aC.se [0,1,2,3,4,10] false (by simp only[Oc,simprocAttr,nj,nk,nm,bZ,yJ]) ?_;simp only[Hr,↓reduceIte,Nat.reduceEqDiff,oT,Nat.reduceAdd,nj,nk,nm,bZ,yJ];try(and_intros<;>first|exact .pure rfl|exact .eq rfl|exact .fz rfl (by simp only[Bc,Rc]))))
     and_intros<;>first|exact hfn ..|exact .pure rfl|exact .eq rfl
  ·obtain rfl:o=kids.length:=Bv;((repeat'(first|refine Va @bk.eq_1 ?_|(refine Xi ?_ ?_<;>try intro ht)|exact Xx|fail)))
   refine bz _ _ rfl ?_;clear bc bz dh;repeat(refine Xu ?_)
   ((skip))
   have dS:(iw P (i,left,ab) kids.length).length=kids.length:=by simp[iw]
   have tJ:T.reverse++iw P (i,left,ab) kids.length++L2.drop (T.length+kids.length)=L2:=by rw[<- Jo,List.take_append_drop]
   refine an _ ((sh P (i,left,ab)).reverse++T,L2.drop (T.length+kids.length),a2) ⟨λt ht=>?_,?_,by dsimp only;rw[sG];exact UU,?_⟩ ?_ ?_
   ·dsimp only at ht;rw[List.mem_append]at ht;rcases ht with ht|ht
    ·obtain⟨o,ho,rfl⟩:=DL (JM.1 ht);dsimp only at ho;rw[br]at ho;exact Jm o ho
    ·exact hgT t ht
   ·dsimp only;refine wA.push iV AP _ (λt ht=>?_) (by rw[List.length_reverse,Jn,dS];exact Jj);obtain⟨o,ho,rfl⟩:=DL (JM.1 ht);dsimp only at ho;rw[br]at ho;exact(EO o ho).1
   ·dsimp only;rw[sG];exact aq
   ·dsimp only;rw[sG,qW,Jl,aK,aK,cf];omega
   ·dsimp only;rw[List.reverse_append,List.reverse_reverse,Jn,tJ,aK,List.length_reverse,dS,Nat.add_comm kids.length T.length];exact Xv @bZ.eq_1
def qS(m:ah)(P:List Nd)(b:Int)(s:e8):Int×Bool :=
 if(nd P s.1).cls≠-1 then(b,true)
 else if 0<(nd P s.1).aX.length then(b,my m (nd P s.1) s.2.1)
 else(min b (we m s.2.1 (nd P s.1).gk).1,(we m s.2.1 (nd P s.1).gk).2==0)
def yK(m:ah)(P:List Nd):Int×Bool:=if(qI m P (qS m P) 1099511627776).2=true then((qI m P (qS m P) 1099511627776).1,true) else(0,false)
def ad0(m:ah)(P:List Nd)(hP:PB P)(hm:VM m)(b:Int)(s:e8)(hs:wz m P s):
  ak Tryz.prog 39 [.agg [aam s.1,.tree 1 (rowsOf bl s.2.1)],.ptr 1 0 0,.ptr 0 0 0,.ptr 2 0 0] [.var (aB m),.var (bZ P),.var [aam b]] (.lit (.bool (qS m P b s).2)) [.var (aB m),.var (bZ P),.var [aam (qS m P b s).1]]:=by
 obtain⟨i,left,ab⟩:=s;have hi:i<P.length:=hs.1;have hf:iP m left:=hs.2.1;have UQ:=hP.HN;have cp:P.getD i default=nd P i:=rfl;have bP:=aF (l:=P) (i:=i) (d:=default) hi;have b2:=hP.gk _ bP;have b3:=hP.aX _ bP;have b4:=hP.cells _ bP;have b5:=hP.cell _ bP;generalize aq:qS m P b (i,left,ab)=res;unfold qS at aq;rw[cp]at b2 b3 b4 b5;dsimp only at aq;have l6:=ad1 m (nd P i) left hm hf b3 b4 b5;have hlf:=aay m left (nd P i).gk hm hf b2;generalize my m (nd P i) left=cw at *;generalize we m left (nd P i).gk=lt at *;generalize br:nd P i=x at *;obtain⟨c,kids,gk,aX,cells⟩:=x;obtain⟨v,e⟩:=lt;dsimp only at *;refine ak.aL 41 3 [.tmp 5] Tryz.func39 ?_;by_cases hc:c = -1;rotate_left
 ·rw[if_pos hc]at aq;((repeat'(first|refine Vb (X3 @bZ.eq_1 @cp @bk.eq_1) ?_|(refine Xi ?_ ?_<;>try intro ht)|exact Xx|fail)))
  subst aq;exact Xw false [0,1,2] @bZ.eq_1
 rw[if_neg Bv]at aq;by_cases hg:0<aX.length
 ·rw[if_pos hg]at aq;((repeat'(first|refine Vd (X3 @bZ.eq_1 @cp @bk.eq_1) l6 ?_|(refine Xi ?_ ?_<;>try intro ht)|exact Xx|fail)))
  subst aq;exact Xw false [0,1,2] @bZ.eq_1
 rw[if_neg hg]at aq;((repeat'(first|refine Vd (X3 @bZ.eq_1 @cp @bk.eq_1) hlf ?_|(refine Xi ?_ ?_<;>try intro ht)|exact Xx|fail)))
 subst aq;exact Xw false [0,1,2] @bZ.eq_1
def aat(m:ah)(P:List Nd)(hm:MB m)(hP:PB P):ak Tryz.prog 17 [.agg (aB m),.agg (bZ P)] [] (.bH [aam (yK m P).1,.lit (.bool (yK m P).2)]) []:=by
 have hw:=adU m P hm hP (λ_=>.var (aB m)) (λ_=>.var (bZ P)) (λb:Int=>.var [aam b]) [.ptr 1 0 0,.ptr 0 0 0,.ptr 2 0 0] 39 (qS m P) (Inv:=λ_ _=>True)
  ⟨λρ h0 h1 h2 a=>⟨rfl,rfl,rfl⟩,λρ h0 h1 h2 v hv=>by
   simp only[cI,lf,or_false]at hv;rcases hv with rfl|rfl|rfl<;>simp only[aU,h0,h1,h2],λ_ _ _ _ _=>trivial,λkA a s _ hs _=>ad0 m P hP kA a s hs⟩ 1099511627776 (λ_ _=>trivial)
 generalize aq:yK m P=res;unfold yK at aq;generalize qI m P (qS m P) 1099511627776=r at *;obtain⟨b,ok⟩:=r;dsimp only at hw aq;refine ak.aL 15 0 [.tmp 4,.tmp 5] Tryz.func17 ?_;((refine Vb @bZ.eq_1 ?_)<;>try with_reducible intro K hK)
 refine eT hw Jy ?_;cases ok
 ·rw[if_neg Jy]at aq;((try revert hK K);(repeat'(first|refine Vb @mC ?_|(refine Xi ?_ ?_<;>try intro ht)|exact Xx|fail)))
  subst aq;exact aQ rfl rfl
 ·rw[if_pos rfl]at aq;((try revert hK K);(repeat'(first|refine Vb @lS ?_|(refine Xi ?_ ?_<;>try intro ht)|exact Xx|fail)))
  subst aq;exact aQ rfl rfl
def ad3{m:ah}{L:List (Int×Int)}(h:pG m L=true):L.Pairwise λa b=>pF m b a=true:=by
 rw[sI];intro i j hi hj oJ;rw[pG,eS]at h;have h1:=h j (List.mem_range.2 hj);rw[Dp,eS]at h1;have h2:=h1 L[i] (by
  have e:L[i]=(L.take j)[i]'(by rw[fE];omega):=by rw[E7]
  rw[e];exact mD _)
 rwa [ax,aT hj,Option.getD_some]at h2
def ad4{m:ah}{g:List Int}{L:List (Int×Int)}(h:L.Pairwise λa b=>pF m b a=true)(hg:∀ x∈L,iH g x=true/\fH m x.1 x.2=true):pK m g L=true:=by
 unfold pK;rw[uV];intro i hi;have e:L.getD i default=L[i]:=by rw[ax,aT hi];rfl
 unfold uT;rw[e];obtain⟨h1,h2⟩:=hg _ (mD hi);unfold iH at h1;rw[h1,h2,eR,eR,eS];intro y hy;obtain⟨j,hj,rfl⟩:=List.mem_iff_getElem.1 hy;rw[E7];rw[fE]at hj;exact sI.1 h j i Bv hi Bv
def ad5(m:ah)(X:List (Int×Int))(x:Int×Int):(gF m X x).Pairwise λa b=>pF m b a=true:=by
 unfold gF;split
 ·rename_i h;rw[bb]at h;exact ad3 h.2
 ·exact List.pairwise_singleton ..
def aar{m:ah}{A:List (List (Int×Int))}{Y:List (Int×Int)}{left:List (List Bool)}{L:List (List Int)}(hXe:Y=fU m left)(eX:iP m left)(pL:tw Y (gF m Y) A)(ky:nQ m.cls.length A L)(r9:gQ A.length L)(az:∀ x∈Y,qP m x)(bP:∀ c i:Nat,c<m.cls.length->i<(m.cls.getD c default).length->(left.getD c default).getD i false=true->((c:Int),(i:Int))∈Y)(cC:(da L A.length).1≠[]):
  my m ⟨-1,[],[],(da L A.length).1,gj gG (kX A (da L A.length)) []⟩ left=true:=by
 have jt:=x8 m Y;have hX0:∀ x∈Y,0<=x.1/\x.1<m.cls.length:=λx hx=>(az x hx).1;have lk:=R3 jt pL ky r9 hX0;have TU:=Sr r9 cC;obtain⟨aE,mm,i1,i2,i3,i4,i5⟩:=Dt r9;have hG:(da L A.length).1=cY aE 0:=by rw[i3]
 have afi:aE.length=m.cls.length:=by rw[i1,ky.len]
 have UY:∀ x∈(da L A.length).1,0<=x/\x<m.cls.length:=λx hx=>by
  rw[hG]at hx;have:=tp _ _ x hx;omega
 have hGs:(da L A.length).1.Pairwise (· < ·):=by rw[hG];exact Ss _ _
 have UZ:=λD=>(Az gG (kX A (da L A.length)) []).mem_iff (a:=D);have hlen:(gj gG (kX A (da L A.length)) []).length=(da L A.length).2.length:=by
  rw[Ay];unfold kX;rw[List.length_map];simp
 generalize hGG:(da L A.length).1=G at *;generalize hCC:gj gG (kX A (da L A.length)) []=C at *;refine Sz ?_ aad ?_ ?_
 ·dsimp only;unfold ye;rw[uV];intro i hi;have e:G.getD i 0=G[i]:=by rw[ax,aT hi];rfl
  have hr:=UY _ (mD hi);rw[decide_eq_true_eq,e];refine⟨hr.1,hr.2,?_⟩;by_cases h0:i=0
  ·exact .inl h0
  ·right;rw[ax,aT (by omega:i-1<G.length)];exact sI.1 hGs (i-1) i Bv hi Bv
 ·dsimp only;rw[eS];intro D hD;have h1:=(UZ D).1 hD;rw[dx]at h1;obtain⟨B,hB,_,rfl⟩:=(lk D).1 h1;obtain⟨x,hx,rfl⟩:=(pL.mem B).1 hB;refine ad4 ((ad5 m Y x).filter _) λy hy=>?_;obtain⟨h2,h3⟩:=kF.1 hy;refine⟨h3,?_⟩;obtain⟨⟨a1,a2⟩,a3,a4⟩:=az y (jt.sub x hx y h2).1;unfold fH;rw[decide_eq_true_eq];exact⟨a1,a2,a3,a4⟩
 ·dsimp only;rw[eS];intro c hc;have l6:=UY c hc;unfold uU;rw[uV];intro o ho;cases hb:(left.getD c.toNat default).getD o false with
  |false=>rfl
  |true =>
   rw[lS,Bool.false_or,np];have dC:=eX.2 c.toNat (by have:=eX.1;omega);have hx:=bP c.toNat o Bv Bv hb;rw[oW l6.1]at hx;have hi:iH G (c,(o:Int))=true:=by unfold iH;rw[List.contains_iff_mem];exact hc
   refine⟨(gF m Y (c,(o:Int))).filter (iH G),(UZ _).2 ?_,?_⟩
   ·rw[dx];exact(lk _).2 ⟨_,(pL.mem _).2 ⟨_,hx,rfl⟩,⟨_,jt.self _ hx,hi⟩,rfl⟩
   ·rw[np];exact⟨(c,(o:Int)),kF.2 ⟨jt.self _ hx,hi⟩,by unfold mu;exact decide_eq_true rfl⟩
def aas{m:ah}(hm:VM m){G:List Int}{C:List (List (Int×Int))}(hG:G≠[])(h:my m ⟨-1,[],[],G,C⟩ (iv m)=true):yK m [⟨-1,[],[],G,C⟩]=(1099511627776,true):=by
 have hg:=List.length_pos_iff.2 hG;have cp:nd [(⟨-1,[],[],G,C⟩:Nd)] 0=⟨-1,[],[],G,C⟩:=rfl;have yI:mq m [⟨-1,[],[],G,C⟩]=true:=by
  unfold mq;rw[bb,bb];refine⟨⟨by rw[decide_eq_true_eq];exact⟨aM _,Jy⟩,?_⟩,?_⟩
  ·rw[uV];intro i hi;have uS:i=0:=by simp at hi;exact hi
   subst uS;show kY m 1 0 ⟨-1,[],[],G,C⟩=true;unfold kY r8;rw[if_pos rfl,bb,decide_eq_true_eq];exact⟨⟨rfl,λh=>by dsimp only at h;omega,λ_=>rfl⟩,rfl⟩
  ·unfold iS iR;rfl
 have hvs:vs [(⟨-1,[],[],G,C⟩:Nd)] (root m)=[root m]:=rfl;have hw:qI m [⟨-1,[],[],G,C⟩] (qS m [⟨-1,[],[],G,C⟩]) 1099511627776=(1099511627776,true):=by
  unfold qI;rw[if_pos ⟨v5.2 hm,yI⟩,hvs,wy];have c9:qS m [⟨-1,[],[],G,C⟩] 1099511627776 (root m)=(1099511627776,true):=by
   unfold qS;rw[show(root m).1=0 from rfl,cp,if_neg Jy,if_pos (by dsimp only;exact hg),show(root m).2.1=iv m from rfl,h]
  rw[if_neg (by show ¬([]:List Int).contains _=true;simp),c9,if_pos rfl,wy]
 unfold yK;rw[hw];rfl
end T

