import Derived.Test.YtfoopmojjjpapaaGreatX33
import Derived.Test.YtfoopmojjjpapaaGreatX34
set_option linter.all false
set_option maxHeartbeats 0
set_option maxRecDepth 20000
open Nat renaming zero_le→aS,not_lt_zero→pd,reduceBEq→sF,le_of_eq→Ko
open List renaming take_zero→mD,getElem_of_mem→mZ,length_take→eY,getD_eq_getElem?_getD→az,getElem?_eq_getElem→bF,all_eq_true→fW,length_append→bO,append_assoc→bE,take_length→wG,length_drop→wy,flatMap_cons→tM,cons_append→dx,reverse_cons→Kn,getElem?_append_right→iA,map_take→GO,take_of_length_le→dm,length_cons→dq,mem_cons→bw,not_mem_nil→iM,set_append_right→D2,set_cons_succ→y8,set_cons_zero→u4,flatMap_append→sv,mem_reverse→wE
open Bool renaming and_eq_true→bb,eq_false_iff→Cf,not_false→kB,not_true→iN
open Int renaming toNat_of_nonneg→wF,le_refl→mY,le_trans→P7
open Option renaming map_none→qT
open Go Go.Am Go.Proofs
namespace T
def aiv(n:Int):Holds Tryz.prog 128 [Qf n] [] (.lit (.bool (n != 1))) []:=by
 refine Holds.aM 5 0 [.tmp 2] Tryz.func128 ?_;refine Vb X0 ?_;exact aO rfl rfl
def aiw(m:ah)(P:List Nd)(hm:VM m)(hP:PB P):Holds Tryz.prog 95 [.agg (an m),.agg (aJ P)] [] (.lit (.bool (jh m P))) []:=by
 have xp:=hP.C6;have oT:=hm.cls;generalize au:jh m P=res;refine Holds.aM 136 0 [.tmp 4] Tryz.func95 ?_;by_cases aP:1<=P.length/\P.length<=20000;rotate_left
 ·rw[Uf aP]at au;subst au;((repeat'(first|refine Vb @aJ.eq_1 ?_|(refine V2 @aJ.eq_1 ?_ ?_<;>try with_reducible intro hb)|(refine Xi ?_ ?_<;>try intro ht)|exact Xx|fail)))
  all_goals exact aO rfl rfl
 obtain⟨jr,kC⟩:=aP;((repeat'(first|refine Vb @aJ.eq_1 ?_|(refine V2 @aJ.eq_1 ?_ ?_<;>try with_reducible intro hb)|(refine Xi ?_ ?_<;>try intro ht)|exact Xx|fail)))
 refine aR (λi:Nat=>(⟨ao [(2,.ptr 0 0 0),(3,.ptr 1 0 0),(5,.ref 2 1 0 P.length),(25,.tree 5 (rowsOf aB P)),(26,Qf P.length),(27,Qf i)],[.var (an m),.var (aJ P),.arr 1 (ints (jR P.length (fi (P.take i))))]⟩:St))
  (λi=>i<=P.length/\∀ a,a<i->kL m P.length a (P.getD a default)=true) (λi=>P.length-i) 0 ⟨aS _,λa ha=>absurd ha (pd _)⟩ (by rw[mD];show aH _ _ ⟨_,[_,_,.arr 1 (ints (jR P.length []))]⟩;rw[ahm];exact Xv (X2 @aJ.eq_1 @KT)) ?_
 rintro i⟨hi,dY⟩Ql ak aq;by_cases ar:i<P.length
 ·have bR:=aF (l:=P) (i:=i) (d:=default) ar;have b1:=hP.kids _ bR;have b2:=hP.c9 _ bR;have b3:=hP.a7 _ bR;have b4:=hP.cells _ bR;have ez:=eu ar;have IN:∀ l,fi (P.take (i+1))=fi (P.take i)++l↔l=(P.getD i default).kids:=λl=>by rw[ez,MF];exact⟨λh=>(List.append_cancel_left h).symm,λh=>by rw[h]⟩
  have ig:=Ue (m:=m) ar;have hlen:=Ud (n:=0) hm (P.take i) λy hy=>by
   obtain⟨a,ha,rfl⟩:=mZ hy;rw[eY]at ha;have:=dY a GK;unfold kL at this;rw[bb,az,bF GK]at this;simpa using this.1
  rw[eY]at hlen;generalize bZ:P.getD i default=x at *;obtain⟨c,kids,c9,a7,cells⟩:=x;dsimp only at b1 b2 b3 b4 IN;have IN:=(IN _).2 rfl;have bV:¬(mg m ⟨c,kids,c9,a7,cells⟩=true)->res=false:=λh=>by
   rw[<- au];refine ig ?_;unfold kL;rw[Cf.2 h,Bool.false_and]
  have BA:∀ j,j<kids.length->¬(ln P.length i (kids.getD j 0)=true)->res=false:=λj hj h=>by
   rw[<- au];refine ig ?_;unfold kL;have:kids.all (ln P.length i)=false:=by
    rw[Cf];intro h2;rw[fW]at h2;exact h (h2 _ (aF hj))
   dsimp only;rw[this,Bool.and_false]
  clear ig;generalize nw:m.cls.getD c.toNat default=wl at *;have zY:0<=c/\c<m.cls.length->wl.length<=24:=λh=>by rw[<- nw];exact hm.opt _ (aF GK)
  by_cases fI:mg m ⟨c,kids,c9,a7,cells⟩=true;rotate_left
  ·have hr:=bV fI;unfold mg at fI;dsimp only at fI;rw[nw]at fI;by_cases fj:c = -1
   ·rw[if_pos fj,decide_eq_true_eq]at fI;((repeat'(first|refine Va (X3 @aJ.eq_1 @bZ @aB.eq_1) ?_|(refine V2 (X3 @aJ.eq_1 @bZ @aB.eq_1) ?_ ?_<;>try with_reducible intro hb)|(refine Xi ?_ ?_<;>try intro ht)|exact Xx|fail)))
    all_goals
     repeat(refine Xu ?_)
     ((repeat'(first|refine Vb X0 ?_|fail)))
     exact aO rfl (by rw[hr])
   ·rw[if_neg fj,decide_eq_true_eq]at fI;by_cases ax:0<=c/\c<m.cls.length
    ·have zY:=zY ax;((repeat'(first|refine Va (X5 @aJ.eq_1 @bZ @aB.eq_1 @nw @aW.eq_1) ?_|(refine V2 (X5 @aJ.eq_1 @bZ @aB.eq_1 @nw @aW.eq_1) ?_ ?_<;>try with_reducible intro hb)|(refine Xi ?_ ?_<;>try intro ht)|exact Xx|fail)))
     all_goals
      repeat(refine Xu ?_)
      ((repeat'(first|refine Vb X0 ?_|fail)))
      exact aO rfl (by rw[hr])
    ·((repeat'(first|refine Va (X3 @aJ.eq_1 @bZ @aB.eq_1) ?_|(refine V2 (X3 @aJ.eq_1 @bZ @aB.eq_1) ?_ ?_<;>try with_reducible intro hb)|(refine Xi ?_ ?_<;>try intro ht)|exact Xx|fail)))
     all_goals
      repeat(refine Xu ?_)
      ((repeat'(first|refine Vb X0 ?_|fail)))
      exact aO rfl (by rw[hr])
  have Fk:=Il hm fI;have xq:(∀ j,j<kids.length->ln P.length i (kids.getD j 0)=true)->kL m P.length i ⟨c,kids,c9,a7,cells⟩=true:=λh=>by
   unfold kL;rw[fI,Bool.true_and,fW];intro k hk;obtain⟨j,hj,rfl⟩:=mZ hk;have:=h j hj;rwa [az,bF hj]at this
  dsimp only at Fk;repeat'(first|((fail_if_success (first|refine eM 7 ?_|refine eN 7 ?_));refine Xr (X3 @aJ.eq_1 @bZ @aB.eq_1) ?_;intro K hK)|(refine hK _ ?_;clear hK K)|(refine Xi ?_ ?_<;>try intro ht)|refine Xy ?_|refine Xd ?_ ?_|exact Xx|fail)
  (refine aix ?_);intro Q0 gv ns
  refine ph ⟨ao [(2,.ptr 0 0 0),(3,.ptr 1 0 0),(5,.ref 2 1 0 P.length),(6,Qf i),(7,.ptr 3 0 0),(25,.tree 5 (rowsOf aB P)),(26,Qf P.length),(27,Qf i)],[.var (an m),.var (aJ P),.arr 1 (ints (jR P.length (fi (P.take i)))),.var (aB ⟨c,kids,c9,a7,cells⟩)]⟩ gv ?_ (λkey=>?_);rotate_left
  ·(try clear gv)
   unfold mg at fI;dsimp only at fI;rw[nw]at fI;by_cases fj:c = -1
   ·rw[if_pos fj,decide_eq_true_eq]at fI;((repeat'(first|refine Va (X3 @aJ.eq_1 @bZ @aB.eq_1) ?_|(refine V2 (X3 @aJ.eq_1 @bZ @aB.eq_1) ?_ ?_<;>try with_reducible intro hb)|(refine Xi ?_ ?_<;>try intro ht)|exact Xx|fail)))
    all_goals
     refine key _ ?_;exact Xv (X2 @aJ.eq_1 @aB.eq_1)
   ·rw[if_neg fj,decide_eq_true_eq]at fI;have zY:=zY ⟨fI.1,fI.2.1⟩;((repeat'(first|refine Va (X5 @aJ.eq_1 @bZ @aB.eq_1 @nw @aW.eq_1) ?_|(refine V2 (X5 @aJ.eq_1 @bZ @aB.eq_1 @nw @aW.eq_1) ?_ ?_<;>try with_reducible intro hb)|(refine Xi ?_ ?_<;>try intro ht)|exact Xx|fail)))
    all_goals
     refine key _ ?_;exact Xv (X2 @aJ.eq_1 @aB.eq_1)
  (try clear gv;try clear ns)
  refine Va (X2 @aJ.eq_1 @aB.eq_1) ?_;refine aR (λj:Nat=>(⟨ao [(2,.ptr 0 0 0),(3,.ptr 1 0 0),(5,.ref 2 1 0 P.length),(6,Qf i),(25,.tree 5 (rowsOf aB P)),(26,Qf P.length),(27,Qf i),(108,.tree 1 (ints kids)),(109,Qf kids.length),(110,Qf j)],[.var (an m),.var (aJ P),.arr 1 (ints (jR P.length (fi (P.take i)++kids.take j)))]⟩:St))
   (λj=>j<=kids.length/\∀ a,a<j->ln P.length i (kids.getD a 0)=true) (λj=>kids.length-j) 0 ⟨aS _,λa ha=>absurd ha (pd _)⟩ (by rw[mD,List.append_nil];exact Xs false [0,1,2] @aJ.eq_1) ?_
  rintro j⟨hj,X9⟩cJ bj br;by_cases fe:j<kids.length
  ·have gR:=eu fe;have Fl:kids.getD j default=kids.getD j 0:=rfl;have aiy:=BA j fe;rw[Fl]at gR;have rq:(fi (P.take i)++kids.take j).length<=24*P.length+24:=by rw[bO,eY];omega
   generalize iK:kids.getD j 0=k at *;by_cases Fm:ln P.length i k=true;rotate_left
   ·have hr:=aiy Fm;unfold ln at Fm;rw[decide_eq_true_eq]at Fm;((repeat'(first|refine Va (X2 @aJ.eq_1 @iK) ?_|(refine V2 (X2 @aJ.eq_1 @iK) ?_ ?_<;>try with_reducible intro hb)|(refine Xi ?_ ?_<;>try intro ht)|exact Xx|fail)))
    all_goals
     repeat(refine Xu ?_)
     ((repeat'(first|refine Vb X0 ?_|fail)))
     exact aO rfl (by rw[hr])
   have X':=Fm;unfold ln at X';rw[decide_eq_true_eq]at X';have vA:=ahn (n:=P.length) (l:=fi (P.take i)++kids.take j) (j:=k.toNat) GK;have dg:=Bl P.length (fi (P.take i)++kids.take j);have fc:=ahl P.length (fi (P.take i)++kids.take j) k.toNat GK;rw[wF GK,bE,<- gR]at fc;((repeat'(first|refine Va (X3 @aJ.eq_1 @iK @dg) ?_|(refine V2 (X3 @aJ.eq_1 @iK @dg) ?_ ?_<;>try with_reducible intro hb)|(refine Xi ?_ ?_<;>try intro ht)|exact Xx|fail)))
   refine bj _ (j+1) ⟨GK,λa ha=>?_⟩ GK (by rw[fc];exact Xv @aJ.eq_1);by_cases e:a=j
   ·subst e;rw[iK];exact Fm
   ·exact X9 a GK
  ·obtain rfl:j=kids.length:=GK;rw[wG,<- IN];((repeat'(first|refine Va X0 ?_|(refine V2 X0 ?_ ?_<;>try with_reducible intro hb)|(refine Xi ?_ ?_<;>try intro ht)|exact Xx|fail)))
   refine br _ _ rfl ?_;clear bj br cJ;repeat(refine Xu ?_)
   refine Va X0 ?_;refine ak _ (i+1) ⟨GK,λa ha=>?_⟩ GK (Xv @aJ.eq_1);by_cases e:a=i
   ·subst e;rw[bZ];exact xq X9
   ·exact dY a GK
 ·obtain rfl:i=P.length:=GK;rw[wG];have lv:=Im (m:=m) ⟨jr,kC⟩ dY;rw[au]at lv;have xr:=Ya ((jR P.length (fi P)).drop 1) 128 [] [] (λx=>x != 1) (by rw[wy,Bl];omega) (λx _=>aiv x);have dg:=Bl P.length (fi P);have M1:(ints (jR P.length (fi P))).drop 1=ints ((jR P.length (fi P)).drop 1):=by unfold ints;rw[List.map_drop]
  have xw:((jR P.length (fi P)).drop 1).length=P.length-1:=by rw[wy,Bl]
  ((repeat'(first|refine Va X0 ?_|(refine Xi ?_ ?_<;>try intro ht)|exact Xx|fail)))
  refine aq _ _ rfl ?_;clear ak aq Ql;repeat(refine Xu ?_)
  generalize jR P.length (fi P)=pc at *;refine cL (σ':=⟨ao [(5,.tree 1 (ints pc))],[]⟩) (by rw[<- dg];exact Xs true [] X0) ?_;((repeat'(first|refine Vd (X4 @dg @M1 @xw @qT.{0,0}) xr ?_|refine VD ?_ ?_|fail)))
  ·intro _;trivial
  exact aO rfl (by rw[lv])
structure aiz(α:Type)(m:ah)(P:List Nd)(A B C:α->Ob)(bC:List AV)(g:FuncId)(step:α->dF->α×Bool)(Inv:α->List dF->Prop):Prop where
 ra:∀ (ρ:Nat->Nat),ρ 0=0->ρ 1=1->ρ 2=2->∀ a,bM ρ (A a)=A a/\bM ρ (B a)=B a/\bM ρ (C a)=C a
 rc:∀ (ρ:Nat->Nat),ρ 0=0->ρ 1=1->ρ 2=2->∀ v∈bC,bk ρ v=v
 inv:∀ a s L,BC m P s->Inv a (s::L)->Inv (step a s).1 L
 call:VM m->∀ a s L,BC m P s->Inv a (s::L)->Holds Tryz.prog g (.agg [.lit (.int .i64 s.1),.tree 1 (rowsOf aC s.2.1)]::bC) [A a,B a,C a] (.lit (.bool (step a s).2)) [A (step a s).1,B (step a s).1,C (step a s).1]
def Nf{σ:St}{kp:Nat->Prop}{ρ:Nat->Nat}{snap:Bool}:∀ (l:List AV),(∀ v∈l,bk ρ v=v)->jE (aZ σ kp ρ snap) l l
 |[],_=>trivial
 |v::l,h=>⟨.eq (h v GM).symm,Nf l λx hx=>h x (by simp[hx])⟩
def aiA{α:Type}(m:ah)(P:List Nd)(hm:MB m)(hP:PB P)(A B C:α->Ob)(bC:List AV)(g:FuncId)(step:α->dF->α×Bool){Inv:α->List dF->Prop}(hE:aiz α m P A B C bC g step Inv)(a:α)(hI:VM m->jh m P=true->Inv a (vs P (root m))):
  Holds Tryz.prog 65 [.agg (an m),.agg (aJ P),.fn g bC] [A a,B a,C a] (.lit (.bool (pI m P step a).2)) [A (pI m P step a).1,B (pI m P step a).1,C (pI m P step a).1]:=by
 have hv:=Ng m hm;have xp:=hP.C6;have qJ:∀ n l a,bM (bq n (0::1::2::l)) (A a)=A a:=λn l a=>(hE.ra _ rfl rfl rfl a).1;have qK:∀ n l a,bM (bq n (0::1::2::l)) (B a)=B a:=λn l a=>(hE.ra _ rfl rfl rfl a).2.1;have qL:∀ n l a,bM (bq n (0::1::2::l)) (C a)=C a:=λn l a=>(hE.ra _ rfl rfl rfl a).2.2;have Eu:∀ n l,bk (bq n (0::1::2::l)) (.fn g bC)=.fn g bC:=λn l=>by
  rw[bk];refine congrArg _ ?_;have h:=hE.rc (bq n (0::1::2::l)) rfl rfl rfl;rw[xZ];exact(List.map_congr_left h).trans (List.map_id bC)
 have yb:∀ (σ:St) (kp:Nat->Prop) n l snap,aZ σ kp (bq n (0::1::2::l)) snap (.fn g bC) (.fn g bC):=λσ kp n l snap=>.eq (Eu n l).symm;generalize au:pI m P step a=res;unfold pI at au;refine Holds.aM 88 3 [.tmp 6] Tryz.func65 ?_;by_cases Fo:iR m=0;rotate_left
 ·rw[if_neg (λh=>Fo h.1)]at au;((repeat'(first|refine Vd @aJ.eq_1 hv ?_|(refine V2 @aJ.eq_1 ?_ ?_<;>try with_reducible intro hb)|(refine Xi ?_ ?_<;>try intro ht)|exact Xx|fail)))
  subst au;exact Xw false [0,1,2] (X3 @qJ @qK @qL)
 rw[Fo]at hv;have cP:=nu.1 Fo;have rG:=aiw m P cP hP;cases hs:jh m P
 ·rw[hs]at rG au;rw[if_neg GM]at au;((repeat'(first|refine Vd (X3 @aJ.eq_1 @bne_self_eq_false.{0} @kB) (X2 hv rG) ?_|(refine Xi ?_ ?_<;>try intro ht)|exact Xx|fail)))
  subst au;exact Xw false [0,1,2] (X3 @qJ @qK @qL)
 rw[hs]at rG au;rw[if_pos ⟨Fo,rfl⟩]at au;have lI:=Nh m hm;have Yb:=Ey cP;have IP:=wY hs;have rq:=xy hs;clear Fo;have hIn:=hI cP hs;unfold root at au hIn;generalize cI m=al at *;((repeat'(first|refine Vd (X3 @aJ.eq_1 @bne_self_eq_false.{0} @iN) (X3 hv rG lI) ?_|(refine Xi ?_ ?_<;>try intro ht)|exact Xx|fail)))
 refine aR (λz:List dF×List dF×α=>(⟨ao [(2,.fn g bC),(3,.ptr 3 0 0),(4,.ptr 4 0 0),(7,.ref 5 3 0 z.1.length)],[A z.2.2,B z.2.2,C z.2.2,.var (an m),.var (aJ P),.arr 3 (rowsOf mT (z.1.reverse++z.2.1))]⟩:St))
  (λz=>(∀ s∈z.1,BC m P s)/\BD z.1/\Inv z.2.2 (z.1.flatMap (vs P))/\jP P step (z.1.flatMap (vs P)) z.2.2=res) (λz=>(z.1.flatMap (vs P)).length) ([(0,al,[])],[],a) ⟨λs hs=>by rw[List.mem_singleton]at hs;subst hs;exact⟨rq.1,Yb,Nat.le_refl _⟩,⟨aS _,trivial⟩,by simpa using hIn,by simpa using au⟩ (Xv @aJ.eq_1) ?_
 clear au Yb hI hIn;rintro⟨T,J,a⟩⟨CE,jL,IQ,au⟩Ql ak aq;dsimp only at CE jL IQ au ⊢;cases T with
 |nil =>
  rw[List.flatMap_nil,jP]at au;((repeat'(first|refine Va X0 ?_|(refine Xi ?_ ?_<;>try intro ht)|exact Xx|fail)))
  refine aq _ _ rfl ?_;clear ak aq Ql;repeat(refine Xu ?_)
  refine Vb X0 ?_;subst au;exact Xw false [0,1,2] (X3 @qJ @qK @qL)
 |cons s T =>
  have qM:=CE s GM;have hgT:∀ t∈T,BC m P t:=λt ht=>CE t (by simp[ht]);have Ni:=EH IP qM.1;rw[tM,Ni,dx]at IQ;have Yc:=hE.inv a s _ qM IQ;rw[tM,Ni,dx,jP]at au;have jM:(rowsOf mT ((s::T).reverse++J))[T.length]?=some (mT s):=by
   unfold rowsOf;rw[List.getElem?_map,Kn,bE,iA GM];simp
  have gR:(rowsOf mT ((s::T).reverse++J)).take T.length=rowsOf mT T.reverse:=by
   unfold rowsOf;rw[<- GO,Kn,bE,List.take_append_of_le_length GM,dm GM]
  have hRl:T.length+1<=((s::T).reverse++J).length:=GM;have Fp:(((T.length+1:Nat):Int)-1).toNat=T.length:=GK;have sR:=aiC;rw[dq];generalize hRR:(s::T).reverse++J=L at *;obtain⟨Dp,jL⟩:=jL;obtain⟨i,left,ab⟩:=s;dsimp only at Dp;have hi:i<P.length:=qM.1;have kG:dh m left:=qM.2.1;have ju:ab.length<=i:=qM.2.2;have bV:P.getD i default=nd P i:=rfl;have bR:=aF (l:=P) (i:=i) (d:=default) hi;have b1:=hP.kids _ bR;have hdi:=IP i hi;have IS:=λo=>yB (o:=o) IP qM.1;have yC:=λo=>aiF (o:=o) IP qM;have fI:=Fq hs hi;have Fs:∀ o,ny P (i,left,ab) o=(((nd P i).kids.getD o 0).toNat,gZ left (nd P i).cls.toNat o,ab++[(nd P i).cls]):=λo=>rfl;have Nj:qz P (i,left,ab)=je P (i,left,ab) (nd P i).kids.length:=rfl;rw[bV]at b1 bR;dsimp only at au IS yC;generalize bZ:nd P i=x at *;obtain⟨c,kids,c9,a7,cells⟩:=x;dsimp only at b1 hdi IS yC Fs Nj au;repeat'(first|((fail_if_success (first|refine eM 8 ?_|refine eN 8 ?_));refine Xr (X5 @jM @mT.eq_1 @Fp @sR (X4 @aJ.eq_1 @bV @aB.eq_1 @qT.{0,0})) ?_;intro K hK)|(refine hK _ ?_;clear hK K)|(refine Xi ?_ ?_<;>try intro ht)|refine Xy ?_|refine Xd ?_ ?_|exact Xx|fail)
  refine cL (aH.CR 8 6 (cells:=[Qf i,.tree 1 (rowsOf aC left),te ab]) P8 (by simp only[Kc,simprocAttr]) (by
   intro v hv;simp only[bw,iM,or_false]at hv;rcases hv with rfl|rfl|rfl
   ·exact .inl ⟨_,rfl⟩
   ·exact .inr ⟨_,_,rfl⟩
   ·rcases Yd ab with⟨y,h,_⟩|h
    ·exact .inl ⟨y,h⟩
    ·exact .inr h)) ?_
  refine cL (aH.CR 9 7 (cells:=aB ⟨c,kids,c9,a7,cells⟩) P8 (by simp only[Kc,simprocAttr]) (by simp[aB])) ?_;refine cL (σ':=⟨ao [(2,.fn g bC),(3,.ptr 3 0 0),(4,.ptr 4 0 0),(7,.ref 5 3 0 T.length),(8,.cB [Qf i,.tree 1 (rowsOf aC left),te ab]),(9,.cB (aB ⟨c,kids,c9,a7,cells⟩))],[A a,B a,C a,.var (an m),.var (aJ P),.arr 3 (rowsOf mT L)]⟩) (by((refine aH.se [0,1,2,3,4,5] false (by simp only[Oc,simprocAttr,qJ,qK,qL,aJ]) ?_;simp only[Hr,↓reduceIte,Nat.reduceEqDiff,sF,Nat.reduceAdd,qJ,qK,qL,aJ];try(and_intros<;>first|exact .pure rfl|exact .eq rfl|exact .fz rfl (by simp only[Bc,Rc]))));(and_intros<;>first|exact yb ..|exact .pure rfl|exact .eq rfl)) ?_;have fj:Holds Tryz.prog 96 [te ab,Qf c] [] (.lit (.bool (ab.contains c))) []:=by
   have:=Ye ab c GK;cases ab with
   |nil=>exact Holds.L8 (pre:=[]) (post:=[Qf c]) this
   |cons x r=>exact this
  cases Yf:ab.contains c;rotate_left
  ·rw[Yf]at fj au;rw[if_pos rfl]at au;((refine Va @aB.eq_1 ?_)<;>try with_reducible intro K hK)
   refine b7 fj (Yg _ _) rfl ?_;((try revert hK K);(repeat'(first|refine Va @aB.eq_1 ?_|(refine Xi ?_ ?_<;>try intro ht)|exact Xx|fail)))
   repeat(refine Xu ?_)
   refine Vb X0 ?_;rw[<- au];exact Xw false [0,1,2] (X3 @qJ @qK @qL)
  rw[Yf]at fj au;rw[if_neg GM]at au;have pz:=hE.call cP a (i,left,ab) _ qM IQ;dsimp only at pz;generalize dV:step a (i,left,ab)=sa at *;obtain⟨a2,b⟩:=sa;dsimp only at pz au Yc;((refine Va @aB.eq_1 ?_)<;>try with_reducible intro K hK)
  refine b7 fj (Yg _ _) rfl ?_;cases b
  ·rw[if_neg GM]at au;((try revert hK K);(refine Va @aB.eq_1 ?_)<;>try with_reducible intro K hK)
   refine jF [0,1,2] pz GS ⟨by rw[qJ];rfl,by rw[qK];rfl,by rw[qL];rfl,trivial⟩ ⟨.pure rfl,Nf bC (hE.rc _ rfl rfl rfl)⟩ ?_;((try revert hK K);(repeat'(first|refine Va (X4 @aB.eq_1 @qJ @qK @qL) ?_|(refine Xi ?_ ?_<;>try intro ht)|exact Xx|fail)))
   repeat(refine Xu ?_)
   refine Vb X0 ?_;rw[<- au];exact Xw false [0,1,2] (X3 @qJ @qK @qL)
  rw[if_pos rfl]at au;((try revert hK K);(refine Va @aB.eq_1 ?_)<;>try with_reducible intro K hK)
  refine jF [0,1,2] pz GS ⟨by rw[qJ];rfl,by rw[qK];rfl,by rw[qL];rfl,trivial⟩ ⟨.pure rfl,Nf bC (hE.rc _ rfl rfl rfl)⟩ ?_;((try revert hK K);(repeat'(first|refine Va (X4 @aB.eq_1 @qJ @qK @qL) ?_|(refine Xi ?_ ?_<;>try intro ht)|exact Xx|fail)))
  have pS:0<kids.length->0<=c/\c<m.cls.length/\kids.length=(m.cls.getD c.toNat default).length:=λh=>by
   unfold kL mg at fI;dsimp only at fI;rw[bb]at fI;have h1:=fI.1;split at h1
   ·rw[decide_eq_true_eq]at h1;omega
   ·rw[decide_eq_true_eq]at h1;exact⟨h1.1,h1.2.1,h1.2.2.1⟩
  have Fk:kids.length<=24:=by
   unfold kL at fI;rw[bb]at fI;exact Il cP fI.1
  refine aR (λz:Nat×List dF=>(⟨ao [(2,.fn g bC),(3,.ptr 3 0 0),(4,.ptr 4 0 0),(7,.ref 5 3 0 (T.length+z.1)),(8,.cB [Qf i,.tree 1 (rowsOf aC left),te ab]),(9,.cB (aB ⟨c,kids,c9,a7,cells⟩)),(60,.tree 1 (ints kids)),(61,Qf kids.length),(62,Qf z.1)],[A a2,B a2,C a2,.var (an m),.var (aJ P),.arr 3 (rowsOf mT z.2)]⟩:St))
   (λz=>z.1<=kids.length/\T.length+z.1<=z.2.length/\z.2.take (T.length+z.1)=T.reverse++je P (i,left,ab) z.1) (λz=>kids.length-z.1) (0,L) ⟨aS _,PW,by
    dsimp only;rw[<- hRR,Nat.add_zero,Kn,bE,List.take_append_of_le_length GM,dm GM];simp[je]⟩ (Xv (X2 @aJ.eq_1 @aB.eq_1)) ?_
  rintro⟨o,L2⟩⟨ho,mU,Nk⟩cJ bj br;dsimp only at ho mU Nk ⊢;by_cases cm:o<kids.length
  ·obtain⟨c1,c2,c3⟩:=pS GK;obtain⟨k1,k2,k3⟩:=IS o cm;have Fs:=Fs o;have Nl:(left.getD c.toNat default).length=kids.length:=by rw[c3];exact kG.2 c.toNat (by have:=kG.1;omega)
   have pj:=aiG left c.toNat o (by have:=kG.1;omega) GK (by have:=kG.1;have:=cP.cls;omega) GK;rw[wF c1]at pj;have qN:(rowsOf mT L2).take (T.length+o)=rowsOf mT (T.reverse++je P (i,left,ab) o):=by unfold rowsOf;rw[<- GO,Nk]
   have dg:(T.reverse++je P (i,left,ab) o).length=T.length+o:=by simp[je]
   generalize iK:kids.getD o 0=k at *;generalize gZ left c.toNat o=on at *;by_cases Yh:ab=[]
   ·subst Yh;((repeat'(first|refine Vc (X5 @aB.eq_1 @iK (X2 @te.eq_1 @te.eq_2) @qN @dg) (X2 pj aiH) ?_|(refine Xi ?_ ?_<;>try intro ht)|exact Xx|fail)))
    have nx:(rowsOf mT (T.reverse++je P (i,left,[]) o)++[[AV.lit (.int .i64 k),.tree 1 (rowsOf aC on),.ref 7 1 0 1]])[T.length+o]?=some [AV.lit (.int .i64 k),.tree 1 (rowsOf aC on),.ref 7 1 0 1]:=by
     rw[iA (by simp[rowsOf,<- dg])];simp[rowsOf,<- dg]
    have Nn:rowsOf mT (T.reverse++je P (i,left,[]) (o+1))=(rowsOf mT (T.reverse++je P (i,left,[]) o)++[[AV.lit (.int .i64 k),.tree 1 (rowsOf aC on),.ref 7 1 0 1]]).set (T.length+o) [AV.lit (.int .i64 k),.tree 1 (rowsOf aC on),.tree 1 [[AV.lit (.int .i64 c)]]]:=by
     rw[D2 _ _ (by simp[rowsOf,<- dg]),Yi,Fs];have:(((k.toNat:Nat):Int))=k:=GK;simp[rowsOf,<- dg,mT,te,ints,this]
    have rR:(T.reverse++je P (i,left,[]) (o+1)).length=T.length+(o+1):=by simp[je]
    refine bj _ (o+1,T.reverse++je P (i,left,[]) (o+1)) ⟨PW,Ko rR.symm,dm (Ko rR)⟩ PW ?_;refine aH.trans (aH.Yj 7 9 (T.length+o) 2 1 3 (rows:=[[AV.lit (.int .i64 c)]]) rfl nx rfl rfl GS GM GM) ?_;simp only[y8,u4];rw[<- Nn];((refine aH.se [0,1,2,3,4,9] false (by simp only[Oc,simprocAttr,qJ,qK,qL,aJ]) ?_;simp only[Hr,↓reduceIte,Nat.reduceEqDiff,sF,Nat.reduceAdd,qJ,qK,qL,aJ];try(and_intros<;>first|exact .pure rfl|exact .eq rfl|exact .fz rfl (by simp only[Bc,Rc]))))
    and_intros<;>first|exact yb ..|exact .pure rfl|exact .eq rfl
   ·have k8:0<ab.length:=by
     cases ab with
     |nil=>exact absurd rfl Yh
     |cons=>simp
    have IT:∀ l:List Int,0<l.length->te l=.tree 1 (ints l):=λl h=>by
     cases l with
     |nil=>simp at h
     |cons=>rfl
    have Dq:=IT ab k8;have aiI:=IT (ab++[c]) GM;have bK:=Yk ab k8 GK;have lY:(ints (ab++[c])).length=ab.length+1:=by simp[ints]
    have nx:(rowsOf mT (T.reverse++je P (i,left,ab) o)++[[AV.lit (.int .i64 k),.tree 1 (rowsOf aC on),.ref 8 1 0 (ab.length+1)]])[T.length+o]?=some [AV.lit (.int .i64 k),.tree 1 (rowsOf aC on),.ref 8 1 0 (ab.length+1)]:=by
     rw[iA (by simp[rowsOf,<- dg])];simp[rowsOf,<- dg]
    have Nn:rowsOf mT (T.reverse++je P (i,left,ab) (o+1))=(rowsOf mT (T.reverse++je P (i,left,ab) o)++[[AV.lit (.int .i64 k),.tree 1 (rowsOf aC on),.ref 8 1 0 (ab.length+1)]]).set (T.length+o) [AV.lit (.int .i64 k),.tree 1 (rowsOf aC on),.tree 1 (ints (ab++[c]))]:=by
     rw[D2 _ _ (by simp[rowsOf,<- dg]),Yi,Fs];have:(((k.toNat:Nat):Int))=k:=GK;simp[rowsOf,<- dg,mT,aiI,this]
    have rR:(T.reverse++je P (i,left,ab) (o+1)).length=T.length+(o+1):=by simp[je]
    repeat'(first|((fail_if_success (first|refine eM 13 ?_|refine eN 13 ?_));refine Xr (X3 @aB.eq_1 @iK @Dq) ?_;intro K hK)|(refine hK _ ?_;clear hK K)|(refine Xi ?_ ?_<;>try intro ht)|refine Xy ?_|refine Xd ?_ ?_|exact Xx|fail)
    refine pw [4,6,8,11,14] (.take 0 (.take 1 (.take 2 (.take 3 (.take 4 (.take 5 (.take 6 (.take 7 (.take 8 (.take 9 (.take 10 (.take 11 (.both 12 (.take 13 (.take 14 (.take 15 (.take 16 (.take 17 (.take 18 (.take 19 (.take 20 .nil)))))))) 13 (.take 14 (.both 12 (.take 15 (.take 16 (.take 17 (.take 18 (.take 19 (.take 20 .nil)))))) 15 (.take 12 (.take 16 (.take 17 (.take 18 (.take 19 (.take 20 .nil))))))))))))))))))))) rfl GS (by decide +kernel) ?_;simp(disch:=omega)only[Ac,↓Pc,simprocAttr,Pw,↓Lq,aB,iK,Dq];refine cu pj rfl rfl ?_;simp(disch:=omega)only[Ac,↓Pc,simprocAttr,Pw,↓Lq,aB,iK,Dq];repeat'(with_reducible refine And.intro ?_ ?_)
    all_goals try(refine jF [] bK GS trivial ⟨.pure rfl,trivial⟩ ?_;simp(disch:=omega)only[Ac,↓Pc,simprocAttr,Pw,↓Lq,aB,iK,Dq,Nat.sub_self,Nat.sub_zero,qN,dg,Cu])
    repeat'(first|with_reducible refine And.intro ?_ ?_|omega)
    all_goals
     repeat(refine Xu ?_)
     ((repeat'(first|refine Va X0 ?_|fail)))
    all_goals
     refine bj _ (o+1,T.reverse++je P (i,left,ab) (o+1)) ⟨PW,Ko rR.symm,dm (Ko rR)⟩ PW ?_;refine aH.trans (aH.Yj 8 10 (T.length+o) 2 1 3 (rows:=ints (ab++[c])) rfl nx rfl (by rw[lY];rfl) GS (vh _) (x8 _)) ?_;simp only[y8,u4];rw[<- Nn];((refine aH.se [0,1,2,3,4,10] false (by simp only[Oc,simprocAttr,qJ,qK,qL,aJ,Dq]) ?_;simp only[Hr,↓reduceIte,Nat.reduceEqDiff,sF,Nat.reduceAdd,qJ,qK,qL,aJ,Dq];try(and_intros<;>first|exact .pure rfl|exact .eq rfl|exact .fz rfl (by simp only[Bc,Rc]))))
     and_intros<;>first|exact yb ..|exact .pure rfl|exact .eq rfl
  ·obtain rfl:o=kids.length:=GK;((repeat'(first|refine Va @aB.eq_1 ?_|(refine Xi ?_ ?_<;>try intro ht)|exact Xx|fail)))
   refine br _ _ rfl ?_;clear bj br cJ;repeat(refine Xu ?_)
   ((skip))
   have eG:(je P (i,left,ab) kids.length).length=kids.length:=by simp[je]
   have mV:T.reverse++je P (i,left,ab) kids.length++L2.drop (T.length+kids.length)=L2:=by rw[<- Nk,List.take_append_drop]
   refine ak _ ((qz P (i,left,ab)).reverse++T,L2.drop (T.length+kids.length),a2) ⟨λt ht=>?_,?_,by dsimp only;rw[sv];exact Yc,?_⟩ ?_ ?_
   ·dsimp only at ht;rw[List.mem_append]at ht;rcases ht with ht|ht
    ·obtain⟨o,ho,rfl⟩:=wX (wE.1 ht);dsimp only at ho;rw[bZ]at ho;exact yC o ho
    ·exact hgT t ht
   ·dsimp only;refine BD.push jL Dp _ (λt ht=>?_) (by rw[List.length_reverse,Nj,eG];exact Fk);obtain⟨o,ho,rfl⟩:=wX (wE.1 ht);dsimp only at ho;rw[bZ]at ho;exact(IS o ho).1
   ·dsimp only;rw[sv];exact au
   ·dsimp only;rw[sv,tM,Ni,bO,bO,dq];omega
   ·dsimp only;rw[List.reverse_append,List.reverse_reverse,Nj,mV,bO,List.length_reverse,eG,Nat.add_comm kids.length T.length];exact Xv @aJ.eq_1
def gy(m:ah)(P:List Nd)(b:Int)(s:dF):Int×Bool :=
 if(nd P s.1).cls≠-1 then(b,true)
 else if 0<(nd P s.1).a7.length then(b,mh m (nd P s.1) s.2.1)
 else(min b (gH m s.2.1 (nd P s.1).c9).1,(gH m s.2.1 (nd P s.1).c9).2==0)
def nA(m:ah)(P:List Nd):Int×Bool:=if(pI m P (gy m P) 1099511627776).2=true then((pI m P (gy m P) 1099511627776).1,true) else(0,false)
def aiJ(m:ah)(P:List Nd)(hP:PB P)(hm:VM m)(b:Int)(s:dF)(hs:BC m P s):
  Holds Tryz.prog 66 [.agg [Qf s.1,.tree 1 (rowsOf aC s.2.1)],.ptr 1 0 0,.ptr 0 0 0,.ptr 2 0 0] [.var (an m),.var (aJ P),.var [Qf b]] (.lit (.bool (gy m P b s).2)) [.var (an m),.var (aJ P),.var [Qf (gy m P b s).1]]:=by
 obtain⟨i,left,ab⟩:=s;have hi:i<P.length:=hs.1;have hf:dh m left:=hs.2.1;have xp:=hP.C6;have bV:P.getD i default=nd P i:=rfl;have bR:=aF (l:=P) (i:=i) (d:=default) hi;have b2:=hP.c9 _ bR;have b3:=hP.a7 _ bR;have b4:=hP.cells _ bR;have b5:=hP.cell _ bR;generalize au:gy m P b (i,left,ab)=res;unfold gy at au;rw[bV]at b2 b3 b4 b5;dsimp only at au;have sM:=aiK m (nd P i) left hm hf b3 b4 b5;have vU:=Yl m left (nd P i).c9 hm hf b2;generalize mh m (nd P i) left=cw at *;generalize gH m left (nd P i).c9=lt at *;generalize bZ:nd P i=x at *;obtain⟨c,kids,c9,a7,cells⟩:=x;obtain⟨v,e⟩:=lt;dsimp only at *;refine Holds.aM 41 3 [.tmp 5] Tryz.func66 ?_;by_cases hc:c = -1;rotate_left
 ·rw[if_pos hc]at au;((repeat'(first|refine Vb (X3 @aJ.eq_1 @bV @aB.eq_1) ?_|(refine Xi ?_ ?_<;>try intro ht)|exact Xx|fail)))
  subst au;exact Xw false [0,1,2] @aJ.eq_1
 rw[if_neg GK]at au;by_cases hg:0<a7.length
 ·rw[if_pos hg]at au;((repeat'(first|refine Vd (X3 @aJ.eq_1 @bV @aB.eq_1) sM ?_|(refine Xi ?_ ?_<;>try intro ht)|exact Xx|fail)))
  subst au;exact Xw false [0,1,2] @aJ.eq_1
 rw[if_neg hg]at au;((repeat'(first|refine Vd (X3 @aJ.eq_1 @bV @aB.eq_1) vU ?_|(refine Xi ?_ ?_<;>try intro ht)|exact Xx|fail)))
 subst au;exact Xw false [0,1,2] @aJ.eq_1
def Ym(m:ah)(P:List Nd)(hm:MB m)(hP:PB P):Holds Tryz.prog 35 [.agg (an m),.agg (aJ P)] [] (.bD [Qf (nA m P).1,.lit (.bool (nA m P).2)]) []:=by
 have hw:=aiA m P hm hP (λ_=>.var (an m)) (λ_=>.var (aJ P)) (λb:Int=>.var [Qf b]) [.ptr 1 0 0,.ptr 0 0 0,.ptr 2 0 0] 66 (gy m P) (Inv:=λ_ _=>True)
  ⟨λρ h0 h1 h2 a=>⟨rfl,rfl,rfl⟩,λρ h0 h1 h2 v hv=>by
   simp only[bw,iM,or_false]at hv;rcases hv with rfl|rfl|rfl<;>simp only[bk,h0,h1,h2],λ_ _ _ _ _=>trivial,λcP a s _ hs _=>aiJ m P hP cP a s hs⟩ 1099511627776 (λ_ _=>trivial)
 generalize au:nA m P=res;unfold nA at au;generalize pI m P (gy m P) 1099511627776=r at *;obtain⟨b,ok⟩:=r;dsimp only at hw au;refine Holds.aM 15 0 [.tmp 4,.tmp 5] Tryz.func35 ?_;((refine Vb @aJ.eq_1 ?_)<;>try with_reducible intro K hK)
 refine fZ hw GM ?_;cases ok
 ·rw[if_neg GM]at au;((try revert hK K);(repeat'(first|refine Vb @kB ?_|(refine Xi ?_ ?_<;>try intro ht)|exact Xx|fail)))
  subst au;exact aO rfl rfl
 ·rw[if_pos rfl]at au;((try revert hK K);(repeat'(first|refine Vb @iN ?_|(refine Xi ?_ ?_<;>try intro ht)|exact Xx|fail)))
  subst au;exact aO rfl rfl
def Yn{α:Type}{P:List Nd}{step:α->dF->α×Bool}:∀ {L:List dF} {a r:α},jP P step L a=(r,true)->∀ (J:α->Prop) (R:α->α->Prop),(∀ x,R x x)->(∀ x y z,R x y->R y z->R x z)->(∀ s∈L,∀ x,(step x s).2=true->R x (step x s).1) ->
  ∀ s∈L,s.2.2.contains (nd P s.1).cls=false/\∃ x,(step x s).2=true/\R (step x s).1 r
 |[],a,r,h,J,R,h1,h2,h3,s,hs=>by simp at hs
 |t::L,a,r,h,J,R,h1,h2,h3,s,hs=>by
  rw[jP]at h;split at h
  ·cases h
  ·rename_i hc;split at h
   ·rename_i kC;have ih:=Yn h J R h1 h2 (λu hu=>h3 u (by simp[hu]));rcases bw.1 hs with e|hs
    ·subst e;refine⟨by simpa using hc,a,kC,?_⟩;have mono:∀ (L:List dF) (x y:α),(∀ u∈L,∀ x,(step x u).2=true->R x (step x u).1)->jP P step L x=(y,true)->R x y:=by
      intro L
      induction L with
      |nil=>intro x y _ h;rw[jP]at h;cases h;exact h1 _
      |cons u L Ft =>
       intro x y hm h;rw[jP]at h;split at h
       ·cases h
       ·split at h
        ·rename_i hu;exact h2 _ _ _ (hm u GM x hu) (Ft _ _ (λv hv=>hm v (by simp[hv])) h)
        ·cases h
     exact mono L _ _ (λu hu=>h3 u (by simp[hu])) h
    ·exact ih s hs
   ·cases h
def Tu{m:ah}{P:List Nd}{n:Int}(h:nA m P=(n,true)):VM m/\jh m P=true/\jP P (gy m P) (vs P (root m)) 1099511627776=(n,true):=by
 unfold nA pI at h;by_cases h2:iR m=0/\jh m P=true
 ·rw[if_pos h2]at h;split at h
  ·rename_i h1;refine⟨nu.1 h2.1,h2.2,?_⟩;have e:(jP P (gy m P) (vs P (root m)) 1099511627776).1=n:=congrArg Prod.fst h;exact Prod.ext e h1
  ·cases h
 ·rw[if_neg h2]at h;split at h
  ·rename_i h1;cases h1
  ·cases h
def Yo{m:ah}{P:List Nd}(b:Int)(s:dF):(gy m P b s).1<=b:=by
 unfold gy;split
 ·exact mY _
 split
 ·exact mY _
 ·exact Int.min_le_left ..
def Tv{m:ah}{P:List Nd}{n:Int}(h:jP P (gy m P) (vs P (root m)) 1099511627776=(n,true)):n<=1099511627776/\∀ s∈vs P (root m),s.2.2.contains (nd P s.1).cls=false/\((nd P s.1).cls = -1->if 0<(nd P s.1).a7.length then mh m (nd P s.1) s.2.1=true else n<=(gH m s.2.1 (nd P s.1).c9).1/\(gH m s.2.1 (nd P s.1).c9).2=0):=by
 have aiL:∀ (L:List dF) (a r:Int),jP P (gy m P) L a=(r,true)->r<=a:=by
  intro L
  induction L with
  |nil=>intro a r h;rw[jP]at h;cases h;exact mY _
  |cons s L ih =>
   intro a r h;rw[jP]at h;split at h
   ·cases h
   ·split at h
    ·exact P7 (ih _ _ h) (Yo a s)
    ·cases h
 refine⟨aiL _ _ _ h,λs hs=>?_⟩;obtain⟨h1,x,h2,h3⟩:=Yn h (λ_=>True) (λx y=>y<=x) (λx=>mY _) (λx y z h1 h2=>P7 h2 h1) (λs _ x _=>Yo x s) s hs;refine⟨h1,λhc=>?_⟩;unfold gy at h2 h3;rw[if_neg GK]at h2 h3;split
 ·rename_i hg;rw[if_pos hg]at h2;exact h2
 ·rename_i hg;rw[if_neg hg]at h2 h3;dsimp only at h2 h3;exact⟨GK,by simpa using h2⟩
end T

