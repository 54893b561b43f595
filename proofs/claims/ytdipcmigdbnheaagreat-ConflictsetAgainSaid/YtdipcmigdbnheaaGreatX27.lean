import Derived.Test.YtdipcmigdbnheaaGreatX24
import Derived.Test.YtdipcmigdbnheaaGreatX26
set_option linter.all false
set_option maxHeartbeats 0
set_option maxRecDepth 20000
open Nat renaming zero_le→aQ,reduceBEq→s0,le_of_eq→Jm
open List renaming flatMap_cons→sY,cons_append→cW,append_assoc→dC,getElem?_append_right→eu,map_take→xp,take_append_of_le_length→BH,take_of_length_le→fP,length_cons→dz,set_append_right→Jg,set_cons_succ→uk,set_cons_zero→qw,flatMap_append→qv,mem_reverse→vO,length_append→bR
open Bool renaming and_eq_true→ba
open Go Go.Am Go.Proofs
namespace T
structure acE(α:Type)(m:aj)(P:List Nd)(A B C:α->Ob)(aT:List AV)(g:FuncId)(step:α->dX->α×Bool)(Inv:α->List dX->Prop):Prop where
 ra:∀ (ρ:Nat->Nat),ρ 0=0->ρ 1=1->ρ 2=2->∀ a,bH ρ (A a)=A a/\bH ρ (B a)=B a/\bH ρ (C a)=C a
 rc:∀ (ρ:Nat->Nat),ρ 0=0->ρ 1=1->ρ 2=2->∀ v∈aT,aX ρ v=v
 inv:∀ a s L,tY m P s->Inv a (s::L)->Inv (step a s).1 L
 call:VM m->∀ a s L,tY m P s->Inv a (s::L)->an Tryz.prog g (.agg [.lit (.int .i64 s.1),.tree 1 (rowsOf bd s.2.1)]::aT) [A a,B a,C a] (.lit (.bool (step a s).2)) [A (step a s).1,B (step a s).1,C (step a s).1]
def Ib{σ:St}{kp:Nat->Prop}{ρ:Nat->Nat}{snap:Bool}:∀ (l:List AV),(∀ v∈l,aX ρ v=v)->dS (aE σ kp ρ snap) l l
 |[],_=>trivial
 |v::l,h=>⟨.eq (h v Jd).symm,Ib l λx hx=>h x (by simp[hx])⟩
def acF{α:Type}(m:aj)(P:List Nd)(hm:MB m)(hP:PB P)(A B C:α->Ob)(aT:List AV)(g:FuncId)(step:α->dX->α×Bool){Inv:α->List dX->Prop}(hE:acE α m P A B C aT g step Inv)(a:α)(hI:VM m->lx m P=true->Inv a (vs P (root m))):
  an Tryz.prog 74 [.agg (av m),.agg (cA P),.fn g aT] [A a,B a,C a] (.lit (.bool (rp m P step a).2)) [A (rp m P step a).1,B (rp m P step a).1,C (rp m P step a).1]:=by
 have hv:=p5 m hm;have C4:=hP.wF;have nT:∀ n l a,bH (bm n (0::1::2::l)) (A a)=A a:=λn l a=>(hE.ra _ rfl rfl rfl a).1;have nU:∀ n l a,bH (bm n (0::1::2::l)) (B a)=B a:=λn l a=>(hE.ra _ rfl rfl rfl a).2.1;have nV:∀ n l a,bH (bm n (0::1::2::l)) (C a)=C a:=λn l a=>(hE.ra _ rfl rfl rfl a).2.2;have zV:∀ n l,aX (bm n (0::1::2::l)) (.fn g aT)=.fn g aT:=λn l=>by
  rw[aX];refine congrArg _ ?_;have h:=hE.rc (bm n (0::1::2::l)) rfl rfl rfl;rw[s9];exact(List.map_congr_left h).trans (List.map_id aT)
 have th:∀ (σ:St) (kp:Nat->Prop) n l snap,aE σ kp (bm n (0::1::2::l)) snap (.fn g aT) (.fn g aT):=λσ kp n l snap=>.eq (zV n l).symm;generalize ao:rp m P step a=res;unfold rp at ao;refine an.aF 88 3 [.tmp 6] Tryz.func74 ?_;by_cases A4:eJ m=0;rotate_left
 ·rw[if_neg (λh=>A4 h.1)]at ao;((repeat'(first|refine Vd @cA.eq_1 hv ?_|(refine V2 @cA.eq_1 ?_ ?_<;>try with_reducible intro hb)|(refine Xi ?_ ?_<;>try intro ht)|exact Xx|fail)))
  subst ao;exact Xw false [0,1,2] (X3 @nT @nU @nV)
 rw[A4]at hv;have dH:=fc.1 A4;have yV:=acG m P dH hP;cases hs:lx m P
 ·rw[hs]at yV ao;rw[if_neg Jd]at ao;((repeat'(first|refine Vd (X3 @cA.eq_1 @bne_self_eq_false.{0} @Bool.not_false) (X2 hv yV) ?_|(refine Xi ?_ ?_<;>try intro ht)|exact Xx|fail)))
  subst ao;exact Xw false [0,1,2] (X3 @nT @nU @nV)
 rw[hs]at yV ao;rw[if_pos ⟨A4,rfl⟩]at ao;have gp:=abP m hm;have Ua:=DX dH;have sR:=DW hs;have si:=S8 hs;clear A4;have hIn:=hI dH hs;unfold root at ao hIn;generalize dt m=al at *;((repeat'(first|refine Vd (X3 @cA.eq_1 @bne_self_eq_false.{0} @Bool.not_true) (X3 hv yV gp) ?_|(refine Xi ?_ ?_<;>try intro ht)|exact Xx|fail)))
 refine aW (λz:List dX×List dX×α=>(⟨ax [(2,.fn g aT),(3,.ptr 3 0 0),(4,.ptr 4 0 0),(7,.ref 5 3 0 z.1.length)],[A z.2.2,B z.2.2,C z.2.2,.var (av m),.var (cA P),.arr 3 (rowsOf kS (z.1.reverse++z.2.1))]⟩:St))
  (λz=>(∀ s∈z.1,tY m P s)/\wW z.1/\Inv z.2.2 (z.1.flatMap (vs P))/\kF P step (z.1.flatMap (vs P)) z.2.2=res) (λz=>(z.1.flatMap (vs P)).length) ([(0,al,[])],[],a) ⟨λs hs=>by rw[List.mem_singleton]at hs;subst hs;exact⟨si.1,Ua,Nat.le_refl _⟩,⟨aQ _,trivial⟩,by simpa using hIn,by simpa using ao⟩ (Xv @cA.eq_1) ?_
 clear ao Ua hI hIn;rintro⟨T,J,a⟩⟨xQ,gI,Eb,ao⟩Ql aq au;dsimp only at xQ gI Eb ao ⊢;cases T with
 |nil =>
  rw[List.flatMap_nil,kF]at ao;((repeat'(first|refine Va X0 ?_|(refine Xi ?_ ?_<;>try intro ht)|exact Xx|fail)))
  refine au _ _ rfl ?_;clear aq au Ql;repeat(refine Xu ?_)
  refine Vb X0 ?_;subst ao;exact Xw false [0,1,2] (X3 @nT @nU @nV)
 |cons s T =>
  have ql:=xQ s Jd;have hgT:∀ t∈T,tY m P t:=λt ht=>xQ t (by simp[ht]);have Ic:=yO sR ql.1;rw[sY,Ic,cW]at Eb;have Ub:=hE.inv a s _ ql Eb;rw[sY,Ic,cW,kF]at ao;have q7:(rowsOf kS ((s::T).reverse++J))[T.length]?=some (kS s):=by
   unfold rowsOf;rw[List.getElem?_map,List.reverse_cons,dC,eu Jd];simp
  have ua:(rowsOf kS ((s::T).reverse++J)).take T.length=rowsOf kS T.reverse:=by
   unfold rowsOf;rw[<- xp,List.reverse_cons,dC,BH Jd,fP Jd]
  have eV:T.length+1<=((s::T).reverse++J).length:=Jd;have HT:(((T.length+1:Nat):Int)-1).toNat=T.length:=I6;have lG:=abQ;rw[dz];generalize nW:(s::T).reverse++J=L at *;obtain⟨yS,gI⟩:=gI;obtain⟨i,left,ab⟩:=s;dsimp only at yS;have hi:i<P.length:=ql.1;have dT:ej m left:=ql.2.1;have oJ:ab.length<=i:=ql.2.2;have cu:P.getD i default=nd P i:=rfl;have cR:=aC (l:=P) (i:=i) (d:=default) hi;have b1:=hP.kids _ cR;have hdi:=sR i hi;have w6:=λo=>yN (o:=o) sR ql.1;have Ie:=λo=>S9 (o:=o) sR ql;have jV:=HF hs hi;have A5:∀ o,ml P (i,left,ab) o=(((nd P i).kids.getD o 0).toNat,bN left (nd P i).cls.toNat o,ab++[(nd P i).cls]):=λo=>rfl;have Ig:qj P (i,left,ab)=im P (i,left,ab) (nd P i).kids.length:=rfl;rw[cu]at b1 cR;dsimp only at ao w6 Ie;generalize bG:nd P i=x at *;obtain⟨c,kids,eI,dh,cells⟩:=x;dsimp only at b1 hdi w6 Ie A5 Ig ao;repeat'(first|((fail_if_success (first|refine eG 8 ?_|refine eH 8 ?_));refine Xr (X5 @q7 @kS.eq_1 @HT @lG (X4 @cA.eq_1 @cu @cN.eq_1 @Option.map_none.{0,0})) ?_;intro K hK)|(refine hK _ ?_;clear hK K)|(refine Xi ?_ ?_<;>try intro ht)|refine Xy ?_|refine Xd ?_ ?_|exact Xx|fail)
  refine bP (aB.oo 8 6 (cells:=[aa3 i,.tree 1 (rowsOf bd left),pk ab]) aa2 (by simp only[Kc,simprocAttr]) (by
   intro v hv;simp only[List.mem_cons,List.not_mem_nil,or_false]at hv;rcases hv with rfl|rfl|rfl
   ·exact .inl ⟨_,rfl⟩
   ·exact .inr ⟨_,_,rfl⟩
   ·rcases S5 ab with⟨y,h,_⟩|h
    ·exact .inl ⟨y,h⟩
    ·exact .inr h)) ?_
  refine bP (aB.oo 9 7 (cells:=cN ⟨c,kids,eI,dh,cells⟩) aa2 (by simp only[Kc,simprocAttr]) (by simp[cN])) ?_;refine bP (σ':=⟨ax [(2,.fn g aT),(3,.ptr 3 0 0),(4,.ptr 4 0 0),(7,.ref 5 3 0 T.length),(8,.cq [aa3 i,.tree 1 (rowsOf bd left),pk ab]),(9,.cq (cN ⟨c,kids,eI,dh,cells⟩))],[A a,B a,C a,.var (av m),.var (cA P),.arr 3 (rowsOf kS L)]⟩) (by((refine aB.se [0,1,2,3,4,5] false (by simp only[Oc,simprocAttr,nT,nU,nV,cA]) ?_;simp only[Hr,↓reduceIte,Nat.reduceEqDiff,s0,Nat.reduceAdd,nT,nU,nV,cA];try(and_intros<;>first|exact .pure rfl|exact .eq rfl|exact .fz rfl (by simp only[Bc,Rc]))));(and_intros<;>first|exact th ..|exact .pure rfl|exact .eq rfl)) ?_;have jx:an Tryz.prog 122 [pk ab,aa3 c] [] (.lit (.bool (ab.contains c))) []:=by
   have:=SG ab c I6;cases ab with
   |nil=>exact an.YO (pre:=[]) (post:=[aa3 c]) this
   |cons x r=>exact this
  cases yW:ab.contains c;rotate_left
  ·rw[yW]at jx ao;rw[if_pos rfl]at ao;((refine Va @cN.eq_1 ?_)<;>try with_reducible intro K hK)
   refine bU jx (S6 _ _) rfl ?_;((try revert hK K);(repeat'(first|refine Va @cN.eq_1 ?_|(refine Xi ?_ ?_<;>try intro ht)|exact Xx|fail)))
   repeat(refine Xu ?_)
   refine Vb X0 ?_;rw[<- ao];exact Xw false [0,1,2] (X3 @nT @nU @nV)
  rw[yW]at jx ao;rw[if_neg Jd]at ao;have jf:=hE.call dH a (i,left,ab) _ ql Eb;dsimp only at jf;generalize fW:step a (i,left,ab)=sa at *;obtain⟨a2,b⟩:=sa;dsimp only at jf ao Ub;((refine Va @cN.eq_1 ?_)<;>try with_reducible intro K hK)
  refine bU jx (S6 _ _) rfl ?_;cases b
  ·rw[if_neg Jd]at ao;((try revert hK K);(refine Va @cN.eq_1 ?_)<;>try with_reducible intro K hK)
   refine g9 [0,1,2] jf aab ⟨by rw[nT];rfl,by rw[nU];rfl,by rw[nV];rfl,trivial⟩ ⟨.pure rfl,Ib aT (hE.rc _ rfl rfl rfl)⟩ ?_;((try revert hK K);(repeat'(first|refine Va (X4 @cN.eq_1 @nT @nU @nV) ?_|(refine Xi ?_ ?_<;>try intro ht)|exact Xx|fail)))
   repeat(refine Xu ?_)
   refine Vb X0 ?_;rw[<- ao];exact Xw false [0,1,2] (X3 @nT @nU @nV)
  rw[if_pos rfl]at ao;((try revert hK K);(refine Va @cN.eq_1 ?_)<;>try with_reducible intro K hK)
  refine g9 [0,1,2] jf aab ⟨by rw[nT];rfl,by rw[nU];rfl,by rw[nV];rfl,trivial⟩ ⟨.pure rfl,Ib aT (hE.rc _ rfl rfl rfl)⟩ ?_;((try revert hK K);(repeat'(first|refine Va (X4 @cN.eq_1 @nT @nU @nV) ?_|(refine Xi ?_ ?_<;>try intro ht)|exact Xx|fail)))
  have sN:0<kids.length->0<=c/\c<m.cls.length/\kids.length=(m.cls.getD c.toNat default).length:=λh=>by
   unfold lv mT at jV;dsimp only at jV;rw[ba]at jV;have h1:=jV.1;split at h1
   ·rw[decide_eq_true_eq]at h1;omega
   ·rw[decide_eq_true_eq]at h1;exact⟨h1.1,h1.2.1,h1.2.2.1⟩
  have Ih:kids.length<=24:=by
   unfold lv at jV;rw[ba]at jV;exact DH dH jV.1
  refine aW (λz:Nat×List dX=>(⟨ax [(2,.fn g aT),(3,.ptr 3 0 0),(4,.ptr 4 0 0),(7,.ref 5 3 0 (T.length+z.1)),(8,.cq [aa3 i,.tree 1 (rowsOf bd left),pk ab]),(9,.cq (cN ⟨c,kids,eI,dh,cells⟩)),(60,.tree 1 (ints kids)),(61,aa3 kids.length),(62,aa3 z.1)],[A a2,B a2,C a2,.var (av m),.var (cA P),.arr 3 (rowsOf kS z.2)]⟩:St))
   (λz=>z.1<=kids.length/\T.length+z.1<=z.2.length/\z.2.take (T.length+z.1)=T.reverse++im P (i,left,ab) z.1) (λz=>kids.length-z.1) (0,L) ⟨aQ _,aaK,by
    dsimp only;rw[<- nW,Nat.add_zero,List.reverse_cons,dC,BH Jd,fP Jd];simp[im]⟩ (Xv (X2 @cA.eq_1 @cN.eq_1)) ?_
  rintro⟨o,L2⟩⟨ho,AY,Ii⟩eR bX bQ;dsimp only at ho AY Ii ⊢;by_cases cL:o<kids.length
  ·obtain⟨c1,c2,c3⟩:=sN I6;obtain⟨k1,k2,k3⟩:=w6 o cL;have A5:=A5 o;have afe:(left.getD c.toNat default).length=kids.length:=by rw[c3];exact dT.2 c.toNat (by have:=dT.1;omega)
   have vU:=ZN left c.toNat o (by have:=dT.1;omega) I6 (by have:=dT.1;have:=dH.cls;omega) I6;rw[Int.toNat_of_nonneg c1]at vU;have A2:(rowsOf kS L2).take (T.length+o)=rowsOf kS (T.reverse++im P (i,left,ab) o):=by unfold rowsOf;rw[<- xp,Ii]
   have cE:(T.reverse++im P (i,left,ab) o).length=T.length+o:=by simp[im]
   generalize iK:kids.getD o 0=k at *;generalize bN left c.toNat o=on at *;by_cases Uc:ab=[]
   ·subst Uc;((repeat'(first|refine Vc (X5 @cN.eq_1 @iK (X2 @pk.eq_1 @pk.eq_2) @A2 @cE) (X2 vU ZM) ?_|(refine Xi ?_ ?_<;>try intro ht)|exact Xx|fail)))
    have nX:(rowsOf kS (T.reverse++im P (i,left,[]) o)++[[AV.lit (.int .i64 k),.tree 1 (rowsOf bd on),.ref 7 1 0 1]])[T.length+o]?=some [AV.lit (.int .i64 k),.tree 1 (rowsOf bd on),.ref 7 1 0 1]:=by
     rw[eu (by simp[rowsOf,<- cE])];simp[rowsOf,<- cE]
    have A6:rowsOf kS (T.reverse++im P (i,left,[]) (o+1))=(rowsOf kS (T.reverse++im P (i,left,[]) o)++[[AV.lit (.int .i64 k),.tree 1 (rowsOf bd on),.ref 7 1 0 1]]).set (T.length+o) [AV.lit (.int .i64 k),.tree 1 (rowsOf bd on),.tree 1 [[AV.lit (.int .i64 c)]]]:=by
     rw[Jg _ _ (by simp[rowsOf,<- cE]),S7,A5];have:(((k.toNat:Nat):Int))=k:=I6;simp[rowsOf,<- cE,kS,pk,ints,this]
    have A7:(T.reverse++im P (i,left,[]) (o+1)).length=T.length+(o+1):=by simp[im]
    refine bX _ (o+1,T.reverse++im P (i,left,[]) (o+1)) ⟨aaK,Jm A7.symm,fP (Jm A7)⟩ aaK ?_;refine aB.trans (aB.Gl 7 9 (T.length+o) 2 1 3 (rows:=[[AV.lit (.int .i64 c)]]) rfl nX rfl rfl aab Jd Jd) ?_;simp only[uk,qw];rw[<- A6];((refine aB.se [0,1,2,3,4,9] false (by simp only[Oc,simprocAttr,nT,nU,nV,cA]) ?_;simp only[Hr,↓reduceIte,Nat.reduceEqDiff,s0,Nat.reduceAdd,nT,nU,nV,cA];try(and_intros<;>first|exact .pure rfl|exact .eq rfl|exact .fz rfl (by simp only[Bc,Rc]))))
    and_intros<;>first|exact th ..|exact .pure rfl|exact .eq rfl
   ·have nf:0<ab.length:=by
     cases ab with
     |nil=>exact absurd rfl Uc
     |cons=>simp
    have Ud:∀ l:List Int,0<l.length->pk l=.tree 1 (ints l):=λl h=>by
     cases l with
     |nil=>simp at h
     |cons=>rfl
    have yX:=Ud ab nf;have acJ:=Ud (ab++[c]) Jd;have cy:=NM ab nf I6;have l6:(ints (ab++[c])).length=ab.length+1:=by simp[ints]
    have nX:(rowsOf kS (T.reverse++im P (i,left,ab) o)++[[AV.lit (.int .i64 k),.tree 1 (rowsOf bd on),.ref 8 1 0 (ab.length+1)]])[T.length+o]?=some [AV.lit (.int .i64 k),.tree 1 (rowsOf bd on),.ref 8 1 0 (ab.length+1)]:=by
     rw[eu (by simp[rowsOf,<- cE])];simp[rowsOf,<- cE]
    have A6:rowsOf kS (T.reverse++im P (i,left,ab) (o+1))=(rowsOf kS (T.reverse++im P (i,left,ab) o)++[[AV.lit (.int .i64 k),.tree 1 (rowsOf bd on),.ref 8 1 0 (ab.length+1)]]).set (T.length+o) [AV.lit (.int .i64 k),.tree 1 (rowsOf bd on),.tree 1 (ints (ab++[c]))]:=by
     rw[Jg _ _ (by simp[rowsOf,<- cE]),S7,A5];have:(((k.toNat:Nat):Int))=k:=I6;simp[rowsOf,<- cE,kS,acJ,this]
    have A7:(T.reverse++im P (i,left,ab) (o+1)).length=T.length+(o+1):=by simp[im]
    repeat'(first|((fail_if_success (first|refine eG 13 ?_|refine eH 13 ?_));refine Xr (X3 @cN.eq_1 @iK @yX) ?_;intro K hK)|(refine hK _ ?_;clear hK K)|(refine Xi ?_ ?_<;>try intro ht)|refine Xy ?_|refine Xd ?_ ?_|exact Xx|fail)
    refine lg [4,6,8,11,14] (.take 0 (.take 1 (.take 2 (.take 3 (.take 4 (.take 5 (.take 6 (.take 7 (.take 8 (.take 9 (.take 10 (.take 11 (.both 12 (.take 13 (.take 14 (.take 15 (.take 16 (.take 17 (.take 18 (.take 19 (.take 20 .nil)))))))) 13 (.take 14 (.both 12 (.take 15 (.take 16 (.take 17 (.take 18 (.take 19 (.take 20 .nil)))))) 15 (.take 12 (.take 16 (.take 17 (.take 18 (.take 19 (.take 20 .nil))))))))))))))))))))) rfl aab (by decide +kernel) ?_;simp(disch:=omega)only[Ac,↓Pc,simprocAttr,Pw,↓Lq,cN,iK,yX];refine bF vU rfl rfl ?_;simp(disch:=omega)only[Ac,↓Pc,simprocAttr,Pw,↓Lq,cN,iK,yX];repeat'(with_reducible refine And.intro ?_ ?_)
    all_goals try(refine g9 [] cy aab trivial ⟨.pure rfl,trivial⟩ ?_;simp(disch:=omega)only[Ac,↓Pc,simprocAttr,Pw,↓Lq,cN,iK,yX,Nat.sub_self,Nat.sub_zero,A2,cE,BY])
    repeat'(first|with_reducible refine And.intro ?_ ?_|omega)
    all_goals
     repeat(refine Xu ?_)
     ((repeat'(first|refine Va X0 ?_|fail)))
    all_goals
     refine bX _ (o+1,T.reverse++im P (i,left,ab) (o+1)) ⟨aaK,Jm A7.symm,fP (Jm A7)⟩ aaK ?_;refine aB.trans (aB.Gl 8 10 (T.length+o) 2 1 3 (rows:=ints (ab++[c])) rfl nX rfl (by rw[l6];rfl) aab (pO _) (qD _)) ?_;simp only[uk,qw];rw[<- A6];((refine aB.se [0,1,2,3,4,10] false (by simp only[Oc,simprocAttr,nT,nU,nV,cA,yX]) ?_;simp only[Hr,↓reduceIte,Nat.reduceEqDiff,s0,Nat.reduceAdd,nT,nU,nV,cA,yX];try(and_intros<;>first|exact .pure rfl|exact .eq rfl|exact .fz rfl (by simp only[Bc,Rc]))))
     and_intros<;>first|exact th ..|exact .pure rfl|exact .eq rfl
  ·obtain rfl:o=kids.length:=I6;((repeat'(first|refine Va @cN.eq_1 ?_|(refine Xi ?_ ?_<;>try intro ht)|exact Xx|fail)))
   refine bQ _ _ rfl ?_;clear bX bQ eR;repeat(refine Xu ?_)
   ((skip))
   have cr:(im P (i,left,ab) kids.length).length=kids.length:=by simp[im]
   have hL3:T.reverse++im P (i,left,ab) kids.length++L2.drop (T.length+kids.length)=L2:=by rw[<- Ii,List.take_append_drop]
   refine aq _ ((qj P (i,left,ab)).reverse++T,L2.drop (T.length+kids.length),a2) ⟨λt ht=>?_,?_,by dsimp only;rw[qv];exact Ub,?_⟩ ?_ ?_
   ·dsimp only at ht;rw[List.mem_append]at ht;rcases ht with ht|ht
    ·obtain⟨o,ho,rfl⟩:=wV (vO.1 ht);dsimp only at ho;rw[bG]at ho;exact Ie o ho
    ·exact hgT t ht
   ·dsimp only;refine wW.push gI yS _ (λt ht=>?_) (by rw[List.length_reverse,Ig,cr];exact Ih);obtain⟨o,ho,rfl⟩:=wV (vO.1 ht);dsimp only at ho;rw[bG]at ho;exact(w6 o ho).1
   ·dsimp only;rw[qv];exact ao
   ·dsimp only;rw[qv,sY,Ic,bR,bR,dz];omega
   ·dsimp only;rw[List.reverse_append,List.reverse_reverse,Ig,hL3,bR,List.length_reverse,cr,Nat.add_comm kids.length T.length];exact Xv @cA.eq_1
end T

