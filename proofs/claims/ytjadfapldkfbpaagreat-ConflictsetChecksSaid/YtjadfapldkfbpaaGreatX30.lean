import Derived.Test.YtjadfapldkfbpaaGreatX26
import Derived.Test.YtjadfapldkfbpaaGreatX29
set_option linter.all false
set_option maxHeartbeats 0
set_option maxRecDepth 20000
open Bool renaming not_false→jP,not_true→iZ,and_eq_true→bk,eq_false_iff→BW
open List renaming mem_singleton→ec,flatMap_cons→sE,cons_append→dP,reverse_cons→KA,append_assoc→cY,getElem?_append_right→fO,map_take→xy,take_append_of_le_length→Hg,take_of_length_le→ej,length_cons→eu,mem_cons→cu,not_mem_nil→jQ,set_append_right→Ab,set_cons_succ→n6,set_cons_zero→mh,flatMap_append→rn,mem_reverse→vX,length_append→bQ,count_append→tv,all_eq_true→gV,contains_iff_mem→qh,mem_flatMap→BZ,getD_cons_zero→jh,getD_cons_succ→gN
open Nat renaming le_refl→aR,zero_le→aF,reduceBEq→nq,le_of_eq→KB,sub_self→jv,sub_zero→yN
open Int renaming le_refl→iO,le_trans→z',toNat_natCast→ig
open Go Go.Am Go.Proofs
namespace T
structure aip(α:Type)(m:ah)(P:List Nd)(A B C:α->Ob)(a6:List AV)(g:FuncId)(step:α->ee->α×Bool)(Inv:α->List ee->Prop):Prop where
 ra:∀ (ρ:Nat->Nat),ρ 0=0->ρ 1=1->ρ 2=2->∀ a,bU ρ (A a)=A a/\bU ρ (B a)=B a/\bU ρ (C a)=C a
 rc:∀ (ρ:Nat->Nat),ρ 0=0->ρ 1=1->ρ 2=2->∀ v∈a6,br ρ v=v
 inv:∀ a s L,Bl m P s->Inv a (s::L)->Inv (step a s).1 L
 call:VM m->∀ a s L,Bl m P s->Inv a (s::L)->an Tryz.prog g (.agg [.lit (.int .i64 s.1),.tree 1 (rowsOf aT s.2.1)]::a6) [A a,B a,C a] (.lit (.bool (step a s).2)) [A (step a s).1,B (step a s).1,C (step a s).1]
def ND{σ:St}{kp:Nat->Prop}{ρ:Nat->Nat}{snap:Bool}:∀ (l:List AV),(∀ v∈l,br ρ v=v)->eY (aI σ kp ρ snap) l l
 |[],_=>trivial
 |v::l,h=>⟨.eq (h v G9).symm,ND l λx hx=>h x (by simp[hx])⟩
def aiq{α:Type}(m:ah)(P:List Nd)(hm:MB m)(hP:PB P)(A B C:α->Ob)(a6:List AV)(g:FuncId)(step:α->ee->α×Bool){Inv:α->List ee->Prop}(hE:aip α m P A B C a6 g step Inv)(a:α)(hI:VM m->j4 m P=true->Inv a (vs P (root m))):
  an Tryz.prog 67 [.agg (ao m),.agg (aU P),.fn g a6] [A a,B a,C a] (.lit (.bool (sj m P step a).2)) [A (sj m P step a).1,B (sj m P step a).1,C (sj m P step a).1]:=by
 have hv:=ud m hm;have x7:=hP.sU;have qR:∀ n l a,bU (bA n (0::1::2::l)) (A a)=A a:=λn l a=>(hE.ra _ rfl rfl rfl a).1;have qS:∀ n l a,bU (bA n (0::1::2::l)) (B a)=B a:=λn l a=>(hE.ra _ rfl rfl rfl a).2.1;have qT:∀ n l a,bU (bA n (0::1::2::l)) (C a)=C a:=λn l a=>(hE.ra _ rfl rfl rfl a).2.2;have EC:∀ n l,br (bA n (0::1::2::l)) (.fn g a6)=.fn g a6:=λn l=>by
  rw[br];refine congrArg _ ?_;have h:=hE.rc (bA n (0::1::2::l)) rfl rfl rfl;rw[xH];exact(List.map_congr_left h).trans (List.map_id a6)
 have xL:∀ (σ:St) (kp:Nat->Prop) n l snap,aI σ kp (bA n (0::1::2::l)) snap (.fn g a6) (.fn g a6):=λσ kp n l snap=>.eq (EC n l).symm;generalize aj:sj m P step a=res;unfold sj at aj;refine an.aC 88 3 [.tmp 6] Tryz.func67 ?_;by_cases FU:ek m=0;rotate_left
 ·rw[if_neg (λh=>FU h.1)]at aj;((repeat'(first|refine Vd @aU.eq_1 hv ?_|(refine V2 @aU.eq_1 ?_ ?_<;>try with_reducible intro hb)|(refine Xi ?_ ?_<;>try intro ht)|exact Xx|fail)))
  subst aj;exact Xw false [0,1,2] (X3 @qR @qS @qT)
 rw[FU]at hv;have bP:=iu.1 FU;have yk:=agY m P bP hP;cases hs:j4 m P
 ·rw[hs]at yk aj;rw[if_neg G9]at aj;((repeat'(first|refine Vd (X3 @aU.eq_1 @bne_self_eq_false.{0} @jP) (X2 hv yk) ?_|(refine Xi ?_ ?_<;>try intro ht)|exact Xx|fail)))
  subst aj;exact Xw false [0,1,2] (X3 @qR @qS @qT)
 rw[hs]at yk aj;rw[if_pos ⟨FU,rfl⟩]at aj;have gJ:=air m hm;have ZU:=C7 bP;have wX:=wW hs;have tP:=wY hs;clear FU;have hIn:=hI bP hs;unfold root at aj hIn;generalize fM m=al at *;((repeat'(first|refine Vd (X3 @aU.eq_1 @bne_self_eq_false.{0} @iZ) (X3 hv yk gJ) ?_|(refine Xi ?_ ?_<;>try intro ht)|exact Xx|fail)))
 refine aO (λz:List ee×List ee×α=>(⟨au [(2,.fn g a6),(3,.ptr 3 0 0),(4,.ptr 4 0 0),(7,.ref 5 3 0 z.1.length)],[A z.2.2,B z.2.2,C z.2.2,.var (ao m),.var (aU P),.arr 3 (rowsOf ni (z.1.reverse++z.2.1))]⟩:St))
  (λz=>(∀ s∈z.1,Bl m P s)/\Bm z.1/\Inv z.2.2 (z.1.flatMap (vs P))/\kx P step (z.1.flatMap (vs P)) z.2.2=res) (λz=>(z.1.flatMap (vs P)).length) ([(0,al,[])],[],a) ⟨λs hs=>by rw[ec]at hs;subst hs;exact⟨tP.1,ZU,aR _⟩,⟨aF _,trivial⟩,by simpa using hIn,by simpa using aj⟩ (Xv @aU.eq_1) ?_
 clear aj ZU hI hIn;rintro⟨T,J,a⟩⟨Ci,jG,Jj,aj⟩Ql ak ar;dsimp only at Ci jG Jj aj ⊢;cases T with
 |nil =>
  rw[List.flatMap_nil,kx]at aj;((repeat'(first|refine Va X0 ?_|(refine Xi ?_ ?_<;>try intro ht)|exact Xx|fail)))
  refine ar _ _ rfl ?_;clear ak ar Ql;repeat(refine Xu ?_)
  refine Vb X0 ?_;subst aj;exact Xw false [0,1,2] (X3 @qR @qS @qT)
 |cons s T =>
  have uu:=Ci s G9;have hgT:∀ t∈T,Bl m P t:=λt ht=>Ci t (by simp[ht]);have NF:=FT wX uu.1;rw[sE,NF,dP]at Jj;have ZV:=hE.inv a s _ uu Jj;rw[sE,NF,dP,kx]at aj;have jN:(rowsOf ni ((s::T).reverse++J))[T.length]?=some (ni s):=by
   unfold rowsOf;rw[List.getElem?_map,KA,cY,fO G9];simp
  have jg:(rowsOf ni ((s::T).reverse++J)).take T.length=rowsOf ni T.reverse:=by
   unfold rowsOf;rw[<- xy,KA,cY,Hg G9,ej G9]
  have gD:T.length+1<=((s::T).reverse++J).length:=G9;have ht1:(((T.length+1:Nat):Int)-1).toNat=T.length:=G3;have ov:=ait;rw[eu];generalize qN:(s::T).reverse++J=L at *;obtain⟨s8,jG⟩:=jG;obtain⟨i,left,ab⟩:=s;dsimp only at s8;have hi:i<P.length:=uu.1;have hJ:fD m left:=uu.2.1;have wT:ab.length<=i:=uu.2.2;have b7:P.getD i default=nd P i:=rfl;have bJ:=aB (l:=P) (i:=i) (d:=default) hi;have b1:=hP.kids _ bJ;have hdi:=wX i hi;have Bn:=λo=>yl (o:=o) wX uu.1;have ym:=λo=>aiv (o:=o) wX uu;have gy:=FV hs hi;have FX:∀ o,nT P (i,left,ab) o=(((nd P i).kids.getD o 0).toNat,cf left (nd P i).cls.toNat o,ab++[(nd P i).cls]):=λo=>rfl;have NG:qP P (i,left,ab)=jD P (i,left,ab) (nd P i).kids.length:=rfl;rw[b7]at b1 bJ;dsimp only at aj Bn ym;generalize aS:nd P i=x at *;obtain⟨c,kids,cR,bh,cells⟩:=x;dsimp only at b1 hdi Bn ym FX NG aj;repeat'(first|((fail_if_success (first|refine dE 8 ?_|refine dF 8 ?_));refine Xr (X5 @jN @ni.eq_1 @ht1 @ov (X4 @aU.eq_1 @b7 @az.eq_1 @Option.map_none.{0,0})) ?_;intro K hK)|(refine hK _ ?_;clear hK K)|(refine Xi ?_ ?_<;>try intro ht)|refine Xy ?_|refine Xd ?_ ?_|exact Xx|fail)
  refine bD (ay.jf 8 6 (cells:=[aaa i,.tree 1 (rowsOf aT left),s9 ab]) P5 (by simp only[Kc,simprocAttr]) (by
   intro v hv;simp only[cu,jQ,or_false]at hv;rcases hv with rfl|rfl|rfl
   ·exact .inl ⟨_,rfl⟩
   ·exact .inr ⟨_,_,rfl⟩
   ·rcases ZW ab with⟨y,h,_⟩|h
    ·exact .inl ⟨y,h⟩
    ·exact .inr h)) ?_
  refine bD (ay.jf 9 7 (cells:=az ⟨c,kids,cR,bh,cells⟩) P5 (by simp only[Kc,simprocAttr]) (by simp[az])) ?_;refine bD (σ':=⟨au [(2,.fn g a6),(3,.ptr 3 0 0),(4,.ptr 4 0 0),(7,.ref 5 3 0 T.length),(8,.bm [aaa i,.tree 1 (rowsOf aT left),s9 ab]),(9,.bm (az ⟨c,kids,cR,bh,cells⟩))],[A a,B a,C a,.var (ao m),.var (aU P),.arr 3 (rowsOf ni L)]⟩) (by((refine ay.se [0,1,2,3,4,5] false (by simp only[Oc,simprocAttr,qR,qS,qT,aU]) ?_;simp only[Hr,↓reduceIte,Nat.reduceEqDiff,nq,Nat.reduceAdd,qR,qS,qT,aU];try(and_intros<;>first|exact .pure rfl|exact .eq rfl|exact .fz rfl (by simp only[Bc,Rc]))));(and_intros<;>first|exact xL ..|exact .pure rfl|exact .eq rfl)) ?_;have eK:an Tryz.prog 72 [s9 ab,aaa c] [] (.lit (.bool (ab.contains c))) []:=by
   have:=MU ab c G3;cases ab with
   |nil=>exact an.WB (pre:=[]) (post:=[aaa c]) this
   |cons x r=>exact this
  cases C0:ab.contains c;rotate_left
  ·rw[C0]at eK aj;rw[if_pos rfl]at aj;((refine Va @az.eq_1 ?_)<;>try with_reducible intro K hK)
   refine cA eK (ZX _ _) rfl ?_;((try revert hK K);(repeat'(first|refine Va @az.eq_1 ?_|(refine Xi ?_ ?_<;>try intro ht)|exact Xx|fail)))
   repeat(refine Xu ?_)
   refine Vb X0 ?_;rw[<- aj];exact Xw false [0,1,2] (X3 @qR @qS @qT)
  rw[C0]at eK aj;rw[if_neg G9]at aj;have kJ:=hE.call bP a (i,left,ab) _ uu Jj;dsimp only at kJ;generalize dX:step a (i,left,ab)=sa at *;obtain⟨a2,b⟩:=sa;dsimp only at kJ aj ZV;((refine Va @az.eq_1 ?_)<;>try with_reducible intro K hK)
  refine cA eK (ZX _ _) rfl ?_;cases b
  ·rw[if_neg G9]at aj;((try revert hK K);(refine Va @az.eq_1 ?_)<;>try with_reducible intro K hK)
   refine ez [0,1,2] kJ Kq ⟨by rw[qR];rfl,by rw[qS];rfl,by rw[qT];rfl,trivial⟩ ⟨.pure rfl,ND a6 (hE.rc _ rfl rfl rfl)⟩ ?_;((try revert hK K);(repeat'(first|refine Va (X4 @az.eq_1 @qR @qS @qT) ?_|(refine Xi ?_ ?_<;>try intro ht)|exact Xx|fail)))
   repeat(refine Xu ?_)
   refine Vb X0 ?_;rw[<- aj];exact Xw false [0,1,2] (X3 @qR @qS @qT)
  rw[if_pos rfl]at aj;((try revert hK K);(refine Va @az.eq_1 ?_)<;>try with_reducible intro K hK)
  refine ez [0,1,2] kJ Kq ⟨by rw[qR];rfl,by rw[qS];rfl,by rw[qT];rfl,trivial⟩ ⟨.pure rfl,ND a6 (hE.rc _ rfl rfl rfl)⟩ ?_;((try revert hK K);(repeat'(first|refine Va (X4 @az.eq_1 @qR @qS @qT) ?_|(refine Xi ?_ ?_<;>try intro ht)|exact Xx|fail)))
  have vw:0<kids.length->0<=c/\c<m.cls.length/\kids.length=(m.cls.getD c.toNat default).length:=λh=>by
   unfold lL nf at gy;dsimp only at gy;rw[bk]at gy;have h1:=gy.1;split at h1
   ·rw[decide_eq_true_eq]at h1;omega
   ·rw[decide_eq_true_eq]at h1;exact⟨h1.1,h1.2.1,h1.2.2.1⟩
  have Fg:kids.length<=24:=by
   unfold lL at gy;rw[bk]at gy;exact IP bP gy.1
  refine aO (λz:Nat×List ee=>(⟨au [(2,.fn g a6),(3,.ptr 3 0 0),(4,.ptr 4 0 0),(7,.ref 5 3 0 (T.length+z.1)),(8,.bm [aaa i,.tree 1 (rowsOf aT left),s9 ab]),(9,.bm (az ⟨c,kids,cR,bh,cells⟩)),(60,.tree 1 (ints kids)),(61,aaa kids.length),(62,aaa z.1)],[A a2,B a2,C a2,.var (ao m),.var (aU P),.arr 3 (rowsOf ni z.2)]⟩:St))
   (λz=>z.1<=kids.length/\T.length+z.1<=z.2.length/\z.2.take (T.length+z.1)=T.reverse++jD P (i,left,ab) z.1) (λz=>kids.length-z.1) (0,L) ⟨aF _,Kw,by
    dsimp only;rw[<- qN,Nat.add_zero,KA,cY,Hg G9,ej G9];simp[jD]⟩ (Xv (X2 @aU.eq_1 @az.eq_1)) ?_
  rintro⟨o,L2⟩⟨ho,pt,NH⟩cL a7 ba;dsimp only at ho pt NH ⊢;by_cases cy:o<kids.length
  ·obtain⟨c1,c2,c3⟩:=vw G3;obtain⟨k1,k2,k3⟩:=Bn o cy;have FX:=FX o;have wZ:(left.getD c.toNat default).length=kids.length:=by rw[c3];exact hJ.2 c.toNat (by have:=hJ.1;omega)
   have xF:=aiw left c.toNat o (by have:=hJ.1;omega) G3 (by have:=hJ.1;have:=bP.cls;omega) G3;rw[Int.toNat_of_nonneg c1]at xF;have ZY:(rowsOf ni L2).take (T.length+o)=rowsOf ni (T.reverse++jD P (i,left,ab) o):=by unfold rowsOf;rw[<- xy,NH]
   have dh:(T.reverse++jD P (i,left,ab) o).length=T.length+o:=by simp[jD]
   generalize iK:kids.getD o 0=k at *;generalize cf left c.toNat o=on at *;by_cases Jk:ab=[]
   ·subst Jk;((repeat'(first|refine Vc (X5 @az.eq_1 @iK (X2 @s9.eq_1 @s9.eq_2) @ZY @dh) (X2 xF aix) ?_|(refine Xi ?_ ?_<;>try intro ht)|exact Xx|fail)))
    have l4:(rowsOf ni (T.reverse++jD P (i,left,[]) o)++[[AV.lit (.int .i64 k),.tree 1 (rowsOf aT on),.ref 7 1 0 1]])[T.length+o]?=some [AV.lit (.int .i64 k),.tree 1 (rowsOf aT on),.ref 7 1 0 1]:=by
     rw[fO (by simp[rowsOf,<- dh])];simp[rowsOf,<- dh]
    have FY:rowsOf ni (T.reverse++jD P (i,left,[]) (o+1))=(rowsOf ni (T.reverse++jD P (i,left,[]) o)++[[AV.lit (.int .i64 k),.tree 1 (rowsOf aT on),.ref 7 1 0 1]]).set (T.length+o) [AV.lit (.int .i64 k),.tree 1 (rowsOf aT on),.tree 1 [[AV.lit (.int .i64 c)]]]:=by
     rw[Ab _ _ (by simp[rowsOf,<- dh]),ZZ,FX];have:(((k.toNat:Nat):Int))=k:=G3;simp[rowsOf,<- dh,ni,s9,ints,this]
    have vx:(T.reverse++jD P (i,left,[]) (o+1)).length=T.length+(o+1):=by simp[jD]
    refine a7 _ (o+1,T.reverse++jD P (i,left,[]) (o+1)) ⟨Kw,KB vx.symm,ej (KB vx)⟩ Kw ?_;refine ay.trans (ay.MD 7 9 (T.length+o) 2 1 3 (rows:=[[AV.lit (.int .i64 c)]]) rfl l4 rfl rfl Kq G9 G9) ?_;simp only[n6,mh];rw[<- FY];((refine ay.se [0,1,2,3,4,9] false (by simp only[Oc,simprocAttr,qR,qS,qT,aU]) ?_;simp only[Hr,↓reduceIte,Nat.reduceEqDiff,nq,Nat.reduceAdd,qR,qS,qT,aU];try(and_intros<;>first|exact .pure rfl|exact .eq rfl|exact .fz rfl (by simp only[Bc,Rc]))))
    and_intros<;>first|exact xL ..|exact .pure rfl|exact .eq rfl
   ·have kH:0<ab.length:=by
     cases ab with
     |nil=>exact absurd rfl Jk
     |cons=>simp
    have m8:∀ l:List Int,0<l.length->s9 l=.tree 1 (ints l):=λl h=>by
     cases l with
     |nil=>simp at h
     |cons=>rfl
    have C9:=m8 ab kH;have aiy:=m8 (ab++[c]) G9;have bY:=Z0 ab kH G3;have iU:(ints (ab++[c])).length=ab.length+1:=by simp[ints]
    have l4:(rowsOf ni (T.reverse++jD P (i,left,ab) o)++[[AV.lit (.int .i64 k),.tree 1 (rowsOf aT on),.ref 8 1 0 (ab.length+1)]])[T.length+o]?=some [AV.lit (.int .i64 k),.tree 1 (rowsOf aT on),.ref 8 1 0 (ab.length+1)]:=by
     rw[fO (by simp[rowsOf,<- dh])];simp[rowsOf,<- dh]
    have FY:rowsOf ni (T.reverse++jD P (i,left,ab) (o+1))=(rowsOf ni (T.reverse++jD P (i,left,ab) o)++[[AV.lit (.int .i64 k),.tree 1 (rowsOf aT on),.ref 8 1 0 (ab.length+1)]]).set (T.length+o) [AV.lit (.int .i64 k),.tree 1 (rowsOf aT on),.tree 1 (ints (ab++[c]))]:=by
     rw[Ab _ _ (by simp[rowsOf,<- dh]),ZZ,FX];have:(((k.toNat:Nat):Int))=k:=G3;simp[rowsOf,<- dh,ni,aiy,this]
    have vx:(T.reverse++jD P (i,left,ab) (o+1)).length=T.length+(o+1):=by simp[jD]
    repeat'(first|((fail_if_success (first|refine dE 13 ?_|refine dF 13 ?_));refine Xr (X3 @az.eq_1 @iK @C9) ?_;intro K hK)|(refine hK _ ?_;clear hK K)|(refine Xi ?_ ?_<;>try intro ht)|refine Xy ?_|refine Xd ?_ ?_|exact Xx|fail)
    refine jb [4,6,8,11,14] (.take 0 (.take 1 (.take 2 (.take 3 (.take 4 (.take 5 (.take 6 (.take 7 (.take 8 (.take 9 (.take 10 (.take 11 (.both 12 (.take 13 (.take 14 (.take 15 (.take 16 (.take 17 (.take 18 (.take 19 (.take 20 .nil)))))))) 13 (.take 14 (.both 12 (.take 15 (.take 16 (.take 17 (.take 18 (.take 19 (.take 20 .nil)))))) 15 (.take 12 (.take 16 (.take 17 (.take 18 (.take 19 (.take 20 .nil))))))))))))))))))))) rfl Kq (by decide +kernel) ?_;simp(disch:=omega)only[Ac,↓Pc,simprocAttr,Pw,↓Lq,az,iK,C9];refine bK xF rfl rfl ?_;simp(disch:=omega)only[Ac,↓Pc,simprocAttr,Pw,↓Lq,az,iK,C9];repeat'(with_reducible refine And.intro ?_ ?_)
    all_goals try(refine ez [] bY Kq trivial ⟨.pure rfl,trivial⟩ ?_;simp(disch:=omega)only[Ac,↓Pc,simprocAttr,Pw,↓Lq,az,iK,C9,jv,yN,ZY,dh,yV])
    repeat'(first|with_reducible refine And.intro ?_ ?_|omega)
    all_goals
     repeat(refine Xu ?_)
     ((repeat'(first|refine Va X0 ?_|fail)))
    all_goals
     refine a7 _ (o+1,T.reverse++jD P (i,left,ab) (o+1)) ⟨Kw,KB vx.symm,ej (KB vx)⟩ Kw ?_;refine ay.trans (ay.MD 8 10 (T.length+o) 2 1 3 (rows:=ints (ab++[c])) rfl l4 rfl (by rw[iU];rfl) Kq (ny _) (oa _)) ?_;simp only[n6,mh];rw[<- FY];((refine ay.se [0,1,2,3,4,10] false (by simp only[Oc,simprocAttr,qR,qS,qT,aU,C9]) ?_;simp only[Hr,↓reduceIte,Nat.reduceEqDiff,nq,Nat.reduceAdd,qR,qS,qT,aU,C9];try(and_intros<;>first|exact .pure rfl|exact .eq rfl|exact .fz rfl (by simp only[Bc,Rc]))))
     and_intros<;>first|exact xL ..|exact .pure rfl|exact .eq rfl
  ·obtain rfl:o=kids.length:=G3;((repeat'(first|refine Va @az.eq_1 ?_|(refine Xi ?_ ?_<;>try intro ht)|exact Xx|fail)))
   refine ba _ _ rfl ?_;clear a7 ba cL;repeat(refine Xu ?_)
   ((skip))
   have cF:(jD P (i,left,ab) kids.length).length=kids.length:=by simp[jD]
   have yn:T.reverse++jD P (i,left,ab) kids.length++L2.drop (T.length+kids.length)=L2:=by rw[<- NH,List.take_append_drop]
   refine ak _ ((qP P (i,left,ab)).reverse++T,L2.drop (T.length+kids.length),a2) ⟨λt ht=>?_,?_,by dsimp only;rw[rn];exact ZV,?_⟩ ?_ ?_
   ·dsimp only at ht;rw[List.mem_append]at ht;rcases ht with ht|ht
    ·obtain⟨o,ho,rfl⟩:=wV (vX.1 ht);dsimp only at ho;rw[aS]at ho;exact ym o ho
    ·exact hgT t ht
   ·dsimp only;refine Bm.push jG s8 _ (λt ht=>?_) (by rw[List.length_reverse,NG,cF];exact Fg);obtain⟨o,ho,rfl⟩:=wV (vX.1 ht);dsimp only at ho;rw[aS]at ho;exact(Bn o ho).1
   ·dsimp only;rw[rn];exact aj
   ·dsimp only;rw[rn,sE,NF,bQ,bQ,eu];omega
   ·dsimp only;rw[List.reverse_append,List.reverse_reverse,NG,yn,bQ,List.length_reverse,cF,Nat.add_comm kids.length T.length];exact Xv @aU.eq_1
def iN(m:ah)(P:List Nd)(b:Int)(s:ee):Int×Bool :=
 if(nd P s.1).cls≠-1 then(b,true)
 else if 0<(nd P s.1).bh.length then(b,mG m (nd P s.1) s.2.1)
 else(min b (jL m s.2.1 (nd P s.1).cR).1,(jL m s.2.1 (nd P s.1).cR).2==0)
def lY(m:ah)(P:List Nd):Int×Bool:=if(sj m P (iN m P) 1099511627776).2=true then((sj m P (iN m P) 1099511627776).1,true) else(0,false)
def aiz(ρ:Nat->Nat)(m:ah):bU ρ (.var (ao m))=.var (ao m):=rfl
def aiA(m:ah)(P:List Nd)(hP:PB P)(hm:VM m)(b:Int)(s:ee)(hs:Bl m P s):
  an Tryz.prog 68 [.agg [aaa s.1,.tree 1 (rowsOf aT s.2.1)],.ptr 1 0 0,.ptr 0 0 0,.ptr 2 0 0] [.var (ao m),.var (aU P),.var [aaa b]] (.lit (.bool (iN m P b s).2)) [.var (ao m),.var (aU P),.var [aaa (iN m P b s).1]]:=by
 obtain⟨i,left,ab⟩:=s;have hi:i<P.length:=hs.1;have hf:fD m left:=hs.2.1;have x7:=hP.sU;have b7:P.getD i default=nd P i:=rfl;have bJ:=aB (l:=P) (i:=i) (d:=default) hi;have b2:=hP.cR _ bJ;have b3:=hP.bh _ bJ;have b4:=hP.cells _ bJ;have b5:=hP.cell _ bJ;generalize aj:iN m P b (i,left,ab)=res;unfold iN at aj;rw[b7]at b2 b3 b4 b5;dsimp only at aj;have ln:=aiB m (nd P i) left hm hf b3 b4 b5;have zD:=aiC m left (nd P i).cR hm hf b2;generalize mG m (nd P i) left=cw at *;generalize jL m left (nd P i).cR=lt at *;generalize aS:nd P i=x at *;obtain⟨c,kids,cR,bh,cells⟩:=x;obtain⟨v,e⟩:=lt;dsimp only at *;refine an.aC 41 3 [.tmp 5] Tryz.func68 ?_;by_cases hc:c = -1;rotate_left
 ·rw[if_pos hc]at aj;((repeat'(first|refine Vb (X3 @aU.eq_1 @b7 @az.eq_1) ?_|(refine Xi ?_ ?_<;>try intro ht)|exact Xx|fail)))
  subst aj;exact Xw false [0,1,2] @aU.eq_1
 rw[if_neg G3]at aj;by_cases hg:0<bh.length
 ·rw[if_pos hg]at aj;((repeat'(first|refine Vd (X3 @aU.eq_1 @b7 @az.eq_1) ln ?_|(refine Xi ?_ ?_<;>try intro ht)|exact Xx|fail)))
  subst aj;exact Xw false [0,1,2] @aU.eq_1
 rw[if_neg hg]at aj;((repeat'(first|refine Vd (X3 @aU.eq_1 @b7 @az.eq_1) zD ?_|(refine Xi ?_ ?_<;>try intro ht)|exact Xx|fail)))
 subst aj;exact Xw false [0,1,2] @aU.eq_1
def ahI(m:ah)(P:List Nd)(hm:MB m)(hP:PB P):an Tryz.prog 28 [.agg (ao m),.agg (aU P)] [] (.bH [aaa (lY m P).1,.lit (.bool (lY m P).2)]) []:=by
 have hw:=aiq m P hm hP (λ_=>.var (ao m)) (λ_=>.var (aU P)) (λb:Int=>.var [aaa b]) [.ptr 1 0 0,.ptr 0 0 0,.ptr 2 0 0] 68 (iN m P) (Inv:=λ_ _=>True)
  ⟨λρ h0 h1 h2 a=>⟨rfl,rfl,rfl⟩,λρ h0 h1 h2 v hv=>by
   simp only[cu,jQ,or_false]at hv;rcases hv with rfl|rfl|rfl<;>simp only[br,h0,h1,h2],λ_ _ _ _ _=>trivial,λbP a s _ hs _=>aiA m P hP bP a s hs⟩ 1099511627776 (λ_ _=>trivial)
 generalize aj:lY m P=res;unfold lY at aj;generalize sj m P (iN m P) 1099511627776=r at *;obtain⟨b,ok⟩:=r;dsimp only at hw aj;refine an.aC 15 0 [.tmp 4,.tmp 5] Tryz.func28 ?_;((refine Vb @aU.eq_1 ?_)<;>try with_reducible intro K hK)
 refine il hw G9 ?_;cases ok
 ·rw[if_neg G9]at aj;((try revert hK K);(repeat'(first|refine Vb @jP ?_|(refine Xi ?_ ?_<;>try intro ht)|exact Xx|fail)))
  subst aj;exact aE rfl rfl
 ·rw[if_pos rfl]at aj;((try revert hK K);(repeat'(first|refine Vb @iZ ?_|(refine Xi ?_ ?_<;>try intro ht)|exact Xx|fail)))
  subst aj;exact aE rfl rfl
def Z1{α:Type}{P:List Nd}{step:α->ee->α×Bool}:∀ {L:List ee} {a r:α},kx P step L a=(r,true)->∀ (J:α->Prop) (R:α->α->Prop),(∀ x,R x x)->(∀ x y z,R x y->R y z->R x z)->(∀ s∈L,∀ x,(step x s).2=true->R x (step x s).1) ->
  ∀ s∈L,s.2.2.contains (nd P s.1).cls=false/\∃ x,(step x s).2=true/\R (step x s).1 r
 |[],a,r,h,J,R,h1,h2,h3,s,hs=>by simp at hs
 |t::L,a,r,h,J,R,h1,h2,h3,s,hs=>by
  rw[kx]at h;split at h
  ·cases h
  ·rename_i hc;split at h
   ·rename_i jS;have ih:=Z1 h J R h1 h2 (λu hu=>h3 u (by simp[hu]));rcases cu.1 hs with e|hs
    ·subst e;refine⟨by simpa using hc,a,jS,?_⟩;have mono:∀ (L:List ee) (x y:α),(∀ u∈L,∀ x,(step x u).2=true->R x (step x u).1)->kx P step L x=(y,true)->R x y:=by
      intro L
      induction L with
      |nil=>intro x y _ h;rw[kx]at h;cases h;exact h1 _
      |cons u L FZ =>
       intro x y hm h;rw[kx]at h;split at h
       ·cases h
       ·split at h
        ·rename_i hu;exact h2 _ _ _ (hm u G9 x hu) (FZ _ _ (λv hv=>hm v (by simp[hv])) h)
        ·cases h
     exact mono L _ _ (λu hu=>h3 u (by simp[hu])) h
    ·exact ih s hs
   ·cases h
def ZR{m:ah}{P:List Nd}{n:Int}(h:lY m P=(n,true)):VM m/\j4 m P=true/\kx P (iN m P) (vs P (root m)) 1099511627776=(n,true):=by
 unfold lY sj at h;by_cases h2:ek m=0/\j4 m P=true
 ·rw[if_pos h2]at h;split at h
  ·rename_i h1;refine⟨iu.1 h2.1,h2.2,?_⟩;have e:(kx P (iN m P) (vs P (root m)) 1099511627776).1=n:=congrArg Prod.fst h;exact Prod.ext e h1
  ·cases h
 ·rw[if_neg h2]at h;split at h
  ·rename_i h1;cases h1
  ·cases h
def Z2{m:ah}{P:List Nd}(b:Int)(s:ee):(iN m P b s).1<=b:=by
 unfold iN;split
 ·exact iO _
 split
 ·exact iO _
 ·exact Int.min_le_left ..
def ZS{m:ah}{P:List Nd}{n:Int}(h:kx P (iN m P) (vs P (root m)) 1099511627776=(n,true)):n<=1099511627776/\∀ s∈vs P (root m),s.2.2.contains (nd P s.1).cls=false/\((nd P s.1).cls = -1->if 0<(nd P s.1).bh.length then mG m (nd P s.1) s.2.1=true else n<=(jL m s.2.1 (nd P s.1).cR).1/\(jL m s.2.1 (nd P s.1).cR).2=0):=by
 have aiD:∀ (L:List ee) (a r:Int),kx P (iN m P) L a=(r,true)->r<=a:=by
  intro L
  induction L with
  |nil=>intro a r h;rw[kx]at h;cases h;exact iO _
  |cons s L ih =>
   intro a r h;rw[kx]at h;split at h
   ·cases h
   ·split at h
    ·exact z' (ih _ _ h) (Z2 a s)
    ·cases h
 refine⟨aiD _ _ _ h,λs hs=>?_⟩;obtain⟨h1,x,h2,h3⟩:=Z1 h (λ_=>True) (λx y=>y<=x) (λx=>iO _) (λx y z h1 h2=>z' h2 h1) (λs _ x _=>Z2 x s) s hs;refine⟨h1,λhc=>?_⟩;unfold iN at h2 h3;rw[if_neg G3]at h2 h3;split
 ·rename_i hg;rw[if_pos hg]at h2;exact h2
 ·rename_i hg;rw[if_neg hg]at h2 h3;dsimp only at h2 h3;exact⟨G3,by simpa using h2⟩
def aiE{m:ah}{P:List Nd}(hm:VM m)(hs:j4 m P=true)(h:∀ s∈vs P (root m),s.2.2.contains (nd P s.1).cls=false/\((nd P s.1).cls = -1->(nd P s.1).bh.length=0/\(jL m s.2.1 (nd P s.1).cR).2=0)):
  ∃ n,lY m P=(n,true)/\∀ a,a<=1099511627776->(∀ s∈vs P (root m),(nd P s.1).cls = -1->a<=(jL m s.2.1 (nd P s.1).cR).1)->a<=n:=by
 have key:∀ (L:List ee) (b:Int),(∀ s∈L,s.2.2.contains (nd P s.1).cls=false/\((nd P s.1).cls = -1->(nd P s.1).bh.length=0/\(jL m s.2.1 (nd P s.1).cR).2=0)) ->
   (kx P (iN m P) L b).2=true/\∀ a,a<=b->(∀ s∈L,(nd P s.1).cls = -1->a<=(jL m s.2.1 (nd P s.1).cR).1)->a<=(kx P (iN m P) L b).1:=by
  intro L
  induction L with
  |nil=>intro b _;exact⟨rfl,λa h _=>h⟩
  |cons s L ih =>
   intro b h;obtain⟨h1,h2⟩:=h s G9;have yo:(iN m P b s).2=true:=by
    unfold iN;by_cases hc:(nd P s.1).cls = -1
    ·rw[if_neg G3,if_neg (by have:=(h2 hc).1;omega)];simp[(h2 hc).2]
    ·rw[if_pos hc]
   rw[kx,h1,if_neg G9,if_pos yo];obtain⟨i1,i2⟩:=ih (iN m P b s).1 λt ht=>h t (by simp[ht]);refine⟨i1,λa ha hl=>i2 a ?_ λt ht=>hl t (by simp[ht])⟩;unfold iN;by_cases hc:(nd P s.1).cls = -1
   ·rw[if_neg G3,if_neg (by have:=(h2 hc).1;omega)];have:=hl s G9 hc;show a<=min _ _;omega
   ·rw[if_pos hc];exact ha
 obtain⟨k1,k2⟩:=key (vs P (root m)) 1099511627776 h;refine⟨(kx P (iN m P) (vs P (root m)) 1099511627776).1,?_,k2⟩;have hw:sj m P (iN m P) 1099511627776=kx P (iN m P) (vs P (root m)) 1099511627776:=if_pos ⟨iu.2 hm,hs⟩;unfold lY;rw[hw,if_pos k1]
def eW(l:List Mv):Nd:=⟨-1,[],l,[],[]⟩
def NC{P:List Nd}(hd:Down P){s:ee}(hs:s.1<P.length)(hk:(nd P s.1).kids=[]):vs P s=[s]:=by
 rw[FT hd hs];unfold qP jD;rw[hk];rfl
def ZT{m:ah}(left:List (List Bool)):jL m left []=(r8 m left (S0 m,T0 m),0):=rfl
mutual
inductive lN(m:ah)(P:List Nd)(Q:List Int->Prop):Nat->Nat->List Int->Prop
 |leaf (lo:Nat) (ab:List Int) (l:List Mv) (h:nd P lo=eW l) (hl:l.length<=2000) (hv:∀ x∈l,j5 m x=true) (ha:(-1:Int) ∉ ab) (hq:Q ab):lN m P Q lo (lo+1) ab
 |node (lo hi:Nat) (ab:List Int) (c:Nat) (ks:List Int) (h:nd P lo=⟨c,ks,[],[],[]⟩) (hc:c<m.cls.length) (ha:(c:Int) ∉ ab) (hk:ks.length=(m.cls.getD c default).length) (hs:lO m P Q (lo+1) hi (ab++[(c:Int)]) ks):lN m P Q lo hi ab
inductive lO(m:ah)(P:List Nd)(Q:List Int->Prop):Nat->Nat->List Int->List Int->Prop
 |nil (lo:Nat) (ab:List Int):lO m P Q lo lo ab []
 |cons (lo mid hi:Nat) (ab:List Int) (ks:List Int) (h:lN m P Q lo mid ab) (hs:lO m P Q mid hi ab ks):lO m P Q lo hi ab ((lo:Int)::ks)
end
def lO.snoc{m:ah}{P:List Nd}{Q:List Int->Prop}{mid hi:Nat}{ab:List Int}(h2:lN m P Q mid hi ab):∀ {ks:List Int} {lo:Nat},lO m P Q lo mid ab ks->lO m P Q lo hi ab (ks++[(mid:Int)])
 |[],lo,h=>by
  cases h;exact .cons _ _ _ _ _ h2 (.nil _ _)
 |k::ks,lo,h=>by
  cases h with
  |cons _ aio _ _ _ h1 hs=>exact .cons _ _ _ _ _ h1 (lO.snoc h2 hs)
mutual
def lN.lt{m:ah}{P:List Nd}{Q:List Int->Prop}{lo hi:Nat}{ab:List Int}:lN m P Q lo hi ab->lo<hi
 |.leaf _ _ _ _ _ _ _ _=>Nat.lt_succ_self _
 |.node _ _ _ _ _ _ _ _ _ hs=>by have:=hs.le;omega
def lO.le{m:ah}{P:List Nd}{Q:List Int->Prop}{lo hi:Nat}{ab ks:List Int}:lO m P Q lo hi ab ks->lo<=hi
 |.nil _ _=>aR _
 |.cons _ _ _ _ _ h hs=>by have:=h.lt;have:=hs.le;omega
end
def uv(P:List Nd)(lo hi:Nat):List Int:=(List.range' lo (hi-lo)).flatMap λi=>(nd P i).kids
def Z3(P:List Nd){lo mid hi:Nat}(h1:lo<=mid)(h2:mid<=hi):uv P lo hi=uv P lo mid++uv P mid hi:=by
 unfold uv;rw[<- rn];congr 1;have:=List.range'_append (s:=lo) (m:=mid-lo) (n:=hi-mid) (step:=1);simp only[Nat.one_mul]at this;rw[show lo+(mid-lo)=mid by omega,show mid-lo+(hi-mid)=hi-lo by omega]at this;exact this.symm
def Z4(P:List Nd)(lo:Nat):uv P lo (lo+1)=(nd P lo).kids:=by
 unfold uv;rw[show lo+1-lo=1 by omega];simp
def aiF(P:List Nd)(lo:Nat):uv P lo lo=[]:=by unfold uv;rw[jv];rfl
mutual
def lN.count{m:ah}{P:List Nd}{Q:List Int->Prop}{lo hi:Nat}{ab:List Int}:lN m P Q lo hi ab->∀ j:Nat,(uv P lo hi).count (j:Int)=if lo<j/\j<hi then 1 else 0
 |.leaf lo _ l h _ _ _ _,j=>by
  rw[Z4,h,if_neg G3];rfl
 |.node lo hi _ c ks h _ _ _ hs,j=>by
  have hle:=hs.le;rw[Z3 P (Nat.le_succ lo) hle,Z4,h,tv];have:=hs.count j;dsimp only;rw[this];by_cases h1:lo<j/\j<hi
  ·rw[if_pos G3,if_pos h1]
  ·rw[if_neg G3,if_neg h1]
def lO.count{m:ah}{P:List Nd}{Q:List Int->Prop}{lo hi:Nat}{ab ks:List Int}:lO m P Q lo hi ab ks->∀ j:Nat,ks.count (j:Int)+(uv P lo hi).count (j:Int)=if lo<=j/\j<hi then 1 else 0
 |.nil lo _,j=>by rw[aiF,if_neg G3];rfl
 |.cons lo mid hi _ ks h hs,j=>by
  have bx:=h.lt;have hle:=hs.le;rw[Z3 P (Nat.le_of_lt bx) hle,tv,List.count_cons];have h1:=h.count j;have h2:=hs.count j;have hb:((lo:Int)==(j:Int))=decide (lo=j):=by rw[Bool.eq_iff_iff,beq_iff_eq,decide_eq_true_eq];omega
  rw[h1,hb];by_cases e:lo=j
  ·subst e;rw[if_neg G3]at h2;simp only[decide_true,if_true];rw[if_neg G3,if_pos G3];omega
  ·simp only[decide_eq_false e,Bool.false_eq_true,if_false];by_cases h3:lo<j/\j<mid
   ·rw[if_pos h3,if_pos G3];rw[if_neg G3]at h2;omega
   ·rw[if_neg h3];by_cases h4:mid<=j/\j<hi
    ·rw[if_pos h4]at h2;rw[if_pos G3];omega
    ·rw[if_neg h4]at h2;rw[if_neg G3];omega
end
mutual
def lN.F0{m:ah}{P:List Nd}{Q:List Int->Prop}{lo hi:Nat}{ab:List Int}:lN m P Q lo hi ab->∀ i,lo<=i->i<hi->nf m (nd P i)=true/\∀ k∈(nd P i).kids,(i:Int)<k/\k<hi
 |.leaf lo _ l h _ _ _ _,i,h1,h2=>by
  obtain rfl:i=lo:=G3;rw[h];exact⟨rfl,λk hk=>by cases hk⟩
 |.node lo hi _ c ks h hc _ hk hs,i,h1,h2=>by
  by_cases e:i=lo
  ·subst e;rw[h];refine⟨?_,λk iK=>?_⟩
   ·unfold nf;rw[if_neg (by show ¬((c:Int) = -1);omega),decide_eq_true_eq];exact⟨by show(0:Int)<=c;omega,by show(c:Int)<_;omega,by show ks.length=_;rw[ig];exact hk,rfl,rfl,rfl⟩
   ·have:=hs.Z5 k iK;omega
  ·exact hs.F0 i G3 h2
def lO.F0{m:ah}{P:List Nd}{Q:List Int->Prop}{lo hi:Nat}{ab ks:List Int}:lO m P Q lo hi ab ks->∀ i,lo<=i->i<hi->nf m (nd P i)=true/\∀ k∈(nd P i).kids,(i:Int)<k/\k<hi
 |.nil lo _,i,h1,h2=>G3
 |.cons lo mid hi _ ks h hs,i,h1,h2=>by
  have hle:=hs.le;by_cases e:i<mid
  ·obtain⟨a,b⟩:=h.F0 i h1 e;exact⟨a,λk hk=>by have:=b k hk;omega⟩
  ·exact hs.F0 i G3 h2
def lO.Z5{m:ah}{P:List Nd}{Q:List Int->Prop}{lo hi:Nat}{ab ks:List Int}:lO m P Q lo hi ab ks->∀ k∈ks,(lo:Int)<=k/\k<hi
 |.nil lo _,k,hk=>by cases hk
 |.cons lo mid hi _ ks h hs,k,hk=>by
  have bx:=h.lt;have hle:=hs.le;rcases cu.1 hk with rfl|hk
  ·omega
  ·have:=hs.Z5 k hk;omega
end
mutual
def lN.flat{m:ah}{P:List Nd}{Q:List Int->Prop}{lo hi:Nat}{ab:List Int}:lN m P Q lo hi ab->∀ i,lo<=i->i<hi->(nd P i).cR.length<=2000/\(nd P i).bh=[]/\(nd P i).cells=[]
 |.leaf lo _ l h hl _ _ _,i,h1,h2=>by
  obtain rfl:i=lo:=G3;rw[h];exact⟨hl,rfl,rfl⟩
 |.node lo hi _ c ks h hc _ hk hs,i,h1,h2=>by
  by_cases e:i=lo
  ·subst e;rw[h];exact⟨aF _,rfl,rfl⟩
  ·exact hs.flat i G3 h2
def lO.flat{m:ah}{P:List Nd}{Q:List Int->Prop}{lo hi:Nat}{ab ks:List Int}:lO m P Q lo hi ab ks->∀ i,lo<=i->i<hi->(nd P i).cR.length<=2000/\(nd P i).bh=[]/\(nd P i).cells=[]
 |.nil lo _,i,h1,h2=>G3
 |.cons lo mid hi _ ks h hs,i,h1,h2=>by
  have hle:=hs.le;by_cases e:i<mid
  ·exact h.flat i h1 e
  ·exact hs.flat i G3 h2
end
def aiG(P:List Nd):uv P 0 P.length=gw P:=by
 unfold uv gw;rw[yN,<- List.range_eq_range'];have:∀ n,n<=P.length->(List.range n).flatMap (λi=>(nd P i).kids)=(P.take n).flatMap (·.kids):=by
  intro n
  induction n with
  |zero=>intro _;rfl
  |succ n ih =>
   intro hn;rw[List.range_succ,rn,ih G3,eJ G3,rn,List.flatMap_singleton,List.flatMap_singleton];rfl
 rw[this P.length (aR _),List.take_length]
def lN.shaped{m:ah}{P:List Nd}{Q:List Int->Prop}(h:lN m P Q 0 P.length [])(hn:P.length<=20000):j4 m P=true:=by
 have bx:=h.lt;rw[IQ ⟨bx,hn⟩ (λi hi=>by
  obtain⟨a,b⟩:=h.F0 i (aF _) hi;show lL m P.length i (nd P i)=true;unfold lL;rw[a,Bool.true_and,gV];intro k hk;have:=b k hk;unfold lX;rw[decide_eq_true_eq];exact this)]
 rw[Bool.not_eq_true',List.any_eq_false];intro x hx;unfold kf at hx;rw[<- List.map_drop]at hx;obtain⟨j,hj,rfl⟩:=List.mem_map.1 hx;have EA:1<=j/\j<P.length:=by
  obtain⟨i,hi,rfl⟩:=List.getElem_of_mem hj;rw[List.length_drop,List.length_range]at hi;rw[List.getElem_drop,List.getElem_range];omega
 have hc:=h.count j;rw[aiG,if_pos G3]at hc;rw[hc];decide
def aiH{m:ah}{left:List (List Bool)}{l:List Mv}(hl:l.length<=2000)(hv:∀ x∈l,j5 m x=true):jL m left l=(r8 m left (j7 m l (S0 m,T0 m)),0):=by
 unfold jL;rw[if_neg G3,if_neg (by rw[gV.2 hv];simp)]
mutual
def lN.F1{m:ah}{P:List Nd}{Q:List Int->Prop}(hd:Down P){lo hi:Nat}{ab:List Int}:lN m P Q lo hi ab->hi<=P.length->∀ left,∀ t∈vs P (lo,left,ab),t.2.2.contains (nd P t.1).cls=false/\((nd P t.1).cls = -1->(nd P t.1).bh.length=0/\(jL m t.2.1 (nd P t.1).cR).2=0)
 |.leaf lo ab l h hl hv ha _,hh,left,t,ht=>by
  rw[NC hd (by show lo<_;omega) (by show(nd P lo).kids=[];rw[h];rfl),ec]at ht;subst ht;dsimp only;rw[h];refine⟨?_,λ_=>⟨rfl,by show(jL m left l).2=0;rw[aiH hl hv]⟩⟩;show ab.contains (-1)=false;rw[BW];intro hc;exact ha (qh.1 hc)
 |.node lo hi ab c ks h hc ha hk hs,hh,left,t,ht=>by
  have hle:=hs.le;rw[FT hd (by show lo<_;omega),cu]at ht;rcases ht with rfl|ht
  ·dsimp only;rw[h];refine⟨?_,λh2=>absurd (show(c:Int) = -1 from h2) G3⟩;rw[BW];intro hc;exact ha (qh.1 hc)
  ·obtain⟨u,hu,ht⟩:=BZ.1 ht;obtain⟨o,ho,rfl⟩:=wV (vX.1 hu);dsimp only at ho;have qO:nT P (lo,left,ab) o=((ks.getD o 0).toNat,cf left c o,ab++[(c:Int)]):=by
    unfold nT;dsimp only;rw[h];rfl
   rw[qO]at ht;rw[h]at ho;exact hs.F1 hd hh o ho _ t ht
def lO.F1{m:ah}{P:List Nd}{Q:List Int->Prop}(hd:Down P){lo hi:Nat}{ab ks:List Int}:lO m P Q lo hi ab ks->hi<=P.length->∀ o,o<ks.length->∀ left,∀ t∈vs P ((ks.getD o 0).toNat,left,ab),t.2.2.contains (nd P t.1).cls=false/\((nd P t.1).cls = -1->(nd P t.1).bh.length=0/\(jL m t.2.1 (nd P t.1).cR).2=0)
 |.nil _ _,_,o,ho,_,_,_=>by cases ho
 |.cons lo mid hi ab ks h hs,hh,o,ho,left,t,ht=>by
  have hle:=hs.le;cases o with
  |zero =>
   rw[jh,ig]at ht;exact h.F1 hd G3 left t ht
  |succ o =>
   rw[gN]at ht;exact hs.F1 hd hh o (by simpa using ho) left t ht
end
mutual
def lN.leaves{m:ah}{P:List Nd}{Q:List Int->Prop}(hd:Down P){lo hi:Nat}{ab:List Int}:lN m P Q lo hi ab->hi<=P.length->∀ left,∀ t∈vs P (lo,left,ab),(nd P t.1).cls = -1->Q t.2.2
 |.leaf lo ab l h hl hv ha hq,hh,left,t,ht,_=>by
  rw[NC hd (by show lo<_;omega) (by show(nd P lo).kids=[];rw[h];rfl),ec]at ht;subst ht;exact hq
 |.node lo hi ab c ks h hc ha hk hs,hh,left,t,ht,bY=>by
  have hle:=hs.le;rw[FT hd (by show lo<_;omega),cu]at ht;rcases ht with rfl|ht
  ·dsimp only at bY;rw[h]at bY;exact absurd (show(c:Int) = -1 from bY) G3
  ·obtain⟨u,hu,ht⟩:=BZ.1 ht;obtain⟨o,ho,rfl⟩:=wV (vX.1 hu);dsimp only at ho;have qO:nT P (lo,left,ab) o=((ks.getD o 0).toNat,cf left c o,ab++[(c:Int)]):=by
    unfold nT;dsimp only;rw[h];rfl
   rw[qO]at ht;rw[h]at ho;exact hs.leaves hd hh o ho _ t ht bY
def lO.leaves{m:ah}{P:List Nd}{Q:List Int->Prop}(hd:Down P){lo hi:Nat}{ab ks:List Int}:lO m P Q lo hi ab ks->hi<=P.length->∀ o,o<ks.length->∀ left,∀ t∈vs P ((ks.getD o 0).toNat,left,ab),(nd P t.1).cls = -1->Q t.2.2
 |.nil _ _,_,o,ho,_,_,_,_=>by cases ho
 |.cons lo mid hi ab ks h hs,hh,o,ho,left,t,ht,bY=>by
  have hle:=hs.le;cases o with
  |zero =>
   rw[jh,ig]at ht;exact h.leaves hd G3 left t ht bY
  |succ o =>
   rw[gN]at ht;exact hs.leaves hd hh o (by simpa using ho) left t ht bY
end
def lN.fZ{m:ah}{P:List Nd}{Q:List Int->Prop}(hm:VM m)(h:lN m P Q 0 P.length [])(hn:P.length<=20000):∃n,lY m P=(n,true)/\∀ a,a<=1099511627776->(∀ s∈vs P (root m),(nd P s.1).cls = -1->a<=(jL m s.2.1 (nd P s.1).cR).1)->a<=n:=by
 have hs:=h.shaped hn;exact aiE hm hs λs jS=>h.F1 (wW hs) (aR _) (fM m) s jS
end T

