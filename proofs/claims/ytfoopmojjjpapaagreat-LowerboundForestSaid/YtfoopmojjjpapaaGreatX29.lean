import Derived.Test.YtfoopmojjjpapaaGreatX26
import Derived.Test.YtfoopmojjjpapaaGreatX27
import Derived.Test.YtfoopmojjjpapaaGreatX28
set_option linter.all false
set_option maxHeartbeats 0
set_option maxRecDepth 20000
open Bool renaming not_false→lG,not_true→km,and_eq_true→a7
open Nat renaming zero_le→aS,reduceBEq→qZ,le_of_eq→Jn
open List renaming flatMap_cons→xL,cons_append→e9,append_assoc→bw,getElem?_append_right→gN,map_take→Fu,take_of_length_le→c9,length_cons→cV,mem_cons→a8,not_mem_nil→iJ,set_append_right→AX,set_cons_succ→wG,set_cons_zero→rV,flatMap_append→tN,mem_reverse→AY,length_append→bI
open Int renaming le_refl→mP,le_trans→C1
open Go Go.Am Go.Proofs
namespace T
structure alV(α:Type)(m:aj)(P:List Nd)(A B C:α->Ob)(bn:List AV)(g:FuncId)(step:α->eB->α×Bool)(Inv:α->List eB->Prop):Prop where
 ra:∀ (ρ:Nat->Nat),ρ 0=0->ρ 1=1->ρ 2=2->∀ a,bM ρ (A a)=A a/\bM ρ (B a)=B a/\bM ρ (C a)=C a
 rc:∀ (ρ:Nat->Nat),ρ 0=0->ρ 1=1->ρ 2=2->∀ v∈bn,bh ρ v=v
 inv:∀ a s L,AE m P s->Inv a (s::L)->Inv (step a s).1 L
 call:VM m->∀ a s L,AE m P s->Inv a (s::L)->Holds Tryz.prog g (.agg [.lit (.int .i64 s.1),.tree 1 (rowsOf aE s.2.1)]::bn) [A a,B a,C a] (.lit (.bool (step a s).2)) [A (step a s).1,B (step a s).1,C (step a s).1]
def NW{σ:St}{kp:Nat->Prop}{ρ:Nat->Nat}{snap:Bool}:∀ (l:List AV),(∀ v∈l,bh ρ v=v)->nS (cC σ kp ρ snap) l l
 |[],_=>trivial
 |v::l,h=>⟨.eq (h v Fl).symm,NW l λx hx=>h x (by simp[hx])⟩
def alW{α:Type}(m:aj)(P:List Nd)(hm:MB m)(hP:PB P)(A B C:α->Ob)(bn:List AV)(g:FuncId)(step:α->eB->α×Bool){Inv:α->List eB->Prop}(hE:alV α m P A B C bn g step Inv)(a:α)(hI:VM m->l9 m P=true->Inv a (vs P (root m))):
  Holds Tryz.prog 65 [.agg (ay m),.agg (cB P),.fn g bn] [A a,B a,C a] (.lit (.bool (rP m P step a).2)) [A (rP m P step a).1,B (rP m P step a).1,C (rP m P step a).1]:=by
 have hv:=MQ m hm;have Af:=hP.MZ;have pM:∀ n l a,bM (bq n (0::1::2::l)) (A a)=A a:=λn l a=>(hE.ra _ rfl rfl rfl a).1;have pN:∀ n l a,bM (bq n (0::1::2::l)) (B a)=B a:=λn l a=>(hE.ra _ rfl rfl rfl a).2.1;have pO:∀ n l a,bM (bq n (0::1::2::l)) (C a)=C a:=λn l a=>(hE.ra _ rfl rfl rfl a).2.2;have Dv:∀ n l,bh (bq n (0::1::2::l)) (.fn g bn)=.fn g bn:=λn l=>by
  rw[bh];refine congrArg _ ?_;have h:=hE.rc (bq n (0::1::2::l)) rfl rfl rfl;rw[wL];exact(List.map_congr_left h).trans (List.map_id bn)
 have wP:∀ (σ:St) (kp:Nat->Prop) n l snap,cC σ kp (bq n (0::1::2::l)) snap (.fn g bn) (.fn g bn):=λσ kp n l snap=>.eq (Dv n l).symm;generalize au:rP m P step a=res;unfold rP at au;refine Holds.aQ 88 3 [.tmp 6] Tryz.func65 ?_;by_cases EX:j6 m=0;rotate_left
 ·rw[if_neg (λh=>EX h.1)]at au;((repeat'(first|refine Vd @cB.eq_1 hv ?_|(refine V2 @cB.eq_1 ?_ ?_<;>try with_reducible intro hb)|(refine Xi ?_ ?_<;>try intro ht)|exact Xx|fail)))
  subst au;exact Xw false [0,1,2] (X3 @pM @pN @pO)
 rw[EX]at hv;have cf:=oB.1 EX;have uz:=ake m P cf hP;cases hs:l9 m P
 ·rw[hs]at uz au;rw[if_neg Fl]at au;((repeat'(first|refine Vd (X3 @cB.eq_1 @bne_self_eq_false.{0} @lG) (X2 hv uz) ?_|(refine Xi ?_ ?_<;>try intro ht)|exact Xx|fail)))
  subst au;exact Xw false [0,1,2] (X3 @pM @pN @pO)
 rw[hs]at uz au;rw[if_pos ⟨EX,rfl⟩]at au;have kO:=TN m hm;have haf:=GL cf;have Cv:=NP hs;have lq:=alH hs;clear EX;have hIn:=hI cf hs;unfold root at au hIn;generalize dR m=al at *;((repeat'(first|refine Vd (X3 @cB.eq_1 @bne_self_eq_false.{0} @km) (X3 hv uz kO) ?_|(refine Xi ?_ ?_<;>try intro ht)|exact Xx|fail)))
 refine bd (λz:List eB×List eB×α=>(⟨ar [(2,.fn g bn),(3,.ptr 3 0 0),(4,.ptr 4 0 0),(7,.ref 5 3 0 z.1.length)],[A z.2.2,B z.2.2,C z.2.2,.var (ay m),.var (cB P),.arr 3 (rowsOf l' (z.1.reverse++z.2.1))]⟩:St))
  (λz=>(∀ s∈z.1,AE m P s)/\AF z.1/\Inv z.2.2 (z.1.flatMap (vs P))/\lf P step (z.1.flatMap (vs P)) z.2.2=res) (λz=>(z.1.flatMap (vs P)).length) ([(0,al,[])],[],a) ⟨λs hs=>by rw[List.mem_singleton]at hs;subst hs;exact⟨lq.1,haf,Nat.le_refl _⟩,⟨aS _,trivial⟩,by simpa using hIn,by simpa using au⟩ (Xv @cB.eq_1) ?_
 clear au haf hI hIn;rintro⟨T,J,a⟩⟨Bm,jt,Iw,au⟩Ql ao ax;dsimp only at Bm jt Iw au ⊢;cases T with
 |nil =>
  rw[List.flatMap_nil,lf]at au;((repeat'(first|refine Va X0 ?_|(refine Xi ?_ ?_<;>try intro ht)|exact Xx|fail)))
  refine ax _ _ rfl ?_;clear ao ax Ql;repeat(refine Xu ?_)
  refine Vb X0 ?_;subst au;exact Xw false [0,1,2] (X3 @pM @pN @pO)
 |cons s T =>
  have pF:=Bm s Fl;have hgT:∀ t∈T,AE m P t:=λt ht=>Bm t (by simp[ht]);have NX:=EW Cv pF.1;rw[xL,NX,e9]at Iw;have ab8:=hE.inv a s _ pF Iw;rw[xL,NX,e9,lf]at au;have iU:(rowsOf l' ((s::T).reverse++J))[T.length]?=some (l' s):=by
   unfold rowsOf;rw[List.getElem?_map,List.reverse_cons,bw,gN Fl];simp
  have hZ:(rowsOf l' ((s::T).reverse++J)).take T.length=rowsOf l' T.reverse:=by
   unfold rowsOf;rw[<- Fu,List.reverse_cons,bw,List.take_append_of_le_length Fl,c9 Fl]
  have hRl:T.length+1<=((s::T).reverse++J).length:=Fl;have ES:(((T.length+1:Nat):Int)-1).toNat=T.length:=CZ;have rm:=alG;rw[cV];generalize hRR:(s::T).reverse++J=L at *;obtain⟨Cm,jt⟩:=jt;obtain⟨i,left,ab⟩:=s;dsimp only at Cm;have hi:i<P.length:=pF.1;have pj:cP m left:=pF.2.1;have eX:ab.length<=i:=pF.2.2;have bT:P.getD i default=nd P i:=rfl;have cD:=aF (l:=P) (i:=i) (d:=default) hi;have b1:=hP.kids _ cD;have hdi:=Cv i hi;have Ix:=λo=>EU (o:=o) Cv pF.1;have NY:=λo=>alJ (o:=o) Cv pF;have kJ:=abX hs hi;have EY:∀ o,oP P (i,left,ab) o=(((nd P i).kids.getD o 0).toNat,mB left (nd P i).cls.toNat o,ab++[(nd P i).cls]):=λo=>rfl;have NZ:tw P (i,left,ab)=jk P (i,left,ab) (nd P i).kids.length:=rfl;rw[bT]at b1 cD;dsimp only at au Ix NY;generalize cE:nd P i=x at *;obtain⟨c,kids,dW,bj,cells⟩:=x;dsimp only at b1 hdi Ix NY EY NZ au;repeat'(first|((fail_if_success (first|refine eH 8 ?_|refine eI 8 ?_));refine Xr (X5 @iU @l'.eq_1 @ES @rm (X4 @cB.eq_1 @bT @bC.eq_1 @Option.map_none.{0,0})) ?_;intro K hK)|(refine hK _ ?_;clear hK K)|(refine Xi ?_ ?_<;>try intro ht)|refine Xy ?_|refine Xd ?_ ?_|exact Xx|fail)
  refine df (aH.Bz 8 6 (cells:=[OJ i,.tree 1 (rowsOf aE left),rO ab]) OI (by simp only[Kc,simprocAttr]) (by
   intro v hv;simp only[a8,iJ,or_false]at hv;rcases hv with rfl|rfl|rfl
   ·exact .inl ⟨_,rfl⟩
   ·exact .inr ⟨_,_,rfl⟩
   ·rcases abU ab with⟨y,h,_⟩|h
    ·exact .inl ⟨y,h⟩
    ·exact .inr h)) ?_
  refine df (aH.Bz 9 7 (cells:=bC ⟨c,kids,dW,bj,cells⟩) OI (by simp only[Kc,simprocAttr]) (by simp[bC])) ?_;refine df (σ':=⟨ar [(2,.fn g bn),(3,.ptr 3 0 0),(4,.ptr 4 0 0),(7,.ref 5 3 0 T.length),(8,.cj [OJ i,.tree 1 (rowsOf aE left),rO ab]),(9,.cj (bC ⟨c,kids,dW,bj,cells⟩))],[A a,B a,C a,.var (ay m),.var (cB P),.arr 3 (rowsOf l' L)]⟩) (by((refine aH.se [0,1,2,3,4,5] false (by simp only[Oc,simprocAttr,pM,pN,pO,cB]) ?_;simp only[Hr,↓reduceIte,Nat.reduceEqDiff,qZ,Nat.reduceAdd,pM,pN,pO,cB];try(and_intros<;>first|exact .pure rfl|exact .eq rfl|exact .fz rfl (by simp only[Bc,Rc]))));(and_intros<;>first|exact wP ..|exact .pure rfl|exact .eq rfl)) ?_;have iV:Holds Tryz.prog 96 [rO ab,OJ c] [] (.lit (.bool (ab.contains c))) []:=by
   have:=aa7 ab c CZ;cases ab with
   |nil=>exact Holds.Le (pre:=[]) (post:=[OJ c]) this
   |cons x r=>exact this
  cases hac:ab.contains c;rotate_left
  ·rw[hac]at iV au;rw[if_pos rfl]at au;((refine Va @bC.eq_1 ?_)<;>try with_reducible intro K hK)
   refine b7 iV (abV _ _) rfl ?_;((try revert hK K);(repeat'(first|refine Va @bC.eq_1 ?_|(refine Xi ?_ ?_<;>try intro ht)|exact Xx|fail)))
   repeat(refine Xu ?_)
   refine Vb X0 ?_;rw[<- au];exact Xw false [0,1,2] (X3 @pM @pN @pO)
  rw[hac]at iV au;rw[if_neg Fl]at au;have oc:=hE.call cf a (i,left,ab) _ pF Iw;dsimp only at oc;generalize dh:step a (i,left,ab)=sa at *;obtain⟨a2,b⟩:=sa;dsimp only at oc au ab8;((refine Va @bC.eq_1 ?_)<;>try with_reducible intro K hK)
  refine b7 iV (abV _ _) rfl ?_;cases b
  ·rw[if_neg Fl]at au;((try revert hK K);(refine Va @bC.eq_1 ?_)<;>try with_reducible intro K hK)
   refine tU [0,1,2] oc Fs ⟨by rw[pM];rfl,by rw[pN];rfl,by rw[pO];rfl,trivial⟩ ⟨.pure rfl,NW bn (hE.rc _ rfl rfl rfl)⟩ ?_;((try revert hK K);(repeat'(first|refine Va (X4 @bC.eq_1 @pM @pN @pO) ?_|(refine Xi ?_ ?_<;>try intro ht)|exact Xx|fail)))
   repeat(refine Xu ?_)
   refine Vb X0 ?_;rw[<- au];exact Xw false [0,1,2] (X3 @pM @pN @pO)
  rw[if_pos rfl]at au;((try revert hK K);(refine Va @bC.eq_1 ?_)<;>try with_reducible intro K hK)
  refine tU [0,1,2] oc Fs ⟨by rw[pM];rfl,by rw[pN];rfl,by rw[pO];rfl,trivial⟩ ⟨.pure rfl,NW bn (hE.rc _ rfl rfl rfl)⟩ ?_;((try revert hK K);(repeat'(first|refine Va (X4 @bC.eq_1 @pM @pN @pO) ?_|(refine Xi ?_ ?_<;>try intro ht)|exact Xx|fail)))
  have Cw:0<kids.length->0<=c/\c<m.cls.length/\kids.length=(m.cls.getD c.toNat default).length:=λh=>by
   unfold mC oN at kJ;dsimp only at kJ;rw[a7]at kJ;have h1:=kJ.1;split at h1
   ·rw[decide_eq_true_eq]at h1;omega
   ·rw[decide_eq_true_eq]at h1;exact⟨h1.1,h1.2.1,h1.2.2.1⟩
  have M0:kids.length<=24:=by
   unfold mC at kJ;rw[a7]at kJ;exact H8 cf kJ.1
  refine bd (λz:Nat×List eB=>(⟨ar [(2,.fn g bn),(3,.ptr 3 0 0),(4,.ptr 4 0 0),(7,.ref 5 3 0 (T.length+z.1)),(8,.cj [OJ i,.tree 1 (rowsOf aE left),rO ab]),(9,.cj (bC ⟨c,kids,dW,bj,cells⟩)),(60,.tree 1 (ints kids)),(61,OJ kids.length),(62,OJ z.1)],[A a2,B a2,C a2,.var (ay m),.var (cB P),.arr 3 (rowsOf l' z.2)]⟩:St))
   (λz=>z.1<=kids.length/\T.length+z.1<=z.2.length/\z.2.take (T.length+z.1)=T.reverse++jk P (i,left,ab) z.1) (λz=>kids.length-z.1) (0,L) ⟨aS _,Ji,by
    dsimp only;rw[<- hRR,Nat.add_zero,List.reverse_cons,bw,List.take_append_of_le_length Fl,c9 Fl];simp[jk]⟩ (Xv (X2 @cB.eq_1 @bC.eq_1)) ?_
  rintro⟨o,L2⟩⟨ho,lV,N0⟩du bE bG;dsimp only at ho lV N0 ⊢;by_cases cH:o<kids.length
  ·obtain⟨c1,c2,c3⟩:=Cw CZ;obtain⟨k1,k2,k3⟩:=Ix o cH;have EY:=EY o;have NS:(left.getD c.toNat default).length=kids.length:=by rw[c3];exact pj.2 c.toNat (by have:=pj.1;omega)
   have nX:=aj9 left c.toNat o (by have:=pj.1;omega) CZ (by have:=pj.1;have:=cf.cls;omega) CZ;rw[Int.toNat_of_nonneg c1]at nX;have oC:(rowsOf l' L2).take (T.length+o)=rowsOf l' (T.reverse++jk P (i,left,ab) o):=by unfold rowsOf;rw[<- Fu,N0]
   have cM:(T.reverse++jk P (i,left,ab) o).length=T.length+o:=by simp[jk]
   generalize iN:kids.getD o 0=k at *;generalize mB left c.toNat o=on at *;by_cases ab':ab=[]
   ·subst ab';((repeat'(first|refine Vc (X5 @bC.eq_1 @iN (X2 @rO.eq_1 @rO.eq_2) @oC @cM) (X2 nX aj8) ?_|(refine Xi ?_ ?_<;>try intro ht)|exact Xx|fail)))
    have oA:(rowsOf l' (T.reverse++jk P (i,left,[]) o)++[[AV.lit (.int .i64 k),.tree 1 (rowsOf aE on),.ref 7 1 0 1]])[T.length+o]?=some [AV.lit (.int .i64 k),.tree 1 (rowsOf aE on),.ref 7 1 0 1]:=by
     rw[gN (by simp[rowsOf,<- cM])];simp[rowsOf,<- cM]
    have N1:rowsOf l' (T.reverse++jk P (i,left,[]) (o+1))=(rowsOf l' (T.reverse++jk P (i,left,[]) o)++[[AV.lit (.int .i64 k),.tree 1 (rowsOf aE on),.ref 7 1 0 1]]).set (T.length+o) [AV.lit (.int .i64 k),.tree 1 (rowsOf aE on),.tree 1 [[AV.lit (.int .i64 c)]]]:=by
     rw[AX _ _ (by simp[rowsOf,<- cM]),abW,EY];have:(((k.toNat:Nat):Int))=k:=CZ;simp[rowsOf,<- cM,l',rO,ints,this]
    have sZ:(T.reverse++jk P (i,left,[]) (o+1)).length=T.length+(o+1):=by simp[jk]
    refine bE _ (o+1,T.reverse++jk P (i,left,[]) (o+1)) ⟨Ji,Jn sZ.symm,c9 (Jn sZ)⟩ Ji ?_;refine aH.trans (aH.aas 7 9 (T.length+o) 2 1 3 (rows:=[[AV.lit (.int .i64 c)]]) rfl oA rfl rfl Fs Fl Fl) ?_;simp only[wG,rV];rw[<- N1];((refine aH.se [0,1,2,3,4,9] false (by simp only[Oc,simprocAttr,pM,pN,pO,cB]) ?_;simp only[Hr,↓reduceIte,Nat.reduceEqDiff,qZ,Nat.reduceAdd,pM,pN,pO,cB];try(and_intros<;>first|exact .pure rfl|exact .eq rfl|exact .fz rfl (by simp only[Bc,Rc]))))
    and_intros<;>first|exact wP ..|exact .pure rfl|exact .eq rfl
   ·have lK:0<ab.length:=by
     cases ab with
     |nil=>exact absurd rfl ab'
     |cons=>simp
    have HX:∀ l:List Int,0<l.length->rO l=.tree 1 (ints l):=λl h=>by
     cases l with
     |nil=>simp at h
     |cons=>rfl
    have Cy:=HX ab lK;have al0:=HX (ab++[c]) Fl;have bz:=UU ab lK CZ;have wO:(ints (ab++[c])).length=ab.length+1:=by simp[ints]
    have oA:(rowsOf l' (T.reverse++jk P (i,left,ab) o)++[[AV.lit (.int .i64 k),.tree 1 (rowsOf aE on),.ref 8 1 0 (ab.length+1)]])[T.length+o]?=some [AV.lit (.int .i64 k),.tree 1 (rowsOf aE on),.ref 8 1 0 (ab.length+1)]:=by
     rw[gN (by simp[rowsOf,<- cM])];simp[rowsOf,<- cM]
    have N1:rowsOf l' (T.reverse++jk P (i,left,ab) (o+1))=(rowsOf l' (T.reverse++jk P (i,left,ab) o)++[[AV.lit (.int .i64 k),.tree 1 (rowsOf aE on),.ref 8 1 0 (ab.length+1)]]).set (T.length+o) [AV.lit (.int .i64 k),.tree 1 (rowsOf aE on),.tree 1 (ints (ab++[c]))]:=by
     rw[AX _ _ (by simp[rowsOf,<- cM]),abW,EY];have:(((k.toNat:Nat):Int))=k:=CZ;simp[rowsOf,<- cM,l',al0,this]
    have sZ:(T.reverse++jk P (i,left,ab) (o+1)).length=T.length+(o+1):=by simp[jk]
    repeat'(first|((fail_if_success (first|refine eH 13 ?_|refine eI 13 ?_));refine Xr (X3 @bC.eq_1 @iN @Cy) ?_;intro K hK)|(refine hK _ ?_;clear hK K)|(refine Xi ?_ ?_<;>try intro ht)|refine Xy ?_|refine Xd ?_ ?_|exact Xx|fail)
    refine q7 [4,6,8,11,14] (.take 0 (.take 1 (.take 2 (.take 3 (.take 4 (.take 5 (.take 6 (.take 7 (.take 8 (.take 9 (.take 10 (.take 11 (.both 12 (.take 13 (.take 14 (.take 15 (.take 16 (.take 17 (.take 18 (.take 19 (.take 20 .nil)))))))) 13 (.take 14 (.both 12 (.take 15 (.take 16 (.take 17 (.take 18 (.take 19 (.take 20 .nil)))))) 15 (.take 12 (.take 16 (.take 17 (.take 18 (.take 19 (.take 20 .nil))))))))))))))))))))) rfl Fs (by decide +kernel) ?_;simp(disch:=omega)only[Ac,↓Pc,simprocAttr,Pw,↓Lq,bC,iN,Cy];refine cd nX rfl rfl ?_;simp(disch:=omega)only[Ac,↓Pc,simprocAttr,Pw,↓Lq,bC,iN,Cy];repeat'(with_reducible refine And.intro ?_ ?_)
    all_goals try(refine tU [] bz Fs trivial ⟨.pure rfl,trivial⟩ ?_;simp(disch:=omega)only[Ac,↓Pc,simprocAttr,Pw,↓Lq,bC,iN,Cy,Nat.sub_self,Nat.sub_zero,oC,cM,C5])
    repeat'(first|with_reducible refine And.intro ?_ ?_|omega)
    all_goals
     repeat(refine Xu ?_)
     ((repeat'(first|refine Va X0 ?_|fail)))
    all_goals
     refine bE _ (o+1,T.reverse++jk P (i,left,ab) (o+1)) ⟨Ji,Jn sZ.symm,c9 (Jn sZ)⟩ Ji ?_;refine aH.trans (aH.aas 8 10 (T.length+o) 2 1 3 (rows:=ints (ab++[c])) rfl oA rfl (by rw[wO];rfl) Fs (x7 _) (Bf _)) ?_;simp only[wG,rV];rw[<- N1];((refine aH.se [0,1,2,3,4,10] false (by simp only[Oc,simprocAttr,pM,pN,pO,cB,Cy]) ?_;simp only[Hr,↓reduceIte,Nat.reduceEqDiff,qZ,Nat.reduceAdd,pM,pN,pO,cB,Cy];try(and_intros<;>first|exact .pure rfl|exact .eq rfl|exact .fz rfl (by simp only[Bc,Rc]))))
     and_intros<;>first|exact wP ..|exact .pure rfl|exact .eq rfl
  ·obtain rfl:o=kids.length:=CZ;((repeat'(first|refine Va @bC.eq_1 ?_|(refine Xi ?_ ?_<;>try intro ht)|exact Xx|fail)))
   refine bG _ _ rfl ?_;clear bE bG du;repeat(refine Xu ?_)
   ((skip))
   have dY:(jk P (i,left,ab) kids.length).length=kids.length:=by simp[jk]
   have lW:T.reverse++jk P (i,left,ab) kids.length++L2.drop (T.length+kids.length)=L2:=by rw[<- N0,List.take_append_drop]
   refine ao _ ((tw P (i,left,ab)).reverse++T,L2.drop (T.length+kids.length),a2) ⟨λt ht=>?_,?_,by dsimp only;rw[tN];exact ab8,?_⟩ ?_ ?_
   ·dsimp only at ht;rw[List.mem_append]at ht;rcases ht with ht|ht
    ·obtain⟨o,ho,rfl⟩:=AD (AY.1 ht);dsimp only at ho;rw[cE]at ho;exact NY o ho
    ·exact hgT t ht
   ·dsimp only;refine AF.push jt Cm _ (λt ht=>?_) (by rw[List.length_reverse,NZ,dY];exact M0);obtain⟨o,ho,rfl⟩:=AD (AY.1 ht);dsimp only at ho;rw[cE]at ho;exact(Ix o ho).1
   ·dsimp only;rw[tN];exact au
   ·dsimp only;rw[tN,xL,NX,bI,bI,cV];omega
   ·dsimp only;rw[List.reverse_append,List.reverse_reverse,NZ,lW,bI,List.length_reverse,dY,Nat.add_comm kids.length T.length];exact Xv @cB.eq_1
def jA(m:aj)(P:List Nd)(b:Int)(s:eB):Int×Bool :=
 if(nd P s.1).cls≠-1 then(b,true)
 else if 0<(nd P s.1).bj.length then(b,oM m (nd P s.1) s.2.1)
 else(min b (gH m s.2.1 (nd P s.1).dW).1,(gH m s.2.1 (nd P s.1).dW).2==0)
def tx(m:aj)(P:List Nd):Int×Bool:=if(rP m P (jA m P) 1099511627776).2=true then((rP m P (jA m P) 1099511627776).1,true) else(0,false)
def al1(m:aj)(P:List Nd)(hP:PB P)(hm:VM m)(b:Int)(s:eB)(hs:AE m P s):
  Holds Tryz.prog 66 [.agg [OJ s.1,.tree 1 (rowsOf aE s.2.1)],.ptr 1 0 0,.ptr 0 0 0,.ptr 2 0 0] [.var (ay m),.var (cB P),.var [OJ b]] (.lit (.bool (jA m P b s).2)) [.var (ay m),.var (cB P),.var [OJ (jA m P b s).1]]:=by
 obtain⟨i,left,ab⟩:=s;have hi:i<P.length:=hs.1;have hf:cP m left:=hs.2.1;have Af:=hP.MZ;have bT:P.getD i default=nd P i:=rfl;have cD:=aF (l:=P) (i:=i) (d:=default) hi;have b2:=hP.dW _ cD;have b3:=hP.bj _ cD;have b4:=hP.cells _ cD;have b5:=hP.cell _ cD;generalize au:jA m P b (i,left,ab)=res;unfold jA at au;rw[bT]at b2 b3 b4 b5;dsimp only at au;have vt:=ajZ m (nd P i) left hm hf b3 b4 b5;have G3:=abS m left (nd P i).dW hm hf b2;generalize oM m (nd P i) left=cw at *;generalize gH m left (nd P i).dW=lt at *;generalize cE:nd P i=x at *;obtain⟨c,kids,dW,bj,cells⟩:=x;obtain⟨v,e⟩:=lt;dsimp only at *;refine Holds.aQ 41 3 [.tmp 5] Tryz.func66 ?_;by_cases hc:c = -1;rotate_left
 ·rw[if_pos hc]at au;((repeat'(first|refine Vb (X3 @cB.eq_1 @bT @bC.eq_1) ?_|(refine Xi ?_ ?_<;>try intro ht)|exact Xx|fail)))
  subst au;exact Xw false [0,1,2] @cB.eq_1
 rw[if_neg CZ]at au;by_cases hg:0<bj.length
 ·rw[if_pos hg]at au;((repeat'(first|refine Vd (X3 @cB.eq_1 @bT @bC.eq_1) vt ?_|(refine Xi ?_ ?_<;>try intro ht)|exact Xx|fail)))
  subst au;exact Xw false [0,1,2] @cB.eq_1
 rw[if_neg hg]at au;((repeat'(first|refine Vd (X3 @cB.eq_1 @bT @bC.eq_1) G3 ?_|(refine Xi ?_ ?_<;>try intro ht)|exact Xx|fail)))
 subst au;exact Xw false [0,1,2] @cB.eq_1
def TO(m:aj)(P:List Nd)(hm:MB m)(hP:PB P):Holds Tryz.prog 35 [.agg (ay m),.agg (cB P)] [] (.bx [OJ (tx m P).1,.lit (.bool (tx m P).2)]) []:=by
 have hw:=alW m P hm hP (λ_=>.var (ay m)) (λ_=>.var (cB P)) (λb:Int=>.var [OJ b]) [.ptr 1 0 0,.ptr 0 0 0,.ptr 2 0 0] 66 (jA m P) (Inv:=λ_ _=>True)
  ⟨λρ h0 h1 h2 a=>⟨rfl,rfl,rfl⟩,λρ h0 h1 h2 v hv=>by
   simp only[a8,iJ,or_false]at hv;rcases hv with rfl|rfl|rfl<;>simp only[bh,h0,h1,h2],λ_ _ _ _ _=>trivial,λcf a s _ hs _=>al1 m P hP cf a s hs⟩ 1099511627776 (λ_ _=>trivial)
 generalize au:tx m P=res;unfold tx at au;generalize rP m P (jA m P) 1099511627776=r at *;obtain⟨b,ok⟩:=r;dsimp only at hw au;refine Holds.aQ 15 0 [.tmp 4,.tmp 5] Tryz.func35 ?_;((refine Vb @cB.eq_1 ?_)<;>try with_reducible intro K hK)
 refine gj hw Fl ?_;cases ok
 ·rw[if_neg Fl]at au;((try revert hK K);(repeat'(first|refine Vb @lG ?_|(refine Xi ?_ ?_<;>try intro ht)|exact Xx|fail)))
  subst au;exact aW rfl rfl
 ·rw[if_pos rfl]at au;((try revert hK K);(repeat'(first|refine Vb @km ?_|(refine Xi ?_ ?_<;>try intro ht)|exact Xx|fail)))
  subst au;exact aW rfl rfl
def aca{α:Type}{P:List Nd}{step:α->eB->α×Bool}:∀ {L:List eB} {a r:α},lf P step L a=(r,true)->∀ (J:α->Prop) (R:α->α->Prop),(∀ x,R x x)->(∀ x y z,R x y->R y z->R x z)->(∀ s∈L,∀ x,(step x s).2=true->R x (step x s).1) ->
  ∀ s∈L,s.2.2.contains (nd P s.1).cls=false/\∃ x,(step x s).2=true/\R (step x s).1 r
 |[],a,r,h,J,R,h1,h2,h3,s,hs=>by simp at hs
 |t::L,a,r,h,J,R,h1,h2,h3,s,hs=>by
  rw[lf]at h;split at h
  ·cases h
  ·rename_i hc;split at h
   ·rename_i mg;have ih:=aca h J R h1 h2 (λu hu=>h3 u (by simp[hu]));rcases a8.1 hs with e|hs
    ·subst e;refine⟨by simpa using hc,a,mg,?_⟩;have mono:∀ (L:List eB) (x y:α),(∀ u∈L,∀ x,(step x u).2=true->R x (step x u).1)->lf P step L x=(y,true)->R x y:=by
      intro L
      induction L with
      |nil=>intro x y _ h;rw[lf]at h;cases h;exact h1 _
      |cons u L EV =>
       intro x y hm h;rw[lf]at h;split at h
       ·cases h
       ·split at h
        ·rename_i hu;exact h2 _ _ _ (hm u Fl x hu) (EV _ _ (λv hv=>hm v (by simp[hv])) h)
        ·cases h
     exact mono L _ _ (λu hu=>h3 u (by simp[hu])) h
    ·exact ih s hs
   ·cases h
def al2{m:aj}{P:List Nd}{n:Int}(h:tx m P=(n,true)):VM m/\l9 m P=true/\lf P (jA m P) (vs P (root m)) 1099511627776=(n,true):=by
 unfold tx rP at h;by_cases h2:j6 m=0/\l9 m P=true
 ·rw[if_pos h2]at h;split at h
  ·rename_i h1;refine⟨oB.1 h2.1,h2.2,?_⟩;have e:(lf P (jA m P) (vs P (root m)) 1099511627776).1=n:=congrArg Prod.fst h;exact Prod.ext e h1
  ·cases h
 ·rw[if_neg h2]at h;split at h
  ·rename_i h1;cases h1
  ·cases h
def acb{m:aj}{P:List Nd}(b:Int)(s:eB):(jA m P b s).1<=b:=by
 unfold jA;split
 ·exact mP _
 split
 ·exact mP _
 ·exact Int.min_le_left ..
def al3{m:aj}{P:List Nd}{n:Int}(h:lf P (jA m P) (vs P (root m)) 1099511627776=(n,true)):n<=1099511627776/\∀ s∈vs P (root m),s.2.2.contains (nd P s.1).cls=false/\((nd P s.1).cls = -1->if 0<(nd P s.1).bj.length then oM m (nd P s.1) s.2.1=true else n<=(gH m s.2.1 (nd P s.1).dW).1/\(gH m s.2.1 (nd P s.1).dW).2=0):=by
 have al4:∀ (L:List eB) (a r:Int),lf P (jA m P) L a=(r,true)->r<=a:=by
  intro L
  induction L with
  |nil=>intro a r h;rw[lf]at h;cases h;exact mP _
  |cons s L ih =>
   intro a r h;rw[lf]at h;split at h
   ·cases h
   ·split at h
    ·exact C1 (ih _ _ h) (acb a s)
    ·cases h
 refine⟨al4 _ _ _ h,λs hs=>?_⟩;obtain⟨h1,x,h2,h3⟩:=aca h (λ_=>True) (λx y=>y<=x) (λx=>mP _) (λx y z h1 h2=>C1 h2 h1) (λs _ x _=>acb x s) s hs;refine⟨h1,λhc=>?_⟩;unfold jA at h2 h3;rw[if_neg CZ]at h2 h3;split
 ·rename_i hg;rw[if_pos hg]at h2;exact h2
 ·rename_i hg;rw[if_neg hg]at h2 h3;dsimp only at h2 h3;exact⟨CZ,by simpa using h2⟩
def al5{m:aj}{P:List Nd}(hm:VM m)(hs:l9 m P=true)(h:∀ s∈vs P (root m),s.2.2.contains (nd P s.1).cls=false/\((nd P s.1).cls = -1->(nd P s.1).bj.length=0/\(gH m s.2.1 (nd P s.1).dW).2=0)):
  ∃ n,tx m P=(n,true)/\∀ a,a<=1099511627776->(∀ s∈vs P (root m),(nd P s.1).cls = -1->a<=(gH m s.2.1 (nd P s.1).dW).1)->a<=n:=by
 have key:∀ (L:List eB) (b:Int),(∀ s∈L,s.2.2.contains (nd P s.1).cls=false/\((nd P s.1).cls = -1->(nd P s.1).bj.length=0/\(gH m s.2.1 (nd P s.1).dW).2=0)) ->
   (lf P (jA m P) L b).2=true/\∀ a,a<=b->(∀ s∈L,(nd P s.1).cls = -1->a<=(gH m s.2.1 (nd P s.1).dW).1)->a<=(lf P (jA m P) L b).1:=by
  intro L
  induction L with
  |nil=>intro b _;exact⟨rfl,λa h _=>h⟩
  |cons s L ih =>
   intro b h;obtain⟨h1,h2⟩:=h s Fl;have xE:(jA m P b s).2=true:=by
    unfold jA;by_cases hc:(nd P s.1).cls = -1
    ·rw[if_neg CZ,if_neg (by have:=(h2 hc).1;omega)];simp[(h2 hc).2]
    ·rw[if_pos hc]
   rw[lf,h1,if_neg Fl,if_pos xE];obtain⟨i1,i2⟩:=ih (jA m P b s).1 λt ht=>h t (by simp[ht]);refine⟨i1,λa ha hl=>i2 a ?_ λt ht=>hl t (by simp[ht])⟩;unfold jA;by_cases hc:(nd P s.1).cls = -1
   ·rw[if_neg CZ,if_neg (by have:=(h2 hc).1;omega)];have:=hl s Fl hc;show a<=min _ _;omega
   ·rw[if_pos hc];exact ha
 obtain⟨k1,k2⟩:=key (vs P (root m)) 1099511627776 h;refine⟨(lf P (jA m P) (vs P (root m)) 1099511627776).1,?_,k2⟩;have hw:rP m P (jA m P) 1099511627776=lf P (jA m P) (vs P (root m)) 1099511627776:=if_pos ⟨oB.2 hm,hs⟩;unfold tx;rw[hw,if_pos k1]
def Iv(l:List Mv):Nd:=⟨-1,[],l,[],[]⟩
def N2{P:List Nd}(hd:Down P){s:eB}(hs:s.1<P.length)(hk:(nd P s.1).kids=[]):vs P s=[s]:=by
 rw[EW hd hs];unfold tw jk;rw[hk];rfl
def acd{m:aj}(left:List (List Bool)):gH m left []=(kU m left (S0 m,T0 m),0):=rfl
end T

