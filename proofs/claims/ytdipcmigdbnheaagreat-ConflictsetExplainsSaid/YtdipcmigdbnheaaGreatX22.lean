import Derived.Test.YtdipcmigdbnheaaGreatX20
set_option linter.all false
set_option maxHeartbeats 0
set_option maxRecDepth 20000
open List renaming getElem?_map→cj,getElem?_eq_getElem→bK,getD_eq_getElem?_getD→aA,getElem?_eq_none→dW,map_cons→dg,count_cons→DB,flatMap_cons→sC,count_append→tC,flatMap_append→rA,mem_reverse→uE,count_eq_zero→PH,mem_flatMap→z9,mem_cons→cB,mem_map→cz,cons_append→dS,reverse_cons→Ki,append_assoc→cM,getElem?_append_right→fV,map_take→z6,take_append_of_le_length→GQ,take_of_length_le→dJ,length_cons→eB,not_mem_nil→kI,set_append_right→Dx,set_cons_succ→vW,set_cons_zero→sB,length_append→bQ,getElem?_set→cA,length_replicate→qg,any_eq_true→rC,getElem_of_mem→mJ,all_eq_true→fT,getElem_mem→tw
open Option renaming map_some→fl,getD_some→jB,bind_eq_some_iff→yE
open Nat renaming le_refl→aN,strongRecOn→Dq,zero_le→aI,reduceBEq→pE,le_of_eq→PI
open Bool renaming not_false→je,not_true→gT,and_eq_true→bw,false_or→ma,not_eq_false→z7
open Int renaming toNat_of_nonneg→sG,le_refl→eC,le_trans→sE,toNat_natCast→fq
open Go Go.Am Go.Proofs
namespace T
def kN(P:List Nd)(i:Nat):List Nat:=(nd P i).kids.map Int.toNat
def akJ(P:List Nd)(s:dU):(q7 P s).map (·.1)=kN P s.1:=by
 unfold q7 jN kN;rw[List.map_map];apply List.ext_getElem?;intro j;rw[cj,cj];by_cases hj:j<(nd P s.1).kids.length
 ·rw[List.getElem?_range hj,bK hj];simp only[fl,Function.comp];unfold nD;dsimp only;rw[aA,bK hj];rfl
 ·rw[dW (by simpa using hj),dW GC];rfl
def akK{P:List Nd}(hd:Down P)(i:Nat):∀ (f:Nat) (s:dU),s.1<P.length->P.length-s.1<=f ->
  ((mD P f s).map (·.1)).count i=(if s.1=i then 1 else 0)+((mD P f s).flatMap λv=>kN P v.1).count i:=by
 intro f
 induction f with
 |zero=>intro s hs hf;omega
 |succ f ih =>
  intro s hs hf;rw[mD,dg,DB,sC,tC,<- akJ];have key:∀ (K:List dU),(∀ t∈K,t.1<P.length/\P.length-t.1<=f)->((K.flatMap (mD P f)).map (·.1)).count i=(K.map (·.1)).count i+((K.flatMap (mD P f)).flatMap λv=>kN P v.1).count i:=by
   intro K
   induction K with
   |nil=>intro _;rfl
   |cons t K ihK =>
    intro hK;rw[sC,List.map_append,tC,ih t (hK t GF).1 (hK t GF).2,ihK λu hu=>hK u (by simp[hu]),dg,DB,rA,tC];by_cases e:t.1=i<;>simp[e]<;>omega
  have h1:=key (q7 P s).reverse λt ht=>by
   obtain⟨o,ho,rfl⟩:=wX (uE.1 ht);obtain⟨h1,h2,_⟩:=wY hd hs ho;omega
  rw[h1,List.map_reverse,List.count_reverse];by_cases e:s.1=i<;>simp[e]<;>omega
def abF{m:aj}{P:List Nd}(h:j5 m P=true){j:Nat}(h1:1<=j)(h2:j<P.length):(gz P).count (j:Int)=1:=by
 have hl:=vF h;rw[IX hl λi hi=>C3 h hi]at h;rw[Bool.not_eq_true',List.any_eq_false]at h;have hm:(kD P.length (gz P)).getD j 0∈(kD P.length (gz P)).drop 1:=by
  have cu:=Ba P.length (gz P);rw[List.mem_iff_getElem];refine⟨j-1,by rw[List.length_drop];omega,?_⟩;rw[List.getElem_drop,aA,bK GC];simp only[jB];congr 1;omega
 have:=h _ hm;rw[IW _ h2]at this;simp only[bne_iff_ne,ne_eq,Decidable.not_not]at this;omega
def akM{l:List Int}(h:∀ k∈l,0<=k)(j:Nat):(l.map Int.toNat).count j=l.count (j:Int):=by
 induction l with
 |nil=>rfl
 |cons k l ih =>
  have hk:=h k GF;rw[dg,DB,DB,ih λx hx=>h x (by simp[hx])];have:(k.toNat==j)=(k==(j:Int)):=by rw[Bool.eq_iff_iff,beq_iff_eq,beq_iff_eq];omega
  rw[this]
def abG{m:aj}{P:List Nd}(h:j5 m P=true){j:Nat}(h1:1<=j)(h2:j<P.length):
  ∃ p,p<j/\(kN P p).count j=1/\∀ q,q<P.length->q≠p->(kN P q).count j=0:=by
 have jV:=abF h h1 h2;have hd:=vD h;have vj:∀ q,q<P.length->(kN P q).count j=(nd P q).kids.count (j:Int):=λq hq=>akM (λk hk=>by have:=hd q hq k hk;omega) j;have key:∀ (L:List Nd),(L.flatMap (·.kids)).count (j:Int)=1->∃ p,p<L.length/\((L.getD p default).kids).count (j:Int)=1/\∀ q,q<L.length->q≠p->((L.getD q default).kids).count (j:Int)=0:=by
  intro L
  induction L with
  |nil=>intro h;simp at h
  |cons x L ih =>
   intro h;rw[sC,tC]at h;have hz:(L.flatMap (·.kids)).count (j:Int)=0->∀ q,q<L.length->((L.getD q default).kids).count (j:Int)=0:=λh0 q hq=>by
    rw[PH]at h0 ⊢;exact λhh=>h0 (z9.2 ⟨_,ay hq,hh⟩)
   by_cases hx:x.kids.count (j:Int)=0
   ·obtain⟨p,p1,p2,p3⟩:=ih GC;refine⟨p+1,by simpa using p1,by simpa using p2,λq hq dO=>?_⟩;cases q with
    |zero=>simpa using hx
    |succ q=>simpa using p3 q (by simpa using hq) GC
   ·refine⟨0,GF,aar,λq hq dO=>?_⟩;cases q with
    |zero=>omega
    |succ q=>simpa using hz GC q (by simpa using hq)
 obtain⟨p,p1,p2,p3⟩:=key P jV;have Oy:p<j:=by
  have bO:(j:Int)∈(nd P p).kids:=by
   have:0<((nd P p).kids).count (j:Int):=by show 0<((P.getD p default).kids).count _;omega
   exact List.count_pos_iff.1 this
  have:=hd p p1 _ bO;omega
 exact⟨p,Oy,(vj p p1).trans p2,λq hq dO=>(vj q hq).trans (p3 q hq dO)⟩
def Jy{P:List Nd}(hd:Down P):∀ (f:Nat) (s:dU),s.1<P.length->∀ v∈mD P f s,v.1<P.length:=by
 intro f
 induction f with
 |zero=>intro s _ v hv;simp[mD]at hv
 |succ f ih =>
  intro s hs v hv;rw[mD,cB]at hv;rcases hv with rfl|hv
  ·exact hs
  ·obtain⟨t,ht,hv⟩:=z9.1 hv;obtain⟨o,ho,rfl⟩:=wX (uE.1 ht);exact ih _ (wY hd hs ho).2.1 v hv
def abH{P:List Nd}{j p:Nat}(h1:(kN P p).count j=1)(h2:∀ q,q<P.length->q≠p->(kN P q).count j=0):∀ (L:List dU),(∀ v∈L,v.1<P.length)->(L.flatMap λv=>kN P v.1).count j=(L.map (·.1)).count p
 |[],_=>rfl
 |v::L,h=>by
  rw[sC,tC,dg,DB,abH h1 h2 L λu hu=>h u (by simp[hu])];by_cases e:v.1=p
  ·rw[e,h1];simp;omega
  ·rw[h2 v.1 (h v GF) e];simp[e]
def abI{m:aj}{P:List Nd}(h:j5 m P=true){s:dU}(hs:s.1=0):∀ (j:Nat),j<P.length->((vs P s).map (·.1)).count j=1:=by
 have hd:=vD h;have hl:=vF h;have hc:∀ j,((vs P s).map (·.1)).count j=(if s.1=j then 1 else 0)+((vs P s).flatMap λv=>kN P v.1).count j:=λj=>akK hd j _ s GC (aN _);have hr:=Jy hd (P.length-s.1) s GC;intro j
 induction j using Dq with
 |_ j ih =>
  intro hj;rcases Nat.eq_zero_or_pos j with h0|h0
  ·subst h0;rw[hc 0,if_pos hs];have:((vs P s).flatMap λv=>kN P v.1).count 0=0:=by
    rw[PH];intro hh;obtain⟨v,hv,hk⟩:=z9.1 hh;unfold kN at hk;obtain⟨k,hk,e⟩:=cz.1 hk;have:=hd v.1 (hr v hv) k hk;omega
   omega
  ·obtain⟨p,p1,p2,p3⟩:=abG h h0 hj;rw[hc j,if_neg GC,abH p2 p3 (vs P s) hr,ih p p1 GC]
structure akN(α:Type)(m:aj)(P:List Nd)(A B C:α->Ob)(bj:List AV)(g:FuncId)(step:α->dU->α×Bool)(Inv:α->List dU->Prop):Prop where
 ra:∀ (ρ:Nat->Nat),ρ 0=0->ρ 1=1->ρ 2=2->∀ a,cg ρ (A a)=A a/\cg ρ (B a)=B a/\cg ρ (C a)=C a
 rc:∀ (ρ:Nat->Nat),ρ 0=0->ρ 1=1->ρ 2=2->∀ v∈bj,bC ρ v=v
 inv:∀ a s L,wZ m P s->Inv a (s::L)->Inv (step a s).1 L
 call:VM m->∀ a s L,wZ m P s->Inv a (s::L)->ao Tryz.prog g (.agg [.lit (.int .i64 s.1),.tree 1 (rowsOf aQ s.2.1)]::bj) [A a,B a,C a] (.lit (.bool (step a s).2)) [A (step a s).1,B (step a s).1,C (step a s).1]
def Oz{σ:St}{kp:Nat->Prop}{ρ:Nat->Nat}{snap:Bool}:∀ (l:List AV),(∀ v∈l,bC ρ v=v)->fF (aJ σ kp ρ snap) l l
 |[],_=>trivial
 |v::l,h=>⟨.eq (h v GF).symm,Oz l λx hx=>h x (by simp[hx])⟩
def abJ{α:Type}(m:aj)(P:List Nd)(hm:MB m)(hP:PB P)(A B C:α->Ob)(bj:List AV)(g:FuncId)(step:α->dU->α×Bool){Inv:α->List dU->Prop}(hE:akN α m P A B C bj g step Inv)(a:α)(hI:VM m->j5 m P=true->Inv a (vs P (root m))):
  ao Tryz.prog 74 [.agg (aq m),.agg (aT P),.fn g bj] [A a,B a,C a] (.lit (.bool (q8 m P step a).2)) [A (q8 m P step a).1,B (q8 m P step a).1,C (q8 m P step a).1]:=by
 have hv:=tV m hm;have rV:=hP.qJ;have q9:∀ n l a,cg (bL n (0::1::2::l)) (A a)=A a:=λn l a=>(hE.ra _ rfl rfl rfl a).1;have re:∀ n l a,cg (bL n (0::1::2::l)) (B a)=B a:=λn l a=>(hE.ra _ rfl rfl rfl a).2.1;have rf:∀ n l a,cg (bL n (0::1::2::l)) (C a)=C a:=λn l a=>(hE.ra _ rfl rfl rfl a).2.2;have Ej:∀ n l,bC (bL n (0::1::2::l)) (.fn g bj)=.fn g bj:=λn l=>by
  rw[bC];refine congrArg _ ?_;have h:=hE.rc (bL n (0::1::2::l)) rfl rfl rfl;rw[xy];exact(List.map_congr_left h).trans (List.map_id bj)
 have xE:∀ (σ:St) (kp:Nat->Prop) n l snap,aJ σ kp (bL n (0::1::2::l)) snap (.fn g bj) (.fn g bj):=λσ kp n l snap=>.eq (Ej n l).symm;generalize ak:q8 m P step a=res;unfold q8 at ak;refine ao.aD 88 3 [.tmp 6] Tryz.func74 ?_;by_cases F3:df m=0;rotate_left
 ·rw[if_neg (λh=>F3 h.1)]at ak;((repeat'(first|refine Vd @aT.eq_1 hv ?_|(refine V2 @aT.eq_1 ?_ ?_<;>try with_reducible intro hb)|(refine Xi ?_ ?_<;>try intro ht)|exact Xx|fail)))
  subst ak;exact Xw false [0,1,2] (X3 @q9 @re @rf)
 rw[F3]at hv;have bT:=eK.1 F3;have yu:=aiQ m P bT hP;cases hs:j5 m P
 ·rw[hs]at yu ak;rw[if_neg GF]at ak;((repeat'(first|refine Vd (X3 @aT.eq_1 @bne_self_eq_false.{0} @je) (X2 hv yu) ?_|(refine Xi ?_ ?_<;>try intro ht)|exact Xx|fail)))
  subst ak;exact Xw false [0,1,2] (X3 @q9 @re @rf)
 rw[hs]at yu ak;rw[if_pos ⟨F3,rfl⟩]at ak;have fX:=aj7 m hm;have haf:=C5 bT;have w7:=vD hs;have rN:=vF hs;clear F3;have hIn:=hI bT hs;unfold root at ak hIn;generalize dH m=al at *;((repeat'(first|refine Vd (X3 @aT.eq_1 @bne_self_eq_false.{0} @gT) (X3 hv yu fX) ?_|(refine Xi ?_ ?_<;>try intro ht)|exact Xx|fail)))
 refine aM (λz:List dU×List dU×α=>(⟨aw [(2,.fn g bj),(3,.ptr 3 0 0),(4,.ptr 4 0 0),(7,.ref 5 3 0 z.1.length)],[A z.2.2,B z.2.2,C z.2.2,.var (aq m),.var (aT P),.arr 3 (rowsOf nC (z.1.reverse++z.2.1))]⟩:St))
  (λz=>(∀ s∈z.1,wZ m P s)/\Bn z.1/\Inv z.2.2 (z.1.flatMap (vs P))/\kF P step (z.1.flatMap (vs P)) z.2.2=res) (λz=>(z.1.flatMap (vs P)).length) ([(0,al,[])],[],a) ⟨λs hs=>by rw[List.mem_singleton]at hs;subst hs;exact⟨rN.1,haf,aN _⟩,⟨aI _,trivial⟩,by simpa using hIn,by simpa using ak⟩ (Xv @aT.eq_1) ?_
 clear ak haf hI hIn;rintro⟨T,J,a⟩⟨B4,jv,Jz,ak⟩Ql an ar;dsimp only at B4 jv Jz ak ⊢;cases T with
 |nil =>
  rw[List.flatMap_nil,kF]at ak;((repeat'(first|refine Va X0 ?_|(refine Xi ?_ ?_<;>try intro ht)|exact Xx|fail)))
  refine ar _ _ rfl ?_;clear an ar Ql;repeat(refine Xu ?_)
  refine Vb X0 ?_;subst ak;exact Xw false [0,1,2] (X3 @q9 @re @rf)
 |cons s T =>
  have um:=B4 s GF;have hgT:∀ t∈T,wZ m P t:=λt ht=>B4 t (by simp[ht]);have OA:=C4 w7 um.1;rw[sC,OA,dS]at Jz;have abL:=hE.inv a s _ um Jz;rw[sC,OA,dS,kF]at ak;have jH:(rowsOf nC ((s::T).reverse++J))[T.length]?=some (nC s):=by
   unfold rowsOf;rw[cj,Ki,cM,fV GF];simp
  have im:(rowsOf nC ((s::T).reverse++J)).take T.length=rowsOf nC T.reverse:=by
   unfold rowsOf;rw[<- z6,Ki,cM,GQ GF,dJ GF]
  have gM:T.length+1<=((s::T).reverse++J).length:=GF;have C1:(((T.length+1:Nat):Int)-1).toNat=T.length:=GC;have oC:=aj8;rw[eB];generalize qQ:(s::T).reverse++J=L at *;obtain⟨zo,jv⟩:=jv;obtain⟨i,left,ab⟩:=s;dsimp only at zo;have hi:i<P.length:=um.1;have ey:dD m left:=um.2.1;have nB:ab.length<=i:=um.2.2;have bX:P.getD i default=nd P i:=rfl;have bO:=ay (l:=P) (i:=i) (d:=default) hi;have b1:=hP.kids _ bO;have hdi:=w7 i hi;have Bt:=λo=>wY (o:=o) w7 um.1;have yv:=λo=>aaY (o:=o) w7 um;have gA:=C3 hs hi;have F4:∀ o,nD P (i,left,ab) o=(((nd P i).kids.getD o 0).toNat,bV left (nd P i).cls.toNat o,ab++[(nd P i).cls]):=λo=>rfl;have OB:q7 P (i,left,ab)=jN P (i,left,ab) (nd P i).kids.length:=rfl;rw[bX]at b1 bO;dsimp only at ak Bt yv;generalize aS:nd P i=x at *;obtain⟨c,kids,cV,a9,cells⟩:=x;dsimp only at b1 hdi Bt yv F4 OB ak;repeat'(first|((fail_if_success (first|refine eT 8 ?_|refine eU 8 ?_));refine Xr (X5 @jH @nC.eq_1 @C1 @oC (X4 @aT.eq_1 @bX @aG.eq_1 @Option.map_none.{0,0})) ?_;intro K hK)|(refine hK _ ?_;clear hK K)|(refine Xi ?_ ?_<;>try intro ht)|refine Xy ?_|refine Xd ?_ ?_|exact Xx|fail)
  refine bY (aF.mR 8 6 (cells:=[aaC i,.tree 1 (rowsOf aQ left),th ab]) aau (by simp only[Kc,simprocAttr]) (by
   intro v hv;simp only[cB,kI,or_false]at hv;rcases hv with rfl|rfl|rfl
   ·exact .inl ⟨_,rfl⟩
   ·exact .inr ⟨_,_,rfl⟩
   ·rcases aaV ab with⟨y,h,_⟩|h
    ·exact .inl ⟨y,h⟩
    ·exact .inr h)) ?_
  refine bY (aF.mR 9 7 (cells:=aG ⟨c,kids,cV,a9,cells⟩) aau (by simp only[Kc,simprocAttr]) (by simp[aG])) ?_;refine bY (σ':=⟨aw [(2,.fn g bj),(3,.ptr 3 0 0),(4,.ptr 4 0 0),(7,.ref 5 3 0 T.length),(8,.cq [aaC i,.tree 1 (rowsOf aQ left),th ab]),(9,.cq (aG ⟨c,kids,cV,a9,cells⟩))],[A a,B a,C a,.var (aq m),.var (aT P),.arr 3 (rowsOf nC L)]⟩) (by((refine aF.se [0,1,2,3,4,5] false (by simp only[Oc,simprocAttr,q9,re,rf,aT]) ?_;simp only[Hr,↓reduceIte,Nat.reduceEqDiff,pE,Nat.reduceAdd,q9,re,rf,aT];try(and_intros<;>first|exact .pure rfl|exact .eq rfl|exact .fz rfl (by simp only[Bc,Rc]))));(and_intros<;>first|exact xE ..|exact .pure rfl|exact .eq rfl)) ?_;have e9:ao Tryz.prog 122 [th ab,aaC c] [] (.lit (.bool (ab.contains c))) []:=by
   have:=Np ab c GC;cases ab with
   |nil=>exact ao.afY (pre:=[]) (post:=[aaC c]) this
   |cons x r=>exact this
  cases Db:ab.contains c;rotate_left
  ·rw[Db]at e9 ak;rw[if_pos rfl]at ak;((refine Va @aG.eq_1 ?_)<;>try with_reducible intro K hK)
   refine cF e9 (aaW _ _) rfl ?_;((try revert hK K);(repeat'(first|refine Va @aG.eq_1 ?_|(refine Xi ?_ ?_<;>try intro ht)|exact Xx|fail)))
   repeat(refine Xu ?_)
   refine Vb X0 ?_;rw[<- ak];exact Xw false [0,1,2] (X3 @q9 @re @rf)
  rw[Db]at e9 ak;rw[if_neg GF]at ak;have kT:=hE.call bT a (i,left,ab) _ um Jz;dsimp only at kT;generalize dP:step a (i,left,ab)=sa at *;obtain⟨a2,b⟩:=sa;dsimp only at kT ak abL;((refine Va @aG.eq_1 ?_)<;>try with_reducible intro K hK)
  refine cF e9 (aaW _ _) rfl ?_;cases b
  ·rw[if_neg GF]at ak;((try revert hK K);(refine Va @aG.eq_1 ?_)<;>try with_reducible intro K hK)
   refine jn [0,1,2] kT Px ⟨by rw[q9];rfl,by rw[re];rfl,by rw[rf];rfl,trivial⟩ ⟨.pure rfl,Oz bj (hE.rc _ rfl rfl rfl)⟩ ?_;((try revert hK K);(repeat'(first|refine Va (X4 @aG.eq_1 @q9 @re @rf) ?_|(refine Xi ?_ ?_<;>try intro ht)|exact Xx|fail)))
   repeat(refine Xu ?_)
   refine Vb X0 ?_;rw[<- ak];exact Xw false [0,1,2] (X3 @q9 @re @rf)
  rw[if_pos rfl]at ak;((try revert hK K);(refine Va @aG.eq_1 ?_)<;>try with_reducible intro K hK)
  refine jn [0,1,2] kT Px ⟨by rw[q9];rfl,by rw[re];rfl,by rw[rf];rfl,trivial⟩ ⟨.pure rfl,Oz bj (hE.rc _ rfl rfl rfl)⟩ ?_;((try revert hK K);(repeat'(first|refine Va (X4 @aG.eq_1 @q9 @re @rf) ?_|(refine Xi ?_ ?_<;>try intro ht)|exact Xx|fail)))
  have wT:0<kids.length->0<=c/\c<m.cls.length/\kids.length=(m.cls.getD c.toNat default).length:=λh=>by
   unfold lC m4 at gA;dsimp only at gA;rw[bw]at gA;have h1:=gA.1;split at h1
   ·rw[decide_eq_true_eq]at h1;omega
   ·rw[decide_eq_true_eq]at h1;exact⟨h1.1,h1.2.1,h1.2.2.1⟩
  have Fp:kids.length<=24:=by
   unfold lC at gA;rw[bw]at gA;exact Fm bT gA.1
  refine aM (λz:Nat×List dU=>(⟨aw [(2,.fn g bj),(3,.ptr 3 0 0),(4,.ptr 4 0 0),(7,.ref 5 3 0 (T.length+z.1)),(8,.cq [aaC i,.tree 1 (rowsOf aQ left),th ab]),(9,.cq (aG ⟨c,kids,cV,a9,cells⟩)),(60,.tree 1 (ints kids)),(61,aaC kids.length),(62,aaC z.1)],[A a2,B a2,C a2,.var (aq m),.var (aT P),.arr 3 (rowsOf nC z.2)]⟩:St))
   (λz=>z.1<=kids.length/\T.length+z.1<=z.2.length/\z.2.take (T.length+z.1)=T.reverse++jN P (i,left,ab) z.1) (λz=>kids.length-z.1) (0,L) ⟨aI _,PA,by
    dsimp only;rw[<- qQ,Nat.add_zero,Ki,cM,GQ GF,dJ GF];simp[jN]⟩ (Xv (X2 @aT.eq_1 @aG.eq_1)) ?_
  rintro⟨o,L2⟩⟨ho,pz,OC⟩cJ ba bd;dsimp only at ho pz OC ⊢;by_cases cG:o<kids.length
  ·obtain⟨c1,c2,c3⟩:=wT GC;obtain⟨k1,k2,k3⟩:=Bt o cG;have F4:=F4 o;have Oa:(left.getD c.toNat default).length=kids.length:=by rw[c3];exact ey.2 c.toNat (by have:=ey.1;omega)
   have Af:=aht left c.toNat o (by have:=ey.1;omega) GC (by have:=ey.1;have:=bT.cls;omega) GC;rw[sG c1]at Af;have F1:(rowsOf nC L2).take (T.length+o)=rowsOf nC (T.reverse++jN P (i,left,ab) o):=by unfold rowsOf;rw[<- z6,OC]
   have cu:(T.reverse++jN P (i,left,ab) o).length=T.length+o:=by simp[jN]
   generalize iO:kids.getD o 0=k at *;generalize bV left c.toNat o=on at *;by_cases abM:ab=[]
   ·subst abM;((repeat'(first|refine Vc (X5 @aG.eq_1 @iO (X2 @th.eq_1 @th.eq_2) @F1 @cu) (X2 Af ahs) ?_|(refine Xi ?_ ?_<;>try intro ht)|exact Xx|fail)))
    have rh:(rowsOf nC (T.reverse++jN P (i,left,[]) o)++[[AV.lit (.int .i64 k),.tree 1 (rowsOf aQ on),.ref 7 1 0 1]])[T.length+o]?=some [AV.lit (.int .i64 k),.tree 1 (rowsOf aQ on),.ref 7 1 0 1]:=by
     rw[fV (by simp[rowsOf,<- cu])];simp[rowsOf,<- cu]
    have F5:rowsOf nC (T.reverse++jN P (i,left,[]) (o+1))=(rowsOf nC (T.reverse++jN P (i,left,[]) o)++[[AV.lit (.int .i64 k),.tree 1 (rowsOf aQ on),.ref 7 1 0 1]]).set (T.length+o) [AV.lit (.int .i64 k),.tree 1 (rowsOf aQ on),.tree 1 [[AV.lit (.int .i64 c)]]]:=by
     rw[Dx _ _ (by simp[rowsOf,<- cu]),aaX,F4];have:(((k.toNat:Nat):Int))=k:=GC;simp[rowsOf,<- cu,nC,th,ints,this]
    have yw:(T.reverse++jN P (i,left,[]) (o+1)).length=T.length+(o+1):=by simp[jN]
    refine ba _ (o+1,T.reverse++jN P (i,left,[]) (o+1)) ⟨PA,PI yw.symm,dJ (PI yw)⟩ PA ?_;refine aF.trans (aF.LS 7 9 (T.length+o) 2 1 3 (rows:=[[AV.lit (.int .i64 c)]]) rfl rh rfl rfl Px GF GF) ?_;simp only[vW,sB];rw[<- F5];((refine aF.se [0,1,2,3,4,9] false (by simp only[Oc,simprocAttr,q9,re,rf,aT]) ?_;simp only[Hr,↓reduceIte,Nat.reduceEqDiff,pE,Nat.reduceAdd,q9,re,rf,aT];try(and_intros<;>first|exact .pure rfl|exact .eq rfl|exact .fz rfl (by simp only[Bc,Rc]))))
    and_intros<;>first|exact xE ..|exact .pure rfl|exact .eq rfl
   ·have lp:0<ab.length:=by
     cases ab with
     |nil=>exact absurd rfl abM
     |cons=>simp
    have I7:∀ l:List Int,0<l.length->th l=.tree 1 (ints l):=λl h=>by
     cases l with
     |nil=>simp at h
     |cons=>rfl
    have Dc:=I7 ab lp;have akQ:=I7 (ab++[c]) GF;have cm:=U7 ab lp GC;have gD:(ints (ab++[c])).length=ab.length+1:=by simp[ints]
    have rh:(rowsOf nC (T.reverse++jN P (i,left,ab) o)++[[AV.lit (.int .i64 k),.tree 1 (rowsOf aQ on),.ref 8 1 0 (ab.length+1)]])[T.length+o]?=some [AV.lit (.int .i64 k),.tree 1 (rowsOf aQ on),.ref 8 1 0 (ab.length+1)]:=by
     rw[fV (by simp[rowsOf,<- cu])];simp[rowsOf,<- cu]
    have F5:rowsOf nC (T.reverse++jN P (i,left,ab) (o+1))=(rowsOf nC (T.reverse++jN P (i,left,ab) o)++[[AV.lit (.int .i64 k),.tree 1 (rowsOf aQ on),.ref 8 1 0 (ab.length+1)]]).set (T.length+o) [AV.lit (.int .i64 k),.tree 1 (rowsOf aQ on),.tree 1 (ints (ab++[c]))]:=by
     rw[Dx _ _ (by simp[rowsOf,<- cu]),aaX,F4];have:(((k.toNat:Nat):Int))=k:=GC;simp[rowsOf,<- cu,nC,akQ,this]
    have yw:(T.reverse++jN P (i,left,ab) (o+1)).length=T.length+(o+1):=by simp[jN]
    repeat'(first|((fail_if_success (first|refine eT 13 ?_|refine eU 13 ?_));refine Xr (X3 @aG.eq_1 @iO @Dc) ?_;intro K hK)|(refine hK _ ?_;clear hK K)|(refine Xi ?_ ?_<;>try intro ht)|refine Xy ?_|refine Xd ?_ ?_|exact Xx|fail)
    refine kv [4,6,8,11,14] (.take 0 (.take 1 (.take 2 (.take 3 (.take 4 (.take 5 (.take 6 (.take 7 (.take 8 (.take 9 (.take 10 (.take 11 (.both 12 (.take 13 (.take 14 (.take 15 (.take 16 (.take 17 (.take 18 (.take 19 (.take 20 .nil)))))))) 13 (.take 14 (.both 12 (.take 15 (.take 16 (.take 17 (.take 18 (.take 19 (.take 20 .nil)))))) 15 (.take 12 (.take 16 (.take 17 (.take 18 (.take 19 (.take 20 .nil))))))))))))))))))))) rfl Px (by decide +kernel) ?_;simp(disch:=omega)only[Ac,↓Pc,simprocAttr,Pw,↓Lq,aG,iO,Dc];refine bZ Af rfl rfl ?_;simp(disch:=omega)only[Ac,↓Pc,simprocAttr,Pw,↓Lq,aG,iO,Dc];repeat'(with_reducible refine And.intro ?_ ?_)
    all_goals try(refine jn [] cm Px trivial ⟨.pure rfl,trivial⟩ ?_;simp(disch:=omega)only[Ac,↓Pc,simprocAttr,Pw,↓Lq,aG,iO,Dc,Nat.sub_self,Nat.sub_zero,F1,cu,G'])
    repeat'(first|with_reducible refine And.intro ?_ ?_|omega)
    all_goals
     repeat(refine Xu ?_)
     ((repeat'(first|refine Va X0 ?_|fail)))
    all_goals
     refine ba _ (o+1,T.reverse++jN P (i,left,ab) (o+1)) ⟨PA,PI yw.symm,dJ (PI yw)⟩ PA ?_;refine aF.trans (aF.LS 8 10 (T.length+o) 2 1 3 (rows:=ints (ab++[c])) rfl rh rfl (by rw[gD];rfl) Px (rH _) (sL _)) ?_;simp only[vW,sB];rw[<- F5];((refine aF.se [0,1,2,3,4,10] false (by simp only[Oc,simprocAttr,q9,re,rf,aT,Dc]) ?_;simp only[Hr,↓reduceIte,Nat.reduceEqDiff,pE,Nat.reduceAdd,q9,re,rf,aT,Dc];try(and_intros<;>first|exact .pure rfl|exact .eq rfl|exact .fz rfl (by simp only[Bc,Rc]))))
     and_intros<;>first|exact xE ..|exact .pure rfl|exact .eq rfl
  ·obtain rfl:o=kids.length:=GC;((repeat'(first|refine Va @aG.eq_1 ?_|(refine Xi ?_ ?_<;>try intro ht)|exact Xx|fail)))
   refine bd _ _ rfl ?_;clear ba bd cJ;repeat(refine Xu ?_)
   ((skip))
   have cI:(jN P (i,left,ab) kids.length).length=kids.length:=by simp[jN]
   have yq:T.reverse++jN P (i,left,ab) kids.length++L2.drop (T.length+kids.length)=L2:=by rw[<- OC,List.take_append_drop]
   refine an _ ((q7 P (i,left,ab)).reverse++T,L2.drop (T.length+kids.length),a2) ⟨λt ht=>?_,?_,by dsimp only;rw[rA];exact abL,?_⟩ ?_ ?_
   ·dsimp only at ht;rw[List.mem_append]at ht;rcases ht with ht|ht
    ·obtain⟨o,ho,rfl⟩:=wX (uE.1 ht);dsimp only at ho;rw[aS]at ho;exact yv o ho
    ·exact hgT t ht
   ·dsimp only;refine Bn.push jv zo _ (λt ht=>?_) (by rw[List.length_reverse,OB,cI];exact Fp);obtain⟨o,ho,rfl⟩:=wX (uE.1 ht);dsimp only at ho;rw[aS]at ho;exact(Bt o ho).1
   ·dsimp only;rw[rA];exact ak
   ·dsimp only;rw[rA,sC,OA,bQ,bQ,eB];omega
   ·dsimp only;rw[List.reverse_append,List.reverse_reverse,OB,yq,bQ,List.length_reverse,cI,Nat.add_comm kids.length T.length];exact Xv @aT.eq_1
def gB(m:aj)(P:List Nd)(b:Int)(s:dU):Int×Bool :=
 if(nd P s.1).cls≠-1 then(b,true)
 else if 0<(nd P s.1).a9.length then(b,lW m (nd P s.1) s.2.1)
 else(min b (iC m s.2.1 (nd P s.1).cV).1,(iC m s.2.1 (nd P s.1).cV).2==0)
def jx(m:aj)(P:List Nd):Int×Bool:=if(q8 m P (gB m P) 1099511627776).2=true then((q8 m P (gB m P) 1099511627776).1,true) else(0,false)
def akR(m:aj)(P:List Nd)(hP:PB P)(hm:VM m)(b:Int)(s:dU)(hs:wZ m P s):
  ao Tryz.prog 75 [.agg [aaC s.1,.tree 1 (rowsOf aQ s.2.1)],.ptr 1 0 0,.ptr 0 0 0,.ptr 2 0 0] [.var (aq m),.var (aT P),.var [aaC b]] (.lit (.bool (gB m P b s).2)) [.var (aq m),.var (aT P),.var [aaC (gB m P b s).1]]:=by
 obtain⟨i,left,ab⟩:=s;have hi:i<P.length:=hs.1;have hf:dD m left:=hs.2.1;have rV:=hP.qJ;have bX:P.getD i default=nd P i:=rfl;have bO:=ay (l:=P) (i:=i) (d:=default) hi;have b2:=hP.cV _ bO;have b3:=hP.a9 _ bO;have b4:=hP.cells _ bO;have b5:=hP.cell _ bO;generalize ak:gB m P b (i,left,ab)=res;unfold gB at ak;rw[bX]at b2 b3 b4 b5;dsimp only at ak;have nU:=ajs m (nd P i) left hm hf b3 b4 b5;have w8:=ajQ m left (nd P i).cV hm hf b2;generalize lW m (nd P i) left=cw at *;generalize iC m left (nd P i).cV=lt at *;generalize aS:nd P i=x at *;obtain⟨c,kids,cV,a9,cells⟩:=x;obtain⟨v,e⟩:=lt;dsimp only at *;refine ao.aD 41 3 [.tmp 5] Tryz.func75 ?_;by_cases hc:c = -1;rotate_left
 ·rw[if_pos hc]at ak;((repeat'(first|refine Vb (X3 @aT.eq_1 @bX @aG.eq_1) ?_|(refine Xi ?_ ?_<;>try intro ht)|exact Xx|fail)))
  subst ak;exact Xw false [0,1,2] @aT.eq_1
 rw[if_neg GC]at ak;by_cases hg:0<a9.length
 ·rw[if_pos hg]at ak;((repeat'(first|refine Vd (X3 @aT.eq_1 @bX @aG.eq_1) nU ?_|(refine Xi ?_ ?_<;>try intro ht)|exact Xx|fail)))
  subst ak;exact Xw false [0,1,2] @aT.eq_1
 rw[if_neg hg]at ak;((repeat'(first|refine Vd (X3 @aT.eq_1 @bX @aG.eq_1) w8 ?_|(refine Xi ?_ ?_<;>try intro ht)|exact Xx|fail)))
 subst ak;exact Xw false [0,1,2] @aT.eq_1
def agn(m:aj)(P:List Nd)(hm:MB m)(hP:PB P):ao Tryz.prog 40 [.agg (aq m),.agg (aT P)] [] (.bJ [aaC (jx m P).1,.lit (.bool (jx m P).2)]) []:=by
 have hw:=abJ m P hm hP (λ_=>.var (aq m)) (λ_=>.var (aT P)) (λb:Int=>.var [aaC b]) [.ptr 1 0 0,.ptr 0 0 0,.ptr 2 0 0] 75 (gB m P) (Inv:=λ_ _=>True)
  ⟨λρ h0 h1 h2 a=>⟨rfl,rfl,rfl⟩,λρ h0 h1 h2 v hv=>by
   simp only[cB,kI,or_false]at hv;rcases hv with rfl|rfl|rfl<;>simp only[bC,h0,h1,h2],λ_ _ _ _ _=>trivial,λbT a s _ hs _=>akR m P hP bT a s hs⟩ 1099511627776 (λ_ _=>trivial)
 generalize ak:jx m P=res;unfold jx at ak;generalize q8 m P (gB m P) 1099511627776=r at *;obtain⟨b,ok⟩:=r;dsimp only at hw ak;refine ao.aD 15 0 [.tmp 4,.tmp 5] Tryz.func40 ?_;((refine Vb @aT.eq_1 ?_)<;>try with_reducible intro K hK)
 refine ig hw GF ?_;cases ok
 ·rw[if_neg GF]at ak;((try revert hK K);(repeat'(first|refine Vb @je ?_|(refine Xi ?_ ?_<;>try intro ht)|exact Xx|fail)))
  subst ak;exact aE rfl rfl
 ·rw[if_pos rfl]at ak;((try revert hK K);(repeat'(first|refine Vb @gT ?_|(refine Xi ?_ ?_<;>try intro ht)|exact Xx|fail)))
  subst ak;exact aE rfl rfl
def abN{α:Type}{P:List Nd}{step:α->dU->α×Bool}:∀ {L:List dU} {a r:α},kF P step L a=(r,true)->∀ (J:α->Prop) (R:α->α->Prop),(∀ x,R x x)->(∀ x y z,R x y->R y z->R x z)->(∀ s∈L,∀ x,(step x s).2=true->R x (step x s).1) ->
  ∀ s∈L,s.2.2.contains (nd P s.1).cls=false/\∃ x,(step x s).2=true/\R (step x s).1 r
 |[],a,r,h,J,R,h1,h2,h3,s,hs=>by simp at hs
 |t::L,a,r,h,J,R,h1,h2,h3,s,hs=>by
  rw[kF]at h;split at h
  ·cases h
  ·rename_i hc;split at h
   ·rename_i jC;have ih:=abN h J R h1 h2 (λu hu=>h3 u (by simp[hu]));rcases cB.1 hs with e|hs
    ·subst e;refine⟨by simpa using hc,a,jC,?_⟩;have mono:∀ (L:List dU) (x y:α),(∀ u∈L,∀ x,(step x u).2=true->R x (step x u).1)->kF P step L x=(y,true)->R x y:=by
      intro L
      induction L with
      |nil=>intro x y _ h;rw[kF]at h;cases h;exact h1 _
      |cons u L FR =>
       intro x y hm h;rw[kF]at h;split at h
       ·cases h
       ·split at h
        ·rename_i hu;exact h2 _ _ _ (hm u GF x hu) (FR _ _ (λv hv=>hm v (by simp[hv])) h)
        ·cases h
     exact mono L _ _ (λu hu=>h3 u (by simp[hu])) h
    ·exact ih s hs
   ·cases h
def Oj{m:aj}{P:List Nd}{n:Int}(h:jx m P=(n,true)):VM m/\j5 m P=true/\kF P (gB m P) (vs P (root m)) 1099511627776=(n,true):=by
 unfold jx q8 at h;by_cases h2:df m=0/\j5 m P=true
 ·rw[if_pos h2]at h;split at h
  ·rename_i h1;refine⟨eK.1 h2.1,h2.2,?_⟩;have e:(kF P (gB m P) (vs P (root m)) 1099511627776).1=n:=congrArg Prod.fst h;exact Prod.ext e h1
  ·cases h
 ·rw[if_neg h2]at h;split at h
  ·rename_i h1;cases h1
  ·cases h
def abO{m:aj}{P:List Nd}(b:Int)(s:dU):(gB m P b s).1<=b:=by
 unfold gB;split
 ·exact eC _
 split
 ·exact eC _
 ·exact Int.min_le_left ..
def Ok{m:aj}{P:List Nd}{n:Int}(h:kF P (gB m P) (vs P (root m)) 1099511627776=(n,true)):n<=1099511627776/\∀ s∈vs P (root m),s.2.2.contains (nd P s.1).cls=false/\((nd P s.1).cls = -1->if 0<(nd P s.1).a9.length then lW m (nd P s.1) s.2.1=true else n<=(iC m s.2.1 (nd P s.1).cV).1/\(iC m s.2.1 (nd P s.1).cV).2=0):=by
 have akS:∀ (L:List dU) (a r:Int),kF P (gB m P) L a=(r,true)->r<=a:=by
  intro L
  induction L with
  |nil=>intro a r h;rw[kF]at h;cases h;exact eC _
  |cons s L ih =>
   intro a r h;rw[kF]at h;split at h
   ·cases h
   ·split at h
    ·exact sE (ih _ _ h) (abO a s)
    ·cases h
 refine⟨akS _ _ _ h,λs hs=>?_⟩;obtain⟨h1,x,h2,h3⟩:=abN h (λ_=>True) (λx y=>y<=x) (λx=>eC _) (λx y z h1 h2=>sE h2 h1) (λs _ x _=>abO x s) s hs;refine⟨h1,λhc=>?_⟩;unfold gB at h2 h3;rw[if_neg GC]at h2 h3;split
 ·rename_i hg;rw[if_pos hg]at h2;exact h2
 ·rename_i hg;rw[if_neg hg]at h2 h3;dsimp only at h2 h3;exact⟨GC,by simpa using h2⟩
def akT{m:aj}{P:List Nd}(hm:VM m)(hs:j5 m P=true){plan:List Int}(hp:FP m plan):∀ (f:Nat) (s:dU),wZ m P s->P.length-s.1<=f->zJ m s.2.1 plan->∃ t∈vs P s,wZ m P t/\(nd P t.1).cls = -1/\zJ m t.2.1 plan:=by
 have hd:=vD hs;intro f
 induction f with
 |zero=>intro s hg hf;have:=hg.1;omega
 |succ f ih =>
  intro s hg hf ez;rw[C4 hd hg.1];by_cases hc:(nd P s.1).cls = -1
  ·exact⟨s,GF,hg,hc,ez⟩
  ·have hn:=C3 hs hg.1;unfold lC m4 at hn;rw[bw,if_neg hc,decide_eq_true_eq]at hn;obtain⟨⟨c1,c2,c3,_⟩,_⟩:=hn;have cu:=hp.len;have hgp:=hp.get (nd P s.1).cls.toNat GC;rw[sG c1]at hgp;obtain⟨o1,o2,o3,o4⟩:=fD.1 hgp;have ho:(plan.getD (nd P s.1).cls.toNat 0).toNat<(nd P s.1).kids.length:=GC;have hk:=wY hd hg.1 ho;have fC:=hg.2.1.1;have bq:=hg.2.1.2 (nd P s.1).cls.toNat GC;obtain⟨t,ht,h2⟩:=ih (nD P s (plan.getD (nd P s.1).cls.toNat 0).toNat) (aaY hd hg ho) GC (λi hi=>by
    show((bV s.2.1 (nd P s.1).cls.toNat (plan.getD (nd P s.1).cls.toNat 0).toNat).getD i default).getD _ false=true;unfold bV;by_cases e:(nd P s.1).cls.toNat=i
    ·subst e;rw[vz _ _ _ GC];unfold mV;rw[aA,cA,if_pos rfl,if_pos (by rw[qg,bq];omega)];rfl
    ·rw[aA (l:=s.2.1.set _ _),List.getElem?_set_ne e,<- aA];exact ez i hi)
   refine⟨t,List.mem_cons_of_mem _ (z9.2 ⟨_,?_,ht⟩),h2⟩;rw[uE];exact cz.2 ⟨_,List.mem_range.2 ho,rfl⟩
def abQ:∀ (f:Nat->Int) (n i:Nat),(∀ j,j<n->0<=f j)->i<n->f i<=bE f n
 |f,0,i,_,h=>GC
 |f,n+1,i,h0,h=>by
  rw[bE];have Hh:∀ n,(∀ j,j<n->0<=f j)->0<=bE f n:=λn=>by
   induction n with
   |zero=>intro _;exact eC _
   |succ n ih=>intro h;rw[bE];have:=ih λj hj=>h j GC;have:=h n GC;omega
  by_cases e:i=n
  ·subst e;have:=Hh i λj hj=>h0 j GC;omega
  ·have:=abQ f n i (λj hj=>h0 j GC) GC;have:=h0 n GC;omega
def abR(f:Nat->Int)(n:Nat)(h:∀ j,j<n->0<=f j):0<=bE f n:=by
 induction n with
 |zero=>exact eC _
 |succ n ih=>rw[bE];have:=ih λj hj=>h j GC;have:=h n GC;omega
def abS{m:aj}(hm:VM m){plan:List Int}(hp:FP m plan){j:Nat}(hj:j<m.cls.length):0<=mX m plan j:=by
 have h0:=hp.get j (by rw[hp.len];exact hj);obtain⟨b1,b2,b3,b4⟩:=fD.1 h0;rw[fq]at b4;have hl:=ay (l:=m.cls) (i:=j) (d:=default) hj;have ho:=ay (l:=m.cls.getD j default) (i:=(plan.getD j 0).toNat) (d:=default) GC;have:=EO (hm.mA _ hl _ ho);unfold b7 at this;unfold mX;omega
def abT{m:aj}(hm:VM m)(plan:List Int){i:Nat}(hi:i<m.ae.length):0<=kB m plan (m.ae.getD i default):=by
 have dE:=iA hm.pr _ (ay (l:=m.ae) (i:=i) (d:=default) hi);have:=CG dE (plan.getD (m.ae.getD i default).fst.toNat 0) (plan.getD (m.ae.getD i default).snd.toNat 0);unfold b7 at this;unfold kB;omega
def abU{m:aj}(hm:VM m)(plan:List Int){i:Nat}(hi:i<m.av.length):0<=jz plan (m.av.getD i default):=by
 obtain⟨q1,q2,q3,q4⟩:=lS (hm.ct _ (ay (l:=m.av) (i:=i) (d:=default) hi));have:=CF (most:=(m.av.getD i default).most) (sum:=ki plan (m.av.getD i default).aH 0) (lz q3);unfold b7 at this;unfold jz;omega
def akU{m:aj}(hm:VM m){plan:List Int}(hp:FP m plan){a b:Int}(h:py m a (plan.getD a.toNat 0) b (plan.getD b.toNat 0)=true):jX (jr m plan) 0=1099511627776:=by
 have hex :∃p∈m.ae,kB m plan p=1099511627776:=by
  unfold py at h;split at h
  ·obtain⟨p,hp,h⟩:=rC.1 h;unfold n8 at h;rw[decide_eq_true_eq]at h;exact⟨p,hp,by unfold kB;rw[h.1,h.2.1];exact h.2.2⟩
  ·obtain⟨p,hp,h⟩:=rC.1 h;unfold n8 at h;rw[decide_eq_true_eq]at h;exact⟨p,hp,by unfold kB;rw[h.1,h.2.1];exact h.2.2⟩
 obtain⟨p,uc,he⟩:=hex;obtain⟨i,hi,rfl⟩:=mJ uc;rw[CK hm hp];have h1:=abR (mX m plan) m.cls.length λj hj=>abS hm hp hj;have h2:=abQ (λi=>kB m plan (m.ae.getD i default)) m.ae.length i (λj hj=>abT hm plan hj) hi;have h3:=abR (λi=>jz plan (m.av.getD i default)) m.av.length λj hj=>abU hm plan hj;have e:m.ae.getD i default=m.ae[i]:=by rw[aA,bK hi];rfl
 rw[e,he]at h2;omega
def abV:∀ (n:Nat) (l:List Nat),l.Nodup->(∀ x∈l,x<n)->l.length<=n
 |0,l,_,h=>by
  cases l with
  |nil=>simp
  |cons x l=>have:=h x GF;omega
 |n+1,l,hn,h=>by
  have h1:=abV n (l.erase n) (hn.erase n) (λx hx=>by
   have h2:=(hn.mem_erase_iff).1 hx;have:=h x h2.2;have:=h2.1;omega)
  rw[List.length_erase]at h1;split at h1<;>omega
def akV{n:Nat}:∀ (l:List Nat),l.length > n->(∀ x∈l,x<n)->∃ i j,i<j/\j<l.length/\l[i]?=l[j]?:=by
 intro l hl hx;by_cases hn:l.Nodup
 ·exfalso;have h2:=abV n l hn hx;omega
 ·unfold List.Nodup at hn;rw[List.pairwise_iff_getElem]at hn;simp only[Classical.not_forall,Decidable.not_not]at hn;obtain⟨i,j,hi,hj,tc,he⟩:=hn;exact⟨i,j,tc,hj,by rw[bK hi,bK hj,he]⟩
def akW{m:aj}(hm:VM m){plan:List Int}(hp:FP m plan){x:Nd}{left:List (List Bool)}(hf:dD m left)(ez:zJ m left plan)(h:lW m x left=true):jX (jr m plan) 0=1099511627776:=by
 unfold lW at h;simp only[bw,decide_eq_true_eq]at h;obtain⟨⟨⟨h1,h2⟩,h3⟩,h4⟩:=h;have CW:=Nn h1;rw[fT]at h3 h4;have qm:∀ c∈x.a9,∃ i,i<x.cells.length/\(c,plan.getD c.toNat 0)∈x.cells.getD i default:=λc hc=>by
  have nU:=CW c hc;have bD:=h4 c hc;unfold s9 at bD;have cu:=hp.len;have hg:=hp.get c.toNat GC;obtain⟨b1,b2,b3,b4⟩:=fD.1 hg;rw[fq]at b4;have hr:=hf.2 c.toNat (by have:=hf.1;omega);have h5:=wQ.1 bD (plan.getD c.toNat 0).toNat GC;rw[ez c.toNat GC,gT,ma,rC]at h5;obtain⟨l,hl,h6⟩:=h5;rw[rC]at h6;obtain⟨y,hy,h7⟩:=h6;unfold jA at h7;rw[decide_eq_true_eq,sG b3]at h7;obtain⟨i,hi,rfl⟩:=mJ hl;refine⟨i,hi,?_⟩;rw[aA,bK hi,jB,<- h7];exact hy
 have ek :∃f:Int->Nat,∀ c∈x.a9,f c<x.cells.length/\(c,plan.getD c.toNat 0)∈x.cells.getD (f c) default:=by
  classical
  refine⟨λc=>if hc:c∈x.a9 then Classical.choose (qm c hc) else 0,λc hc=>?_⟩;dsimp only;rw[dif_pos hc];exact Classical.choose_spec (qm c hc)
 obtain⟨f,ur⟩:=ek;obtain⟨i,j,tc,hj,he⟩:=akV (n:=x.cells.length) (x.a9.map f) (by simpa using h2) (λy hy=>by
  obtain⟨c,hc,rfl⟩:=cz.1 hy;exact(ur c hc).1)
 rw[List.length_map]at hj;rw[cj,cj,bK GC,bK hj]at he;simp only[fl,Option.some.injEq]at he;have br:∀ j,j<x.a9.length->∀ i,i<j->x.a9.getD i 0<x.a9.getD j 0:=by
  intro j
  induction j with
  |zero=>intro _ i hi;omega
  |succ j ih =>
   intro hj i hi;have h5:=wQ.1 h1 (j+1) hj;rw[decide_eq_true_eq]at h5;have h6:x.a9.getD j 0<x.a9.getD (j+1) 0:=by
    rcases h5.2.2 with h|h
    ·omega
    ·simpa using h
   by_cases e:i=j
   ·subst e;exact h6
   ·have:=ih GC i GC;omega
 have dO:=br j hj i tc;rw[aA,aA,bK GC,bK hj,jB,jB]at dO;have m1:=(ur x.a9[i] (tw _)).2;have m2:=(ur x.a9[j] (tw _)).2;rw[he]at m1;have cm:=(ur x.a9[j] (tw _)).1;generalize x.a9[i]=a at *;generalize x.a9[j]=b at *;have h5:=h3 _ (ay (d:=default) cm);generalize x.cells.getD (f b) default=l at *;unfold p6 at h5;have key:∀ u v:Int×Int,u∈l->v∈l->u.1≠v.1->py m u.1 u.2 v.1 v.2=true:=λu v hu hv dO=>by
  obtain⟨p,hp',rfl⟩:=mJ hu;obtain⟨q,Ci,rfl⟩:=mJ hv;have one:∀ p q (hp:p<l.length) (hq:q<p),l[p].1≠l[q].1->py m l[p].1 l[p].2 l[q].1 l[q].2=true:=λp q hp hq dO=>by
   have h6:=wQ.1 h5 p hp;unfold sr at h6;rw[bw,fT,aA,bK hp,jB]at h6;have h7:=h6.2 l[q] (by rw[List.mem_take_iff_getElem];exact⟨q,GC,rfl⟩);unfold sq at h7;rw[decide_eq_false dO,ma]at h7;exact h7
  rcases Nat.lt_trichotomy p q with h|h|h
  ·rw[Z8 dO];exact one q p Ci h (Ne.symm dO)
  ·subst h;exact absurd rfl dO
  ·exact one p q hp' h dO
 exact akU hm hp (key _ _ m1 m2 PA)
def akY{m:aj}{P:List Nd}{n:Int}(h:jx m P=(n,true)){plan:List Int}(hp:FP m plan):n<=jX (jr m plan) 0:=by
 obtain⟨hm,hs,hr⟩:=Oj h;obtain⟨hn,hl⟩:=Ok hr;have hlen:=vF hs;have ey:=C5 hm;obtain⟨t,ht,hg,hc,ez⟩:=akT hm hs hp P.length (root m) ⟨by show 0<_;omega,ey,aN _⟩ GC (λi hi=>by
  show((dH m).getD i default).getD _ false=true;have hg:=hp.get i (by rw[hp.len];exact hi);obtain⟨b1,b2,b3,b4⟩:=fD.1 hg;rw[fq]at b4;unfold dH;rw[if_pos (eK.2 hm)];unfold lX;rw[iR _ _ _ hi,aA,List.getElem?_replicate,if_pos GC];rfl)
 have h2:=(hl t ht).2 hc;split at h2
 ·rw[akW hm hp hg.2.1 ez h2];exact hn
 ·refine sE h2.1 ?_;have h3:=h2.2;unfold iC at h3 ⊢;split at h3
  ·cases h3
  split at h3
  ·cases h3
  rename_i h4 h5;rw[if_neg h4,if_neg h5];rw[z7,fT]at h5;exact ZA hm hp _ hg.2.1 ez _ h5
def akA{m:aj}{P:List Nd}(hm:VM m)(hs:j5 m P=true)(h:∀ s∈vs P (root m),s.2.2.contains (nd P s.1).cls=false/\((nd P s.1).cls = -1->(nd P s.1).a9.length=0/\(iC m s.2.1 (nd P s.1).cV).2=0)):
  ∃ n,jx m P=(n,true)/\∀ a,a<=1099511627776->(∀ s∈vs P (root m),(nd P s.1).cls = -1->a<=(iC m s.2.1 (nd P s.1).cV).1)->a<=n:=by
 have key:∀ (L:List dU) (b:Int),(∀ s∈L,s.2.2.contains (nd P s.1).cls=false/\((nd P s.1).cls = -1->(nd P s.1).a9.length=0/\(iC m s.2.1 (nd P s.1).cV).2=0)) ->
   (kF P (gB m P) L b).2=true/\∀ a,a<=b->(∀ s∈L,(nd P s.1).cls = -1->a<=(iC m s.2.1 (nd P s.1).cV).1)->a<=(kF P (gB m P) L b).1:=by
  intro L
  induction L with
  |nil=>intro b _;exact⟨rfl,λa h _=>h⟩
  |cons s L ih =>
   intro b h;obtain⟨h1,h2⟩:=h s GF;have yr:(gB m P b s).2=true:=by
    unfold gB;by_cases hc:(nd P s.1).cls = -1
    ·rw[if_neg GC,if_neg (by have:=(h2 hc).1;omega)];simp[(h2 hc).2]
    ·rw[if_pos hc]
   rw[kF,h1,if_neg GF,if_pos yr];obtain⟨i1,i2⟩:=ih (gB m P b s).1 λt ht=>h t (by simp[ht]);refine⟨i1,λa ha hl=>i2 a ?_ λt ht=>hl t (by simp[ht])⟩;unfold gB;by_cases hc:(nd P s.1).cls = -1
   ·rw[if_neg GC,if_neg (by have:=(h2 hc).1;omega)];have:=hl s GF hc;show a<=min _ _;omega
   ·rw[if_pos hc];exact ha
 obtain⟨k1,k2⟩:=key (vs P (root m)) 1099511627776 h;refine⟨(kF P (gB m P) (vs P (root m)) 1099511627776).1,?_,k2⟩;have hw:q8 m P (gB m P) 1099511627776=kF P (gB m P) (vs P (root m)) 1099511627776:=if_pos ⟨eK.2 hm,hs⟩;unfold jx;rw[hw,if_pos k1]
def nE(l:List Mv):Nd:=⟨-1,[],l,[],[]⟩
def Oe{P:List Nd}(hd:Down P){s:dU}(hs:s.1<P.length)(hk:(nd P s.1).kids=[]):vs P s=[s]:=by
 rw[C4 hd hs];unfold q7 jN;rw[hk];rfl
def abm{m:aj}(left:List (List Bool)):iC m left []=(oR m left (S0 m,T0 m),0):=rfl
def agu(m:aj)(plan:List Int)(hb:MB m)(cu:plan.length<9223372036854775808):ao Tryz.prog 55 [.agg (aq m),.tree 1 (ints plan)] [] (aaC (pg m plan)) []:=by
 generalize ak:pg m plan=res;rw[aiK]at ak;have rR:=hb.cls;have hval:=wx m hb;refine ao.aD 32 0 [.tmp 4] Tryz.func55 ?_;((repeat'(first|refine Vd X0 hval ?_|(refine Xi ?_ ?_<;>try intro ht)|fail)))
 ·rw[if_pos (by assumption)]at ak;exact aE rfl (by rw[ak])
 ·rw[if_neg GC,if_pos GC]at ak;exact aE rfl (by rw[ak])
 rw[if_neg GC,if_neg GC]at ak;refine aM (λi:Nat=>(⟨aw [(1,.tree 1 (ints plan)),(2,.ptr 0 0 0),(6,aaC i)],[.var (aq m)]⟩:St)) (λi=>i<=plan.length/\(if A9 m i (plan.drop i)=false then 17 else 0)=res) (λi=>plan.length-i) 0 ⟨aI _,ak⟩ (Xv X0) ?_;rintro i⟨hi,hr⟩Ql an ar;by_cases hi':i<plan.length
 ·have hd:=cP plan i 0 hi';generalize aR:plan.getD i 0=o at *;have kA:=E1 m i o;rw[hd,A9]at hr;generalize eW m i o=ob at *;((repeat'(first|refine Vc @aR kA ?_|(refine Xi ?_ ?_<;>try intro ht)|exact Xx|fail)))
  ·obtain rfl:ob=false:=by assumption
   refine Vb X0 ?_;exact aE rfl (by rw[<- hr];rfl)
  ·obtain rfl:ob=true:=by assumption
   rw[Bool.true_and]at hr;exact an _ (i+1) ⟨GC,hr⟩ GC (Xv X0)
 ·((repeat'(first|refine Va X0 ?_|(refine Xi ?_ ?_<;>try intro ht)|exact Xx|fail)))
  rw[List.drop_eq_nil_of_le GC,A9]at hr;refine ar _ _ rfl ?_;clear an ar Ql;repeat(refine Xu ?_)
  refine Vb X0 ?_;exact aE rfl (by rw[<- hr];rfl)
abbrev ei:=List (Int×Int)
def fe(up:ei)(j:Nat):Int×Int:=up.getD j default
def Bu(n:Nat):ei:=List.replicate n (-1,0)
def Bv(up:ei):Nat->Nat->ei
 |0,_=>[]
 |f+1,k=>if 0<=(fe up k).1 then fe up k::Bv up f (fe up k).1.toNat else []
def l6(up:ei)(k:Nat):ei:=Bv up (k+1) k
def ri(P:List Nd)(c:Int)(l:ei):Bool:=l.any λa=>(nd P a.1.toNat).cls==c
def oT(n i:Nat)(kids:List Int)(up:ei):Nat->Option ei
 |0=>some up
 |o+1=>(oT n i kids up o).bind λu=>if mB n i (kids.getD o 0)=true/\(fe u (kids.getD o 0).toNat).1<0 then some (u.set (kids.getD o 0).toNat ((i:Int),(o:Int))) else none
def pA(m:aj)(P:List Nd)(i:Nat)(up:ei):Option ei :=
 if 0<i/\(fe up i).1<0 then none
 else if m4 m (nd P i)=false then none
 else if(nd P i).cls = -1 then some up
 else if ri P (nd P i).cls (l6 up i)=true then none
 else oT P.length i (nd P i).kids up (nd P i).kids.length
def m7(m:aj)(P:List Nd):Nat->Option ei
 |0=>some (Bu P.length)
 |i+1=>(m7 m P i).bind (pA m P i)
def oa(m:aj)(P:List Nd):Option ei:=if 1<=P.length/\P.length<=20000 then m7 m P P.length else none
def abW{n i:Nat}{kids:List Int}{up:ei}{o:Nat}(h:oT n i kids up o=none):∀ o',o<=o'->oT n i kids up o'=none:=by
 intro o' ho
 induction o' with
 |zero =>
  obtain rfl:o=0:=GC;exact h
 |succ q ih =>
  by_cases e:o=q+1
  ·subst e;exact h
  ·have:=ih GC;show(oT n i kids up q).bind _=none;rw[this];rfl
def OD{m:aj}{P:List Nd}{o:Nat}(h:m7 m P o=none):∀ o',o<=o'->m7 m P o'=none:=by
 intro o' ho
 induction o' with
 |zero =>
  obtain rfl:o=0:=GC;exact h
 |succ q ih =>
  by_cases e:o=q+1
  ·subst e;exact h
  ·have:=ih GC;show(m7 m P q).bind _=none;rw[this];rfl
structure UI(P:List Nd)(i o:Nat)(up:ei):Prop where
 len:up.length=P.length
 low:∀ j,j<P.length->fe up j=(-1,0)\/∃ p q:Nat,fe up j=((p:Int),(q:Int))/\p<j/\q<(nd P p).kids.length/\(p<i\/p=i/\q<o)
 set:∀ p q,(p<i\/p=i/\q<o)->p<P.length->q<(nd P p).kids.length->∃ j,j<P.length/\p<j/\(nd P p).kids.getD q 0=(j:Int)/\fe up j=((p:Int),(q:Int))
 Bw:∀ j:Nat,j<P.length->((gz (P.take i)++(nd P i).kids.take o).count (j:Int)=if 0<=(fe up j).1 then 1 else 0)
def abX(n j:Nat)(h:j<n):fe (Bu n) j=(-1,0):=by
 unfold fe Bu;rw[aA,List.getElem?_replicate_of_lt h];rfl
def UI.zero(P:List Nd):UI P 0 0 (Bu P.length) where
 len:=qg
 low j hj:=.inl (abX _ _ hj)
 set p q h:=GC
 Bw j hj:=by rw[abX _ _ hj];simp[gz]
def JA{up:ei}{k j:Nat}{x:Int×Int}(hk:k<up.length):fe (up.set k x) j=if k=j then x else fe up j:=by
 unfold fe;rw[aA,cA];by_cases e:k=j
 ·subst e;rw[if_pos rfl,if_pos hk,if_pos rfl];rfl
 ·rw[if_neg e,if_neg e,aA]
def UI.Cw{P:List Nd}{i o:Nat}{up:ei}(h:UI P i o up)(hi:i<P.length)(ho:o<(nd P i).kids.length)(hk:mB P.length i ((nd P i).kids.getD o 0)=true)(hu:(fe up ((nd P i).kids.getD o 0).toNat).1<0):
  UI P i (o+1) (up.set ((nd P i).kids.getD o 0).toNat ((i:Int),(o:Int))):=by
 unfold mB at hk;rw[decide_eq_true_eq]at hk;have im:(nd P i).kids.take (o+1)=(nd P i).kids.take o++[(nd P i).kids.getD o 0]:=eG ho;generalize iO:(nd P i).kids.getD o 0=k at *;obtain⟨kn,rfl⟩:∃kn:Nat,k=kn:=⟨k.toNat,GC⟩;rw[fq]at hu ⊢;have cI:kn<up.length:=by rw[h.len];omega
 refine⟨by rw[List.length_set];exact h.len,λj hj=>?_,λp q pj hp hq=>?_,λj hj=>?_⟩
 ·rw[JA cI];by_cases e:kn=j
  ·subst e;rw[if_pos rfl];exact .inr ⟨i,o,rfl,GC,ho,.inr ⟨rfl,GC⟩⟩
  ·rw[if_neg e];rcases h.low j hj with h1|⟨p,q,h1,h2,h3,h4⟩
   ·exact .inl h1
   ·exact .inr ⟨p,q,h1,h2,h3,GC⟩
 ·by_cases e:p=i/\q=o
  ·obtain⟨rfl,rfl⟩:=e;exact⟨kn,GC,GC,iO,by rw[JA cI,if_pos rfl]⟩
  ·obtain⟨j,h1,h2,h3,h4⟩:=h.set p q GC hp hq;refine⟨j,h1,h2,h3,?_⟩;rw[JA cI,if_neg ?_,h4];rintro rfl;rw[h4]at hu;dsimp only at hu;omega
 ·rw[im,<- cM,tC,h.Bw j hj,JA cI];by_cases e:kn=j
  ·subst e;rw[if_neg GC,if_pos rfl,if_pos PA];simp
  ·have hb:((kn:Int)==(j:Int))=false:=by rw[beq_eq_false_iff_ne];omega
   rw[if_neg e,List.count_singleton,hb];rfl
def abY{P:List Nd}{i:Nat}(hi:i<P.length):P.take (i+1)=P.take i++[nd P i]:=eG hi
def UI.next{P:List Nd}{i:Nat}{up:ei}(h:UI P i (nd P i).kids.length up)(hi:i<P.length):UI P (i+1) 0 up where
 len:=h.len
 low j hj:=by
  rcases h.low j hj with h1|⟨p,q,h1,h2,h3,h4⟩
  ·exact .inl h1
  ·exact .inr ⟨p,q,h1,h2,h3,GC⟩
 set p q pj hp hq:=h.set p q (by
  by_cases e:p=i
  ·subst e;exact .inr ⟨rfl,hq⟩
  ·omega) hp hq
 Bw j hj:=by
  rw[List.take_zero,List.append_nil,abY hi,Ni,<- h.Bw j hj,List.take_length]
def UI.kids{P:List Nd}{i:Nat}(hi:i<P.length){up:ei}(h:UI P i 0 up):∀ o u,o<=(nd P i).kids.length->oT P.length i (nd P i).kids up o=some u->UI P i o u:=by
 intro o
 induction o with
 |zero=>intro u _ hu;cases hu;exact h
 |succ o ih =>
  intro u ho hu;unfold oT at hu;obtain⟨v,hv,hu⟩:=yE.1 hu;by_cases hc:mB P.length i ((nd P i).kids.getD o 0)=true/\(fe v ((nd P i).kids.getD o 0).toNat).1<0
  ·rw[if_pos hc]at hu;cases hu;exact(ih v GC hv).Cw hi GC hc.1 hc.2
  ·rw[if_neg hc]at hu;cases hu
def OE{m:aj}{x:Nd}(h:m4 m x=true)(hc:x.cls = -1):x.kids.length=0:=by
 unfold m4 at h;rw[if_pos hc,decide_eq_true_eq]at h;exact h.1
def UI.node{m:aj}{P:List Nd}{i:Nat}(hi:i<P.length){up u:ei}(h:UI P i 0 up)(hu:pA m P i up=some u):UI P (i+1) 0 u:=by
 unfold pA at hu;split at hu
 ·cases hu
 split at hu
 ·cases hu
 rename_i h1 h2;rw[z7]at h2;split at hu
 ·rename_i h3;cases hu;have:=OE h2 h3;refine UI.next ?_ hi;rw[this];exact h
 split at hu
 ·cases hu
 exact(UI.kids hi h _ _ (aN _) hu).next hi
def zS{m:aj}{P:List Nd}:∀ i u,i<=P.length->m7 m P i=some u->UI P i 0 u:=by
 intro i
 induction i with
 |zero=>intro u _ hu;cases hu;exact UI.zero P
 |succ i ih =>
  intro u hi hu;unfold m7 at hu;obtain⟨v,hv,hu⟩:=yE.1 hu;exact(ih v GC hv).node GC hu
def UI.lt{P:List Nd}{i o:Nat}{up:ei}(h:UI P i o up){k:Nat}(hk:k<P.length)(h0:0<=(fe up k).1):(fe up k).1.toNat<k:=by
 rcases h.low k hk with h1|⟨p,q,h1,h2,h3,h4⟩
 ·rw[h1]at h0;exact absurd h0 Px
 ·rw[h1];simpa using h2
def akZ{P:List Nd}{i o:Nat}{up:ei}(h:UI P i o up):∀ k,k<P.length->∀ f g,k+1<=f->k+1<=g->Bv up f k=Bv up g k:=by
 intro k
 induction k using Dq with
 |_ k ih =>
  intro hk f g hf hg;obtain⟨f,rfl⟩:∃f',f=f'+1:=⟨f-1,GC⟩;obtain⟨g,rfl⟩:∃g',g=g'+1:=⟨g-1,GC⟩;show(if 0<=(fe up k).1 then fe up k::Bv up f (fe up k).1.toNat else [])=(if 0<=(fe up k).1 then fe up k::Bv up g (fe up k).1.toNat else []);by_cases h0:0<=(fe up k).1
  ·have hl:=h.lt hk h0;rw[if_pos h0,if_pos h0,ih _ hl GC f g GC GC]
  ·rw[if_neg h0,if_neg h0]
def Dd{P:List Nd}{i o:Nat}{up:ei}(h:UI P i o up){k:Nat}(hk:k<P.length):
  l6 up k=if 0<=(fe up k).1 then fe up k::l6 up (fe up k).1.toNat else []:=by
 show(if 0<=(fe up k).1 then fe up k::Bv up k (fe up k).1.toNat else [])=_;by_cases h0:0<=(fe up k).1
 ·have hl:=h.lt hk h0;rw[if_pos h0,if_pos h0];congr 1;exact akZ h _ GC _ _ GC GC
 ·rw[if_neg h0,if_neg h0]
def ak0{m:aj}{P:List Nd}{i:Nat}{up:ei}(hi:i<P.length)(h:m7 m P i=some up)(hn:pA m P i up=none):oa m P=none:=by
 unfold oa;split
 ·refine OD (o:=i+1) ?_ _ GC;show(m7 m P i).bind _=none;rw[h];exact hn
 ·rfl
def abZ{n i:Nat}{kids:List Int}{up u:ei}{o:Nat}(h:oT n i kids up o=some u)(ho:o<kids.length)(hn:¬(mB n i (kids.getD o 0)=true/\(fe u (kids.getD o 0).toNat).1<0)):oT n i kids up kids.length=none:=by
 refine abW (o:=o+1) ?_ _ GC;show(oT n i kids up o).bind _=none;rw[h];show(if _ then _ else _)=_;rw[if_neg hn]
def ab0{n i:Nat}{kids:List Int}{up u:ei}{o:Nat}(h:oT n i kids up o=some u)(hn:mB n i (kids.getD o 0)=true/\(fe u (kids.getD o 0).toNat).1<0):oT n i kids up (o+1)=some (u.set (kids.getD o 0).toNat ((i:Int),(o:Int))):=by
 show(oT n i kids up o).bind _=_;rw[h];show(if _ then _ else _)=_;rw[if_pos hn]
end T

