import Derived.Test.YtjadfapldkfbpaaGreatX27
import Derived.Test.YtjadfapldkfbpaaGreatX41
set_option linter.all false
set_option maxHeartbeats 0
set_option maxRecDepth 20000
open List renaming mem_cons→cu,getElem?_eq_some_iff→aY,mem_map→cC,getD_cons_succ→gN,getD_eq_getElem?_getD→aG,getElem?_map→b6,getElem?_eq_getElem→bT,ext_getElem?→jR,map_cons→dK,getElem?_eq_none→ei,replicate→bG,length_replicate→ri,append_assoc→cY,length_set→bw,any_eq_false→yO,getElem?_set_ne→bM,nodup_cons→uH,range→aZ,mem_range→mi,count_eq_zero→P4,length→rq,getElem?_set→cm,length_map→eO
open Option renaming some→dD,map_some→fE
open Nat renaming zero_le→aF,le_refl→aR,sub_self→jv,strongRecOn→BS
open Int renaming toNat_natCast→ig,min_eq_left→KC
open Go Go.Am Go.Proofs
namespace T
def eC.amn(x:Ob):eC [(1,.arr 1 []),(0,x)] [] [] [x,.arr 1 []]:=⟨G9,rfl,G9,(show([1,0]:List Nat).Nodup by decide)⟩
def eC.Dt{D:List (Nat×Nat)}{S:List (List Bool)}{os:List Ob}{oi:Nat}(h:eC [(oi,.arr 1 (rowsOf m9 D))] D S os)(e:Nat->AV):
  pH 0 ⟨e,os⟩ (.ref oi 1 0 S.length) (.ref 0 1 0 S.length) (.arr 1 (lB 1 S)::qL S):=by
 have hd:=h.len;have h1:=h.base (oi,.arr 1 (rowsOf m9 D)) G9;dsimp only at h1;have hl:∀ i∈oi::D.map (·.1),i<os.length:=λi hi=>by
  rcases cu.1 hi with rfl|hi
  ·exact(aY.1 h1).1
  obtain⟨q,hq,rfl⟩:=cC.1 hi;obtain⟨k,hk,rfl⟩:=List.mem_iff_getElem.1 hq;have h3:=(h.row k hk).1;have a1:D.getD k default=D[k]:=by simp[hk]
  rw[a1]at h3;exact(aY.1 h3).1
 have MR:∀ j,j<S.length->bA os.length (oi::D.map (·.1)) (1+j)=(D.getD j default).1:=λj hj=>by
  unfold bA;rw[if_pos PX,show 1+j=j+1 by omega,gN,aG,b6,aG,bT G3];rfl
 refine⟨oi::D.map (·.1),false,by simpa using h.nd,by simp[IJ,hd],λj o hj=>.inr ?_,hl,G9,λi hi=>?_,.eq ?_⟩
 ·match j with
  |0 =>
   simp only[List.getElem?_cons_zero,dD.injEq]at hj;subst hj;refine h1.trans (congrArg some ?_);rw[bU];refine congrArg _ (jR λi=>?_);rw[b6];by_cases hi:i<S.length
   ·rw[IL h hi,Fe 1 S i hi,fE,dK,List.map_nil,br,MR i hi]
   ·rw[ei (by simp[rowsOf];omega),ei (by rw[IK];omega)];rfl
  |j+1 =>
   simp only[List.getElem?_cons_succ]at hj;have kL:j<S.length:=by have:=(aY.1 hj).1;rwa [IJ]at this
   have h3:=(h.row j G3).1;unfold qL at hj;rw[b6,bT kL]at hj;simp only[fE,dD.injEq]at hj;subst hj;rw[Ai];have e1:(oi::D.map (·.1)).getD (j+1) 0=(D.getD j default).1:=by
    rw[gN,aG,b6,aG,bT G3];rfl
   have e2:S.getD j default=S[j]:=by rw[aG,bT kL];rfl
   rw[e1,<- e2];exact h3
 ·omega
 ·rw[br];have:bA os.length (oi::D.map (·.1)) 0=oi:=by unfold bA;rw[if_pos G9];rfl
  rw[this]
def amo(m:ah)(hm:MB m)(hv:VM m):an Tryz.prog 117 [.agg (ao m)] [] (.ref 0 1 0 (fM m).length) (.arr 1 (lB 1 (fM m))::qL (fM m)):=by
 have h1:=Bf m hm;have rX:=hm.cls;have Np:fM m=mK m:=if_pos (iu.2 hv);generalize aj:fM m=res;refine an.aC 38 0 [.tmp 2] Tryz.func117 ?_;rw[iu.2 hv]at h1;have nL:=hv.cls;((repeat'(first|refine Vd @bne_self_eq_false.{0} h1 ?_|(refine Xi ?_ ?_<;>try intro ht)|exact Xx|fail)))
 refine aO (λz:Nat×List (List Bool)×List Ob×Nat×List (Nat×Nat)=>(⟨au [(1,.ptr 0 0 0),(3,.ref z.2.2.2.1 1 0 z.2.2.2.2.length),(4,aaa z.1)],z.2.2.1⟩:St))
  (λz=>z.1<=m.cls.length/\z.2.1=(mK m).take z.1/\eC [(z.2.2.2.1,.arr 1 (rowsOf m9 z.2.2.2.2)),(0,.var (ao m))] z.2.2.2.2 z.2.1 z.2.2.1) (λz=>m.cls.length-z.1) (0,[],[.var (ao m),.arr 1 []],1,[]) ⟨aF _,rfl,eC.amn _⟩ ?_ ?_
 ·refine ay.trans (ay.nil 3 1 (by simp only[Kc,simprocAttr]) Kq) ?_;exact Xv X0
 rintro⟨i,xs,os,oi,D⟩⟨hi,dj,hB⟩Ql ak ar;dsimp only at hi dj hB ⊢;have gJ:(mK m).length=m.cls.length:=by simp[mK]
 have Bo:=hB.len;have fo:=hB.b0;have fm:=hB.b1;dsimp only at fm fo;by_cases hi':i<m.cls.length
 ·have qU:xs.length=i:=by rw[dj,List.length_take];omega
  have cq:(mK m).take (i+1)=xs++[bG (m.cls.getD i default).length true]:=by
   rw[eJ G3,<- dj];unfold mK;rw[kU _ _ _ hi']
  have sh:=hv.opt _ (aB (d:=default) hi');generalize aM:m.cls.getD i default=c at *;((repeat'(first|refine Va (X3 @fm @aM @a9.eq_1) ?_|(refine Xi ?_ ?_<;>try intro ht)|exact Xx|fail)))
  refine aO (λz:Nat×List Ob=>(⟨au [(1,.ptr 0 0 0),(3,.ref oi 1 0 D.length),(4,aaa i),(5,.ref os.length 1 0 c.length),(6,aaa z.1)],z.2⟩:St))
   (λz=>z.1<=c.length/\eC [(os.length,.arr 1 (aX (bG z.1 true++bG (c.length-z.1) false))),(oi,.arr 1 (rowsOf m9 D)),(0,.var (ao m))] D xs z.2) (λz=>c.length-z.1)
   (0,os++[.arr 1 (aX (bG 0 true++bG (c.length-0) false))]) ⟨aF _,(hB.app _).add (kj _ _ _) (hB.fresh (aR _))⟩ (by simp only[Nat.sub_zero,List.replicate_zero,List.nil_append];exact Xv X0) ?_
  rintro⟨k,te⟩⟨hk,uw⟩cL a7 ba;dsimp only at hk uw ⊢;have cZ:(bG k true++bG (c.length-k) false).length=c.length:=PX;have Ph:=uw.b0;have J6:=uw.b1;have fm1:=uw.b2;dsimp only at Ph J6 fm1;by_cases aL:k<c.length
  ·have iq:(bG k true++bG (c.length-k) false).set k true=bG (k+1) true++bG (c.length-(k+1)) false:=by
    rw[List.set_append_right _ _ G9,ri,jv,show c.length-k=(c.length-(k+1))+1 by omega,List.replicate_succ,List.set_cons_zero,List.replicate_succ',cY];rfl
   ((repeat'(first|refine Va (X3 @Ph @cZ @wc) ?_|(refine Xi ?_ ?_<;>try intro ht)|exact Xx|fail)))
   rw[iq];exact a7 _ (k+1,te.set os.length (.arr 1 (aX (bG (k+1) true++bG (c.length-(k+1)) false)))) ⟨Kw,uw.put _⟩ Kw (Xv X0)
  ·obtain rfl:k=c.length:=G3;((repeat'(first|refine Va @Ph ?_|(refine Xi ?_ ?_<;>try intro ht)|exact Xx|fail)))
   refine ba _ _ rfl ?_;clear a7 ba cL;repeat(refine Xu ?_)
   rw[jv,List.replicate_zero,List.append_nil]at *;have q8:=uw.snoc;rw[ri]at q8;obtain⟨qb,dV⟩:=q8.drop;generalize os.length=p at *;refine Va (X5 @J6 (bf J6) (gz J6) @Yh (X4 @cD @cY.{0} @List.length_append.{0} @bw.{0})) ?_;refine ak _ (i+1,xs++[bG c.length true],te.set oi .gone++[.arr 1 [[.ref p 1 0 c.length]],.arr 1 (rowsOf m9 (D++[(p,c.length)]))],te.length+1,D++[(p,c.length)]) ⟨Kw,cq.symm,?_⟩ Kw ?_
   ·refine((qb.other dV .gone).app _).add ?_ ((qb.other dV .gone).fresh G9);have vx:(te.set oi Ob.gone).length=te.length:=bw ..;rw[<- vx,nN];rfl
   ·exact Xv X0
 ·rw[List.take_of_length_le G3]at dj;((repeat'(first|refine Va @fm ?_|(refine Xi ?_ ?_<;>try intro ht)|exact Xx|fail)))
  refine ar _ _ rfl ?_;clear ak ar Ql;repeat(refine Xu ?_)
  refine Vb X0 ?_;have Dz:res=xs:=by rw[<- aj,Np,dj]
  subst Dz;have h3:=(hB.swap.drop).1;rw[Bo];exact h3.Dt _
def vM(m:ah)(P:List Nd)(up:eh)(k:Nat):List (List Bool):=qa P (lR up k) (fM m)
def acX{P:List Nd}{i o:Nat}{up:eh}(h:UI P i o up):∀ k,k<P.length->∀ a∈lR up k,∃ p q:Nat,a=((p:Int),(q:Int))/\p<k/\q<(nd P p).kids.length:=by
 intro k
 induction k using BS with
 |_ k ih =>
  intro hk a ha;rw[DA h hk]at ha;rcases h.low k hk with h1|⟨p,q,h1,h2,h3,_⟩
  ·rw[h1,if_neg Kq]at ha;cases ha
  ·rw[h1,if_pos Kw]at ha;rcases cu.1 ha with rfl|ha
   ·exact⟨p,q,rfl,h2,h3⟩
   ·dsimp only at ha;rw[ig]at ha;obtain⟨p',q',e1,e2,e3⟩:=ih p h2 G3 a ha;exact⟨p',q',e1,G3,e3⟩
def J7{m:ah}{P:List Nd}(h:j4 m P=true){p:Nat}(hp:p<P.length){q:Nat}(hq:q<(nd P p).kids.length):0<=(nd P p).cls/\(nd P p).cls<m.cls.length:=by
 have wF:=FV h hp;unfold lL at wF;rw[Bool.and_eq_true]at wF;have h1:=wF.1;by_cases hc:(nd P p).cls = -1
 ·have:=Pj h1 hc;omega
 ·unfold nf at h1;rw[if_neg hc,decide_eq_true_eq]at h1;exact⟨h1.1,h1.2.1⟩
def acY{m:ah}{P:List Nd}{up:eh}(h:nY m P=some up):∀ v∈vs P (root m),v.2.2.contains (nd P v.1).cls=false:=by
 intro v hv;have hs:=Dy h;have hl:=wY hs;have hd:=wW hs;have sm:=Jr hd _ (root m) (show 0<P.length by omega) v hv;obtain⟨u,w,hu,hw⟩:=acZ (GV h).2 v.1 sm;have lE:=zY _ _ G3 hu;have lq:=J8 hd lE G3 v hv G3;rw[<- Pk lq];by_cases hc:(nd P v.1).cls = -1
 ·unfold q9;rw[yO];intro a ha;obtain⟨p,q,e1,e2,e3⟩:=acX lE v.1 sm a ha;subst e1;have:=J7 hs (show p<P.length by omega) e3;dsimp only;rw[ig,hc,beq_iff_eq];omega
 ·exact(Pl hw).2.2.1 hc
def amq(x:List (List Bool)){a b:Nat}(h:a≠b)(o q:Nat):cf (cf x a o) b q=cf (cf x b q) a o:=by
 have g:∀ {a b:Nat} (r:List Bool),a≠b->(x.set a r).getD b default=x.getD b default:=λr h=>by
  rw[aG,bM h,<- aG]
 unfold cf;rw[g _ h,g _ (Ne.symm h)];exact List.set_comm _ _ h
def yG(P:List Nd)(l:eh):List Nat:=l.map λa=>(nd P a.1.toNat).cls.toNat
def amr{P:List Nd}(a:Int×Int):∀ (l:eh) (x:List (List Bool)),(nd P a.1.toNat).cls.toNat ∉ yG P l->qa P (l++[a]) x=qa P (a::l) x:=by
 intro l
 induction l with
 |nil=>intro x _;rfl
 |cons b l ih =>
  intro x hx;have h1:(nd P b.1.toNat).cls.toNat≠(nd P a.1.toNat).cls.toNat:=λe=>hx (by unfold yG;rw[dK,e];simp);have h2:(nd P a.1.toNat).cls.toNat ∉ yG P l:=λe=>hx (by unfold yG at e ⊢;rw[dK];exact List.mem_cons_of_mem _ e);show qa P (l++[a]) (cf x _ _)=qa P l (cf (cf x _ _) _ _);rw[ih _ h2];show qa P l (cf (cf x _ _) _ _)=_;rw[amq x h1]
def ams{P:List Nd}:∀ (l:eh) (x:List (List Bool)),(yG P l).Nodup->qa P l.reverse x=qa P l x:=by
 intro l
 induction l with
 |nil=>intro x _;rfl
 |cons b l ih =>
  intro x hx;unfold yG at hx;rw[dK,uH]at hx;rw[List.reverse_cons,amr b _ x (λhm=>hx.1 (by unfold yG at hm;rw[List.map_reverse,List.mem_reverse]at hm;exact hm))];show qa P l.reverse (cf x _ _)=qa P l (cf x _ _);exact ih _ hx.2
def amu{m:ah}{P:List Nd}{up:eh}(h:nY m P=some up):∀ k,k<P.length->(yG P (lR up k)).Nodup:=by
 have hs:=Dy h;have hl:=wY hs;have hd:=wW hs;have lE:=zY _ _ (aR _) (GV h).2;intro k
 induction k using BS with
 |_ k ih =>
  intro hk;rw[DA lE hk];rcases lE.low k hk with h1|⟨p,q,h1,h2,h3,_⟩
  ·rw[h1,if_neg Kq];exact List.nodup_nil
  ·rw[h1,if_pos Kw];unfold yG;dsimp only;rw[dK,uH,ig];refine⟨λhm=>?_,ih p h2 G3⟩;obtain⟨a,ha,e⟩:=cC.1 hm;obtain⟨v,hv,Pm⟩:=ac0 hs (show p<P.length by omega);have nD:=acY h v hv;rw[<- Pk (J8 hd lE G3 v hv G3),Pm]at nD;unfold q9 at nD;rw[yO]at nD;have:=nD a ha;obtain⟨p',q',e1,e2,e3⟩:=acX lE p G3 a ha;subst e1;have c1:=J7 hs (show p'<P.length by omega) e3;have c2:=J7 hs (show p<P.length by omega) h3;dsimp only at e this;rw[ig]at e this;rw[beq_iff_eq]at this;omega
def amv{m:ah}{P:List Nd}{up:eh}(h:nY m P=some up):∀ v∈vs P (root m),vM m P up v.1=v.2.1:=by
 intro v hv;have hs:=Dy h;have hl:=wY hs;have hd:=wW hs;have lE:=zY _ _ (aR _) (GV h).2;have sm:=Jr hd _ (root m) (show 0<P.length by omega) v hv;rw[(J8 hd lE G3 v hv G3).2,ams _ _ (amu h _ sm)];rfl
def xj(m:ah)(x:Nd)(left:List (List Bool)):Option Int :=
 if x.cls≠-1 then some 1099511627776
 else if 0<x.bh.length then(if mG m x left=true then some 1099511627776 else none)
 else if(jL m left x.cR).2=0 then some (jL m left x.cR).1 else none
def uE:List (Option Int)->Int->Option Int
 |[],b=>some b
 |none::_,_=>none
 |some v::l,b=>uE l (min b v)
def amw{l l':List (Option Int)}(h:l.Perm l'):∀ b,uE l b=uE l' b:=by
 induction h with
 |nil=>exact λ_=>rfl
 |cons x _ ih=>intro b;cases x<;>simp only[uE,ih]
 |swap x y l =>
  intro b;cases x<;>cases y<;>simp only[uE];congr 1;omega
 |trans _ _ h1 h2=>exact λb=>(h1 b).trans (h2 b)
def amx{m:ah}{P:List Nd}:∀ (L:List ee) (b:Int),b<=1099511627776->(∀ s∈L,s.2.2.contains (nd P s.1).cls=false) ->
  uE (L.map λs=>xj m (nd P s.1) s.2.1) b=if(kx P (iN m P) L b).2=true then some (kx P (iN m P) L b).1 else none:=by
 intro L
 induction L with
 |nil=>intro b _ _;rfl
 |cons s L ih =>
  intro b hb h;have hc:=h s G9;have hL:=λb hb=>ih b hb λt ht=>h t (by simp[ht]);rw[dK,kx,if_neg (show ¬(s.2.2.contains (nd P s.1).cls=true) by rw[hc];simp)];generalize Hz:(L.map λs=>xj m (nd P s.1) s.2.1)=ml at *;clear Hz ih;generalize gZ:iN m P b s=cs at *;unfold iN at gZ;subst gZ;unfold xj;by_cases h1:(nd P s.1).cls≠-1
  ·rw[if_pos h1,if_pos h1,if_pos rfl];show uE _ (min b _)=_;rw[KC hb];exact hL b hb
  ·rw[if_neg h1,if_neg h1];by_cases h2:0<(nd P s.1).bh.length
   ·rw[if_pos h2,if_pos h2];by_cases h3:mG m (nd P s.1) s.2.1=true
    ·rw[if_pos h3,h3,if_pos rfl];show uE _ (min b _)=_;rw[KC hb];exact hL b hb
    ·rw[if_neg h3,if_neg h3];rfl
   ·rw[if_neg h2,if_neg h2];by_cases h3:(jL m s.2.1 (nd P s.1).cR).2=0
    ·rw[if_pos h3,h3,if_pos (show(((0:Int)==0)=true) from rfl)];exact hL _ G3
    ·have h4:((jL m s.2.1 (nd P s.1).cR).2==0)=false:=beq_false_of_ne h3;rw[if_neg h3,h4];rfl
def vL(m:ah)(P:List Nd)(up:eh)(i:Nat):Option Int:=uE ((aZ i).map λk=>xj m (nd P k) (vM m P up k)) 1099511627776
def amy(x:Option Int):∀ (l:List (Option Int)) (b:Int),uE (l++[x]) b=(uE l b).bind λc=>x.map (min c):=by
 intro l
 induction l with
 |nil=>intro b;cases x<;>rfl
 |cons y l ih=>intro b;cases y with
  |none=>rfl
  |some v=>exact ih _
def acV(m:ah)(P:List Nd)(up:eh)(i:Nat):vL m P up (i+1)=(vL m P up i).bind λc=>(xj m (nd P i) (vM m P up i)).map (min c):=by
 unfold vL;rw[List.range_succ,List.map_append];exact amy _ _ _
def amz{m:ah}{P:List Nd}(h:j4 m P=true):((vs P (root m)).map (·.1)).Perm (aZ P.length):=by
 have hl:=wY h;rw[List.perm_iff_count];intro a;by_cases ha:a<P.length
 ·rw[aai h rfl a ha,List.nodup_range.count,if_pos (mi.2 ha)]
 ·rw[P4.2,P4.2 (by rw[mi];exact ha)];intro hm;obtain⟨v,hv,e⟩:=cC.1 hm;have:=Jr (wW h) _ (root m) (show 0<P.length by omega) v hv;omega
def jt(m:ah)(P:List Nd):Int×Bool :=
 match nY m P with
 |none=>(0,false)
 |some up=>match vL m P up P.length with
  |none=>(0,false)
  |some b=>(b,true)
def amm{m:ah}(hm:VM m)(P:List Nd):lY m P=jt m P:=by
 unfold jt;cases hf:nY m P with
 |none =>
  dsimp only;by_cases hs:j4 m P=true
  ·obtain⟨v,hv,hh⟩:=amA hs hf;generalize hc:lY m P=c;obtain⟨n,ok⟩:=c;cases ok
   ·unfold lY at hc;split at hc
    ·cases hc
    ·exact hc.symm
   ·obtain⟨_,_,h3⟩:=ZR hc;have:=((ZS h3).2 v hv).1;rw[this]at hh;cases hh
  ·have hw:sj m P (iN m P) 1099511627776=(1099511627776,false):=if_neg λh=>hs h.2;unfold lY;rw[hw,if_neg G9]
 |some up =>
  dsimp only;have hs:=Dy hf;have hw:sj m P (iN m P) 1099511627776=kx P (iN m P) (vs P (root m)) 1099511627776:=if_pos ⟨iu.2 hm,hs⟩;have hr:=amx (m:=m) (P:=P) (vs P (root m)) 1099511627776 (Int.le_refl _) (acY hf);have he:vL m P up P.length=uE ((vs P (root m)).map λs=>xj m (nd P s.1) s.2.1) 1099511627776:=by
   unfold vL;rw[<- amw ((amz hs).map _),List.map_map];congr 1;refine List.map_congr_left λv hv=>?_;show xj m (nd P v.1) (vM m P up v.1)=_;rw[amv hf v hv]
  rw[he,hr];unfold lY;rw[hw];by_cases h2:(kx P (iN m P) (vs P (root m)) 1099511627776).2=true
  ·rw[if_pos h2,if_pos h2]
  ·rw[if_neg h2,if_neg h2]
def nP(x y:Ob)(A:List (List AV))(Y:List (List Bool)):List Ob:=x::y::.arr 1 A::qL Y
def J9(x y:Ob)(A:List (List AV))(Y:List (List Bool)):(nP x y A Y)[0]?=some x:=rfl
def J'(x y:Ob)(A:List (List AV))(Y:List (List Bool)):(nP x y A Y)[1]?=some y:=rfl
def GW(x y:Ob)(A:List (List AV))(Y:List (List Bool)):(nP x y A Y)[2]?=some (.arr 1 A):=rfl
def nPk(x y:Ob)(A:List (List AV)){Y:List (List Bool)}{i:Nat}(h:i<Y.length):(nP x y A Y)[3+i]?=some (.arr 1 (aX (Y.getD i default))):=by
 have:=nOk y A h;have e:3+i=(2+i)+1:=G3;rw[e];exact this
def nPs(x y:Ob)(A:List (List AV))(Y:List (List Bool))(i:Nat)(r:List Bool):(nP x y A Y).set (3+i) (.arr 1 (aX r))=nP x y A (Y.set i r):=by
 have:=nOs y A Y i r;have e:3+i=(2+i)+1:=G3;rw[e];show x::(nO y A Y).set (2+i) _=_;rw[this];rfl
def amC{x:List (List Bool)}{i:Nat}{r:List Bool}(hr:r.length=(x.getD i default).length):(x.set i r).map rq=x.map rq:=by
 apply jR;intro j;rw[b6,b6,cm];split
 ·rename_i e;subst e;split
  ·rename_i h2;rw[bT h2] ;rw[aG,bT h2]at hr;simpa using hr
  ·rename_i h2;rw[ei G3]
 ·rfl
def amD{w o k:Nat}{r:List Bool}(hw:r.length=w)(h:∀ b,b<k->r.getD b false=(b==o))(hk:k<w):∀ b,b<k+1->(r.set k (k==o)).getD b false=(b==o):=by
 intro b hb;rw[aG,cm];by_cases e:k=b
 ·subst e;rw[if_pos rfl,if_pos G3];rfl
 ·rw[if_neg e,<- aG];exact h b G3
def amE{w o:Nat}{r:List Bool}(hw:r.length=w)(h:∀ b,b<w->r.getD b false=(b==o)):r=nS w o:=by
 apply jR;intro b;unfold nS;rw[cm,ri];by_cases hb:b<w
 ·have:=h b hb;rw[aG,bT G3,Option.getD_some]at this;rw[bT G3,this];by_cases e:o=b
  ·subst e;rw[if_pos rfl,if_pos hb];simp
  ·rw[if_neg e,List.getElem?_replicate_of_lt hb];congr 1;exact beq_false_of_ne (Ne.symm e)
 ·rw[ei G3];by_cases e:o=b
  ·subst e;rw[if_pos rfl,if_neg hb]
  ·rw[if_neg e,ei PX]
def aml(m:ah)(P:List Nd)(up:eh)(node:Nat)(hm:MB m)(hv:VM m)(hP:PB P)(hf:nY m P=some up)(b7:node<P.length):
  an Tryz.prog 80 [.agg (ao m),.agg (aU P),.tree 2 (rowsOf aK up),aaa node] [] (.tree 1 (rowsOf aT (vM m P up node))) []:=by
 have x7:=hP.sU;have yk:=Dy hf;have dh:=(wY yk).2;have nL:=hv.cls;have h1:=amo m hm hv;have lE:=zY _ _ (aR _) (GV hf).2;have j9:=lE.len;have hJ:=C7 hv;have fK:=hJ.1;have amF:vM m P up node=qa P (lR up node) (fM m):=rfl;generalize aj:vM m P up node=res at *;generalize eB:fM m=Y0 at *;have cZ:(lB 3 Y0).length=Y0.length:=IK 3 Y0;refine an.aC 60 0 [.tmp 8] Tryz.func80 ?_;((refine Va @aU.eq_1 ?_)<;>try with_reducible intro K hK)
 refine ez [] h1 Kq trivial ⟨.pure rfl,trivial⟩ ?_;have ha:bU (bA 2 []) (.arr 1 (lB 1 Y0))=.arr 1 (lB 3 Y0):=by
  rw[bU,agJ (bA 2 []) Y0 3 1 λj hj=>by unfold bA;rw[if_neg G9];simp;omega]
 have rV:(qL Y0).map (bU (bA 2 []))=qL Y0:=agK _ _;have hc:br (bA 2 []) (.ref 0 1 0 Y0.length)=.ref 2 1 0 Y0.length:=rfl;have hd:∀ (l n:List Ob),fi l [] n=l++n:=λl n=>by cases n<;>simp[fi]
 show opsL _ _ _ _ (St.put ⟨_,fi [_,_] [] (List.map (bU (bA 2 [])) _)⟩ _ (br (bA 2 []) _));rw[dK,ha,rV,hc,hd];simp(disch:=omega)only[Ac,↓Pc,simprocAttr];refine hK _ ?_;clear hK K;refine bD (σ':=⟨au [(2,.tree 2 (rowsOf aK up)),(3,aaa node),(5,.ptr 1 0 0),(9,.ref 2 1 0 Y0.length)],nP (.var (ao m)) (.var (aU P)) (lB 3 Y0) Y0⟩) (by unfold nP;exact Xv @aU.eq_1) ?_;refine Va X0 ?_;refine aO (λz:Nat×List (List Bool)=>(⟨au [(2,.tree 2 (rowsOf aK up)),(5,.ptr 1 0 0),(9,.ref 2 1 0 Y0.length),(10,aaa z.1)],nP (.var (ao m)) (.var (aU P)) (lB 3 Y0) z.2⟩:St))
  (λz=>z.1<P.length/\z.2.map rq=Y0.map rq/\qa P (lR up z.1) z.2=res) (λz=>z.1) (node,Y0) ⟨b7,rfl,amF.symm⟩ (Xv X0) ?_
 rintro⟨k,Y⟩⟨hk,hY,sC⟩Ql ak ar;dsimp only at hk hY sC ⊢;have Pn:=congrArg rq hY;rw[eO,eO]at Pn;have hfY:=FN hJ hY;rw[DA lE hk]at sC;have Da:=lE.low k hk;unfold fh at sC Da;generalize yH:up.getD k default=uk at *;rcases Da with h1|⟨p,q,h1,h2,h3,_⟩
 ·subst h1;rw[if_neg Kq]at sC;have hY2:Y=res:=sC;subst hY2;((repeat'(first|refine Va (X5 @yH @aK.eq_1 @j9 @J9 (X2 @J' @GW)) ?_|(refine Xi ?_ ?_<;>try intro ht)|exact Xx|fail)))
  refine ar _ _ rfl ?_;clear ak ar Ql;repeat(refine Xu ?_)
  refine Vb X0 ?_;refine Ma [] true trivial ?_;rw[<- Pn];exact .snap _ _ rfl (agN (GW _ _ _ _) (iD Kq) (by rw[cZ];exact Pn.symm) λa ha=>⟨3+a,by rw[agI 3 hY.symm];exact Fe 3 Y a ha,nPk _ _ _ ha,iD G9⟩)
 ·subst h1;rw[if_pos Kw]at sC;dsimp only at sC;rw[ig]at sC;have u9:=J7 yk (show p<P.length by omega) h3;have sC:qa P (lR up p) (cf Y (nd P p).cls.toNat q)=res:=sC;unfold nd at sC u9;generalize gA:P.getD p default=y at *;obtain⟨c,y1,y2,y3,y4⟩:=y;dsimp only at sC u9;obtain⟨c,rfl⟩:∃cn:Nat,c=cn:=⟨c.toNat,G3⟩;rw[ig]at sC;have Po:=hfY.2 c G3;have amI:=hJ.2 c G3;have sh:=hv.opt _ (aB (l:=m.cls) (i:=c) (d:=default) G3);have jN:=Fe 3 Y0 c G3;rw[amI]at jN;generalize aM:(m.cls.getD c default).length=w at *;((repeat'(first|refine Va (X5 @aU.eq_1 @yH @aK.eq_1 @j9 (X5 @gA @az.eq_1 @J9 @J' @GW)) ?_|(refine Xi ?_ ?_<;>try intro ht)|exact Xx|fail)))
  refine aO (λz:Nat×List Bool=>(⟨au [(2,.tree 2 (rowsOf aK up)),(5,.ptr 1 0 0),(9,.ref 2 1 0 Y0.length),(10,aaa k),(11,aaa c),(12,aaa z.1)],nP (.var (ao m)) (.var (aU P)) (lB 3 Y0) (Y.set c z.2)⟩:St))
   (λz=>z.1<=w/\z.2.length=w/\∀ b,b<z.1->z.2.getD b false=(b==q)) (λz=>w-z.1) (0,Y.getD c default) ⟨aF _,Po,λa ha=>absurd ha (Nat.not_lt_zero _)⟩ (by rw[Fo];exact Xv @aU.eq_1) ?_
  rintro⟨o,r⟩⟨ho,hr,mX⟩cL a7 ba;dsimp only at ho hr mX ⊢;have hYs:(Y.set c r).length=Y.length:=bw ..;have f2:=nPk (.var (ao m)) (.var (aU P)) (lB 3 Y0) (Y:=Y.set c r) (i:=c) G3;rw[vr _ _ _ G3]at f2;have f3:=λr2=>nPs (.var (ao m)) (.var (aU P)) (lB 3 Y0) (Y.set c r) c r2;simp only[List.set_set]at f3;unfold aU ao at f2 f3;by_cases cy:o<w
  ·((repeat'(first|refine Va (X5 @aU.eq_1 @yH @aK.eq_1 @j9 (X5 @J9 @J' @GW @jN (X4 @f2 @f3 @wc @hr))) ?_|(refine Xi ?_ ?_<;>try intro ht)|exact Xx|fail)))
   have amJ:((o:Int)==(q:Int))=(o==q):=by rw[Bool.eq_iff_iff,beq_iff_eq,beq_iff_eq];omega
   rw[amJ];refine a7 _ (o+1,r.set o (o==q)) ⟨Kw,by dsimp only;rw[bw];exact hr,amD hr mX cy⟩ Kw (Xv @aU.eq_1)
  ·obtain rfl:o=w:=G3;((repeat'(first|refine Va (X5 @aU.eq_1 @yH @aK.eq_1 @j9 (X5 @J9 @J' @GW @jN @f2)) ?_|(refine Xi ?_ ?_<;>try intro ht)|exact Xx|fail)))
   refine ba _ _ rfl ?_;clear a7 ba cL;repeat(refine Xu ?_)
   have hre:=amE hr mX;refine Va (X4 @aU.eq_1 @yH @aK.eq_1 @j9) ?_;refine ak _ (p,Y.set c r) ⟨Kw,?_,?_⟩ Kw (Xv @aU.eq_1)
   ·dsimp only;rw[amC (by rw[hr,Po])];exact hY
   ·dsimp only;rw[hre,<- sC];unfold cf;rw[Po]
def eC.setRow{B:List (Nat×Ob)}{D:List (Nat×Nat)}{S:List (List Bool)}{os:List Ob}(h:eC B D S os){j:Nat}(hj:j<S.length){r:List Bool}(hr:r.length=(S.getD j default).length):
  eC B D (S.set j r) (os.set (D.getD j default).1 (.arr 1 (aX r))):=by
 have pK:j<D.length:=by rw[h.len];exact hj
 have b7:=List.nodup_append.1 h.nd;have hDj:D.getD j default=D[j]:=by simp[pK]
 have bJ:(D.getD j default).1∈D.map (·.1):=by rw[hDj];exact cC.2 ⟨_,List.getElem_mem pK,rfl⟩
 refine⟨λb hb=>?_,by rw[bw];exact h.len,λk hk=>?_,h.nd⟩
 ·rw[bM ?_]
  ·exact h.base b hb
  ·intro e;exact b7.2.2 _ (cC.2 ⟨b,hb,rfl⟩) _ bJ e.symm
 ·obtain⟨h1,h2⟩:=h.row k hk;by_cases e:k=j
  ·subst e;have bx:=(aY.1 h1).1;have hg:(S.set k r).getD k default=r:=by rw[aG,cm,if_pos rfl,if_pos hj];rfl
   rw[cm,if_pos rfl,if_pos bx,hg];exact⟨rfl,hr.trans h2⟩
  ·have hg:(S.set j r).getD k default=S.getD k default:=by rw[aG,bM (Ne.symm e),<- aG]
   rw[hg,bM ?_]
   ·exact⟨h1,h2⟩
   ·intro e2;have hDk:D.getD k default=D[k]:=by simp[hk]
    rw[hDj,hDk]at e2;have hp:=List.pairwise_iff_getElem.1 b7.2.1;rcases Nat.lt_or_gt_of_ne e with hl|hl
    ·exact hp k j (by simpa using hk) (by simpa using pK) hl (by simpa using e2.symm)
    ·exact hp j k (by simpa using pK) (by simpa using hk) hl (by simpa using e2)
end T

