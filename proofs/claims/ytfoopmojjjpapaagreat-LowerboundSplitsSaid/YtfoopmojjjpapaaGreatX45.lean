import Derived.Test.YtfoopmojjjpapaaGreatX32
import Derived.Test.YtfoopmojjjpapaaGreatX44
set_option linter.all false
set_option maxHeartbeats 0
set_option maxRecDepth 20000
open Nat renaming zero_le→aP,le_refl→aZ,sub_self→jC,strongRecOn→AP
open List renaming replicate→aK,replicate_zero→EB,length_replicate→nx,append_assoc→bH,length_set→bJ,any_eq_false→AT,getD_eq_getElem?_getD→ay,map_cons→ez,nodup_cons→nC,mem_map→bY,range→bn,mem_range→nB,count_eq_zero→Q5,length→nF,ext_getElem?→lq,getElem?_map→bM,getElem?_set→bU,getElem?_eq_getElem→bx,getElem?_eq_none→dN,getElem?_replicate_of_lt→K4,length_map→gD,getElem?_range→lk,contains_iff_mem→ny,length_range→KR,any_append→Q6
open Int renaming toNat_natCast→dg,min_eq_left→KY
open Option renaming getD_some→lR,map_some→fc
open Bool renaming eq_iff_iff→mz
open Go Go.Am Go.Proofs
namespace T
def aoH(m:ah)(hm:MB m)(hv:VM m):Holds Tryz.prog 12 [.agg (ao m)] [] (.ref 0 1 0 (b9 m).length) (.arr 1 (lh 1 (b9 m))::rf (b9 m)):=by
 have h1:=Fk m hm;have sr:=hm.cls;have aoI:b9 m=fZ m:=if_pos (kf.2 hv);generalize an:b9 m=res;refine Holds.aM 38 0 [.tmp 2] Tryz.func12 ?_;rw[kf.2 hv]at h1;have np:=hv.cls;((repeat'(first|refine Vd @bne_self_eq_false.{0} h1 ?_|(refine Xi ?_ ?_<;>try intro ht)|exact Xx|fail)))
 refine aQ (λz:Nat×List (List Bool)×List Ob×Nat×List (Nat×Nat)=>(⟨ar [(1,.ptr 0 0 0),(3,.ref z.2.2.2.1 1 0 z.2.2.2.2.length),(4,QM z.1)],z.2.2.1⟩:St))
  (λz=>z.1<=m.cls.length/\z.2.1=(fZ m).take z.1/\dI [(z.2.2.2.1,.arr 1 (rowsOf nu z.2.2.2.2)),(0,.var (ao m))] z.2.2.2.2 z.2.1 z.2.2.1) (λz=>m.cls.length-z.1) (0,[],[.var (ao m),.arr 1 []],1,[]) ⟨aP _,rfl,dI.ale _⟩ ?_ ?_
 ·refine aD.trans (aD.nil 3 1 (by simp only[Kc,simprocAttr]) Hg) ?_;exact Xv X0
 rintro⟨i,xs,os,oi,D⟩⟨hi,cJ,hB⟩Ql ak aq;dsimp only at hi cJ hB ⊢;have nh:(fZ m).length=m.cls.length:=by simp[fZ]
 have B4:=hB.len;have fo:=hB.b0;have fm:=hB.b1;dsimp only at fm fo;by_cases au:i<m.cls.length
 ·have uP:xs.length=i:=by rw[cJ,List.length_take];omega
  have eu:(fZ m).take (i+1)=xs++[aK (m.cls.getD i default).length true]:=by
   rw[ep Ey,<- cJ];unfold fZ;rw[kD _ _ _ au]
  have p8:=hv.opt _ (aF (d:=default) au);generalize a6:m.cls.getD i default=c at *;((repeat'(first|refine Va (X3 @fm @a6 @aT.eq_1) ?_|(refine Xi ?_ ?_<;>try intro ht)|exact Xx|fail)))
  refine aQ (λz:Nat×List Ob=>(⟨ar [(1,.ptr 0 0 0),(3,.ref oi 1 0 D.length),(4,QM i),(5,.ref os.length 1 0 c.length),(6,QM z.1)],z.2⟩:St))
   (λz=>z.1<=c.length/\dI [(os.length,.arr 1 (aV (aK z.1 true++aK (c.length-z.1) false))),(oi,.arr 1 (rowsOf nu D)),(0,.var (ao m))] D xs z.2) (λz=>c.length-z.1)
   (0,os++[.arr 1 (aV (aK 0 true++aK (c.length-0) false))]) ⟨aP _,(hB.app _).add (kF _ _ _) (hB.fresh (aZ _))⟩ (by simp only[Nat.sub_zero,EB,List.nil_append];exact Xv X0) ?_
  rintro⟨k,lI⟩⟨hk,ve⟩cR bg bm;dsimp only at hk ve ⊢;have cV:(aK k true++aK (c.length-k) false).length=c.length:=Hj;have Qf:=ve.b0;have Kz:=ve.b1;have JW:=ve.b2;dsimp only at Qf Kz JW;by_cases bj:k<c.length
  ·have iP:(aK k true++aK (c.length-k) false).set k true=aK (k+1) true++aK (c.length-(k+1)) false:=by
    rw[List.set_append_right _ _ G9,nx,jC,show c.length-k=(c.length-(k+1))+1 by omega,List.replicate_succ,List.set_cons_zero,List.replicate_succ',bH];rfl
   ((repeat'(first|refine Va (X3 @Qf @cV @uj) ?_|(refine Xi ?_ ?_<;>try intro ht)|exact Xx|fail)))
   rw[iP];exact bg _ (k+1,lI.set os.length (.arr 1 (aV (aK (k+1) true++aK (c.length-(k+1)) false)))) ⟨Hi,ve.put _⟩ Hi (Xv X0)
  ·obtain rfl:k=c.length:=Ey;((repeat'(first|refine Va @Qf ?_|(refine Xi ?_ ?_<;>try intro ht)|exact Xx|fail)))
   refine bm _ _ rfl ?_;clear bg bm cR;repeat(refine Xu ?_)
   rw[jC,EB,List.append_nil]at *;have qB:=ve.snoc;rw[nx]at qB;obtain⟨qE,eG⟩:=qB.drop;generalize os.length=p at *;refine Va (X5 @Kz (aR Kz) (jm Kz) @acf (X4 @bT @bH.{0} @List.length_append.{0} @bJ.{0})) ?_;refine ak _ (i+1,xs++[aK c.length true],lI.set oi .gone++[.arr 1 [[.ref p 1 0 c.length]],.arr 1 (rowsOf nu (D++[(p,c.length)]))],lI.length+1,D++[(p,c.length)]) ⟨Hi,eu.symm,?_⟩ Hi ?_
   ·refine((qE.other eG .gone).app _).add ?_ ((qE.other eG .gone).fresh G9);have pW:(lI.set oi Ob.gone).length=lI.length:=bJ ..;rw[<- pW,lf];rfl
   ·exact Xv X0
 ·rw[List.take_of_length_le Ey]at cJ;((repeat'(first|refine Va @fm ?_|(refine Xi ?_ ?_<;>try intro ht)|exact Xx|fail)))
  refine aq _ _ rfl ?_;clear ak aq Ql;repeat(refine Xu ?_)
  refine Vb X0 ?_;have El:res=xs:=by rw[<- an,aoI,cJ]
  subst El;have h3:=(hB.swap.drop).1;rw[B4];exact h3.alf _
def wR(m:ah)(P:List Nd)(up:dK)(k:Nat):List (List Bool):=qD P (lN up k) (b9 m)
def aeU{P:List Nd}{i o:Nat}{up:dK}(h:UI P i o up):∀ k,k<P.length->∀ a∈lN up k,∃ p q:Nat,a=((p:Int),(q:Int))/\p<k/\q<(nd P p).kids.length:=by
 intro k
 induction k using AP with
 |_ k ih =>
  intro hk a ha;rw[Em h hk]at ha;rcases h.low k hk with h1|⟨p,q,h1,h2,h3,_⟩
  ·rw[h1,if_neg Hg]at ha;cases ha
  ·rw[h1,if_pos Hi]at ha;rcases List.mem_cons.1 ha with rfl|ha
   ·exact⟨p,q,rfl,h2,h3⟩
   ·dsimp only at ha;rw[dg]at ha;obtain⟨p',q',e1,e2,e3⟩:=ih p h2 Ey a ha;exact⟨p',q',e1,Ey,e3⟩
def KA{m:ah}{P:List Nd}(h:jk m P=true){p:Nat}(hp:p<P.length){q:Nat}(hq:q<(nd P p).kids.length):0<=(nd P p).cls/\(nd P p).cls<m.cls.length:=by
 have p9:=Gx h hp;unfold kY at p9;rw[Bool.and_eq_true]at p9;have h1:=p9.1;by_cases hc:(nd P p).cls = -1
 ·have:=Qg h1 hc;omega
 ·unfold mJ at h1;rw[if_neg hc,decide_eq_true_eq]at h1;exact⟨h1.1,h1.2.1⟩
def aeV{m:ah}{P:List Nd}{up:dK}(h:nZ m P=some up):∀ v∈vs P (root m),v.2.2.contains (nd P v.1).cls=false:=by
 intro v hv;have hs:=Ek h;have hl:=ye hs;have hd:=vj hs;have wI:=JR hd _ (root m) (show 0<P.length by omega) v hv;obtain⟨u,w,hu,hw⟩:=aeW (G0 h).2 v.1 wI;have jA:=AH _ _ Ey hu;have kS:=KB hd jA Ey v hv Ey;rw[<- Qh kS];by_cases hc:(nd P v.1).cls = -1
 ·unfold rA;rw[AT];intro a ha;obtain⟨p,q,e1,e2,e3⟩:=aeU jA v.1 wI a ha;subst e1;have:=KA hs (show p<P.length by omega) e3;dsimp only;rw[dg,hc,beq_iff_eq];omega
 ·exact(Qi hw).2.2.1 hc
def aoJ(x:List (List Bool)){a b:Nat}(h:a≠b)(o q:Nat):cM (cM x a o) b q=cM (cM x b q) a o:=by
 have g:∀ {a b:Nat} (r:List Bool),a≠b->(x.set a r).getD b default=x.getD b default:=λr h=>by
  rw[ay,List.getElem?_set_ne h,<- ay]
 unfold cM;rw[g _ h,g _ (Ne.symm h)];exact List.set_comm _ _ h
def zt(P:List Nd)(l:dK):List Nat:=l.map λa=>(nd P a.1.toNat).cls.toNat
def aoK{P:List Nd}(a:Int×Int):∀ (l:dK) (x:List (List Bool)),(nd P a.1.toNat).cls.toNat ∉ zt P l->qD P (l++[a]) x=qD P (a::l) x:=by
 intro l
 induction l with
 |nil=>intro x _;rfl
 |cons b l ih =>
  intro x hx;have h1:(nd P b.1.toNat).cls.toNat≠(nd P a.1.toNat).cls.toNat:=λe=>hx (by unfold zt;rw[ez,e];simp);have h2:(nd P a.1.toNat).cls.toNat ∉ zt P l:=λe=>hx (by unfold zt at e ⊢;rw[ez];exact List.mem_cons_of_mem _ e);show qD P (l++[a]) (cM x _ _)=qD P l (cM (cM x _ _) _ _);rw[ih _ h2];show qD P l (cM (cM x _ _) _ _)=_;rw[aoJ x h1]
def aoL{P:List Nd}:∀ (l:dK) (x:List (List Bool)),(zt P l).Nodup->qD P l.reverse x=qD P l x:=by
 intro l
 induction l with
 |nil=>intro x _;rfl
 |cons b l ih =>
  intro x hx;unfold zt at hx;rw[ez,nC]at hx;rw[List.reverse_cons,aoK b _ x (λhm=>hx.1 (by unfold zt at hm;rw[List.map_reverse,List.mem_reverse]at hm;exact hm))];show qD P l.reverse (cM x _ _)=qD P l (cM x _ _);exact ih _ hx.2
def aoM{m:ah}{P:List Nd}{up:dK}(h:nZ m P=some up):∀ k,k<P.length->(zt P (lN up k)).Nodup:=by
 have hs:=Ek h;have hl:=ye hs;have hd:=vj hs;have jA:=AH _ _ (aZ _) (G0 h).2;intro k
 induction k using AP with
 |_ k ih =>
  intro hk;rw[Em jA hk];rcases jA.low k hk with h1|⟨p,q,h1,h2,h3,_⟩
  ·rw[h1,if_neg Hg];exact List.nodup_nil
  ·rw[h1,if_pos Hi];unfold zt;dsimp only;rw[ez,nC,dg];refine⟨λhm=>?_,ih p h2 Ey⟩;obtain⟨a,ha,e⟩:=bY.1 hm;obtain⟨v,hv,Qj⟩:=aeX hs (show p<P.length by omega);have iz:=aeV h v hv;rw[<- Qh (KB hd jA Ey v hv Ey),Qj]at iz;unfold rA at iz;rw[AT]at iz;have:=iz a ha;obtain⟨p',q',e1,e2,e3⟩:=aeU jA p Ey a ha;subst e1;have c1:=KA hs (show p'<P.length by omega) e3;have c2:=KA hs (show p<P.length by omega) h3;dsimp only at e this;rw[dg]at e this;rw[beq_iff_eq]at this;omega
def aoN{m:ah}{P:List Nd}{up:dK}(h:nZ m P=some up):∀ v∈vs P (root m),wR m P up v.1=v.2.1:=by
 intro v hv;have hs:=Ek h;have hl:=ye hs;have hd:=vj hs;have jA:=AH _ _ (aZ _) (G0 h).2;have wI:=JR hd _ (root m) (show 0<P.length by omega) v hv;rw[(KB hd jA Ey v hv Ey).2,aoL _ _ (aoM h _ wI)];rfl
def yq(m:ah)(x:Nd)(left:List (List Bool)):Option Int :=
 if x.cls≠-1 then some 1099511627776
 else if 0<x.a8.length then(if ma m x left=true then some 1099511627776 else none)
 else if(gZ m left x.df).2=0 then some (gZ m left x.df).1 else none
def vw:List (Option Int)->Int->Option Int
 |[],b=>some b
 |none::_,_=>none
 |some v::l,b=>vw l (min b v)
def aoO{l l':List (Option Int)}(h:l.Perm l'):∀ b,vw l b=vw l' b:=by
 induction h with
 |nil=>exact λ_=>rfl
 |cons x _ ih=>intro b;cases x<;>simp only[vw,ih]
 |swap x y l =>
  intro b;cases x<;>cases y<;>simp only[vw];congr 1;omega
 |trans _ _ h1 h2=>exact λb=>(h1 b).trans (h2 b)
def aoP{m:ah}{P:List Nd}:∀ (L:List dJ) (b:Int),b<=1099511627776->(∀ s∈L,s.2.2.contains (nd P s.1).cls=false) ->
  vw (L.map λs=>yq m (nd P s.1) s.2.1) b=if(j2 P (gP m P) L b).2=true then some (j2 P (gP m P) L b).1 else none:=by
 intro L
 induction L with
 |nil=>intro b _ _;rfl
 |cons s L ih =>
  intro b hb h;have hc:=h s G9;have hL:=λb hb=>ih b hb λt ht=>h t (by simp[ht]);rw[ez,j2,if_neg (show ¬(s.2.2.contains (nd P s.1).cls=true) by rw[hc];simp)];generalize C5:(L.map λs=>yq m (nd P s.1) s.2.1)=ml at *;clear C5 ih;generalize fX:gP m P b s=cs at *;unfold gP at fX;subst fX;unfold yq;by_cases h1:(nd P s.1).cls≠-1
  ·rw[if_pos h1,if_pos h1,if_pos rfl];show vw _ (min b _)=_;rw[KY hb];exact hL b hb
  ·rw[if_neg h1,if_neg h1];by_cases h2:0<(nd P s.1).a8.length
   ·rw[if_pos h2,if_pos h2];by_cases h3:ma m (nd P s.1) s.2.1=true
    ·rw[if_pos h3,h3,if_pos rfl];show vw _ (min b _)=_;rw[KY hb];exact hL b hb
    ·rw[if_neg h3,if_neg h3];rfl
   ·rw[if_neg h2,if_neg h2];by_cases h3:(gZ m s.2.1 (nd P s.1).df).2=0
    ·rw[if_pos h3,h3,if_pos (show(((0:Int)==0)=true) from rfl)];exact hL _ Ey
    ·have h4:((gZ m s.2.1 (nd P s.1).df).2==0)=false:=beq_false_of_ne h3;rw[if_neg h3,h4];rfl
def wQ(m:ah)(P:List Nd)(up:dK)(i:Nat):Option Int:=vw ((bn i).map λk=>yq m (nd P k) (wR m P up k)) 1099511627776
def aoQ(x:Option Int):∀ (l:List (Option Int)) (b:Int),vw (l++[x]) b=(vw l b).bind λc=>x.map (min c):=by
 intro l
 induction l with
 |nil=>intro b;cases x<;>rfl
 |cons y l ih=>intro b;cases y with
  |none=>rfl
  |some v=>exact ih _
def aeS(m:ah)(P:List Nd)(up:dK)(i:Nat):wQ m P up (i+1)=(wQ m P up i).bind λc=>(yq m (nd P i) (wR m P up i)).map (min c):=by
 unfold wQ;rw[List.range_succ,List.map_append];exact aoQ _ _ _
def aoR{m:ah}{P:List Nd}(h:jk m P=true):((vs P (root m)).map (·.1)).Perm (bn P.length):=by
 have hl:=ye h;rw[List.perm_iff_count];intro a;by_cases ha:a<P.length
 ·rw[acZ h rfl a ha,List.nodup_range.count,if_pos (nB.2 ha)]
 ·rw[Q5.2,Q5.2 (by rw[nB];exact ha)];intro hm;obtain⟨v,hv,e⟩:=bY.1 hm;have:=JR (vj h) _ (root m) (show 0<P.length by omega) v hv;omega
def jo(m:ah)(P:List Nd):Int×Bool :=
 match nZ m P with
 |none=>(0,false)
 |some up=>match wQ m P up P.length with
  |none=>(0,false)
  |some b=>(b,true)
def aoG{m:ah}(hm:VM m)(P:List Nd):mh m P=jo m P:=by
 unfold jo;cases hf:nZ m P with
 |none =>
  dsimp only;by_cases hs:jk m P=true
  ·obtain⟨v,hv,hh⟩:=aoS hs hf;generalize hc:mh m P=c;obtain⟨n,ok⟩:=c;cases ok
   ·unfold mh at hc;split at hc
    ·cases hc
    ·exact hc.symm
   ·obtain⟨_,_,h3⟩:=aco hc;have:=((acp h3).2 v hv).1;rw[this]at hh;cases hh
  ·have hw:qu m P (gP m P) 1099511627776=(1099511627776,false):=if_neg λh=>hs h.2;unfold mh;rw[hw,if_neg G9]
 |some up =>
  dsimp only;have hs:=Ek hf;have hw:qu m P (gP m P) 1099511627776=j2 P (gP m P) (vs P (root m)) 1099511627776:=if_pos ⟨kf.2 hm,hs⟩;have hr:=aoP (m:=m) (P:=P) (vs P (root m)) 1099511627776 (Int.le_refl _) (aeV hf);have he:wQ m P up P.length=vw ((vs P (root m)).map λs=>yq m (nd P s.1) s.2.1) 1099511627776:=by
   unfold wQ;rw[<- aoO ((aoR hs).map _),List.map_map];congr 1;refine List.map_congr_left λv hv=>?_;show yq m (nd P v.1) (wR m P up v.1)=_;rw[aoN hf v hv]
  rw[he,hr];unfold mh;rw[hw];by_cases h2:(j2 P (gP m P) (vs P (root m)) 1099511627776).2=true
  ·rw[if_pos h2,if_pos h2]
  ·rw[if_neg h2,if_neg h2]
def nP(x y:Ob)(A:List (List AV))(Y:List (List Bool)):List Ob:=x::y::.arr 1 A::rf Y
def KC(x y:Ob)(A:List (List AV))(Y:List (List Bool)):(nP x y A Y)[0]?=some x:=rfl
def KD(x y:Ob)(A:List (List AV))(Y:List (List Bool)):(nP x y A Y)[1]?=some y:=rfl
def G2(x y:Ob)(A:List (List AV))(Y:List (List Bool)):(nP x y A Y)[2]?=some (.arr 1 A):=rfl
def nPk(x y:Ob)(A:List (List AV)){Y:List (List Bool)}{i:Nat}(h:i<Y.length):(nP x y A Y)[3+i]?=some (.arr 1 (aV (Y.getD i default))):=by
 have:=nOk y A h;have e:3+i=(2+i)+1:=Ey;rw[e];exact this
def nPs(x y:Ob)(A:List (List AV))(Y:List (List Bool))(i:Nat)(r:List Bool):(nP x y A Y).set (3+i) (.arr 1 (aV r))=nP x y A (Y.set i r):=by
 have:=nOs y A Y i r;have e:3+i=(2+i)+1:=Ey;rw[e];show x::(nO y A Y).set (2+i) _=_;rw[this];rfl
def aoU{x:List (List Bool)}{i:Nat}{r:List Bool}(hr:r.length=(x.getD i default).length):(x.set i r).map nF=x.map nF:=by
 apply lq;intro j;rw[bM,bM,bU];split
 ·rename_i e;subst e;split
  ·rename_i h2;rw[bx h2] ;rw[ay,bx h2]at hr;simpa using hr
  ·rename_i h2;rw[dN Ey]
 ·rfl
def aoV{w o k:Nat}{r:List Bool}(hw:r.length=w)(h:∀ b,b<k->r.getD b false=(b==o))(hk:k<w):∀ b,b<k+1->(r.set k (k==o)).getD b false=(b==o):=by
 intro b hb;rw[ay,bU];by_cases e:k=b
 ·subst e;rw[if_pos rfl,if_pos Ey];rfl
 ·rw[if_neg e,<- ay];exact h b Ey
def aoW{w o:Nat}{r:List Bool}(hw:r.length=w)(h:∀ b,b<w->r.getD b false=(b==o)):r=re w o:=by
 apply lq;intro b;unfold re;rw[bU,nx];by_cases hb:b<w
 ·have:=h b hb;rw[ay,bx Ey,lR]at this;rw[bx Ey,this];by_cases e:o=b
  ·subst e;rw[if_pos rfl,if_pos hb];simp
  ·rw[if_neg e,K4 hb];congr 1;exact beq_false_of_ne (Ne.symm e)
 ·rw[dN Ey];by_cases e:o=b
  ·subst e;rw[if_pos rfl,if_neg hb]
  ·rw[if_neg e,dN Hj]
def aoF(m:ah)(P:List Nd)(up:dK)(node:Nat)(hm:MB m)(hv:VM m)(hP:PB P)(hf:nZ m P=some up)(bG:node<P.length):
  Holds Tryz.prog 53 [.agg (ao m),.agg (aJ P),.tree 2 (rowsOf bf up),QM node] [] (.tree 1 (rowsOf aA (wR m P up node))) []:=by
 have uW:=hP.z';have oD:=Ek hf;have dG:=(ye oD).2;have np:=hv.cls;have h1:=aoH m hm hv;have jA:=AH _ _ (aZ _) (G0 hf).2;have j4:=jA.len;have lB:=D5 hv;have jg:=lB.1;have aec:wR m P up node=qD P (lN up node) (b9 m):=rfl;generalize an:wR m P up node=res at *;generalize dS:b9 m=Y0 at *;have cV:(lh 3 Y0).length=Y0.length:=Jz 3 Y0;refine Holds.aM 60 0 [.tmp 8] Tryz.func53 ?_;((refine Va @aJ.eq_1 ?_)<;>try with_reducible intro K hK)
 refine jf [] h1 Hg trivial ⟨.pure rfl,trivial⟩ ?_;have ha:bO (bE 2 []) (.arr 1 (lh 1 Y0))=.arr 1 (lh 3 Y0):=by
  rw[bO,ak' (bE 2 []) Y0 3 1 λj hj=>by unfold bE;rw[if_neg G9];simp;omega]
 have lG:(rf Y0).map (bO (bE 2 []))=rf Y0:=ala _ _;have hc:br (bE 2 []) (.ref 0 1 0 Y0.length)=.ref 2 1 0 Y0.length:=rfl;have hd:∀ (l n:List Ob),fF l [] n=l++n:=λl n=>by cases n<;>simp[fF]
 show opsL _ _ _ _ (St.put ⟨_,fF [_,_] [] (List.map (bO (bE 2 [])) _)⟩ _ (br (bE 2 []) _));rw[ez,ha,lG,hc,hd];simp(disch:=omega)only[Ac,↓Pc,simprocAttr];refine hK _ ?_;clear hK K;refine bP (σ':=⟨ar [(2,.tree 2 (rowsOf bf up)),(3,QM node),(5,.ptr 1 0 0),(9,.ref 2 1 0 Y0.length)],nP (.var (ao m)) (.var (aJ P)) (lh 3 Y0) Y0⟩) (by unfold nP;exact Xv @aJ.eq_1) ?_;refine Va X0 ?_;refine aQ (λz:Nat×List (List Bool)=>(⟨ar [(2,.tree 2 (rowsOf bf up)),(5,.ptr 1 0 0),(9,.ref 2 1 0 Y0.length),(10,QM z.1)],nP (.var (ao m)) (.var (aJ P)) (lh 3 Y0) z.2⟩:St))
  (λz=>z.1<P.length/\z.2.map nF=Y0.map nF/\qD P (lN up z.1) z.2=res) (λz=>z.1) (node,Y0) ⟨bG,rfl,aec.symm⟩ (Xv X0) ?_
 rintro⟨k,Y⟩⟨hk,hY,sS⟩Ql ak aq;dsimp only at hk hY sS ⊢;have Cm:=congrArg nF hY;rw[gD,gD]at Cm;have hfY:=Ch lB hY;rw[Em jA hk]at sS;have yX:=jA.low k hk;unfold eI at sS yX;generalize zu:up.getD k default=uk at *;rcases yX with h1|⟨p,q,h1,h2,h3,_⟩
 ·subst h1;rw[if_neg Hg]at sS;have hY2:Y=res:=sS;subst hY2;((repeat'(first|refine Va (X5 @zu @bf.eq_1 @j4 @KC (X2 @KD @G2)) ?_|(refine Xi ?_ ?_<;>try intro ht)|exact Xx|fail)))
  refine aq _ _ rfl ?_;clear ak aq Ql;repeat(refine Xu ?_)
  refine Vb X0 ?_;refine Nk [] true trivial ?_;rw[<- Cm];exact .snap _ _ rfl (ald (G2 _ _ _ _) (j7 Hg) (by rw[cV];exact Cm.symm) λa ha=>⟨3+a,by rw[ak9 3 hY.symm];exact Gk 3 Y a ha,nPk _ _ _ ha,j7 G9⟩)
 ·subst h1;rw[if_pos Hi]at sS;dsimp only at sS;rw[dg]at sS;have vZ:=KA oD (show p<P.length by omega) h3;have sS:qD P (lN up p) (cM Y (nd P p).cls.toNat q)=res:=sS;unfold nd at sS vZ;generalize qm:P.getD p default=y at *;obtain⟨c,y1,y2,y3,y4⟩:=y;dsimp only at sS vZ;obtain⟨c,rfl⟩:∃cn:Nat,c=cn:=⟨c.toNat,Ey⟩;rw[dg]at sS;have Qk:=hfY.2 c Ey;have aoZ:=lB.2 c Ey;have p8:=hv.opt _ (aF (l:=m.cls) (i:=c) (d:=default) Ey);have mf:=Gk 3 Y0 c Ey;rw[aoZ]at mf;generalize a6:(m.cls.getD c default).length=w at *;((repeat'(first|refine Va (X5 @aJ.eq_1 @zu @bf.eq_1 @j4 (X5 @qm @ax.eq_1 @KC @KD @G2)) ?_|(refine Xi ?_ ?_<;>try intro ht)|exact Xx|fail)))
  refine aQ (λz:Nat×List Bool=>(⟨ar [(2,.tree 2 (rowsOf bf up)),(5,.ptr 1 0 0),(9,.ref 2 1 0 Y0.length),(10,QM k),(11,QM c),(12,QM z.1)],nP (.var (ao m)) (.var (aJ P)) (lh 3 Y0) (Y.set c z.2)⟩:St))
   (λz=>z.1<=w/\z.2.length=w/\∀ b,b<z.1->z.2.getD b false=(b==q)) (λz=>w-z.1) (0,Y.getD c default) ⟨aP _,Qk,λa ha=>absurd ha (Nat.not_lt_zero _)⟩ (by rw[BY];exact Xv @aJ.eq_1) ?_
  rintro⟨o,r⟩⟨ho,hr,nj⟩cR bg bm;dsimp only at ho hr nj ⊢;have Pa:(Y.set c r).length=Y.length:=bJ ..;have f2:=nPk (.var (ao m)) (.var (aJ P)) (lh 3 Y0) (Y:=Y.set c r) (i:=c) Ey;rw[wE _ _ _ Ey]at f2;have f3:=λr2=>nPs (.var (ao m)) (.var (aJ P)) (lh 3 Y0) (Y.set c r) c r2;simp only[List.set_set]at f3;unfold aJ ao at f2 f3;by_cases cz:o<w
  ·((repeat'(first|refine Va (X5 @aJ.eq_1 @zu @bf.eq_1 @j4 (X5 @KC @KD @G2 @mf (X4 @f2 @f3 @uj @hr))) ?_|(refine Xi ?_ ?_<;>try intro ht)|exact Xx|fail)))
   have ao0:((o:Int)==(q:Int))=(o==q):=by rw[mz,beq_iff_eq,beq_iff_eq];omega
   rw[ao0];refine bg _ (o+1,r.set o (o==q)) ⟨Hi,by dsimp only;rw[bJ];exact hr,aoV hr nj cz⟩ Hi (Xv @aJ.eq_1)
  ·obtain rfl:o=w:=Ey;((repeat'(first|refine Va (X5 @aJ.eq_1 @zu @bf.eq_1 @j4 (X5 @KC @KD @G2 @mf @f2)) ?_|(refine Xi ?_ ?_<;>try intro ht)|exact Xx|fail)))
   refine bm _ _ rfl ?_;clear bg bm cR;repeat(refine Xu ?_)
   have hre:=aoW hr nj;refine Va (X4 @aJ.eq_1 @zu @bf.eq_1 @j4) ?_;refine ak _ (p,Y.set c r) ⟨Hi,?_,?_⟩ Hi (Xv @aJ.eq_1)
   ·dsimp only;rw[aoU (by rw[hr,Qk])];exact hY
   ·dsimp only;rw[hre,<- sS];unfold cM;rw[Qk]
def rB(m:ah)(g:List Int):List Bool:=(bn m.cls.length).map λ(c:Nat)=>g.contains (c:Int)
def Qm(m:ah)(g:List Int):(rB m g).length=m.cls.length:=by simp[rB]
def ao2{m:ah}(g:List Int){c:Nat}(h:c<m.cls.length):(rB m g).getD c false=g.contains (c:Int):=by
 unfold rB;rw[ay,bM,lk h];rfl
def ao3(m:ah):rB m []=aK m.cls.length false:=by
 apply lq;intro j;unfold rB;rw[bM];by_cases h:j<m.cls.length
 ·rw[lk h,K4 h];rfl
 ·rw[dN Hj,dN Hj];rfl
def aeZ{m:ah}(g:List Int){c:Nat}(h:c<m.cls.length):rB m (g++[(c:Int)])=(rB m g).set c true:=by
 apply lq;intro j;rw[bU,Qm];unfold rB;rw[bM,bM];by_cases hj:j<m.cls.length
 ·rw[lk hj,fc,fc];by_cases e:c=j
  ·subst e;rw[if_pos rfl,if_pos h];simp
  ·rw[if_neg e];congr 1;rw[mz,ny,ny,List.mem_append,List.mem_singleton];constructor
   ·rintro(h1|h1)
    ·exact h1
    ·omega
   ·exact .inl
 ·rw[dN Hj];by_cases e:c=j
  ·subst e;omega
  ·rw[if_neg e];rfl
def lP(m:ah)(L:List (Int×Int)):List (List Bool):=(bn m.cls.length).map λ(c:Nat)=>(bn (m.cls.getD c default).length).map λ(o:Nat)=>L.any (jy (c:Int) (o:Int))
def En(m:ah)(L:List (Int×Int)):(lP m L).length=m.cls.length:=by simp[lP]
def KE{m:ah}(L:List (Int×Int)){c:Nat}(h:c<m.cls.length):(lP m L).getD c default=(bn (m.cls.getD c default).length).map λ(o:Nat)=>L.any (jy (c:Int) (o:Int)):=by
 unfold lP;rw[ay,bM,lk h];rfl
def ao4{m:ah}(L:List (Int×Int)){c o:Nat}(h:c<m.cls.length)(ho:o<(m.cls.getD c default).length):((lP m L).getD c default).getD o false=L.any (jy (c:Int) (o:Int)):=by
 rw[KE L h,ay,bM,lk ho];rfl
def ao5(m:ah):lP m []=m.cls.map λl=>aK l.length false:=by
 apply lq;intro j;unfold lP;rw[bM,bM];by_cases h:j<m.cls.length
 ·rw[lk h,bx h,fc,fc];congr 1;rw[ay,bx h,lR];apply lq;intro o;rw[bM];by_cases ho:o<m.cls[j].length
  ·rw[lk ho,K4 ho];rfl
  ·rw[dN Hj,dN Hj];rfl
 ·rw[dN Hj,dN Ey];rfl
def ao6{m:ah}(L:List (Int×Int)){c o:Nat}(h:c<m.cls.length)(ho:o<(m.cls.getD c default).length):
  lP m (L++[((c:Int),(o:Int))])=(lP m L).set c (((lP m L).getD c default).set o true):=by
 apply lq;intro j;rw[bU,En,KE L h];by_cases hj:j<m.cls.length
 ·have hg:∀ K,(lP m K)[j]?=some ((bn (m.cls.getD j default).length).map λ(o:Nat)=>K.any (jy (j:Int) (o:Int))):=λK=>by
   unfold lP;rw[bM,lk hj];rfl
  rw[hg,hg];by_cases e:c=j
  ·subst e;rw[if_pos rfl,if_pos h];congr 1;apply lq;intro q;rw[bU,gD,KR,bM,bM];by_cases hq:q<(m.cls.getD c default).length
   ·rw[lk hq,fc,fc,Q6];by_cases e2:o=q
    ·subst e2;rw[if_pos rfl,if_pos ho];simp[jy]
    ·rw[if_neg e2];congr 1;have:jy (c:Int) (q:Int) ((c:Int),(o:Int))=false:=by
      unfold jy;rw[decide_eq_false_iff_not,Prod.mk.injEq];omega
     simp[this]
   ·rw[dN (by rw[KR];omega)];by_cases e2:o=q
    ·subst e2;omega
    ·rw[if_neg e2];rfl
  ·rw[if_neg e];congr 2;funext q;rw[Q6];have:jy (j:Int) (q:Int) ((c:Int),(o:Int))=false:=by
    unfold jy;rw[decide_eq_false_iff_not,Prod.mk.injEq];omega
   simp[this]
 ·rw[dN (by rw[En];omega)];by_cases e:c=j
  ·subst e;omega
  ·rw[if_neg e,dN (by rw[En];omega)]
end T

