import Derived.Test.YtfoopmojjjpapaaGreatX44
set_option linter.all false
set_option maxHeartbeats 0
set_option maxRecDepth 20000
open Int renaming add_zero→C0,toNat_natCast→cF,eq_ofNat_of_zero_le→Fy,natCast_mul→Jq,natCast_add→y7,le_trans→C1
open List renaming getD_cons_zero→gA,getD_cons_succ→eS,mem_cons→a8,mem_cons_of_mem→dx,getD_eq_getElem?_getD→az,getElem?_eq_none→fY,range→aY,getElem?_map→bY,getElem?_range→nN,all_eq_true→e8,length_map→eu,getElem?_set→bU,getElem?_set_ne→fN,length_set→bH,length→jB,getElem?_eq_getElem→bS
open Nat renaming le_refl→aU,mul_comm→pT
open Bool renaming and_eq_true→a7
open Go Go.Am
namespace T
def oT(h:Mv->Bool):List Mv->Int
 |[]=>0
 |x::r=>(if h x=true then x.amt else 0)+oT h r
def qX(h:Mv->Bool):List (List Int×Int)->Int
 |[]=>0
 |q::r=>(if h (kX q)=true then q.2 else 0)+qX h r
def OE{p q:Prop}[Decidable p][Decidable q]{a b:Int}(h:p↔q):(if p then a else b)=if q then a else b:=by
 by_cases e:p
 ·rw[if_pos e,if_pos (h.1 e)]
 ·rw[if_neg e,if_neg (λx=>e (h.2 x))]
def am9(h:Mv->Bool){l r:List Mv}(hp:l.Perm r):oT h l=oT h r:=by
 induction hp with
 |nil=>rfl
 |cons x _ ih=>rw[oT,oT,ih]
 |swap x y l=>rw[oT,oT,oT,oT];omega
 |trans _ _ h1 h2=>exact h1.trans h2
def adx(h:Mv->Bool):∀ am:List (List Int×Int),oT h (eP am)=qX h am
 |[]=>rfl
 |q::r=>by
  have ih:=adx h r;unfold eP at ih ⊢;rw[List.filter_cons,qX];by_cases e:q.2=0
  ·rw[if_neg (by simp[e]),ih,e];split<;>omega
  ·rw[if_pos (by simp[e]),List.map_cons,oT,ih];rfl
def OF{h:Mv->Bool}(hh:∀ (k:List Int) v v',h (kX (k,v))=h (kX (k,v')))(k:List Int)(v:Int):∀ am:List (List Int×Int),qX h (fW k v am)=qX h am+if h (kX (k,0))=true then v-eZ k am else 0
 |[]=>by
  rw[fW,show qX h [(k,v)]=(if h (kX (k,v))=true then v else 0)+0 from rfl,show qX h []=0 from rfl,hh k v 0,show eZ k []=0 from rfl];split<;>omega
 |q::r=>by
  rw[fW];by_cases e:q.1=k
  ·rw[if_pos e,qX,qX,eZ,if_pos e,hh k v 0];have e2:h (kX q)=h (kX (k,0)):=by rw[<- e];exact hh q.1 q.2 0
   rw[e2];dsimp only;split<;>omega
  ·rw[if_neg e,qX,qX,eZ,if_neg e,OF hh k v r];omega
def Fh(m:aj)(an:List Int)(i:Nat)(x:Mv):Bool:=decide (i=(dL m x).toNat/\uR m an x)
def Fi(m:aj)(an:List Int)(i:Nat)(x:Mv):Bool:=decide (i=x.pair.toNat/\uR m an x)
def OG{m:aj}(hm:VM m){an:List Int}(hp:FP m an):∀ (l:List Mv) (B:Int) (g:Lg),0<=B->LG m B g->(∀ x∈l,gK m x=true) ->
  (∀ i,(ja an (fq m l g) i).1=(ja an g i).1+oT (Fh m an i) l)/\∀ i,(jb m an (fq m l g) i).1=(jb m an g i).1-oT (Fi m an i) l
 |[],B,g,_,_,_=>⟨λi=>by show _=_+(0:Int);rw[C0];rfl,λi=>by show _=_-(0:Int);rw[Int.sub_zero];rfl⟩
 |x::r,B,g,hB,h,hx=>by
  have hi:=acg (hx x Fl);have h1:=ach hp h hi;have h2:=aci hm hp h hi;obtain⟨h3,h4⟩:=OG hm hp r _ (iY m x g) CZ (Ml hm hB h (hx x Fl)) (λy hy=>hx y (by simp[hy]));refine⟨λi=>?_,λi=>?_⟩
  ·show(ja an (fq m r (iY m x g)) i).1=_;rw[h3,h1,oT];unfold Fh;by_cases e1:i=(dL m x).toNat
   ·by_cases e2:uR m an x
    ·rw[if_pos e1,if_pos e2,if_pos (decide_eq_true ⟨e1,e2⟩)];dsimp only;omega
    ·rw[if_pos e1,if_neg e2,if_neg (by rw[decide_eq_true_eq];exact λe=>e2 e.2)];omega
   ·rw[if_neg e1,if_neg (by rw[decide_eq_true_eq];exact λe=>e1 e.1)];omega
  ·show(jb m an (fq m r (iY m x g)) i).1=_;rw[h4,h2,oT];unfold Fi;by_cases e1:i=x.pair.toNat
   ·by_cases e2:uR m an x
    ·rw[if_pos e1,if_pos e2,if_pos (decide_eq_true ⟨e1,e2⟩)];dsimp only;omega
    ·rw[if_pos e1,if_neg e2,if_neg (by rw[decide_eq_true_eq];exact λe=>e2 e.2)];omega
   ·rw[if_neg e1,if_neg (by rw[decide_eq_true_eq];exact λe=>e1 e.1)];omega
structure JW(m:aj)(W:WS):Prop where
 sh:jx m W
 s:∀ an,FP m an->∀ i,i<m.cls.length->dv W i (an.getD i 0).toNat=rC m an i+qX (Fh m an i) W.am
 t:∀ an,FP m an->∀ p,p<m.ae.length->ek m W p (an.getD (ah m p 0) 0).toNat (an.getD (ah m p 1) 0).toNat=pH m an (bN m p)-qX (Fi m an p) W.am
 k:∀ q∈W.am,(∃ p s o:Nat,q.1=ef p s o/\p<m.ae.length/\s<=1/\o<aD m (ah m p s))/\-268435456<=q.2/\q.2<=268435456
def OH{m:aj}(p s o:Nat)(v:Int):(dL m (kX (ef p s o,v))).toNat=ah m p s:=by
 unfold dL kX ef ah bN;dsimp only;simp only[gA,eS,cF];by_cases h:s=0
 ·subst h;rfl
 ·rw[if_neg CZ,if_neg h]
def am'{m:aj}(an:List Int)(i p s o:Nat)(v:Int):Fh m an i (kX (ef p s o,v))=decide (i=ah m p s/\an.getD (ah m p s) 0=(o:Int)):=by
 unfold Fh uR;rw[OH];rfl
def ana{m:aj}(an:List Int)(i p s o:Nat)(v:Int):Fi m an i (kX (ef p s o,v))=decide (i=p/\an.getD (ah m p s) 0=(o:Int)):=by
 unfold Fi uR;rw[OH];unfold kX ef;simp only[gA,eS,cF]
def ady{k:List Int}{v:Int}:∀ {am:List (List Int×Int)} {q:List Int×Int},q∈fW k v am->q∈am\/q=(k,v)
 |[],q,h=>by rw[fW,List.mem_singleton]at h;exact .inr h
 |p::r,q,h=>by
  rw[fW]at h;split at h
  ·rcases a8.1 h with h|h
   ·exact .inr h
   ·exact .inl (dx _ h)
  ·rcases a8.1 h with rfl|h
   ·exact .inl (List.mem_cons_self ..)
   ·rcases ady h with h|h
    ·exact .inl (dx _ h)
    ·exact .inr h
def JW.move{m:aj}{W:WS}(h:JW m W){p s o:Nat}(N:ni m p)(hs:s<=1)(ho:o<aD m (ah m p s))(amt:Int):JW m (jI m W p s o amt):=by
 have hc:ah m p s<m.cls.length:=by
  obtain rfl|rfl:s=0\/s=1:=CZ
  ·exact N.ha
  ·exact N.hb
 refine⟨h.sh.move p s o amt,λan hp i hi=>?_,λan hp q hq=>?_,λq hq=>?_⟩
 ·have hg:=lF hp hc;have Hm:(jI m W p s o amt).am=fW (ef p s o) (oI W p s o amt) W.am:=rfl;rw[Ma h.sh hc ho,h.s an hp i hi,Hm,OF (λk v v'=>rfl),am',Int.add_assoc];congr 2;refine OE ?_;rw[decide_eq_true_eq];constructor
  ·rintro⟨rfl,e⟩;exact⟨rfl,CZ⟩
  ·rintro⟨rfl,e⟩;exact⟨rfl,CZ⟩
 ·have Hm:(jI m W p s o amt).am=fW (ef p s o) (oI W p s o amt) W.am:=rfl;have hg:=lF hp hc;rw[Hm,OF (λk v v'=>rfl),ana];by_cases e:q=p
  ·subst e;have hk:=lF hp N.ha;have hi:=lF hp N.hb;have ht:=h.t an hp q hq;have fK:(an.getD (ah m q 0) 0).toNat<aD m (ah m q 0):=by unfold aD;omega
   have mW:(an.getD (ah m q 1) 0).toNat<aD m (ah m q 1):=by unfold aD;omega
   obtain rfl|rfl:s=0\/s=1:=CZ
   ·rw[Vw N h.sh ho amt fK mW,ht,Int.sub_sub];congr 2;refine OE ?_;rw[decide_eq_true_eq];exact⟨λe=>⟨rfl,CZ⟩,λe=>CZ⟩
   ·rw[Vv N h.sh ho amt fK mW,ht,Int.sub_sub];congr 2;refine OE ?_;rw[decide_eq_true_eq];exact⟨λe=>⟨rfl,CZ⟩,λe=>CZ⟩
  ·rw[I5 (λj=>Mb amt e j),h.t an hp q hq,if_neg (by rw[decide_eq_true_eq];exact λx=>e x.1),C0]
 ·rcases ady hq with hq|rfl
  ·exact h.k q hq
  ·exact⟨⟨p,s,o,rfl,N.hp,hs,ho⟩,LV W p s o amt⟩
def JW.start{m:aj}(hm:VM m):JW m (W0 m):=by
 refine⟨Lh,λan hp i hi=>?_,λan hp p cM=>?_,λq hq=>by cases hq⟩
 ·have hg:=lF hp hi;show dv (W0 m) i _=_+(0:Int);rw[C0];unfold dv W0 rC;dsimp only;rw[gn _ _ _ hi];exact gn lz _ _ CZ
 ·show ek m (W0 m) p _ _=_-(0:Int);rw[Int.sub_zero];have dj:=jV hm.pr _ (aF (l:=m.ae) (i:=p) (d:=default) cM);obtain⟨q1,q2,q3,q4,q5⟩:=qI dj;have g1:=lF hp (j:=(m.ae.getD p default).fst.toNat) CZ;have g2:=lF hp (j:=(m.ae.getD p default).snd.toNat) CZ;unfold ek kG W0 pH yG;dsimp only;rw[gn _ _ _ cM];unfold bN;congr 1;unfold ah bN aD;rw[if_pos rfl,if_neg Fs];generalize an.getD (m.ae.getD p default).fst.toNat 0=a at *;generalize an.getD (m.ae.getD p default).snd.toNat 0=b at *;obtain⟨a,rfl⟩:=Fy g1.1;obtain⟨b,rfl⟩:=Fy g2.1;rw[cF,cF,<- Jq,<- y7,cF]
section
variable {m:aj} {can:List (List Bool)}
def JW.fi{W:WS}(h:JW m W){p s:Nat}(N:ni m p)(hs:s<=1):∀ i,i<=aD m (ah m p s)->JW m (fi m can W p s i)
 |0,_=>h
 |i+1,hi=>by
  rw[T.fi];split
  ·exact(h.fi N hs i CZ).move N hs CZ _
  ·exact h.fi N hs i CZ
def JW.ec{W:WS}(h:JW m W){p s:Nat}(N:ni m p)(hs:s<=1):∀ i,i<=aD m (ah m p (1-s))->JW m (ec m can W p s i)
 |0,_=>h
 |i+1,hi=>by
  rw[T.ec];split
  ·exact(h.ec N hs i CZ).move N CZ CZ _
  ·exact h.ec N hs i CZ
def JW.list(hN:∀ p,p<m.ae.length->ni m p)(hm:VM m):∀ (l:List (Nat×Nat)) (W:WS) (B:Int),0<=B->JW m W->WB B W->(∀ q∈l,q.2=1/\q.1<m.ae.length)->JW m (wC m can W l)/\WB (B+618475290624*l.length) (wC m can W l)
 |[],W,B,_,h,hb,_=>⟨h,hb.mono Fl⟩
 |q::l,W,B,hB,h,hb,hl=>by
  obtain⟨l1,l2⟩:=hl q Fl;have N:=hN q.1 l2;have h2:JW m (qB m can W q.1 q.2):=by
   rw[l1];exact(h.fi N CZ _ (aU _)).ec N CZ _ (aU _)
  have h3:=JW.list hN hm l _ (B+618475290624) CZ h2 (Vm hm hB hb q.1 q.2) λx hx=>hl x (by simp[hx]);refine⟨h3.1,h3.2.mono ?_⟩;rw[List.length_cons];push_cast;omega
end
def adz{l:List Nm}{s:List Bool}(h:(cK l s (0,false)).2=true):∃j,j<l.length/\s.getD j false=true/\(cK l s (0,false)).1=(l.getD j default).1:=by
 rcases Oa l s (0,false) with e|⟨j,h1,h2,_,h4⟩
 ·rw[e]at h;cases h
 ·exact⟨j,h1,h2,by rw[h4]⟩
section
variable {m:aj} {par:List Int} {left:List (List Bool)}
def ma.nice(h:ma m par)(p:Nat)(hp:p<m.ae.length):ni m p:=by
 obtain⟨h1,h2,h3,h4⟩:=h.pt _ (aF (l:=m.ae) (i:=p) (d:=default) hp);have e0:ah m p 0=(m.ae.getD p default).fst.toNat:=by unfold ah bN;rw[if_pos rfl]
 have e1:ah m p 1=(m.ae.getD p default).snd.toNat:=by unfold ah bN;rw[if_neg Fs]
 refine⟨?_,λj=>?_,hp,CZ,CZ,CZ⟩
 ·unfold aD;rw[e0,e1];unfold bN;rw[<- Jq]at h3;exact Int.ofNat.inj h3
 ·unfold bN;generalize (m.ae.getD p default).aC=t at *;rcases Nat.lt_or_ge j t.length with hj|hj
  ·exact h4 _ (aF hj)
  ·rw[az,fY hj];decide
def ma.own(h:ma m par){c i:Nat}(hc:c<m.cls.length)(hi:i<aD m c):0<=lz ((m.cls.getD c default).getD i default)/\lz ((m.cls.getD c default).getD i default)<=40:=by
 have h1:=(h.cl _ (aF (l:=m.cls) (i:=c) (d:=default) hc)).2 _ (aF (l:=m.cls.getD c default) (i:=i) (d:=default) hi);generalize (m.cls.getD c default).getD i default=o at *;unfold lz;rcases h1 with h1|⟨r,x,h1,h2,h3⟩
 ·rw[h1];decide
 ·rw[h1];show 0<=dK 0 x/\dK 0 x<=40;unfold dK;omega
def ma.can(h:ma m par){c i:Nat}(hc:c<m.cls.length)(hi:i<aD m c):c4 (cZ m left m.cls.length) c i=(left.getD c default).getD i false:=by
 have ho:=h.own hc hi;unfold c4 cZ;rw[az (l:=(aY m.cls.length).map _),bY,nN hc];show(fX (m.cls.getD c default) (left.getD c default)).getD i false=_;unfold fX;rw[az (l:=(aY _).map _),bY,nN (show i<(m.cls.getD c default).length from hi)];show((left.getD c default).getD i false&&decide (lz ((m.cls.getD c default).getD i default)<1099511627776))=_;rw[decide_eq_true CZ,Bool.and_true]
def ma.fi0(h:ma m par):FI m (cZ m left m.cls.length) [] 40 (W0 m):=by
 refine⟨Lh,λc i hc hi _=>?_,λp hp _=>⟨λ_ _=>rfl,λk i hk hi=>?_⟩,λp hp=>by cases hp⟩
 ·have:=h.own hc hi;have e:dv (W0 m) c i=lz ((m.cls.getD c default).getD i default):=by
   unfold dv W0;dsimp only;rw[gn _ _ _ hc];exact gn lz _ _ hi
  rw[e];exact this
 ·have N:=h.nice p hp;have e:ek m (W0 m) p k i=(bN m p).aC.getD (k*aD m (ah m p 1)+i) 0:=by
   unfold ek kG W0;dsimp only;rw[gn _ _ _ hp];rfl
  rw[e];exact N.tb _
def ma.ane(h:ma m par):∃l:List (Nat×Nat),w7 m left=wC m (cZ m left m.cls.length) (W0 m) l/\(∀ q∈l,q.2=1/\q.1<m.ae.length)/\(∀ p,p<m.ae.length->∃ q∈l,q.1=p)/\yV (ah m) l=true/\l.length<=5:=by
 have hg:=amY h;refine⟨_,amU _,?_⟩;generalize Ff (ah m) m.cls.length m.ae.length=l at *;unfold OC at hg;simp only[a7,e8,decide_eq_true_eq,List.any_eq_true,List.mem_range,beq_iff_eq]at hg;obtain⟨⟨⟨h1,h2⟩,h3⟩,h4⟩:=hg;exact⟨h1,h2,h3,h4⟩
def adA{cl:Nat->Nat->Nat}:∀ {l:List (Nat×Nat)},yV cl l=true->∀ a∈l,∀ b∈l,cl a.1 1=cl b.1 1->a.1=b.1
 |[],_,a,ha,_,_,_=>by cases ha
 |q::r,h,a,ha,b,hb,e=>by
  obtain⟨h1,h2⟩:=adh h;rcases a8.1 ha with rfl|Fb<;>rcases a8.1 hb with rfl|nG
  ·rfl
  ·exact absurd e (h1 b nG).2.1
  ·exact absurd e.symm (h1 a Fb).2.1
  ·exact adA h2 a Fb b nG e
def anf(h:ma m par)(hf:cP m left)(hex:∀ c,c<m.cls.length->∃ i,i<aD m c/\(left.getD c default).getD i false=true):
  (bP m left (kS (eP (w7 m left).am))).2=0/\w0 m left<=(bP m left (kS (eP (w7 m left).am))).1:=by
 have hm:=h.vm;have hN:=h.nice;obtain⟨l,e1,l1,l2,l3,l4⟩:=h.ane (left:=left);have GK:∀ c,c<m.cls.length->∃ i,i<aD m c/\c4 (cZ m left m.cls.length) c i=true:=λc hc=>by
  obtain⟨i,h1,h2⟩:=hex c hc;exact⟨i,h1,by rw[h.can hc h1];exact h2⟩
 have zY:(2:Int)^l.length<=32:=by
  have h1:2^l.length<=2^5:=Nat.pow_le_pow_right Fs l4
  exact_mod_cast h1
 obtain⟨B',done,hI,hD⟩:=FI.list hN GK l [] 40 (W0 m) h.fi0 ⟨Fs,by
  have:=Int.mul_le_mul_of_nonneg_left zY (show(0:Int)<=40+38 by decide);omega⟩ l1 l3 (λd hd=>by cases hd)
 obtain⟨hJ,hWB⟩:=JW.list (can:=cZ m left m.cls.length) hN hm l (W0 m) 1099511627776 Fs (JW.start hm) (TF hm) l1;rw[<- e1]at hI hJ hWB;have ba:∀ p,p<m.ae.length->ah m p 0<ah m p 1:=λp hp=>by
  obtain⟨_,h2,_,_⟩:=h.pt _ (aF (l:=m.ae) (i:=p) (d:=default) hp);have e0:ah m p 0=(m.ae.getD p default).fst.toNat:=by unfold ah bN;rw[if_pos rfl]
  have e1:ah m p 1=(m.ae.getD p default).snd.toNat:=by unfold ah bN;rw[if_neg Fs]
  omega
 obtain⟨f,f1,f2⟩:=hI.an hN (λp hp=>hD p (.inr (l2 p hp))) GK ba (λp q hp hq e=>by
  obtain⟨a,ha,rfl⟩:=l2 p hp;obtain⟨b,hb,rfl⟩:=l2 q hq;exact adA l3 a ha b hb e) m.cls.length (aU _)
 have Cv:=hI.dn;have ang:∀ p,p<m.ae.length->p∈done:=λp hp=>hD p (.inr (l2 p hp));generalize w7 m left=W at *;have DN:(kS (eP W.am)).Perm (eP W.am):=by unfold kS;exact GU _ _ []
 have hval:∀ x∈kS (eP W.am),gK m x=true:=λx hx=>by
  have hx:=DN.mem_iff.1 hx;unfold eP at hx;obtain⟨q,hq,rfl⟩:=List.mem_map.1 hx;obtain⟨⟨p,s,o,k1,k2,k3,k4⟩,k5,k6⟩:=hJ.k q (List.mem_filter.1 hq).1;obtain⟨qk,qv⟩:=q;dsimp only at k1 k5 k6;subst k1;have dj:=h.pt _ (aF (l:=m.ae) (i:=p) (d:=default) k2);obtain⟨_,r2,_,_⟩:=dj;unfold gK;rw[a7,decide_eq_true_eq,jK,OH];have um:0<=dL m (kX (ef p s o,qv))/\dL m (kX (ef p s o,qv))<m.cls.length:=by
   unfold dL kX ef;simp only[gA,eS,cF];split<;>omega
  refine⟨?_,?_⟩
  ·show 0<=(p:Int)/\(p:Int)<m.ae.length/\0<=(s:Int)/\(s:Int)<=1/\-268435456<=qv/\qv<=268435456;omega
  ·refine⟨um.1,um.2,?_,?_⟩
   ·show 0<=(o:Int);omega
   ·show(o:Int)<_;unfold aD at k4;omega
 have hlen:(kS (eP W.am)).length<=2000:=by
  have h1:=DN.length_eq;have h2:(eP W.am).length<=W.am.length:=by unfold eP;rw[eu];exact List.length_filter_le _ _
  have h3:=hWB.al;omega
 have yq:∀ H:Mv->Bool,oT H (kS (eP W.am))=qX H W.am:=λH=>by rw[am9 H DN,adx]
 generalize kS (eP W.am)=X at *;have hvt:bP m left X=(kU m left (fq m X (S0 m,T0 m)),0):=by
  unfold bP kR gH;rw[if_neg (by rw[if_neg (by rw[oB.2 hm];simp),if_pos hf];simp),if_neg CZ,if_neg (by rw[e8.2 hval];simp)]
 rw[hvt];refine⟨rfl,?_⟩;dsimp only;have jM:=Eh hm X hval;have hS:∀ an,FP m an->∀ i,i<m.cls.length->(ja an (fq m X (S0 m,T0 m)) i).1=dv W i (an.getD i 0).toNat:=λan hp i hi=>by
  rw[(OG hm hp X _ _ Fs (HK hm) hval).1 i,N8 hp hi,yq,hJ.s an hp i hi];rfl
 have hT:∀ an,FP m an->∀ p,p<m.ae.length->(jb m an (fq m X (S0 m,T0 m)) p).1=ek m W p (an.getD (ah m p 0) 0).toNat (an.getD (ah m p 1) 0).toNat:=λan hp p cM=>by
  rw[(OG hm hp X _ _ Fs (HK hm) hval).2 p,N9 hm hp cM,yq,hJ.t an hp p cM];rfl
 have gw:∀ i,i<m.cls.length->((aY m.cls.length).map λi=>(f i:Int)).getD i 0=(f i:Int):=λi hi=>by
  rw[az,bY,nN hi];rfl
 have CM:FP m ((aY m.cls.length).map λi=>(f i:Int)):=by
  refine⟨Fl,λj hj=>?_⟩;have hj:j<m.cls.length:=by simpa using hj
  have:=(f1 j hj).1;unfold aD at this;rw[gw j hj];exact jK.2 ⟨CZ,CZ,CZ,by rw[cF];omega⟩
 have hIn:yT m left ((aY m.cls.length).map λi=>(f i:Int)):=λi hi=>by
  obtain⟨g1,g2,_⟩:=f1 i hi;rw[gw i hi,cF,<- h.can hi g1];exact g2
 generalize hPP:((aY m.cls.length).map λi=>(f i:Int))=P at *;have put:∀ an,FP m an->∀ c j,c<m.cls.length->j<aD m c->FP m (an.set c (j:Int))/\(an.set c (j:Int)).getD c 0=(j:Int)/\∀ d,d≠c->(an.set c (j:Int)).getD d 0=an.getD d 0:=λan hp c j hc hj=>by
  have cM:=hp.len;have e2:(an.set c (j:Int)).getD c 0=(j:Int):=by rw[az,bU];simp[cM,hc]
  have e3:∀ d,d≠c->(an.set c (j:Int)).getD d 0=an.getD d 0:=λd hd=>by
   rw[az,fN (Ne.symm hd),<- az]
  refine⟨⟨by rw[bH];exact cM,λd hd=>?_⟩,e2,e3⟩;rw[bH]at hd;by_cases e:d=c
  ·subst e;rw[e2];unfold aD at hj;exact jK.2 ⟨CZ,CZ,CZ,by rw[cF];omega⟩
  ·rw[e3 d e];exact hp.get d hd
 have hw:=amD hm CM hIn;have P0:=parts hm CM left X hval;have HN:=P0.jW;have eW:=P0.ps;rw[h.ct]at HN;generalize fq m X (S0 m,T0 m)=g at *;refine C1 hw ?_;by_cases DI:IE m left g
 ·rw[acm DI];omega
 rw[N6 DI,HN];have s1:bu (λi=>(ja P g i).1) m.cls.length<=bu (λi=>(qT left g i).1) m.cls.length:=AI _ λi hi=>by
  have h2:(qT left g i).2=true:=by
   cases hx:(qT left g i).2 with
   |true=>rfl
   |false=>exact absurd (.inl ⟨i,hi,hx⟩) DI
  obtain⟨j,j1,j2,j3⟩:=adz h2;rw[jM.sl i hi]at j1;obtain⟨p1,p2,p3⟩:=put P CM i j hi j1;have hj:=hS _ p1 i hi;rw[p2,cF]at hj;have e:(ja (P.set i (j:Int)) g i).1=((g.1.getD i default).getD j default).1:=by unfold ja;rw[p2,cF]
  rw[e]at hj;show(ja P g i).1<=(cK _ _ _).1;rw[j3,hj,hS P CM i hi,gw i hi,cF];exact(f1 i hi).2.2 j j1 (by rw[h.can hi j1];exact j2)
 have s2:bu (λi=>(jb m P g i).1) m.ae.length<=bu (λi=>(qU m left g i).1) m.ae.length:=AI _ λp hp=>by
  have h2:(qU m left g p).2=true:=by
   cases hx:(qU m left g p).2 with
   |true=>rfl
   |false=>exact absurd (.inr (.inl ⟨p,hp,hx⟩)) DI
  have N:=hN p hp;obtain⟨j,j1,j2,j3⟩:=adz h2;rw[jM.tl p hp]at j1;have kF:=N.tl;unfold bN at kF;rw[kF]at j1;have dE:0<aD m (ah m p 1):=by
   rcases Nat.eq_zero_or_pos (aD m (ah m p 1)) with e|e
   ·rw[e,Nat.mul_zero]at j1;omega
   ·exact e
  have hk:j/aD m (ah m p 1)<aD m (ah m p 0):=Nat.div_lt_of_lt_mul (by rw[pT];exact j1);have hi:j%aD m (ah m p 1)<aD m (ah m p 1):=Nat.mod_lt _ dE;have E0:j/aD m (ah m p 1)*aD m (ah m p 1)+j%aD m (ah m p 1)=j:=by rw[pT];exact Nat.div_add_mod _ _
  generalize j/aD m (ah m p 1)=k at *;generalize j%aD m (ah m p 1)=i at *;have e0:ah m p 0=(m.ae.getD p default).fst.toNat:=by unfold ah bN;rw[if_pos rfl]
  have e1:ah m p 1=(m.ae.getD p default).snd.toNat:=by unfold ah bN;rw[if_neg Fs]
  have lZ:∀ x y:Nat,((x:Int)*((aD m (ah m p 1):Nat):Int)+(y:Int)).toNat=x*aD m (ah m p 1)+y:=λx y=>by
   rw[<- Jq,<- y7,cF]
  have eK:=acr hm hf hp (x:=(k:Int)) (y:=(i:Int)) (by rw[<- e0];unfold aD at hk;omega) (by rw[<- e1];unfold aD at hi;omega);rw[<- e0,<- e1]at eK;change (ig m left p).getD ((k:Int)*((aD m (ah m p 1):Nat):Int)+(i:Int)).toNat false=_ at eK;rw[lZ,E0,j2,cF,cF]at eK;have eK:=eK.symm;rw[a7]at eK;obtain⟨p1,p2,p3⟩:=put P CM (ah m p 0) k N.ha hk;obtain⟨r1,r2,r3⟩:=put _ p1 (ah m p 1) i N.hb hi;have r4:=r3 _ N.ab;rw[p2]at r4;have hj:=hT _ r1 p hp;rw[r4,r2,cF,cF]at hj;have e:(jb m ((P.set (ah m p 0) (k:Int)).set (ah m p 1) (i:Int)) g p).1=((g.2.getD p default).getD j default).1:=by
   unfold jb uQ;rw[<- e0,<- e1,r4,r2];change ((g.2.getD p default).getD ((k:Int)*((aD m (ah m p 1):Nat):Int)+(i:Int)).toNat default).1=_;rw[lZ,E0]
  rw[e]at hj;show(jb m P g p).1<=(cK _ _ _).1;have ha:=N.ha;have hb:=N.hb;rw[j3,hj,hT P CM p hp,gw _ ha,gw _ hb,cF,cF,f2 p hp hb];obtain⟨_,_,d3⟩:=Cv p (ang p hp);exact(d3 k hk (by rw[h.can ha hk];exact eK.1)).1 i hi (by rw[h.can hb hi];exact eK.2)
 have s3:AH m left g=bu (λi=>(qT left g i).1) m.cls.length+bu (λi=>(qU m left g i).1) m.ae.length:=by
  unfold AH;rw[h.ct];show _+_+0=_;omega
 have s4:bu (λi=>nk P (([]:List Ct).getD i default)) ([]:List Ct).length=0:=rfl;unfold wy at eW;rw[s3,s4];omega
end
def Tt{m:aj}{par:List Int}{left:List (List Bool)}(h:ma m par)(hf:cP m left)(hex:∀ c,c<m.cls.length->∃ i,i<aD m c/\(left.getD c default).getD i false=true){k:Int}(hk:1<=k/\k<=64):
  sR m left k=0/\bP m left (jH m left k)=(w0 m left,0):=by
 have hm:=h.vm;have dh:kR m left=0:=by unfold kR;rw[if_neg (by rw[oB.2 hm];simp),if_pos hf]
 have yj:sR m left k=0:=by unfold sR;rw[if_neg (by rw[dh];simp),if_neg CZ]
 obtain⟨_,_,h1⟩:=amH yj;have h0:(bP m left []).2=0:=by rw[GM,if_neg (by rw[dh];simp)]
 obtain⟨h2,h3⟩:=Lm (m:=m) (left:=left) k h0;obtain⟨h4,h5⟩:=anf h hf hex;refine⟨yj,Prod.ext (Int.le_antisymm h1 ?_) h2⟩;by_cases hF:(bP m left []).1=1099511627776
 ·have:=amE m left m.cls.length (List.replicate m.cls.length 0);rw[hF]at h3;exact C1 this h3
 ·exact C1 h5 (agf h0 hk.1 hF h4)
def gm(L:List Int)(S:List (List Bool))(k:Nat):Nat->List (List Bool)×Nat
 |0=>(S,k)
 |i+1=>((gm L S k i).1.set i (((gm L S k i).1.getD i default).set (nc L (gm L S k i).2 ((gm L S k i).1.getD i default).length).toNat true),kQ L (gm L S k i).2)
def Tl{L:List Int}{S:List (List Bool)}{k:Nat}(hk:k<=L.length):∀ i,(gm L S k i).2<=L.length
 |0=>hk
 |i+1=>by rw[gm];exact vV (Tl hk i)
def K4{L:List Int}{S:List (List Bool)}{k:Nat}:∀ i,(gm L S k i).1.map jB=S.map jB
 |0=>rfl
 |i+1=>by
  have h:=K4 (L:=L) (S:=S) (k:=k) i;rw[gm];dsimp only;generalize (gm L S k i).1=Y at *;rw[<- h];apply List.ext_getElem?;intro j;rw[bY,bY,bU];split
  ·rename_i e;subst e;split
   ·rename_i hl;rw[bS hl,az,bS hl];simp
   ·rename_i hl;rw[fY CZ]
  ·rfl
def K5{L:List Int}{S:List (List Bool)}{k j:Nat}:∀ i,i<=j->(gm L S k i).1.getD j default=S.getD j default
 |0,_=>rfl
 |i+1,h=>by
  rw[gm];dsimp only;rw[az,fN CZ,<- az];exact K5 i CZ
def Tn{L:List Int}{S:List (List Bool)}{k:Nat}(hS:∀ r∈S,1<=r.length):∀ i,i<=S.length->∀ j,j<i->∃ o,o<(S.getD j default).length/\((gm L S k i).1.getD j default).getD o false=true
 |0,_,j,hj=>absurd hj (Nat.not_lt_zero _)
 |i+1,hi,j,hj=>by
  have hl:=congrArg jB (K4 (L:=L) (S:=S) (k:=k) i);rw[eu,eu]at hl;have c7:=K5 (L:=L) (S:=S) (k:=k) (j:=i) i (aU _);rw[gm,c7];dsimp only;by_cases e:j=i
  ·subst e;have h1:=hS _ (aF (l:=S) (i:=j) (d:=default) CZ);have hv:=wZ (L:=L) (k:=(gm L S k j).2) (n:=((S.getD j default).length:Int)) CZ;refine⟨(nc L (gm L S k j).2 (S.getD j default).length).toNat,CZ,?_⟩;rw[IA _ _ _ _ CZ,if_pos rfl,az,bU,if_pos rfl,if_pos CZ];rfl
  ·obtain⟨o,o1,o2⟩:=Tn hS i CZ j CZ;refine⟨o,o1,?_⟩;rw[IA _ _ _ _ CZ,if_neg (λx=>e x.symm)];exact o2
end T

