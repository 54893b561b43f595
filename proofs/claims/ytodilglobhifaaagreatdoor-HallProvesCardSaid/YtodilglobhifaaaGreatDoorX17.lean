import Derived.Test.YtodilglobhifaaaGreatDoorX16
set_option linter.all false
set_option maxHeartbeats 0
set_option maxRecDepth 20000
open List renaming getD_eq_getElem?_getD→ax,getElem?_set→bT,replicate→aD,getElem?_replicate→EY,mem_cons→cI,range→bp,mem_append→bE,mem_singleton→bK,length_cons→cf,getD_cons_zero→je,getD_cons_succ→gY,getElem?_map→cm,getElem?_eq_getElem→aT,length_map→eA,getElem?_eq_none→fO,append_nil→gI,drop_zero→yT,nil_append→dx,getElem?_range→pQ,mem_range→jA,not_mem_nil→lf,ext_getElem?→pR,all_eq_true→eS
open Option renaming getD_some→dE,map_some→fN
open Nat renaming strongRecOn→vl,le_refl→aM,lt_or_ge→dr,zero_le→aS
open Int renaming toNat_natCast→eu,toNat_of_nonneg→oW
open Bool renaming and_eq_true→bb,true_and→eR,not_eq_false'→Jw,eq_false_iff→EP,false_and→oU
open Go Go.Am
namespace T
def pH{α:Type}(l:List α)(i j:Nat)(v d:α)(h:i<l.length):(l.set i v).getD j d=if j=i then v else l.getD j d:=by
 simp only[ax,bT];by_cases oJ:j=i
 ·subst oJ;simp[h]
 ·simp[oJ,Ne.symm oJ]
def kz{α:Type}(l:List α)(i j:Nat)(v d:α)(h:j≠i):(l.set i v).getD j d=l.getD j d:=by
 simp only[ax,bT];simp[Ne.symm h]
def oK{α:Type}(l:List α)(i:Nat)(v d:α)(h:i<l.length):(l.set i v).getD i d=v:=by
 rw[pH _ _ _ _ _ h];simp
def wj{α:Type}(n j:Nat)(v:α):(aD n v).getD j v=v:=by
 simp only[ax,EY];split<;>rfl
def AA{α:Type}(n j:Nat)(v d:α)(h:j<n):(aD n v).getD j d=v:=by
 simp only[ax,EY,h,if_true,dE]
structure uP(left:List (List Int))(R:Nat)(owner number:List Int):Prop where
 hO:ja left.length R owner
 hN:number.length=left.length
 iz:∀ j,j<left.length->-1<=number.getD j 0
 fwd:∀ j,j<left.length->0<=number.getD j 0->number.getD j 0<R/\owner.getD (number.getD j 0).toNat 0=j/\number.getD j 0∈left.getD j []
 bwd:∀ x,x<R->0<=owner.getD x 0->number.getD (owner.getD x 0).toNat 0=x
structure ZM(left:List (List Int))(R:Nat)(xs:List Int)(i:Nat)(seen:List Bool)(owner number rX pI:List Int):Prop where
 hO:ja left.length R rX
 hN:pI.length=left.length
 iz:∀ j,j<left.length->-1<=pI.getD j 0
 fwd:∀ j,j<left.length->j≠i->0<=pI.getD j 0->pI.getD j 0<R/\rX.getD (pI.getD j 0).toNat 0=j/\pI.getD j 0∈left.getD j []
 bwd:∀ x,x<R->0<=rX.getD x 0->rX.getD x 0≠i->pI.getD (rX.getD x 0).toNat 0=x
 me :∃y,y<R/\pI.getD i 0=(y:Nat)/\rX.getD y 0=i/\(y:Int)∈xs/\seen.getD y false=false/\∀ x,x<R->rX.getD x 0=i->x=y\/seen.getD x false=true
 cW:∀ x,x<R->seen.getD x false=true->rX.getD x 0=owner.getD x 0
 same:∀ j,j<left.length->j≠i->(number.getD j 0<0\/∃ x,x<R/\number.getD j 0=(x:Nat)/\seen.getD x false=true)->pI.getD j 0=number.getD j 0
 pos:∀ j,j<left.length->j≠i->(0<=pI.getD j 0↔0<=number.getD j 0)
structure ZN(left:List (List Int))(R:Nat)(xs:List Int)(seen:List Bool)(owner number:List Int)(Hy:List Bool)(rX pI:List Int):Prop where
 eo:rX=owner
 en:pI=number
 all:∀ x∈xs,Hy.getD x.toNat false=true
 cl:∀ x,x<R->Hy.getD x false=true->seen.getD x false=true\/(0<=owner.getD x 0/\∀ y∈left.getD (owner.getD x 0).toNat [],Hy.getD y.toNat false=true)
def ZO{left:List (List Int)}{R:Nat}(hL:gQ R left):∀ (f:Nat) (xs:List Int) (i:Nat) (seen:List Bool) (owner number:List Int),ju seen<=f->seen.length=R->(∀ x∈xs,0<=x/\x<R)->i<left.length->uP left R owner number ->
  (∀ x,x<R->owner.getD x 0=i->seen.getD x false=true)->∀ q,ee left f xs i seen owner number=q ->
   (q.1=true->ZM left R xs i seen owner number q.2.2.1 q.2.2.2)/\(q.1=false->ZN left R xs seen owner number q.2.1 q.2.2.1 q.2.2.2)/\(∀ x,seen.getD x false=true->q.2.1.getD x false=true)/\q.2.1.length=R/\ju q.2.1<=ju seen:=by
 intro f
 induction f using vl with
 |_ f tn =>
  intro xs
  induction xs with
  |nil =>
   intro i seen owner number hc hs hx hi hM h3 q hq;rw[ee.eq_def]at hq;subst hq;exact⟨Jy,λ_=>⟨rfl,rfl,Jy,λx _ h=>.inl h⟩,λ_ h=>h,hs,aM _⟩
  |cons x r ih =>
   intro i seen owner number hc hs hx hi hM h3 q hq;obtain⟨hx0,hxR⟩:=hx x Jy;have hr:∀ x∈r,0<=x/\x<R:=λy hy=>hx y (by simp[hy]);obtain⟨n,rfl⟩:∃n:Nat,x=n:=⟨x.toNat,Bv⟩;rw[ee.eq_def]at hq;simp only[eu]at hq;have uQ:n<R:=Bv;have lz:n<owner.length:=by rw[hM.hO.1];exact uQ
   have eE:i<number.length:=by rw[hM.hN];exact hi
   by_cases ik:seen.getD n false=true
   ·rw[if_pos ik]at hq;obtain⟨a,b,c,d,e⟩:=ih i seen owner number hc hs hr hi hM h3 q hq;refine⟨λh=>?_,λh=>?_,c,d,e⟩
    ·obtain⟨y,y1,y2,y3,y4,y5,y6⟩:=(a h).me;exact { a h with me:=⟨y,y1,y2,y3,by simp[y4],y5,y6⟩ }
    ·refine { b h with all:=λy hy=>?_ };rcases cI.1 hy with rfl|hy
     ·simpa using c n ik
     ·exact(b h).all y hy
   ·have Hz:seen.getD n false=false:=by simpa using ik
    rw[if_neg ik]at hq;have kO:=Aa seen n Bv Hz;have Dc:=hM.hO.get uQ;have pJ:∀ x,seen.getD x false=true->(seen.set n true).getD x false=true:=λx hx=>by
     rw[pH _ _ _ _ _ Bv];split<;>simp_all
    by_cases pj:owner.getD n 0<0
    ·rw[if_pos pj]at hq;subst hq;refine⟨λ_=>?_,Jy,pJ,by simpa using hs,aad⟩;dsimp only;refine⟨hM.hO.set hi,by simpa using hM.hN,?_,?_,?_,⟨n,uQ,oK _ _ _ _ eE,oK _ _ _ _ lz,Jy,Hz,?_⟩,?_,?_,?_⟩
     ·intro j hj;rw[pH _ _ _ _ _ eE];split
      ·omega
      ·exact hM.iz j hj
     ·intro j hj eQ h0;rw[kz _ _ _ _ _ eQ]at h0 ⊢;obtain⟨a,b,c⟩:=hM.fwd j hj h0;refine⟨a,?_,c⟩;rw[kz]
      ·exact b
      ·intro e;rw[e]at b;omega
     ·intro y hy h0 cC;by_cases tx:y=n
      ·subst tx;rw[oK _ _ _ _ lz]at cC;exact absurd rfl cC
      ·rw[kz _ _ _ _ _ tx]at h0 cC ⊢;rw[kz]
       ·exact hM.bwd y hy h0
       ·omega
     ·intro y hy he;by_cases tx:y=n
      ·exact .inl tx
      ·rw[kz _ _ _ _ _ tx]at he;exact .inr (h3 y hy he)
     ·intro y hy Dx;rw[kz];intro e;subst e;simp_all
     ·intro j hj eQ _;exact kz _ _ _ _ _ eQ
     ·intro j hj eQ;rw[kz _ _ _ _ _ eQ]
    ·rw[if_neg pj]at hq;obtain⟨f',rfl⟩:∃f',f=f'+1:=⟨f-1,Bv⟩;simp only at hq;obtain⟨o,ho⟩:∃o:Nat,owner.getD n 0=o:=⟨(owner.getD n 0).toNat,Bv⟩;rw[ho]at hq;simp only[eu]at hq;have pZ:o<left.length:=Bv;have HA:number.getD o 0=n:=by
      have:=hM.bwd n uQ Bv;rwa [ho,eu]at this
     have rY:o≠i:=by
      intro e;subst e;have:=h3 n uQ ho;simp_all
     have ZP:∀ x,x<R->owner.getD x 0=o->(seen.set n true).getD x false=true:=by
      intro y hy he;have:=hM.bwd y hy Bv;rw[he,eu,HA]at this;have:y=n:=Bv;subst this;exact oK _ _ _ _ Bv
     have hp:=tn f' Bv (left.getD o []) o (seen.set n true) owner number Bv (by simpa using hs) (hL.get _).2 pZ hM ZP _ rfl;generalize ee left f' (left.getD o []) o (seen.set n true) owner number=p at hp hq;obtain⟨p1,p2,p3,p4,p5⟩:=hp;by_cases Dy:p.1=true
     ·rw[if_pos Dy]at hq;subst hq;have hE:=p1 Dy;obtain⟨pb,ps,po,pn⟩:=p;dsimp only at hE p3 p4 p5 ⊢;obtain⟨y,y1,y2,y3,y4,y5,y6⟩:=hE.me;have Sa:n<po.length:=by rw[hE.hO.1];exact uQ
      have AB:i<pn.length:=by rw[hE.hN];exact hi
      have ZQ:po.getD n 0=o:=by rw[hE.cW n uQ (oK _ _ _ _ Bv),ho]
      have tx:y≠n:=by
       intro e;subst e;rw[oK _ _ _ _ Bv]at y5;simp at y5
      have ZR:pn.getD i 0=number.getD i 0:=by
       refine hE.same i hi (Ne.symm rY) ?_;by_cases h0:number.getD i 0<0
       ·exact .inl h0
       ·right;obtain⟨a,b,c⟩:=hM.fwd i hi Bv;exact⟨(number.getD i 0).toNat,Bv,Bv,pJ _ (h3 _ Bv b)⟩
      refine⟨λ_=>⟨hE.hO.set hi,by simpa using hE.hN,?_,?_,?_,⟨n,uQ,oK _ _ _ _ AB,oK _ _ _ _ Sa,Jy,Hz,?_⟩,?_,?_,?_⟩,Jy,λx h=>p3 x (pJ x h),p4,Bv⟩
      ·intro j hj;rw[pH _ _ _ _ _ AB];split
       ·omega
       ·exact hE.iz j hj
      ·intro j hj eQ h0;rw[kz _ _ _ _ _ eQ]at h0 ⊢;by_cases wm:j=o
       ·subst wm;rw[y2];refine⟨Bv,?_,y4⟩;rw[eu,kz _ _ _ _ _ tx];exact y3
       ·obtain⟨a,b,c⟩:=hE.fwd j hj wm h0;refine⟨a,?_,c⟩;rw[kz]
        ·exact b
        ·intro e;rw[e,ZQ]at b;omega
      ·intro z hz h0 cC;by_cases wo:z=n
       ·subst wo;rw[oK _ _ _ _ Sa]at cC;exact absurd rfl cC
       ·rw[kz _ _ _ _ _ wo]at h0 cC ⊢;rw[kz _ _ _ _ _ Bv];by_cases Dz:po.getD z 0=o
        ·rcases y6 z hz Dz with rfl|aH
         ·rw[Dz,eu,y2]
         ·have:=hE.cW z hz aH;rw[Dz]at this;have hb:=hM.bwd z hz Bv;rw[<- this,eu,HA]at hb;omega
        ·exact hE.bwd z hz h0 Dz
      ·intro z hz he;by_cases wo:z=n
       ·exact .inl wo
       ·right;rw[kz _ _ _ _ _ wo]at he;have hb:=hE.bwd z hz Bv Bv;rw[he,eu,ZR]at hb;obtain⟨a,b,c⟩:=hM.fwd i hi Bv;rw[hb,eu]at b;exact h3 z hz b
      ·intro z hz aH;have wo:z≠n:=by intro e;subst e;simp_all
       rw[kz _ _ _ _ _ wo];exact hE.cW z hz (pJ z aH)
      ·intro j hj eQ qE;rw[kz _ _ _ _ _ eQ];have wm:j≠o:=by
        intro e;subst e;rcases qE with h|⟨z,hz,s9,DA⟩
        ·omega
        ·have:z=n:=Bv;subst this;simp_all
       refine hE.same j hj wm ?_;rcases qE with h|⟨z,hz,s9,DA⟩
       ·exact .inl h
       ·exact .inr ⟨z,hz,s9,pJ z DA⟩
      ·intro j hj eQ;rw[kz _ _ _ _ _ eQ];by_cases wm:j=o
       ·subst wm;rw[y2,HA];omega
       ·exact hE.pos j hj wm
     ·rw[if_neg Dy]at hq;have hF:=p2 (by simpa using Dy);obtain⟨pb,ps,po,pn⟩:=p;dsimp only at hF p3 p4 p5 hq;obtain⟨rfl,rfl,ZS,ZT⟩:=hF;obtain⟨a,b,c,d,e⟩:=ih i ps po pn Bv p4 hr hi hM (λx hx h=>p3 x (pJ x (h3 x hx h))) q hq;refine⟨λh=>?_,λh=>?_,λx h=>c x (p3 x (pJ x h)),d,Bv⟩
      ·have hE:=a h;obtain⟨y,y1,y2,y3,y4,y5,y6⟩:=hE.me;refine⟨hE.hO,hE.hN,hE.iz,hE.fwd,hE.bwd,⟨y,y1,y2,y3,by simp[y4],?_,?_⟩,λz hz h=>hE.cW z hz (p3 z (pJ z h)),?_,hE.pos⟩
       ·cases Dx:seen.getD y false with
        |false=>rfl
        |true=>rw[p3 y (pJ y Dx)]at y5;simp at y5
       ·intro z hz he;rcases y6 z hz he with h|h
        ·exact .inl h
        ·right;have hk:=hE.cW z hz h;rw[he]at hk;exact h3 z hz hk.symm
       ·intro j hj eQ qE;refine hE.same j hj eQ ?_;rcases qE with h|⟨z,hz,s9,DA⟩
        ·exact .inl h
        ·exact .inr ⟨z,hz,s9,p3 z (pJ z DA)⟩
      ·have hG:=b h;refine⟨hG.eo,hG.en,λy hy=>?_,λy hy Dx=>?_⟩
       ·rcases cI.1 hy with rfl|hy
        ·rw[eu];exact c n (p3 n (oK _ _ _ _ Bv))
        ·exact hG.all y hy
       ·rcases hG.cl y hy Dx with h'|h'
        ·rcases ZT y hy h' with lD|lD
         ·rw[pH _ _ _ _ _ Bv]at lD;split at lD
          ·rename_i tx;subst tx;right;refine⟨Bv,?_⟩;rw[ho,eu];intro z hz;exact c _ (ZS z hz)
          ·exact .inl lD
         ·exact .inr ⟨lD.1,λz hz=>c _ (lD.2 z hz)⟩
        ·exact .inr h'
def DB(left:List (List Int))(R:Nat)(D:Nat->Prop)(owner:List Int):Prop:=∀ x,x<R->D x->0<=owner.getD x 0/\∀ y∈left.getD (owner.getD x 0).toNat [],D y.toNat
def ZU{left:List (List Int)}{R:Nat}(hL:gQ R left){D:Nat->Prop}:∀ (f:Nat) (xs:List Int) (i:Nat) (seen:List Bool) (owner number:List Int),(∀ x∈xs,0<=x/\x<R)->DB left R D owner ->
  ((∀ x∈xs,D x.toNat)->(ee left f xs i seen owner number).1=false)/\∀ x,x<R->D x->(ee left f xs i seen owner number).2.2.1.getD x 0=owner.getD x 0:=by
 intro f
 induction f using vl with
 |_ f tn =>
  intro xs
  induction xs with
  |nil=>intro i seen owner number _ hC;rw[ee.eq_def];exact⟨λ_=>rfl,λ_ _ _=>rfl⟩
  |cons x r ih =>
   intro i seen owner number hx hC;have hr:∀ x∈r,0<=x/\x<R:=λy hy=>hx y (by simp[hy]);have hx1:=hx x Jy;rw[ee.eq_def];simp only;split
   ·obtain⟨a,b⟩:=ih i seen owner number hr hC;exact⟨λh=>a λy hy=>h y (by simp[hy]),b⟩
   ·split
    ·rename_i h1 h2;refine⟨λh=>?_,λy hy hD=>?_⟩
     ·have:=(hC x.toNat Bv (h x Jy)).1;omega
     ·rw[kz];intro e;subst e;have:=(hC _ hy hD).1;omega
    ·cases f with
     |zero=>exact⟨λ_=>rfl,λ_ _ _=>rfl⟩
     |succ f' =>
      obtain⟨a,b⟩:=tn f' Bv (left.getD (owner.getD x.toNat 0).toNat []) (owner.getD x.toNat 0).toNat (seen.set x.toNat true) owner number (hL.get _).2 hC;simp only;generalize ee left f' (left.getD (owner.getD x.toNat 0).toNat []) (owner.getD x.toNat 0).toNat (seen.set x.toNat true) owner number=p at a b ⊢;have ZV:DB left R D p.2.2.1:=by
       intro y hy hD;rw[b y hy hD];exact hC y hy hD
      split
      ·rename_i hp;refine⟨λh=>?_,λy hy hD=>?_⟩
       ·have:=a (hC x.toNat Bv (h x Jy)).2;simp_all
       ·dsimp only;rw[kz]
        ·exact b y hy hD
        ·intro e;subst e;have:=a (hC _ hy hD).2;simp_all
      ·obtain⟨c,d⟩:=ih i p.2.1 p.2.2.1 p.2.2.2 hr ZV;exact⟨λh=>c λy hy=>h y (by simp[hy]),λy hy hD=>(d y hy hD).trans (b y hy hD)⟩
def cn(n:Nat)(p:Nat->Bool):Nat:=(bp n).countP p
def HB(p:Nat->Bool):cn 0 p=0:=rfl
def lH(n:Nat)(p:Nat->Bool):cn (n+1) p=cn n p+(if p n=true then 1 else 0):=by
 simp only[cn,List.range_succ,List.countP_append,List.countP_cons,List.countP_nil,Nat.zero_add]
def wq{n:Nat}{p q:Nat->Bool}(h:∀ i,i<n->p i=q i):cn n p=cn n q:=by
 induction n with
 |zero=>rfl
 |succ n ih=>rw[lH,lH,ih λi hi=>h i Bv,h n Bv]
def wu{n:Nat}{p q:Nat->Bool}(h:∀ i,i<n->p i=true->q i=true):cn n p<=cn n q:=by
 induction n with
 |zero=>exact aM _
 |succ n ih =>
  rw[lH,lH];have:=ih λi hi=>h i Bv;have:=h n Bv;split<;>split<;>simp_all<;>omega
def uR(n:Nat)(p q:Nat->Bool):cn n p=cn n (λi=>p i&&q i)+cn n (λi=>p i&&!q i):=by
 induction n with
 |zero=>rfl
 |succ n ih =>
  rw[lH,lH,lH,ih];cases p n<;>cases q n<;>simp<;>omega
def HC{n:Nat}{p:Nat->Bool}(h:cn n p=0):∀ i,i<n->p i=false:=by
 induction n with
 |zero=>intro i hi;omega
 |succ n ih =>
  rw[lH]at h;intro i hi;rcases Nat.lt_succ_iff_lt_or_eq.1 hi with hi|rfl
  ·exact ih Bv i hi
  ·cases hp:p i with
   |false=>rfl
   |true=>rw[hp]at h;simp at h
def Sb{n:Nat}{p:Nat->Bool}(h:∀ i,i<n->p i=false):cn n p=0:=by
 induction n with
 |zero=>rfl
 |succ n ih=>rw[lH,ih λi hi=>h i Bv,h n Bv];rfl
def Sd(n:Nat)(p:Nat->Bool):cn n p+cn n (λi=>!p i)=n:=by
 induction n with
 |zero=>rfl
 |succ n ih=>rw[lH,lH];cases p n<;>simp<;>omega
def HD{n:Nat}{p q:Nat->Bool}(k:Nat)(hk:k<n)(h:∀ i,i<n->i≠k->p i=q i)(hp:p k=true)(hq:q k=false):cn n p=cn n q+1:=by
 induction n with
 |zero=>omega
 |succ n ih =>
  rw[lH,lH];by_cases Se:k=n
  ·subst Se;rw[wq (p:=p) (q:=q) λi hi=>h i Bv Bv,hp,hq];rfl
  ·rw[ih Bv λi hi=>h i Bv,h n Bv (Ne.symm Se)];omega
def Sf{n m:Nat}{p q:Nat->Bool}(f:Nat->Nat)(h1:∀ i,i<n->p i=true->f i<m/\q (f i)=true)(h2:∀ i j,i<n->j<n->p i=true->p j=true->f i=f j->i=j):cn n p<=cn m q:=by
 induction n generalizing q with
 |zero=>simp[HB]
 |succ n ih =>
  rw[lH];split
  ·rename_i hp;obtain⟨a,b⟩:=h1 n Bv hp;have e:=HD (n:=m) (p:=q) (q:=λx=>q x&&!decide (x=f n)) (f n) a (λi _ hi=>by simp[hi]) b Jy;have:=ih (q:=λx=>q x&&!decide (x=f n)) (λi hi AB=>by
    obtain⟨c,d⟩:=h1 i Bv AB;refine⟨c,?_⟩;have:f i≠f n:=λe=>by have:=h2 i n Bv Bv AB hp e;omega
    simp[d,this]) (λi j hi hj=>h2 i j Bv Bv)
   omega
  ·exact ih (λi hi=>h1 i Bv) (λi j hi hj=>h2 i j Bv Bv)
def rZ(left:List (List Int))(R:Nat)(w:Int):Nat->Nat->List Int->List Int->List Int×List Int
 |0,_,owner,number=>(owner,number)
 |c+1,i,owner,number =>
  if(i:Int)=w then rZ left R w c (i+1) owner number
  else
   let q:=ee left R (left.getD i []) i (aD R false) owner number
   rZ left R w c (i+1) q.2.2.1 q.2.2.2
def on(number:List Int)(i:Nat):Bool:=decide (0<=number.getD i 0)
structure Inv(left:List (List Int))(R:Nat)(w:Int)(i:Nat)(owner number:List Int)(D:Nat->Prop):Prop where
 ok:uP left R owner number
 rest:∀ j,j<left.length->(i<=j\/(j:Int)=w)->number.getD j 0 = -1
 cl:DB left R D owner
 dead:∀ j,j<i->j<left.length->(j:Int)≠w->number.getD j 0<0->∀ y∈left.getD j [],D y.toNat
def Inv.step{left:List (List Int)}{R:Nat}(hL:gQ R left){w:Int}{i:Nat}{owner number:List Int}{D:Nat->Prop}(h:Inv left R w i owner number D)(hi:i<left.length)(hw:(i:Int)≠w):
  ∀ q,ee left R (left.getD i []) i (aD R false) owner number=q->(∃ D',Inv left R w (i+1) q.2.2.1 q.2.2.2 D')/\cn left.length (on q.2.2.2)=cn left.length (on number)+(if q.1=true then 1 else 0):=by
 intro q hq;have rF:=h.rest i hi (.inl (aM _));have h3:∀ x,x<R->owner.getD x 0=i->(aD R false).getD x false=true:=by
  intro x hx he;have:=h.ok.bwd x hx Bv;rw[he,eu,rF]at this;omega
 obtain⟨a,b,c,d,e⟩:=ZO hL R (left.getD i []) i (aD R false) owner number (by rw[Q5];exact aM _) Jy (hL.get _).2 hi h.ok h3 q hq;obtain⟨_,g⟩:=ZU hL (D:=D) R (left.getD i []) i (aD R false) owner number (hL.get _).2 h.cl;rw[hq]at g;have cz:DB left R D q.2.2.1:=by
  intro y hy hD;rw[g y hy hD];exact h.cl y hy hD
 cases hb:q.1 with
 |true =>
  have hE:=a hb;obtain⟨y,y1,y2,y3,y4,y5,y6⟩:=hE.me;refine⟨⟨D,⟨hE.hO,hE.hN,hE.iz,?_,?_⟩,?_,cz,?_⟩,?_⟩
  ·intro j hj h0;by_cases eQ:j=i
   ·subst eQ;rw[y2,eu];exact⟨Bv,y3,y4⟩
   ·exact hE.fwd j hj eQ h0
  ·intro x hx h0;by_cases HE:q.2.2.1.getD x 0=i
   ·rcases y6 x hx HE with rfl|h'
    ·rw[HE,eu,y2]
    ·rw[wj]at h';simp at h'
   ·exact hE.bwd x hx h0 HE
  ·intro j hj qE;have eQ:j≠i:=by rcases qE with h|h<;>omega
   have hr:=h.rest j hj (by rcases qE with h|h<;>omega);have:=hE.pos j hj eQ;have:=hE.iz j hj;omega
  ·intro j hj fF AD h0 z hz;have eQ:j≠i:=by intro e;subst e;omega
   have:=hE.pos j fF eQ;exact h.dead j Bv fF AD Bv z hz
  ·rw[if_pos rfl];refine HD i hi (λj hj eQ=>?_) ?_ ?_
   ·have:=hE.pos j hj eQ;simp only[on,this]
   ·rw[on,y2];exact decide_eq_true Bv
   ·simp only[on,rF];rfl
 |false =>
  have hF:=b hb;rw[hF.eo,hF.en];refine⟨⟨λx=>D x\/q.2.1.getD x false=true,h.ok,λj hj qE=>h.rest j hj (by rcases qE with h|h<;>omega),?_,?_⟩,Jy⟩
  ·intro x hx hD;rcases hD with hD|hD
   ·obtain⟨k,l⟩:=h.cl x hx hD;exact⟨k,λy hy=>.inl (l y hy)⟩
   ·rcases hF.cl x hx hD with h'|⟨k,l⟩
    ·rw[wj]at h';simp at h'
    ·exact⟨k,λy hy=>.inr (l y hy)⟩
  ·intro j hj fF AD h0 z hz;by_cases eQ:j=i
   ·subst eQ;exact .inr (hF.all z hz)
   ·exact .inl (h.dead j Bv fF AD h0 z hz)
def HF{left:List (List Int)}{R:Nat}(hL:gQ R left){w:Int}:∀ (c i k:Nat) (owner number:List Int) (D:Nat->Prop),i+c=left.length->Inv left R w i owner number D ->
  (∃ D',Inv left R w left.length (rZ left R w c i owner number).1 (rZ left R w c i owner number).2 D')/\xS left R w c i k owner+cn left.length (on number)=k+cn left.length (on (rZ left R w c i owner number).2)
 |0,i,k,owner,number,D,hi,h=>by
  rw[rZ,xS];obtain rfl:i=left.length:=Bv;exact⟨⟨D,h⟩,rfl⟩
 |c+1,i,k,owner,number,D,hi,h=>by
  rw[rZ,xS];by_cases hw:(i:Int)=w
  ·rw[if_pos hw,if_pos hw];exact HF hL c (i+1) k owner number D Bv { h with
    rest:=λj hj qE=>h.rest j hj (by rcases qE with h|h<;>omega)
    dead:=λj hj fF AD h0=>h.dead j Bv fF AD h0 }
  ·rw[if_neg hw,if_neg hw];obtain⟨⟨D',hI⟩,hc⟩:=h.step hL Bv hw _ rfl;obtain⟨e1,e2,e3,e4⟩:=Da left R (left.getD i []) i (aD R false) owner number;simp only;rw[<- e1,<- e3];obtain⟨a,b⟩:=HF hL c (i+1) (if(ee left R (left.getD i []) i (aD R false) owner number).1=true then k+1 else k) _ _ D' Bv hI;refine⟨a,?_⟩;split at hc<;>simp_all<;>omega
def yc(left:List (List Int))(R:Nat)(w:Int):List Int×List Int:=rZ left R w left.length 0 (aD R (-1)) (aD left.length (-1))
def DC{left:List (List Int)}{R:Nat}(hL:gQ R left)(w:Int):(∃ D,Inv left R w left.length (yc left R w).1 (yc left R w).2 D)/\size left R w=cn left.length (on (yc left R w).2):=by
 have h0:Inv left R w 0 (aD R (-1)) (aD left.length (-1)) (λ_=>False):=by
  refine⟨⟨ja.rep _ _,Jy,?_,?_,?_⟩,?_,?_,?_⟩
  ·intro j hj;rw[AA _ _ _ _ hj];omega
  ·intro j hj h;rw[AA _ _ _ _ hj]at h;omega
  ·intro j hj h;rw[AA _ _ _ _ hj]at h;omega
  ·intro j hj _;rw[AA _ _ _ _ hj]
  ·intro x _ h;exact h.elim
  ·intro j hj;omega
 obtain⟨a,b⟩:=HF hL left.length 0 0 _ _ _ Bv h0;refine⟨a,?_⟩;have:cn left.length (on (aD left.length (-1)))=0:=Sb λi hi=>by rw[on,AA _ _ _ _ hi];rfl
 rw[size];unfold yc;omega
def Sg(left:List (List Int))(R:Nat):∀ (c i:Nat) (owner number:List Int),rZ left R (-1) c i owner number=pD left R c i owner number
 |0,i,owner,number=>rfl
 |c+1,i,owner,number=>by
  rw[rZ,pD,if_neg Bv];exact Sg left R c (i+1) _ _
def HG(left:List (List Int))(R:Nat):yc left R (-1)=gB left R:=Sg _ _ _ _ _ _
def DD{left:List (List Int)}{R:Nat}{owner number:List Int}(h:uP left R owner number){T D:Nat->Bool}(hT:∀ i,i<left.length->T i=true->∀ y∈left.getD i [],D y.toNat=true):
  cn left.length (λi=>T i&&on number i)<=cn R (λx=>D x&&decide (0<=owner.getD x 0)&&T (owner.getD x 0).toNat):=by
 refine Sf (λi=>(number.getD i 0).toNat) (λi hi hp=>?_) (λi j hi hj hp hq he=>?_)
 ·simp only[bb,on,decide_eq_true_eq]at hp;obtain⟨a,b,c⟩:=h.fwd i hi hp.2;refine⟨Bv,?_⟩;simp only[b,eu,hp.1,hT i hi hp.1 _ c,eR,Bool.and_true,decide_eq_true_eq];omega
 ·simp only[bb,on,decide_eq_true_eq]at hp hq;obtain⟨a,b,c⟩:=h.fwd i hi hp.2;obtain⟨a',b',c'⟩:=h.fwd j hj hq.2;try dsimp only at he
  rw[he]at b;omega
def HH{left:List (List Int)}{R:Nat}{owner number:List Int}(h:uP left R owner number){T D:Nat->Bool}(hD:∀ x,x<R->D x=true->0<=owner.getD x 0/\T (owner.getD x 0).toNat=true):
  cn R D<=cn left.length (λi=>T i&&on number i):=by
 refine Sf (λx=>(owner.getD x 0).toNat) (λx hx hp=>?_) (λx y hx hy hp hq he=>?_)
 ·obtain⟨a,b⟩:=hD x hx hp;have hg:=h.hO.get hx;refine⟨Bv,?_⟩;simp only[b,eR,on,decide_eq_true_eq];rw[h.bwd x hx a];omega
 ·obtain⟨a,b⟩:=hD x hx hp;obtain⟨a',b'⟩:=hD y hy hq;have e1:=h.bwd x hx a;have e2:=h.bwd y hy a';try dsimp only at he
  rw[he]at e1;omega
def AE{list:List Int}:∀ (l q:List Int) (used aE:List Bool),(∀ i,i∈q->i∈(gd list l q used aE).1)/\(∀ x,used.getD x false=true->(gd list l q used aE).2.1.getD x false=true)/\(∀ i,aE.getD i false=true->(gd list l q used aE).2.2.getD i false=true)
 |[],q,used,aE=>⟨λ_ h=>h,λ_ h=>h,λ_ h=>h⟩
 |n::r,q,used,aE=>by
  have hm:∀ (l:List Bool) (k x:Nat),l.getD x false=true->(l.set k true).getD x false=true:=λl k x h=>by
   by_cases hk:k<l.length
   ·rw[pH _ _ _ _ _ hk];split<;>simp_all
   ·rw[List.set_eq_of_length_le Bv];exact h
  rw[gd];split
  ·obtain⟨a,b,c⟩:=AE (list:=list) r (q++[list.getD n.toNat 0]) (used.set n.toNat true) (aE.set (list.getD n.toNat 0).toNat true);exact⟨λi h=>a i (by simp[h]),λx h=>b x (hm _ _ _ h),λx h=>c x (hm _ _ _ h)⟩
  ·obtain⟨a,b,c⟩:=AE (list:=list) r q (used.set n.toNat true) aE;exact⟨a,λx h=>b x (hm _ _ _ h),c⟩
def HJ{list:List Int}{n R:Nat}(ho:ja n R list):∀ (l q:List Int) (used aE:List Bool),(∀ x∈l,0<=x/\x<R)->used.length=R->aE.length=n ->
  (∀ i,(gd list l q used aE).2.2.getD i false=true->aE.getD i false=true\/(i:Int)∈(gd list l q used aE).1) /\
  (∀ x∈l,(gd list l q used aE).2.1.getD x.toNat false=true) /\
  (∀ x,(gd list l q used aE).2.1.getD x false=true->used.getD x false=true\/(0<=list.getD x 0->(gd list l q used aE).2.2.getD (list.getD x 0).toNat false=true)) /\
  ∀ (T E:Nat->Prop),(∀ x,E x->0<=list.getD x 0->T (list.getD x 0).toNat)->(∀ x∈l,E x.toNat)->(∀ i,aE.getD i false=true->T i)->(∀ x,used.getD x false=true->E x)->(∀ i∈q,T i.toNat) ->
   (∀ i,(gd list l q used aE).2.2.getD i false=true->T i)/\(∀ x,(gd list l q used aE).2.1.getD x false=true->E x)/\∀ i∈(gd list l q used aE).1,T i.toNat
 |[],q,used,aE,_,_,_=>⟨λ_ h=>.inl h,by simp[gd],λ_ h=>.inl h,λT E _ _ h1 h2 h3=>⟨h1,h2,h3⟩⟩
 |m::r,q,used,aE,hl,hu,hi=>by
  have hx:=hl m Jy;have hr:∀ x∈r,0<=x/\x<R:=λy hy=>hl y (by simp[hy]);have Dc:=ho.get (x:=m.toNat) Bv;have AF:m.toNat<used.length:=Bv;have jZ:∀ (E:Nat->Prop),E m.toNat->(∀ x,used.getD x false=true->E x)->∀ x,(used.set m.toNat true).getD x false=true->E x:=λE h1 h2 x h=>by
   rw[pH _ _ _ _ _ AF]at h;split at h
   ·rename_i e;subst e;exact h1
   ·exact h2 x h
  rw[gd];split
  ·rename_i hc;have ig:(list.getD m.toNat 0).toNat<aE.length:=Bv;obtain⟨m1,m2,m3⟩:=AE (list:=list) r (q++[list.getD m.toNat 0]) (used.set m.toNat true) (aE.set (list.getD m.toNat 0).toNat true);obtain⟨a,b,c,d⟩:=HJ ho r (q++[list.getD m.toNat 0]) (used.set m.toNat true) (aE.set (list.getD m.toNat 0).toNat true) hr (by simpa using hu) (by simpa using hi);refine⟨λi h=>?_,λx hx=>?_,λx h=>?_,λT E tA yd h1 h2 h3=>?_⟩
   ·rcases a i h with h'|h'
    ·rw[pH _ _ _ _ _ ig]at h';split at h'
     ·rename_i e;right;refine m1 _ ?_;rw[e,bE,bK];right;omega
     ·exact .inl h'
    ·exact .inr h'
   ·rcases cI.1 hx with rfl|hx
    ·exact m2 _ (oK _ _ _ _ AF)
    ·exact b x hx
   ·rcases c x h with h'|h'
    ·rw[pH _ _ _ _ _ AF]at h';split at h'
     ·rename_i e;right;subst e;intro _;exact m3 _ (oK _ _ _ _ ig)
     ·exact .inl h'
    ·exact .inr h'
   ·have Sh:T (list.getD m.toNat 0).toNat:=tA _ (yd m Jy) hc.1;refine d T E tA (λx hx=>yd x (by simp[hx])) (λi h=>?_) (jZ E (yd m Jy) h2) (λi hi'=>?_)
    ·rw[pH _ _ _ _ _ ig]at h;split at h
     ·rename_i e;subst e;exact Sh
     ·exact h1 i h
    ·rcases bE.1 hi' with h|h
     ·exact h3 i h
     ·simp only[bK]at h;subst h;exact Sh
  ·rename_i hc;obtain⟨m1,m2,m3⟩:=AE (list:=list) r q (used.set m.toNat true) aE;obtain⟨a,b,c,d⟩:=HJ ho r q (used.set m.toNat true) aE hr (by simpa using hu) hi;refine⟨a,λx hx=>?_,λx h=>?_,λT E tA yd h1 h2 h3=>?_⟩
   ·rcases cI.1 hx with rfl|hx
    ·exact m2 _ (oK _ _ _ _ AF)
    ·exact b x hx
   ·rcases c x h with h'|h'
    ·rw[pH _ _ _ _ _ AF]at h';split at h'
     ·rename_i e;right;subst e;intro h0;refine m3 _ ?_;cases hh:aE.getD (list.getD m.toNat 0).toNat false with
      |true=>rfl
      |false=>exact absurd ⟨h0,hh⟩ hc
     ·exact .inl h'
    ·exact .inr h'
   ·exact d T E tA (λx hx=>yd x (by simp[hx])) h1 (jZ E (yd m Jy) h2) h3
theorem Si{left:List (List Int)}{list:List Int}{R:Nat}(hL:gQ R left)(ho:ja left.length R list):∀ (f:Nat) (q:List Int) (used aE:List Bool),q.length+ju aE<=f->(∀ x∈q,0<=x/\x<left.length)->used.length=R->aE.length=left.length ->
  (∀ i,i<left.length->aE.getD i false=true->(i:Int)∈q\/∀ x∈left.getD i [],used.getD x.toNat false=true)->(∀ x,used.getD x false=true->0<=list.getD x 0->aE.getD (list.getD x 0).toNat false=true) ->
  ∀ z,oF left list f q used aE=z->z.1.length=R/\z.2.length=left.length/\(∀ i,aE.getD i false=true->z.2.getD i false=true)/\(∀ i,i<left.length->z.2.getD i false=true->∀ x∈left.getD i [],z.1.getD x.toNat false=true)/\(∀ x,z.1.getD x false=true->0<=list.getD x 0->z.2.getD (list.getD x 0).toNat false=true) /\
   ∀ (T E:Nat->Prop),(∀ x,E x->0<=list.getD x 0->T (list.getD x 0).toNat)->(∀ i,T i->∀ x∈left.getD i [],E x.toNat)->(∀ i,aE.getD i false=true->T i)->(∀ x,used.getD x false=true->E x)->(∀ i∈q,T i.toNat)->(∀ i,z.2.getD i false=true->T i)/\∀ x,z.1.getD x false=true->E x
 |0,q,used,aE,hf,hq,hu,hi,h1,h2,z,hz=>by
  have:q=[]:=List.eq_nil_of_length_eq_zero (by omega);subst this;rw[oF]at hz;subst hz;exact⟨hu,hi,fun _ h=>h,fun i hi' h=>(h1 i hi' h).resolve_left (by simp),h2,fun T E _ _ a b _=>⟨a,b⟩⟩
 |f+1,[],used,aE,hf,hq,hu,hi,h1,h2,z,hz=>by
  rw[oF]at hz;subst hz;exact⟨hu,hi,fun _ h=>h,fun i hi' h=>(h1 i hi' h).resolve_left (by simp),h2,fun T E _ _ a b _=>⟨a,b⟩⟩
 |f+1,i::q,used,aE,hf,hq,hu,hi,h1,h2,z,hz=>by
  rw[oF]at hz;have uS:=hq i (by simp);have hl:=(hL.get i.toNat).2;obtain⟨k1,k2,k3,k4⟩:=Db ho (left.getD i.toNat []) q used aE hl (fun x hx=>hq x (by simp[hx])) hu hi;obtain⟨m1,m2,m3⟩:=AE (list:=list) (left.getD i.toNat []) q used aE;obtain⟨a,b,c,d⟩:=HJ ho (left.getD i.toNat []) q used aE hl hu hi;generalize hy:gd list (left.getD i.toNat []) q used aE=y at *;try dsimp only at hz
  have dU:q.length+1+ju aE<=f+1:=hf;obtain⟨r1,r2,r3,r4,r5,r6⟩:=Si hL ho f y.1 y.2.1 y.2.2 (by omega) k1 k2 k3 (fun j hj h=>by
    rcases a j h with h'|h'
    ·rcases h1 j hj h' with lD|lD
     ·rcases List.mem_cons.1 lD with e|lD
      ·right;intro x hx;have:i.toNat=j:=by omega
       rw[<- this]at hx;exact b x hx
      ·exact .inl (m1 _ lD)
     ·exact .inr fun x hx=>m2 _ (lD x hx)
    ·exact .inl h') (fun x h h0=>by
    rcases c x h with h'|h'
    ·exact m3 _ (h2 x h' h0)
    ·exact h' h0) z hz
  refine⟨r1,r2,fun i h=>r3 i (m3 i h),r4,r5,fun T E tA DE h3 h4 h5=>?_⟩;obtain⟨d1,d2,d3⟩:=d T E tA (fun x hx=>DE _ (h5 i (by simp)) x hx) h3 h4 (fun j hj=>h5 j (by simp[hj]));exact r6 T E tA DE d1 d2 d3
def Sj(n:Nat)(p:Nat->Bool):cn (n+1) p=(if p 0=true then 1 else 0)+cn n (λi=>p (i+1)):=by
 induction n with
 |zero=>rw[lH,HB,HB];omega
 |succ n ih=>rw[lH,ih,lH (n:=n)];omega
def Sk{α:Type}(p:α->Bool)(d:α):∀ l:List α,l.countP p=cn l.length (λi=>p (l.getD i d))
 |[]=>rfl
 |a::l=>by
  rw[List.countP_cons,Sk p d l,cf,Sj];simp only[je,gY];omega
def HK(l:List Bool):∀ k,(cY l k).length=cn l.length (λi=>l.getD i false):=by
 induction l with
 |nil=>intro k;rfl
 |cons b r ih =>
  intro k;rw[cY,cf,Sj];simp only[je,gY];split
  ·rw[cf,ih];omega
  ·rw[ih];omega
def Sl(l:List Bool):∀ (k i:Nat),l.getD i false=true->((k+i:Nat):Int)∈cY l k:=by
 induction l with
 |nil=>intro k i h;simp at h
 |cons b r ih =>
  intro k i h;rw[cY];cases i with
  |zero =>
   rw[je]at h;rw[if_pos h];simp
  |succ i =>
   rw[gY]at h;have:=ih (k+1) i h;rw[show k+1+i=k+(i+1) by omega]at this;split
   ·exact List.mem_cons_of_mem _ this
   ·exact this
def ZW{number:List Int}{i:Nat}(hi:i<number.length):(iO number).getD i false = !on number i:=by
 rw[iO,on,ax,cm,aT hi,ax,aT hi];simp only[fN,dE];by_cases h:number[i]<0
 ·rw[decide_eq_true h,decide_eq_false Bv];rfl
 ·rw[decide_eq_false h,decide_eq_true Bv];rfl
structure Reach(left:List (List Int))(R:Nat)(owner number:List Int)(used aE:List Bool):Prop where
 lu:used.length=R
 li:aE.length=left.length
 g1:∀ i,i<left.length->on number i=false->aE.getD i false=true
 g2:∀ i,i<left.length->aE.getD i false=true->∀ x∈left.getD i [],used.getD x.toNat false=true
 g3:∀ x,used.getD x false=true->0<=owner.getD x 0->aE.getD (owner.getD x 0).toNat false=true
 g4:∀ (T E:Nat->Prop),(∀ x,E x->0<=owner.getD x 0->T (owner.getD x 0).toNat)->(∀ i,T i->∀ x∈left.getD i [],E x.toNat)->(∀ i,i<left.length->on number i=false->T i)->(∀ i,aE.getD i false=true->T i)/\∀ x,used.getD x false=true->E x
def reach{left:List (List Int)}{R:Nat}(hL:gQ R left){owner number:List Int}(h:uP left R owner number):∀ z,oF left owner left.length (cY (iO number) 0) (aD R false) (iO number)=z->Reach left R owner number z.1 z.2:=by
 intro z hz;have AG:(iO number).length=left.length:=by rw[iO,eA,h.hN]
 have bq:∀ i,(iO number).getD i false=true->i<left.length:=λi hi=>by
  rcases dr i (iO number).length with h'|h'
  ·omega
  ·rw[ax,fO h']at hi;simp at hi
 have pj:∀ i,i<left.length->(iO number).getD i false = !on number i:=λi hi=>ZW (by rw[h.hN];exact hi);obtain⟨r1,r2,r3,r4,r5,r6⟩:=Si hL h.hO left.length (cY (iO number) 0) (aD R false) (iO number) (by rw[Ad,AG];exact aM _) (λx hx=>by
  have:=tp _ _ x hx;rw[AG]at this;omega) Jy AG (λi hi hh=>.inl (by have:=Sl (iO number) 0 i hh;simpa using this)) (λx hx=>by rw[wj]at hx;simp at hx) z hz
 refine⟨r1,r2,λi hi hh=>r3 i (by rw[pj i hi,hh];rfl),r4,r5,λT E tA DE h1=>?_⟩;refine r6 T E tA DE (λi hi=>?_) (λx hx=>by rw[wj]at hx;simp at hx) (λi hi=>?_)
 ·have hl:=bq i hi;rw[pj i hl]at hi;exact h1 i hl (by simpa using hi)
 ·have:=tp _ _ i hi;obtain⟨j,rfl⟩:∃j:Nat,i=j:=⟨i.toNat,Bv⟩;rw[eu];have key:∀ (l:List Bool) (k j:Nat),(j:Int)∈cY l k->l.getD (j-k) false=true:=by
   intro l
   induction l with
   |nil=>intro k j hj;simp[cY]at hj
   |cons b r ih =>
    intro k j hj;rw[cY]at hj;have AH:(j:Int)∈cY r (k+1)->(b::r).getD (j-k) false=true:=λhj=>by
     have hr:=tp _ _ _ hj;have:=ih _ _ hj;rw[show j-k=(j-(k+1))+1 by omega,gY];exact this
    split at hj
    ·rename_i hb;rcases cI.1 hj with e|hj
     ·rw[show j-k=0 by omega,je];exact hb
     ·exact AH hj
    ·exact AH hj
  have hk:=key _ _ _ hi;rw[Nat.sub_zero]at hk;have hl:=bq j hk;rw[pj j hl]at hk;exact h1 j hl (by simpa using hk)
noncomputable def pb(D:Nat->Prop)(x:Nat):Bool:=@decide (D x) (Classical.propDecidable _)
def nh{D:Nat->Prop}{x:Nat}:pb D x=true↔D x:=by
 unfold pb;exact @decide_eq_true_iff _ (Classical.propDecidable _)
section
variable {left:List (List Int)} {R:Nat} {owner number:List Int} {used aE:List Bool} {D:Nat->Prop}
def Reach.ZX(hL:gQ R left)(h:Inv left R (-1) left.length owner number D)(hr:Reach left R owner number used aE):∀ x,used.getD x false=true->x<R/\0<=owner.getD x 0:=by
 intro x hx;obtain⟨_,b⟩:=hr.g4 (λi=>∀ y∈left.getD i [],D y.toNat) (λx=>x<R/\D x) (λx hx h0=>(h.cl x hx.1 hx.2).2) (λi hi y hy=>⟨by have:=(hL.get i).2 y hy;omega,hi y hy⟩) (λi hi h0=>h.dead i hi hi Bv (by simpa [on] using h0));obtain⟨c,d⟩:=b x hx;exact⟨c,(h.cl x c d).1⟩
def Reach.count(hL:gQ R left)(h:Inv left R (-1) left.length owner number D)(hr:Reach left R owner number used aE):
  cn left.length (λi=>aE.getD i false)=cn left.length (λi=>!on number i)+cn R (λx=>used.getD x false):=by
 rw[uR _ _ (on number)];have e1:cn left.length (λi=>aE.getD i false&&!on number i)=cn left.length (λi=>!on number i):=wq λi hi=>by
  cases ho:on number i with
  |true=>simp
  |false=>rw[hr.g1 i hi ho];rfl
 have h1:=DD h.ok (T:=λi=>aE.getD i false) (D:=λx=>used.getD x false) (λi hi hT=>hr.g2 i hi hT);have h2:cn R (λx=>used.getD x false&&decide (0<=owner.getD x 0)&&aE.getD (owner.getD x 0).toNat false)<=cn R (λx=>used.getD x false):=wu λi _ hi=>by simp only[bb]at hi;exact hi.1.1
 have h3:=HH h.ok (T:=λi=>aE.getD i false) (D:=λx=>used.getD x false) (λx hx hu=>by
  have:=(hr.ZX hL h x hu).2;exact⟨this,hr.g3 x hu this⟩)
 omega
def Reach.none(hr:Reach left R owner number used aE)(h:∀ i,i<left.length->on number i=true):∀ i,aE.getD i false=false:=by
 obtain⟨a,_⟩:=hr.g4 (λ_=>False) (λ_=>False) (λ_ h _=>h) (λ_ h=>h.elim) (λi hi h0=>by rw[h i hi]at h0;simp at h0);intro i;cases hh:aE.getD i false with
 |false=>rfl
 |true=>exact(a i hh).elim
def Reach.group(hL:gQ R left)(h:Inv left R (-1) left.length owner number D)(hr:Reach left R owner number used aE)(hs:size left R (-1)=cn left.length (on number)){w:Nat}(hw:w<left.length):
  aE.getD w false=decide (size left R w=size left R (-1)):=by
 obtain⟨⟨Dw,hW⟩,AI⟩:=DC hL (w:Int);generalize yc left R w=mw at hW AI;obtain⟨ow,nw⟩:=mw;dsimp only at hW AI;have Sm:nw.getD w 0 = -1:=hW.rest w hw (.inr rfl);have hc:=hr.count hL h;have n1:=Sd left.length (on number);have n2:=Sd left.length (on nw);have uw:cn left.length (λi=>!on nw i)=cn left.length (λi=>decide (i≠w)&&!on nw i)+1:=by
  refine HD w hw (λi hi cC=>by simp[cC]) ?_ Jy;simp only[on,Sm];rfl
 generalize hU:cn left.length (λi=>!on number i)=U at *;generalize Sn:cn left.length (λi=>decide (i≠w)&&!on nw i)=Uw at *;cases eE:aE.getD w false with
 |false =>
  have k1:=DD hW.ok (T:=λi=>aE.getD i false) (D:=λx=>used.getD x false) (λi hi hT=>hr.g2 i hi hT);have k2:cn R (λx=>used.getD x false&&decide (0<=ow.getD x 0)&&aE.getD (ow.getD x 0).toNat false)<=cn R (λx=>used.getD x false):=wu λi _ hi=>by simp only[bb]at hi;exact hi.1.1
  have k3:=uR left.length (λi=>aE.getD i false) (on nw);have k4:cn left.length (λi=>aE.getD i false&&!on nw i)<=Uw:=by
   rw[<- Sn];refine wu λi hi hp=>?_;simp only[bb]at hp ⊢;refine⟨?_,hp.2⟩;rw[decide_eq_true_eq];intro e;subst e;simp_all
  symm;rw[decide_eq_false_iff_not];omega
 |true =>
  symm;rw[decide_eq_true_eq];have a1:=HH h.ok (T:=λi=>pb (λi=>∀ y∈left.getD i [],D y.toNat) i) (D:=pb D) (λx hx hD=>by
   obtain⟨c1,c2⟩:=h.cl x hx (nh.1 hD);exact⟨c1,nh.2 c2⟩)
  have a2:=DD hW.ok (T:=λi=>pb (λi=>∀ y∈left.getD i [],D y.toNat) i) (D:=pb D) (λi hi hT y hy=>nh.2 (nh.1 hT y hy));have a3:cn R (λx=>pb D x&&decide (0<=ow.getD x 0)&&pb (λi=>∀ y∈left.getD i [],D y.toNat) (ow.getD x 0).toNat)<=cn R (pb D):=wu λi _ hi=>by simp only[bb]at hi;exact hi.1.1
  have a4:=uR left.length (λi=>pb (λi=>∀ y∈left.getD i [],D y.toNat) i) (on number);have a5:=uR left.length (λi=>pb (λi=>∀ y∈left.getD i [],D y.toNat) i) (on nw);have a6:cn left.length (λi=>pb (λi=>∀ y∈left.getD i [],D y.toNat) i&&!on number i)=U:=by
   rw[<- hU];refine wq λi hi=>?_;cases ho:on number i with
   |true=>simp
   |false =>
    have:pb (λi=>∀ y∈left.getD i [],D y.toNat) i=true:=nh.2 (h.dead i hi hi Bv (by simpa [on] using ho));rw[this];rfl
  have a7:cn left.length (λi=>pb (λi=>∀ y∈left.getD i [],D y.toNat) i&&!on nw i)<=Uw+1:=by
   rw[<- uw];refine wu λi hi hp=>?_;simp only[bb]at hp;exact hp.2
  have b0:∀ x,x<R->Dw x->ow.getD x 0≠w:=λx hx hD e=>by
   have h0:=(hW.cl x hx hD).1;have:=hW.ok.bwd x hx h0;rw[e,eu,Sm]at this;omega
  let Tw:Nat->Prop:=λi=>i≠w/\∀ y∈left.getD i [],Dw y.toNat
  have b1:=HH hW.ok (T:=pb Tw) (D:=pb Dw) (λx hx hD=>by
   obtain⟨c1,c2⟩:=hW.cl x hx (nh.1 hD);have cC:=b0 x hx (nh.1 hD);exact⟨c1,nh.2 ⟨Bv,c2⟩⟩)
  have b2:=DD h.ok (T:=pb Tw) (D:=pb Dw) (λi hi hT y hy=>nh.2 ((nh.1 hT).2 y hy));have b3:cn R (λx=>pb Dw x&&decide (0<=owner.getD x 0)&&pb Tw (owner.getD x 0).toNat)<=cn R (pb Dw):=wu λi _ hi=>by simp only[bb]at hi;exact hi.1.1
  have b4:=uR left.length (pb Tw) (on number);have b5:=uR left.length (pb Tw) (on nw);have b6:cn left.length (λi=>pb Tw i&&!on nw i)=Uw:=by
   rw[<- Sn];refine wq λi hi=>?_;cases ho:on nw i with
   |true=>simp
   |false =>
    by_cases DF:i=w
    ·have:pb Tw i=false:=by
      cases hp:pb Tw i with
      |false=>rfl
      |true=>exact absurd DF (nh.1 hp).1
     rw[this];simp[DF]
    ·have:pb Tw i=true:=nh.2 ⟨DF,hW.dead i hi hi Bv (by simpa [on] using ho)⟩;rw[this];simp[DF]
  have b7:cn left.length (λi=>pb Tw i&&!on number i)<=U:=by
   rw[<- hU];refine wu λi hi hp=>?_;simp only[bb]at hp;exact hp.2
  by_cases bq:Uw<U
  ·omega
  ·exfalso;have c1:=uR left.length (λi=>!on number i) (pb Tw);have c2:cn left.length (λi=>!on number i&&pb Tw i)=cn left.length (λi=>pb Tw i&&!on number i):=wq λi _=>Bool.and_comm _ _;have c3:cn left.length (λi=>!on number i&&!pb Tw i)=0:=Bv;have c4:=uR R (pb Dw) (λx=>decide (0<=owner.getD x 0)&&pb Tw (owner.getD x 0).toNat);have c5:cn R (λx=>pb Dw x&&(decide (0<=owner.getD x 0)&&pb Tw (owner.getD x 0).toNat))=cn R (λx=>pb Dw x&&decide (0<=owner.getD x 0)&&pb Tw (owner.getD x 0).toNat):=wq λi _=>(Bool.and_assoc _ _ _).symm;have c6:cn R (λx=>pb Dw x&&!(decide (0<=owner.getD x 0)&&pb Tw (owner.getD x 0).toNat))=0:=Bv;have c7:=HC c3;have c8:=HC c6;obtain⟨d,_⟩:=hr.g4 Tw (λx=>x<R/\Dw x) (λx hx h0=>by
    have:=c8 x hx.1;rw[nh.2 hx.2]at this;simp only[eR,Jw,bb]at this;exact nh.1 this.2) (λi hi y hy=>⟨by have:=(hL.get i).2 y hy;omega,hi.2 y hy⟩) (λi hi h0=>by
    have:=c7 i hi;rw[h0]at this;simp only[Bool.not_false,eR,Jw]at this;exact nh.1 this)
   exact(d w eE).1 rfl
end
def So:∀ (l:List Int) (aE:List Bool) (x:Nat),(∀ y∈l,0<=y/\y.toNat<aE.length)->((uL l aE).getD x false=true↔aE.getD x false=true\/(x:Int)∈l)
 |[],aE,x,_=>by simp[uL]
 |y::r,aE,x,h=>by
  have hy:=h y Jy;rw[uL,So r _ x (λz hz=>by have:=h z (by simp[hz]);simpa using this),pH _ _ _ _ _ hy.2,cI];split
  ·rename_i e;have:(x:Int)=y:=Bv;simp[this]
  ·rename_i e;have:(x:Int)≠y:=Bv;simp[this]
def DG{left:List (List Int)}{R n:Nat}(hL:gQ R left){aE:List Bool}(hi:aE.length=left.length)(hg:∀ w,w<left.length->aE.getD w false=decide (size left R w=n)):∀ (c i:Nat) (g:List Int) (m:List Bool),i+c=left.length->m.length=R ->
  (rQ left R n c i g m).1=g++cY (aE.drop i) i/\(rQ left R n c i g m).2.length=R/\∀ x,(rQ left R n c i g m).2.getD x false=true↔m.getD x false=true\/∃ j,i<=j/\j<left.length/\aE.getD j false=true/\(x:Int)∈left.getD j []
 |0,i,g,m,hc,hm=>by
  rw[rQ,List.drop_eq_nil_of_le Bv,cY,gI];refine⟨rfl,hm,λx=>?_⟩;constructor
  ·exact .inl
  ·rintro(h|⟨j,h1,h2,_⟩)
   ·exact h
   ·omega
 |c+1,i,g,m,hc,hm=>by
  have AJ:=hg i Bv;rw[rQ,dL aE i false Bv,cY];split
  ·rename_i hs;rw[decide_eq_true hs]at AJ;obtain⟨a,b,d⟩:=DG hL hi hg c (i+1) (g++[(i:Int)]) (uL (left.getD i []) m) Bv (by rw[Q9];exact hm);rw[if_pos AJ];refine⟨by rw[a];simp,b,λx=>?_⟩;rw[d x,So _ _ _ (λy hy=>by have:=(hL.get i).2 y hy;omega)];constructor
   ·rintro((h|h)|⟨j,h1,h2,h3,h4⟩)
    ·exact .inl h
    ·exact .inr ⟨i,aM _,Bv,AJ,h⟩
    ·exact .inr ⟨j,Bv,h2,h3,h4⟩
   ·rintro(h|⟨j,h1,h2,h3,h4⟩)
    ·exact .inl (.inl h)
    ·by_cases eQ:j=i
     ·subst eQ;exact .inl (.inr h4)
     ·exact .inr ⟨j,Bv,h2,h3,h4⟩
  ·rename_i hs;rw[decide_eq_false hs]at AJ;obtain⟨a,b,d⟩:=DG hL hi hg c (i+1) g m Bv hm;rw[if_neg (by simp_all)];refine⟨a,b,λx=>?_⟩;rw[d x];constructor
   ·rintro(h|⟨j,h1,h2,h3,h4⟩)
    ·exact .inl h
    ·exact .inr ⟨j,Bv,h2,h3,h4⟩
   ·rintro(h|⟨j,h1,h2,h3,h4⟩)
    ·exact .inl h
    ·by_cases eQ:j=i
     ·subst eQ;rw[AJ]at h3;simp at h3
     ·exact .inr ⟨j,Bv,h2,h3,h4⟩
def ZY{a b:List Bool}(hl:a.length=b.length)(h:∀ x,a.getD x false=true↔b.getD x false=true):a=b:=by
 refine List.ext_getElem hl λi h1 h2=>?_;have:=h i;rw[ax,aT h1,ax,aT h2]at this;simp only[dE]at this;cases ha:a[i]<;>cases hb:b[i]<;>simp_all
def ZZ{left:List (List Int)}{R:Nat}(hL:gQ R left):da left R=G6 left R:=by
 obtain⟨⟨D,h⟩,hs⟩:=DC hL (-1);rw[HG]at h hs;have hr:=reach hL h.ok _ rfl;unfold da G6;dsimp only;generalize oF left (gB left R).1 left.length (cY (iO (gB left R).2) 0) (aD R false) (iO (gB left R).2)=z at hr;obtain⟨a,b,c⟩:=DG (n:=size left R (-1)) hL hr.li (λw hw=>hr.group hL h hs hw) left.length 0 [] (aD R false) Bv Jy;rw[yT,dx]at a;rw[a];have:z.1=(rQ left R (size left R (-1)) left.length 0 [] (aD R false)).2:=by
  refine ZY (by rw[hr.lu,b]) λx=>?_;rw[c x,wj];constructor
  ·intro hx;right;obtain⟨_,e⟩:=hr.g4 (λi=>z.2.getD i false=true) (λx=>∃ j,0<=j/\j<left.length/\z.2.getD j false=true/\(x:Int)∈left.getD j []) (λx ⟨j,_,h1,h2,h3⟩ h0=>by
     have:=hr.g2 j h1 h2 _ h3;rw[eu]at this;exact hr.g3 x this h0) (λi hi y hy=>by
     have ou:i<left.length:=by
      rcases dr i left.length with h'|h'
      ·exact h'
      ·rw[ax,fO h']at hy;simp at hy
     have:=(hL.get i).2 y hy;exact⟨i,aS _,ou,hi,by rw[oW this.1];exact hy⟩) (λi hi h0=>hr.g1 i hi h0)
   exact e x hx
  ·rintro(h|⟨j,_,h1,h2,h3⟩)
   ·simp at h
   ·have:=hr.g2 j h1 h2 _ h3;rwa [eu]at this
 rw[this]
def counts{left:List (List Int)}{R:Nat}(hL:gQ R left):(gB left R).2.length=left.length/\((gB left R).2.countP (λx=>decide (x<0)))+(da left R).2.length=(da left R).1.length/\(0<(gB left R).2.countP (λx=>decide (x<0))\/(da left R).1=[]):=by
 obtain⟨⟨D,h⟩,hs⟩:=DC hL (-1);rw[HG]at h hs;have hr:=reach hL h.ok _ rfl;have hc:=hr.count hL h;have hn:=h.ok.hN;have e:(gB left R).2.countP (λx=>decide (x<0))=cn left.length (λi=>!on (gB left R).2 i):=by
  rw[Sk _ 0,hn];refine wq λi hi=>?_;rw[on];by_cases h:(gB left R).2.getD i 0<0
  ·rw[decide_eq_true h,decide_eq_false Bv];rfl
  ·rw[decide_eq_false h,decide_eq_true Bv];rfl
 refine⟨hn,?_,?_⟩
 ·unfold da;dsimp only;rw[HK,HK,hr.lu,hr.li,e];omega
 ·by_cases h0:cn left.length (λi=>!on (gB left R).2 i)=0
  ·right;have lz:=hr.none (λi hi=>by have:=HC h0 i hi;simpa using this);unfold da;dsimp only;refine List.eq_nil_of_length_eq_zero ?_;rw[HK];exact Sb λi _=>lz i
  ·left;omega
def nS(f:Nat->Nat)(N:List Int):List Int:=N.map λn=>if n<0 then -1 else(f n.toNat:Int)
def tB(n R':Nat)(N:List Int):List Int:=(bp R').map λx:Nat=>match (bp n).find? (λj=>decide (N.getD j 0=(x:Int))) with|some j=>(j:Int)|none=>-1
def Z0{f:Nat->Nat}{N:List Int}{j:Nat}(h:j<N.length):(nS f N).getD j 0=if N.getD j 0<0 then -1 else(f (N.getD j 0).toNat:Int):=by
 rw[nS,ax,cm,aT h,ax,aT h];rfl
def HL{n R':Nat}{N:List Int}{x:Nat}(hx:x<R'):(∃ j,j<n/\N.getD j 0=x/\(tB n R' N).getD x 0=(j:Nat))\/((tB n R' N).getD x 0 = -1/\∀ j,j<n->N.getD j 0≠x):=by
 have e:(tB n R' N).getD x 0=match (bp n).find? (λj=>decide (N.getD j 0=(x:Int))) with|some j=>(j:Int)|none=>-1:=by
  rw[tB,ax,cm,pQ hx];rfl
 cases hf:(bp n).find? (λj=>decide (N.getD j 0=(x:Int))) with
 |some j =>
  rw[hf]at e;have h1:=List.find?_some hf;have h2:=List.mem_of_find?_eq_some hf;rw[decide_eq_true_eq]at h1;exact .inl ⟨j,jA.1 h2,h1,e⟩
 |none =>
  rw[hf]at e;rw[List.find?_eq_none]at hf;exact .inr ⟨e,λj hj he=>absurd (decide_eq_true he) (hf j (jA.2 hj))⟩
structure R2(left AK:List (List Int))(R':Nat)(f:Nat->Nat):Prop where
 len:AK.length=left.length
 to:∀ i,i<left.length->∀ x:Nat,(x:Int)∈left.getD i []->f x<R'/\(f x:Int)∈AK.getD i []
 inj:∀ i j,i<left.length->j<left.length->∀ x y:Nat,(x:Int)∈left.getD i []->(y:Int)∈left.getD j []->f x=f y->x=y
def uP.aU{left AK:List (List Int)}{R R':Nat}{f:Nat->Nat}{owner number:List Int}(h:uP left R owner number)(hf:R2 left AK R' f):
  uP AK R' (tB left.length R' (nS f number)) (nS f number)/\∀ i,i<left.length->on (nS f number) i=on number i:=by
 have hl:=hf.len;have hg:∀ j,j<left.length->(nS f number).getD j 0=if number.getD j 0<0 then -1 else(f (number.getD j 0).toNat:Int):=λj hj=>Z0 (by rw[h.hN];exact hj);have Sp:∀ j,j<left.length->0<=(nS f number).getD j 0->0<=number.getD j 0/\(nS f number).getD j 0=f (number.getD j 0).toNat/\(((number.getD j 0).toNat:Nat):Int)∈left.getD j []/\owner.getD (number.getD j 0).toNat 0=j:=λj hj h0=>by
  rw[hg j hj]at h0 ⊢;split at h0
  ·omega
  ·rename_i hn;obtain⟨a,b,c⟩:=h.fwd j hj Bv;rw[if_neg hn];exact⟨Bv,rfl,by rw[oW Bv];exact c,b⟩
 refine⟨⟨⟨by simp[tB],λo ho=>?_⟩,by rw[nS,eA,h.hN,hl],λj hj=>?_,λj hj h0=>?_,λx hx h0=>?_⟩,λi hi=>?_⟩
 ·obtain⟨x,hx,rfl⟩:=List.mem_iff_getElem.1 ho;have bR:x<R':=by simpa [tB] using hx
  have e:(tB left.length R' (nS f number))[x]=(tB left.length R' (nS f number)).getD x 0:=by rw[ax,aT hx];rfl
  rw[e];rcases HL (n:=left.length) (N:=nS f number) bR with⟨j,h1,h2,h3⟩|⟨h3,_⟩<;>rw[h3]<;>omega
 ·rw[hg j Bv];split<;>omega
 ·obtain⟨a,b,c,d⟩:=Sp j Bv h0;obtain⟨p,q⟩:=hf.to j Bv _ c;rw[b,eu];refine⟨Bv,?_,q⟩;rcases HL (n:=left.length) (N:=nS f number) p with⟨k,h1,h2,h3⟩|⟨_,h3⟩
  ·rw[h3];obtain⟨a',b',c',d'⟩:=Sp k h1 Bv;have:=hf.inj k j h1 Bv _ _ c' c Bv;rw[this,d]at d';omega
  ·exact absurd b (h3 j Bv)
 ·rcases HL (n:=left.length) (N:=nS f number) hx with⟨k,h1,h2,h3⟩|⟨h3,_⟩
  ·rw[h3,eu];exact h2
  ·omega
 ·rw[on,on,hg i hi];split
  ·rw[decide_eq_false Bv,decide_eq_false Bv]
  ·rw[decide_eq_true Bv,decide_eq_true Bv]
def Dt{left:List (List Int)}{R:Nat}(hL:gQ R left):∃aE m:List Bool,aE.length=left.length/\m.length=R/\da left R=(cY aE 0,cY m 0) /\
  (∀ w,w<left.length->aE.getD w false=decide (size left R w=size left R (-1)))/\∀ x,m.getD x false=true↔∃ j,j<left.length/\aE.getD j false=true/\(x:Int)∈left.getD j []:=by
 obtain⟨⟨D,h⟩,hs⟩:=DC hL (-1);rw[HG]at h hs;have hr:=reach hL h.ok _ rfl;rw[ZZ hL];generalize oF left (gB left R).1 left.length (cY (iO (gB left R).2) 0) (aD R false) (iO (gB left R).2)=z at hr;obtain⟨a,b,c⟩:=DG (n:=size left R (-1)) hL hr.li (λw hw=>hr.group hL h hs hw) left.length 0 [] (aD R false) Bv Jy;rw[yT,dx]at a;refine⟨z.2,_,hr.li,b,by rw[G6,a],λw hw=>hr.group hL h hs hw,λx=>?_⟩;rw[c x,wj];constructor
 ·rintro(h|⟨j,_,h⟩)
  ·simp at h
  ·exact⟨j,h⟩
 ·rintro⟨j,h⟩;exact .inr ⟨j,aS _,h⟩
def Sr{left:List (List Int)}{R:Nat}(hL:gQ R left)(h:(da left R).1≠[]):(da left R).2.length<(da left R).1.length:=by
 obtain⟨_,a,b⟩:=counts hL;rcases b with b|b
 ·omega
 ·exact absurd b h
def R4{l:List Bool}{x:Nat}:(x:Int)∈cY l 0↔l.getD x false=true:=by
 constructor
 ·intro h;have key:∀ (l:List Bool) (k j:Nat),(j:Int)∈cY l k->l.getD (j-k) false=true:=by
   intro l
   induction l with
   |nil=>intro k j hj;simp[cY]at hj
   |cons b r ih =>
    intro k j hj;rw[cY]at hj;have AH:(j:Int)∈cY r (k+1)->(b::r).getD (j-k) false=true:=λhj=>by
     have hr:=tp _ _ _ hj;have:=ih _ _ hj;rw[show j-k=(j-(k+1))+1 by omega,gY];exact this
    split at hj
    ·rename_i hb;rcases cI.1 hj with e|hj
     ·rw[show j-k=0 by omega,je];exact hb
     ·exact AH hj
    ·exact AH hj
  exact key l 0 x h
 ·intro h;have:=Sl l 0 x h;simpa using this
def Ss(l:List Bool):∀ k,(cY l k).Pairwise (· < ·):=by
 induction l with
 |nil=>intro k;exact .nil
 |cons b r ih =>
  intro k;rw[cY];split
  ·exact List.pairwise_cons.2 ⟨λx hx=>by have:=tp r (k+1) x hx;omega,ih (k+1)⟩
  ·exact ih (k+1)
structure Nd where
 cls:Int
 kids:List Int
 gk:List Mv
 aX:List Int
 cells:List (List (Int×Int))
 deriving Inhabited
def oL(l:List (Int×Int)):List AV:=[.tree 2 (rowsOf av l)]
instance:Row oL 1:=⟨λ_=>rfl,λx v hv=>by
 simp only[oL,cI,lf,or_false]at hv;subst hv;exact .inr ⟨_,_,rfl⟩⟩
def bk(x:Nd):List AV:=[aam x.cls,.tree 1 (ints x.kids),.tree 4 (rowsOf cu x.gk),.tree 1 (ints x.aX),.tree 1 (rowsOf oL x.cells)]
instance:Row bk 5:=⟨λ_=>rfl,λx v hv=>by
 simp only[bk,cI,lf,or_false]at hv;rcases hv with rfl|rfl|rfl|rfl|rfl
 ·exact .inl ⟨_,rfl,rfl⟩
 all_goals exact .inr ⟨_,_,rfl⟩⟩
def bZ(P:List Nd):List AV:=[.tree 5 (rowsOf bk P)]
structure PB(P:List Nd):Prop where
 HN:P.length<9223372036854775808
 kids:∀ x∈P,x.kids.length<9223372036854775808
 gk:∀ x∈P,x.gk.length<9223372036854775808
 aX:∀ x∈P,x.aX.length<9223372036854775808
 cells:∀ x∈P,x.cells.length<9223372036854775808
 cell:∀ x∈P,∀ l∈x.cells,l.length<9223372036854775808
def r8(m:ah)(x:Nd):Bool :=
 if x.cls = -1 then decide (x.kids.length=0/\(x.aX.length=0->x.cells.length=0)/\(0<x.aX.length->x.gk.length=0))
 else decide (0<=x.cls/\x.cls<m.cls.length/\x.kids.length=(m.cls.getD x.cls.toNat default).length/\x.gk.length=0/\x.aX.length=0/\x.cells.length=0)
def tC(n i:Nat)(k:Int):Bool:=decide ((i:Int)<k/\k<n)
def kY(m:ah)(n i:Nat)(x:Nd):Bool:=r8 m x&&x.kids.all (tC n i)
def iR(P:List Nd):List Int:=P.flatMap (·.kids)
def iS(n:Nat)(l:List Int):List Int:=(bp n).map λ(j:Nat)=>(l.count (j:Int):Int)
def mq(m:ah)(P:List Nd):Bool :=
 decide (1<=P.length/\P.length<=20000)&&((bp P.length).all λi=>kY m P.length i (P.getD i default))&&!((iS P.length (iR P)).drop 1).any (λx=>x != 1)
def DH(n:Nat)(l:List Int):(iS n l).length=n:=by simp[iS]
def Su{n:Nat}(l:List Int){j:Nat}(h:j<n):(iS n l).getD j 0=(l.count (j:Int):Int):=by
 unfold iS;rw[ax,cm,pQ h];rfl
def Z1(n:Nat)(l:List Int)(k:Nat)(h:k<n):iS n (l++[(k:Int)])=(iS n l).set k ((iS n l).getD k 0+1):=by
 apply pR;intro j;rw[bT,Su l h];unfold iS;rw[cm,eA,List.length_range];by_cases hj:j<n
 ·rw[pQ hj,fN,List.count_append];by_cases e:k=j
  ·subst e;rw[if_pos rfl,if_pos h];simp
  ·rw[if_neg e,cm,pQ hj,fN];have:((k:Int)==(j:Int))=false:=by rw[beq_eq_false_iff_ne];omega
   simp[List.count_cons,this]
 ·rw[fO (by simpa using hj)];split
  ·omega
  ·rw[fO (by simpa using hj)];rfl
def Z2(n:Nat):iS n []=aD n 0:=by
 apply pR;intro j;unfold iS;rw[cm,EY];by_cases hj:j<n
 ·rw[pQ hj,if_pos hj];rfl
 ·rw[fO (by simpa using hj),if_neg hj];rfl
def HO{m:ah}{x:Nd}(hm:VM m)(h:r8 m x=true):x.kids.length<=24:=by
 unfold r8 at h;split at h
 ·rw[decide_eq_true_eq]at h;omega
 ·rw[decide_eq_true_eq]at h;have:=hm.opt _ (aF (l:=m.cls) (i:=x.cls.toNat) (d:=default) Bv);omega
def Sv{m:ah}{n:Nat}(hm:VM m):∀ (P:List Nd),(∀ x∈P,r8 m x=true)->(iR P).length<=24*P.length
 |[],_=>by simp[iR]
 |x::r,h=>by
  have h1:=HO hm (h x Jy);have h2:=Sv (n:=n) hm r λy hy=>h y (by simp[hy]);unfold iR at h2 ⊢;rw[List.flatMap_cons,List.length_append,cf];omega
def Z3{n:Nat}{l:List Int}{j:Nat}(h:j<n):0<=(iS n l).getD j 0/\(iS n l).getD j 0<=l.length:=by
 rw[Su l h];have:=List.count_le_length (a:=(j:Int)) (l:=l);omega
def Z4(P:List Nd)(x:Nd):iR (P++[x])=iR P++x.kids:=by unfold iR;rw[List.flatMap_append];simp
def Sw{m:ah}{P:List Nd}{i:Nat}(hi:i<P.length)(h:kY m P.length i (P.getD i default)=false):mq m P=false:=by
 unfold mq;have:((bp P.length).all λi=>kY m P.length i (P.getD i default))=false:=by
  rw[EP];intro h2;rw[eS]at h2;rw[h2 i (jA.2 hi)]at h;cases h
 rw[this,Bool.and_false,oU]
def Sx{m:ah}{P:List Nd}(h:¬(1<=P.length/\P.length<=20000)):mq m P=false:=by
 unfold mq;rw[decide_eq_false h,oU,oU]
def Z5{m:ah}{P:List Nd}(h:1<=P.length/\P.length<=20000)(ha:∀ i,i<P.length->kY m P.length i (P.getD i default)=true):mq m P = !((iS P.length (iR P)).drop 1).any (λx=>x != 1):=by
 unfold mq;have:((bp P.length).all λi=>kY m P.length i (P.getD i default))=true:=by
  rw[eS];intro i hi;exact ha i (jA.1 hi)
 rw[this,decide_eq_true h,eR,eR]
def mu(c o:Int)(y:Int×Int):Bool:=decide (y=(c,o))
def pF(m:ah)(a b:Int×Int):Bool:=decide (a.1=b.1)||tv m a.1 a.2 b.1 b.2
def uT(m:ah)(g:List Int)(l:List (Int×Int))(i:Nat):Bool:=g.contains (l.getD i default).1&&fH m (l.getD i default).1 (l.getD i default).2&&(l.take i).all (pF m (l.getD i default))
def pK(m:ah)(g:List Int)(l:List (Int×Int)):Bool:=(bp l.length).all (uT m g l)
def ye(m:ah)(g:List Int):Bool:=(bp g.length).all λi=>decide (0<=g.getD i 0/\g.getD i 0<m.cls.length/\(i=0\/g.getD (i-1) 0<g.getD i 0))
def uU(left:List (List Bool))(cells:List (List (Int×Int)))(c:Int):Bool :=
 (bp (left.getD c.toNat default).length).all λo=>!(left.getD c.toNat default).getD o false||cells.any λl=>l.any (mu c o)
def my(m:ah)(x:Nd)(left:List (List Bool)):Bool :=
 ye m x.aX&&decide (x.cells.length<x.aX.length)&&x.cells.all (pK m x.aX)&&x.aX.all (uU left x.cells)
def uV{n:Nat}{f:Nat->Bool}:(bp n).all f=true↔∀ i,i<n->f i=true:=by
 rw[eS];exact⟨λh i hi=>h i (jA.2 hi),λh i hi=>h i (jA.1 hi)⟩
def all_false{α:Type}{l:List α}{f:α->Bool}{x:α}(hx:x∈l)(h:f x=false):l.all f=false:=by
 rw[EP];intro h2;rw[eS]at h2;rw[h2 x hx]at h;cases h
def HP{n:Nat}{f:Nat->Bool}{i:Nat}(hi:i<n)(h:f i=false):(bp n).all f=false:=all_false (jA.2 hi) h
def Z6{m:ah}{g:List Int}(h:ye m g=true):∀ c∈g,0<=c/\c<m.cls.length:=λc hc=>by
 obtain⟨i,hi,rfl⟩:=List.getElem_of_mem hc;have:=uV.1 h i hi;rw[decide_eq_true_eq,ax,aT hi]at this;exact⟨this.1,this.2.1⟩
def Sy{α:Type}(f:α->Bool):∀ (l:List α),(l.any λx=>!f x) = !l.all f
 |[]=>rfl
 |x::r=>by rw[List.any_cons,List.all_cons,Sy f r,Bool.not_and]
def Z7{m:ah}{x:Nd}{left:List (List Bool)}(h:ye m x.aX=false):my m x left=false:=by unfold my;rw[h];rfl
def Z8{m:ah}{x:Nd}{left:List (List Bool)}(h:¬x.cells.length<x.aX.length):my m x left=false:=by unfold my;rw[decide_eq_false h];simp
def Z9{m:ah}{x:Nd}{left:List (List Bool)}(h:x.cells.all (pK m x.aX)=false):my m x left=false:=by unfold my;rw[h];simp
def aaa{m:ah}{x:Nd}{left:List (List Bool)}(h:x.aX.all (uU left x.cells)=false):my m x left=false:=by unfold my;rw[h];simp
def Sz{m:ah}{x:Nd}{left:List (List Bool)}(h1:ye m x.aX=true)(h2:x.cells.length<x.aX.length)(h3:x.cells.all (pK m x.aX)=true)(h4:x.aX.all (uU left x.cells)=true):my m x left=true:=by unfold my;rw[h1,decide_eq_true h2,h3,h4];rfl
section
variable {α:Type} [Inhabited α]
def tD(lt:α->α->Bool)(x:α)(l:List α):Nat->Nat
 |0=>0
 |k+1=>if lt x (l.getD k default)=true then tD lt x l k else k+1
def SA(lt:α->α->Bool)(x:α)(l:List α):∀ k,tD lt x l k<=k
 |0=>aM _
 |k+1=>by
  rw[tD];split
  ·have:=SA lt x l k;omega
  ·exact aM _
def yb(lt:α->α->Bool)(x:α)(l:List α):List α:=l.take (tD lt x l l.length)++x::l.drop (tD lt x l l.length)
def gj(lt:α->α->Bool):List α->List α->List α
 |[],out=>out
 |x::r,out=>gj lt r (yb lt x out)
def aab(lt:α->α->Bool)(x:α)(l:List α):(yb lt x l).Perm (x::l):=by
 unfold yb;refine List.perm_middle.trans ?_;rw[List.take_append_drop]
def Az(lt:α->α->Bool):∀ (l out:List α),(gj lt l out).Perm (out++l)
 |[],out=>by rw[gj,gI]
 |x::r,out=>by
  rw[gj];refine(Az lt r _).trans (((aab lt x out).append_right r).trans ?_);exact List.perm_middle.symm
def R6(lt:α->α->Bool):∀ (l out:List α) (x:α),gj lt (l++[x]) out=yb lt x (gj lt l out)
 |[],out,x=>rfl
 |y::r,out,x=>by rw[List.cons_append,gj,gj,R6 lt r]
structure LtO(lt:α->α->Bool)(P:α->Prop):Prop where
 tr:∀ a b c,P a->P b->P c->lt a b=true->lt b c=true->lt a c=true
 tot:∀ a b,P a->P b->a≠b->lt a b=true\/lt b a=true
 ir:∀ a b,P a->P b->lt a b=true->lt b a=false
omit [Inhabited α] in
end
end T

