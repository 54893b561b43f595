import Derived.Test.YtfoopmojjjpapaaGreatX10
set_option linter.all false
set_option maxHeartbeats 0
set_option maxRecDepth 20000
open List renaming getD_eq_getElem?_getD→ax,getElem?_set→bP,replicate→aO,mem_cons→bm,range→bk,getElem?_map→bV,getElem?_eq_getElem→bq,mem_range→nv
open Nat renaming strongRecOn→IK,le_refl→aX
open Int renaming toNat_natCast→cY
open Bool renaming and_eq_true→bg,true_and→iy
open Go Go.Am
namespace T
def EM{α:Type}(l:List α)(i j:Nat)(v d:α)(h:i<l.length):(l.set i v).getD j d=if j=i then v else l.getD j d:=by
 simp only[ax,bP];by_cases oM:j=i
 ·subst oM;simp[h]
 ·simp[oM,Ne.symm oM]
def mF{α:Type}(l:List α)(i j:Nat)(v d:α)(h:j≠i):(l.set i v).getD j d=l.getD j d:=by
 simp only[ax,bP];simp[Ne.symm h]
def v7{α:Type}(l:List α)(i:Nat)(v d:α)(h:i<l.length):(l.set i v).getD i d=v:=by
 rw[EM _ _ _ _ _ h];simp
def abJ{α:Type}(n j:Nat)(v:α):(aO n v).getD j v=v:=by
 simp only[ax,List.getElem?_replicate];split<;>rfl
structure AK(left:List (List Int))(R:Nat)(owner number:List Int):Prop where
 hO:xd left.length R owner
 hN:number.length=left.length
 qO:∀ j,j<left.length->-1<=number.getD j 0
 fwd:∀ j,j<left.length->0<=number.getD j 0->number.getD j 0<R/\owner.getD (number.getD j 0).toNat 0=j/\number.getD j 0∈left.getD j []
 bwd:∀ x,x<R->0<=owner.getD x 0->number.getD (owner.getD x 0).toNat 0=x
structure MEx(left:List (List Int))(R:Nat)(xs:List Int)(i:Nat)(seen:List Bool)(owner number v8 tL:List Int):Prop where
 hO:xd left.length R v8
 hN:tL.length=left.length
 qO:∀ j,j<left.length->-1<=tL.getD j 0
 fwd:∀ j,j<left.length->j≠i->0<=tL.getD j 0->tL.getD j 0<R/\v8.getD (tL.getD j 0).toNat 0=j/\tL.getD j 0∈left.getD j []
 bwd:∀ x,x<R->0<=v8.getD x 0->v8.getD x 0≠i->tL.getD (v8.getD x 0).toNat 0=x
 me :∃y,y<R/\tL.getD i 0=(y:Nat)/\v8.getD y 0=i/\(y:Int)∈xs/\seen.getD y false=false/\∀ x,x<R->v8.getD x 0=i->x=y\/seen.getD x false=true
 dN:∀ x,x<R->seen.getD x false=true->v8.getD x 0=owner.getD x 0
 same:∀ j,j<left.length->j≠i->(number.getD j 0<0\/∃ x,x<R/\number.getD j 0=(x:Nat)/\seen.getD x false=true)->tL.getD j 0=number.getD j 0
 pos:∀ j,j<left.length->j≠i->(0<=tL.getD j 0↔0<=number.getD j 0)
structure alq(left:List (List Int))(R:Nat)(xs:List Int)(seen:List Bool)(owner number:List Int)(NG:List Bool)(v8 tL:List Int):Prop where
 eo:v8=owner
 en:tL=number
 all:∀ x∈xs,NG.getD x.toNat false=true
 cl:∀ x,x<R->NG.getD x false=true->seen.getD x false=true\/(0<=owner.getD x 0/\∀ y∈left.getD (owner.getD x 0).toNat [],NG.getD y.toNat false=true)
def alr{left:List (List Int)}{R:Nat}(hL:z8 R left):∀ (f:Nat) (xs:List Int) (i:Nat) (seen:List Bool) (owner number:List Int),qS seen<=f->seen.length=R->(∀ x∈xs,0<=x/\x<R)->i<left.length->AK left R owner number ->
  (∀ x,x<R->owner.getD x 0=i->seen.getD x false=true)->∀ q,rO left f xs i seen owner number=q ->
   (q.1=true->MEx left R xs i seen owner number q.2.2.1 q.2.2.2)/\(q.1=false->alq left R xs seen owner number q.2.1 q.2.2.1 q.2.2.2)/\(∀ x,seen.getD x false=true->q.2.1.getD x false=true)/\q.2.1.length=R/\qS q.2.1<=qS seen:=by
 intro f
 induction f using IK with
 |_ f NH =>
  intro xs
  induction xs with
  |nil =>
   intro i seen owner number hc hs hx hi hM h3 q hq;rw[rO.eq_def]at hq;subst hq;exact⟨IM,λ_=>⟨rfl,rfl,IM,λx _ h=>.inl h⟩,λ_ h=>h,hs,aX _⟩
  |cons x r ih =>
   intro i seen owner number hc hs hx hi hM h3 q hq;obtain⟨hx0,hxR⟩:=hx x IM;have hr:∀ x∈r,0<=x/\x<R:=λy hy=>hx y (by simp[hy]);obtain⟨n,rfl⟩:∃n:Nat,x=n:=⟨x.toNat,AT⟩;rw[rO.eq_def]at hq;simp only[cY]at hq;have yW:n<R:=AT;have qo:n<owner.length:=by rw[hM.hO.1];exact yW
   have bR:i<number.length:=by rw[hM.hN];exact hi
   by_cases er:seen.getD n false=true
   ·rw[if_pos er]at hq;obtain⟨a,b,c,d,e⟩:=ih i seen owner number hc hs hr hi hM h3 q hq;refine⟨λh=>?_,λh=>?_,c,d,e⟩
    ·obtain⟨y,y1,y2,y3,y4,y5,y6⟩:=(a h).me;exact { a h with me:=⟨y,y1,y2,y3,by simp[y4],y5,y6⟩ }
    ·refine { b h with all:=λy hy=>?_ };rcases bm.1 hy with rfl|hy
     ·simpa using c n er
     ·exact(b h).all y hy
   ·have NI:seen.getD n false=false:=by simpa using er
    rw[if_neg er]at hq;have gG:=afI seen n AT NI;have hog:=hM.hO.get yW;have wa:∀ x,seen.getD x false=true->(seen.set n true).getD x false=true:=λx hx=>by
     rw[EM _ _ _ _ _ AT];split<;>simp_all
    by_cases qj:owner.getD n 0<0
    ·rw[if_pos qj]at hq;subst hq;refine⟨λ_=>?_,IM,wa,by simpa using hs,NZ⟩;dsimp only;refine⟨hM.hO.set hi,by simpa using hM.hN,?_,?_,?_,⟨n,yW,v7 _ _ _ _ bR,v7 _ _ _ _ qo,IM,NI,?_⟩,?_,?_,?_⟩
     ·intro j hj;rw[EM _ _ _ _ _ bR];split
      ·omega
      ·exact hM.qO j hj
     ·intro j hj ig h0;rw[mF _ _ _ _ _ ig]at h0 ⊢;obtain⟨a,b,c⟩:=hM.fwd j hj h0;refine⟨a,?_,c⟩;rw[mF]
      ·exact b
      ·intro e;rw[e]at b;omega
     ·intro y hy h0 bZ;by_cases xD:y=n
      ·subst xD;rw[v7 _ _ _ _ qo]at bZ;exact absurd rfl bZ
      ·rw[mF _ _ _ _ _ xD]at h0 bZ ⊢;rw[mF]
       ·exact hM.bwd y hy h0
       ·omega
     ·intro y hy he;by_cases xD:y=n
      ·exact .inl xD
      ·rw[mF _ _ _ _ _ xD]at he;exact .inr (h3 y hy he)
     ·intro y hy IA;rw[mF];intro e;subst e;simp_all
     ·intro j hj ig _;exact mF _ _ _ _ _ ig
     ·intro j hj ig;rw[mF _ _ _ _ _ ig]
    ·rw[if_neg qj]at hq;obtain⟨f',rfl⟩:∃f',f=f'+1:=⟨f-1,AT⟩;simp only at hq;obtain⟨o,ho⟩:∃o:Nat,owner.getD n 0=o:=⟨(owner.getD n 0).toNat,AT⟩;rw[ho]at hq;simp only[cY]at hq;have nM:o<left.length:=AT;have NJ:number.getD o 0=n:=by
      have:=hM.bwd n yW AT;rwa [ho,cY]at this
     have oP:o≠i:=by
      intro e;subst e;have:=h3 n yW ho;simp_all
     have KQ:∀ x,x<R->owner.getD x 0=o->(seen.set n true).getD x false=true:=by
      intro y hy he;have:=hM.bwd y hy AT;rw[he,cY,NJ]at this;have:y=n:=AT;subst this;exact v7 _ _ _ _ AT
     have hp:=NH f' AT (left.getD o []) o (seen.set n true) owner number AT (by simpa using hs) (hL.get _).2 nM hM KQ _ rfl;generalize rO left f' (left.getD o []) o (seen.set n true) owner number=p at hp hq;obtain⟨p1,p2,p3,p4,p5⟩:=hp;by_cases Cy:p.1=true
     ·rw[if_pos Cy]at hq;subst hq;have hE:=p1 Cy;obtain⟨pb,ps,po,pn⟩:=p;dsimp only at hE p3 p4 p5 ⊢;obtain⟨y,y1,y2,y3,y4,y5,y6⟩:=hE.me;have hpo:n<po.length:=by rw[hE.hO.1];exact yW
      have EO:i<pn.length:=by rw[hE.hN];exact hi
      have hpn:po.getD n 0=o:=by rw[hE.dN n yW (v7 _ _ _ _ AT),ho]
      have xD:y≠n:=by
       intro e;subst e;rw[v7 _ _ _ _ AT]at y5;simp at y5
      have alu:pn.getD i 0=number.getD i 0:=by
       refine hE.same i hi (Ne.symm oP) ?_;by_cases h0:number.getD i 0<0
       ·exact .inl h0
       ·right;obtain⟨a,b,c⟩:=hM.fwd i hi AT;exact⟨(number.getD i 0).toNat,AT,AT,wa _ (h3 _ AT b)⟩
      refine⟨λ_=>⟨hE.hO.set hi,by simpa using hE.hN,?_,?_,?_,⟨n,yW,v7 _ _ _ _ EO,v7 _ _ _ _ hpo,IM,NI,?_⟩,?_,?_,?_⟩,IM,λx h=>p3 x (wa x h),p4,AT⟩
      ·intro j hj;rw[EM _ _ _ _ _ EO];split
       ·omega
       ·exact hE.qO j hj
      ·intro j hj ig h0;rw[mF _ _ _ _ _ ig]at h0 ⊢;by_cases AM:j=o
       ·subst AM;rw[y2];refine⟨AT,?_,y4⟩;rw[cY,mF _ _ _ _ _ xD];exact y3
       ·obtain⟨a,b,c⟩:=hE.fwd j hj AM h0;refine⟨a,?_,c⟩;rw[mF]
        ·exact b
        ·intro e;rw[e,hpn]at b;omega
      ·intro z hz h0 bZ;by_cases AN:z=n
       ·subst AN;rw[v7 _ _ _ _ hpo]at bZ;exact absurd rfl bZ
       ·rw[mF _ _ _ _ _ AN]at h0 bZ ⊢;rw[mF _ _ _ _ _ AT];by_cases IB:po.getD z 0=o
        ·rcases y6 z hz IB with rfl|aJ
         ·rw[IB,cY,y2]
         ·have:=hE.dN z hz aJ;rw[IB]at this;have hb:=hM.bwd z hz AT;rw[<- this,cY,NJ]at hb;omega
        ·exact hE.bwd z hz h0 IB
      ·intro z hz he;by_cases AN:z=n
       ·exact .inl AN
       ·right;rw[mF _ _ _ _ _ AN]at he;have hb:=hE.bwd z hz AT AT;rw[he,cY,alu]at hb;obtain⟨a,b,c⟩:=hM.fwd i hi AT;rw[hb,cY]at b;exact h3 z hz b
      ·intro z hz aJ;have AN:z≠n:=by intro e;subst e;simp_all
       rw[mF _ _ _ _ _ AN];exact hE.dN z hz (wa z aJ)
      ·intro j hj ig xE;rw[mF _ _ _ _ _ ig];have AM:j≠o:=by
        intro e;subst e;rcases xE with h|⟨z,hz,wI,IC⟩
        ·omega
        ·have:z=n:=AT;subst this;simp_all
       refine hE.same j hj AM ?_;rcases xE with h|⟨z,hz,wI,IC⟩
       ·exact .inl h
       ·exact .inr ⟨z,hz,wI,wa z IC⟩
      ·intro j hj ig;rw[mF _ _ _ _ _ ig];by_cases AM:j=o
       ·subst AM;rw[y2,NJ];omega
       ·exact hE.pos j hj AM
     ·rw[if_neg Cy]at hq;have hF:=p2 (by simpa using Cy);obtain⟨pb,ps,po,pn⟩:=p;dsimp only at hF p3 p4 p5 hq;obtain⟨rfl,rfl,Cq,EH⟩:=hF;obtain⟨a,b,c,d,e⟩:=ih i ps po pn AT p4 hr hi hM (λx hx h=>p3 x (wa x (h3 x hx h))) q hq;refine⟨λh=>?_,λh=>?_,λx h=>c x (p3 x (wa x h)),d,AT⟩
      ·have hE:=a h;obtain⟨y,y1,y2,y3,y4,y5,y6⟩:=hE.me;refine⟨hE.hO,hE.hN,hE.qO,hE.fwd,hE.bwd,⟨y,y1,y2,y3,by simp[y4],?_,?_⟩,λz hz h=>hE.dN z hz (p3 z (wa z h)),?_,hE.pos⟩
       ·cases IA:seen.getD y false with
        |false=>rfl
        |true=>rw[p3 y (wa y IA)]at y5;simp at y5
       ·intro z hz he;rcases y6 z hz he with h|h
        ·exact .inl h
        ·right;have hk:=hE.dN z hz h;rw[he]at hk;exact h3 z hz hk.symm
       ·intro j hj ig xE;refine hE.same j hj ig ?_;rcases xE with h|⟨z,hz,wI,IC⟩
        ·exact .inl h
        ·exact .inr ⟨z,hz,wI,p3 z (wa z IC)⟩
      ·have hG:=b h;refine⟨hG.eo,hG.en,λy hy=>?_,λy hy IA=>?_⟩
       ·rcases bm.1 hy with rfl|hy
        ·rw[cY];exact c n (p3 n (v7 _ _ _ _ AT))
        ·exact hG.all y hy
       ·rcases hG.cl y hy IA with h'|h'
        ·rcases EH y hy h' with uF|uF
         ·rw[EM _ _ _ _ _ AT]at uF;split at uF
          ·rename_i xD;subst xD;right;refine⟨AT,?_⟩;rw[ho,cY];intro z hz;exact c _ (Cq z hz)
          ·exact .inl uF
         ·exact .inr ⟨uF.1,λz hz=>c _ (uF.2 z hz)⟩
        ·exact .inr h'
def ID(left:List (List Int))(R:Nat)(D:Nat->Prop)(owner:List Int):Prop:=∀ x,x<R->D x->0<=owner.getD x 0/\∀ y∈left.getD (owner.getD x 0).toNat [],D y.toNat
def alv{left:List (List Int)}{R:Nat}(hL:z8 R left){D:Nat->Prop}:∀ (f:Nat) (xs:List Int) (i:Nat) (seen:List Bool) (owner number:List Int),(∀ x∈xs,0<=x/\x<R)->ID left R D owner ->
  ((∀ x∈xs,D x.toNat)->(rO left f xs i seen owner number).1=false)/\∀ x,x<R->D x->(rO left f xs i seen owner number).2.2.1.getD x 0=owner.getD x 0:=by
 intro f
 induction f using IK with
 |_ f NH =>
  intro xs
  induction xs with
  |nil=>intro i seen owner number _ hC;rw[rO.eq_def];exact⟨λ_=>rfl,λ_ _ _=>rfl⟩
  |cons x r ih =>
   intro i seen owner number hx hC;have hr:∀ x∈r,0<=x/\x<R:=λy hy=>hx y (by simp[hy]);have SJ:=hx x IM;rw[rO.eq_def];simp only;split
   ·obtain⟨a,b⟩:=ih i seen owner number hr hC;exact⟨λh=>a λy hy=>h y (by simp[hy]),b⟩
   ·split
    ·rename_i h1 h2;refine⟨λh=>?_,λy hy hD=>?_⟩
     ·have:=(hC x.toNat AT (h x IM)).1;omega
     ·rw[mF];intro e;subst e;have:=(hC _ hy hD).1;omega
    ·cases f with
     |zero=>exact⟨λ_=>rfl,λ_ _ _=>rfl⟩
     |succ f' =>
      obtain⟨a,b⟩:=NH f' AT (left.getD (owner.getD x.toNat 0).toNat []) (owner.getD x.toNat 0).toNat (seen.set x.toNat true) owner number (hL.get _).2 hC;simp only;generalize rO left f' (left.getD (owner.getD x.toNat 0).toNat []) (owner.getD x.toNat 0).toNat (seen.set x.toNat true) owner number=p at a b ⊢;have hC':ID left R D p.2.2.1:=by
       intro y hy hD;rw[b y hy hD];exact hC y hy hD
      split
      ·rename_i hp;refine⟨λh=>?_,λy hy hD=>?_⟩
       ·have:=a (hC x.toNat AT (h x IM)).2;simp_all
       ·dsimp only;rw[mF]
        ·exact b y hy hD
        ·intro e;subst e;have:=a (hC _ hy hD).2;simp_all
      ·obtain⟨c,d⟩:=ih i p.2.1 p.2.2.1 p.2.2.2 hr hC';exact⟨λh=>c λy hy=>h y (by simp[hy]),λy hy hD=>(d y hy hD).trans (b y hy hD)⟩
def cn(n:Nat)(p:Nat->Bool):Nat:=(bk n).countP p
def alx(p:Nat->Bool):cn 0 p=0:=rfl
def wc(n:Nat)(p:Nat->Bool):cn (n+1) p=cn n p+(if p n=true then 1 else 0):=by
 simp only[cn,List.range_succ,List.countP_append,List.countP_cons,List.countP_nil,Nat.zero_add]
def abL{n:Nat}{p q:Nat->Bool}(h:∀ i,i<n->p i=q i):cn n p=cn n q:=by
 induction n with
 |zero=>rfl
 |succ n ih=>rw[wc,wc,ih λi hi=>h i AT,h n AT]
def aly{n:Nat}{p q:Nat->Bool}(h:∀ i,i<n->p i=true->q i=true):cn n p<=cn n q:=by
 induction n with
 |zero=>exact aX _
 |succ n ih =>
  rw[wc,wc];have:=ih λi hi=>h i AT;have:=h n AT;split<;>split<;>simp_all<;>omega
def alz(n:Nat)(p q:Nat->Bool):cn n p=cn n (λi=>p i&&q i)+cn n (λi=>p i&&!q i):=by
 induction n with
 |zero=>rfl
 |succ n ih =>
  rw[wc,wc,wc,ih];cases p n<;>cases q n<;>simp<;>omega
def abM{n:Nat}{p q:Nat->Bool}(k:Nat)(hk:k<n)(h:∀ i,i<n->i≠k->p i=q i)(hp:p k=true)(hq:q k=false):cn n p=cn n q+1:=by
 induction n with
 |zero=>omega
 |succ n ih =>
  rw[wc,wc];by_cases Au:k=n
  ·subst Au;rw[abL (p:=p) (q:=q) λi hi=>h i AT AT,hp,hq];rfl
  ·rw[ih AT λi hi=>h i AT,h n AT (Ne.symm Au)];omega
def abN{n m:Nat}{p q:Nat->Bool}(f:Nat->Nat)(h1:∀ i,i<n->p i=true->f i<m/\q (f i)=true)(h2:∀ i j,i<n->j<n->p i=true->p j=true->f i=f j->i=j):cn n p<=cn m q:=by
 induction n generalizing q with
 |zero=>simp[alx]
 |succ n ih =>
  rw[wc];split
  ·rename_i hp;obtain⟨a,b⟩:=h1 n AT hp;have e:=abM (n:=m) (p:=q) (q:=λx=>q x&&!decide (x=f n)) (f n) a (λi _ hi=>by simp[hi]) b IM;have:=ih (q:=λx=>q x&&!decide (x=f n)) (λi hi EO=>by
    obtain⟨c,d⟩:=h1 i AT EO;refine⟨c,?_⟩;have:f i≠f n:=λe=>by have:=h2 i n AT AT EO hp e;omega
    simp[d,this]) (λi j hi hj=>h2 i j AT AT)
   omega
  ·exact ih (λi hi=>h1 i AT) (λi j hi hj=>h2 i j AT AT)
def on(number:List Int)(i:Nat):Bool:=decide (0<=number.getD i 0)
structure Inv(left:List (List Int))(R:Nat)(w:Int)(i:Nat)(owner number:List Int)(D:Nat->Prop):Prop where
 ok:AK left R owner number
 rest:∀ j,j<left.length->(i<=j\/(j:Int)=w)->number.getD j 0 = -1
 cl:ID left R D owner
 dead:∀ j,j<i->j<left.length->(j:Int)≠w->number.getD j 0<0->∀ y∈left.getD j [],D y.toNat
def Inv.step{left:List (List Int)}{R:Nat}(hL:z8 R left){w:Int}{i:Nat}{owner number:List Int}{D:Nat->Prop}(h:Inv left R w i owner number D)(hi:i<left.length)(hw:(i:Int)≠w):
  ∀ q,rO left R (left.getD i []) i (aO R false) owner number=q->(∃ D',Inv left R w (i+1) q.2.2.1 q.2.2.2 D')/\cn left.length (on q.2.2.2)=cn left.length (on number)+(if q.1=true then 1 else 0):=by
 intro q hq;have vf:=h.rest i hi (.inl (aX _));have h3:∀ x,x<R->owner.getD x 0=i->(aO R false).getD x false=true:=by
  intro x hx he;have:=h.ok.bwd x hx AT;rw[he,cY,vf]at this;omega
 obtain⟨a,b,c,d,e⟩:=alr hL R (left.getD i []) i (aO R false) owner number (by rw[afJ];exact aX _) IM (hL.get _).2 hi h.ok h3 q hq;obtain⟨_,g⟩:=alv hL (D:=D) R (left.getD i []) i (aO R false) owner number (hL.get _).2 h.cl;rw[hq]at g;have bn:ID left R D q.2.2.1:=by
  intro y hy hD;rw[g y hy hD];exact h.cl y hy hD
 cases hb:q.1 with
 |true =>
  have hE:=a hb;obtain⟨y,y1,y2,y3,y4,y5,y6⟩:=hE.me;refine⟨⟨D,⟨hE.hO,hE.hN,hE.qO,?_,?_⟩,?_,bn,?_⟩,?_⟩
  ·intro j hj h0;by_cases ig:j=i
   ·subst ig;rw[y2,cY];exact⟨AT,y3,y4⟩
   ·exact hE.fwd j hj ig h0
  ·intro x hx h0;by_cases NK:q.2.2.1.getD x 0=i
   ·rcases y6 x hx NK with rfl|h'
    ·rw[NK,cY,y2]
    ·rw[abJ]at h';simp at h'
   ·exact hE.bwd x hx h0 NK
  ·intro j hj xE;have ig:j≠i:=by rcases xE with h|h<;>omega
   have hr:=h.rest j hj (by rcases xE with h|h<;>omega);have:=hE.pos j hj ig;have:=hE.qO j hj;omega
  ·intro j hj gy NL h0 z hz;have ig:j≠i:=by intro e;subst e;omega
   have:=hE.pos j gy ig;exact h.dead j AT gy NL AT z hz
  ·rw[if_pos rfl];refine abM i hi (λj hj ig=>?_) ?_ ?_
   ·have:=hE.pos j hj ig;simp only[on,this]
   ·rw[on,y2];exact decide_eq_true AT
   ·simp only[on,vf];rfl
 |false =>
  have hF:=b hb;rw[hF.eo,hF.en];refine⟨⟨λx=>D x\/q.2.1.getD x false=true,h.ok,λj hj xE=>h.rest j hj (by rcases xE with h|h<;>omega),?_,?_⟩,IM⟩
  ·intro x hx hD;rcases hD with hD|hD
   ·obtain⟨k,l⟩:=h.cl x hx hD;exact⟨k,λy hy=>.inl (l y hy)⟩
   ·rcases hF.cl x hx hD with h'|⟨k,l⟩
    ·rw[abJ]at h';simp at h'
    ·exact⟨k,λy hy=>.inr (l y hy)⟩
  ·intro j hj gy NL h0 z hz;by_cases ig:j=i
   ·subst ig;exact .inr (hF.all z hz)
   ·exact .inl (h.dead j AT gy NL h0 z hz)
def alA{left:List (List Int)}{R:Nat}{owner number:List Int}(h:AK left R owner number){T D:Nat->Bool}(hT:∀ i,i<left.length->T i=true->∀ y∈left.getD i [],D y.toNat=true):
  cn left.length (λi=>T i&&on number i)<=cn R (λx=>D x&&decide (0<=owner.getD x 0)&&T (owner.getD x 0).toNat):=by
 refine abN (λi=>(number.getD i 0).toNat) (λi hi hp=>?_) (λi j hi hj hp hq he=>?_)
 ·simp only[bg,on,decide_eq_true_eq]at hp;obtain⟨a,b,c⟩:=h.fwd i hi hp.2;refine⟨AT,?_⟩;simp only[b,cY,hp.1,hT i hi hp.1 _ c,iy,Bool.and_true,decide_eq_true_eq];omega
 ·simp only[bg,on,decide_eq_true_eq]at hp hq;obtain⟨a,b,c⟩:=h.fwd i hi hp.2;obtain⟨a',b',c'⟩:=h.fwd j hj hq.2;try dsimp only at he
  rw[he]at b;omega
def alB{left:List (List Int)}{R:Nat}{owner number:List Int}(h:AK left R owner number){T D:Nat->Bool}(hD:∀ x,x<R->D x=true->0<=owner.getD x 0/\T (owner.getD x 0).toNat=true):
  cn R D<=cn left.length (λi=>T i&&on number i):=by
 refine abN (λx=>(owner.getD x 0).toNat) (λx hx hp=>?_) (λx y hx hy hp hq he=>?_)
 ·obtain⟨a,b⟩:=hD x hx hp;have hg:=h.hO.get hx;refine⟨AT,?_⟩;simp only[b,iy,on,decide_eq_true_eq];rw[h.bwd x hx a];omega
 ·obtain⟨a,b⟩:=hD x hx hp;obtain⟨a',b'⟩:=hD y hy hq;have e1:=h.bwd x hx a;have e2:=h.bwd y hy a';try dsimp only at he
  rw[he]at e1;omega
structure Reach(left:List (List Int))(R:Nat)(owner number:List Int)(used oU:List Bool):Prop where
 lu:used.length=R
 li:oU.length=left.length
 g1:∀ i,i<left.length->on number i=false->oU.getD i false=true
 g2:∀ i,i<left.length->oU.getD i false=true->∀ x∈left.getD i [],used.getD x.toNat false=true
 g3:∀ x,used.getD x false=true->0<=owner.getD x 0->oU.getD (owner.getD x 0).toNat false=true
 g4:∀ (T E:Nat->Prop),(∀ x,E x->0<=owner.getD x 0->T (owner.getD x 0).toNat)->(∀ i,T i->∀ x∈left.getD i [],E x.toNat)->(∀ i,i<left.length->on number i=false->T i)->(∀ i,oU.getD i false=true->T i)/\∀ x,used.getD x false=true->E x
noncomputable def pb(D:Nat->Prop)(x:Nat):Bool:=@decide (D x) (Classical.propDecidable _)
section
variable {left:List (List Int)} {R:Nat} {owner number:List Int} {used oU:List Bool} {D:Nat->Prop}
def Reach.alC(hL:z8 R left)(h:Inv left R (-1) left.length owner number D)(hr:Reach left R owner number used oU):∀ x,used.getD x false=true->x<R/\0<=owner.getD x 0:=by
 intro x hx;obtain⟨_,b⟩:=hr.g4 (λi=>∀ y∈left.getD i [],D y.toNat) (λx=>x<R/\D x) (λx hx h0=>(h.cl x hx.1 hx.2).2) (λi hi y hy=>⟨by have:=(hL.get i).2 y hy;omega,hi y hy⟩) (λi hi h0=>h.dead i hi hi AT (by simpa [on] using h0));obtain⟨c,d⟩:=b x hx;exact⟨c,(h.cl x c d).1⟩
def Reach.count(hL:z8 R left)(h:Inv left R (-1) left.length owner number D)(hr:Reach left R owner number used oU):
  cn left.length (λi=>oU.getD i false)=cn left.length (λi=>!on number i)+cn R (λx=>used.getD x false):=by
 rw[alz _ _ (on number)];have e1:cn left.length (λi=>oU.getD i false&&!on number i)=cn left.length (λi=>!on number i):=abL λi hi=>by
  cases ho:on number i with
  |true=>simp
  |false=>rw[hr.g1 i hi ho];rfl
 have h1:=alA h.ok (T:=λi=>oU.getD i false) (D:=λx=>used.getD x false) (λi hi hT=>hr.g2 i hi hT);have h2:cn R (λx=>used.getD x false&&decide (0<=owner.getD x 0)&&oU.getD (owner.getD x 0).toNat false)<=cn R (λx=>used.getD x false):=aly λi _ hi=>by simp only[bg]at hi;exact hi.1.1
 have h3:=alB h.ok (T:=λi=>oU.getD i false) (D:=λx=>used.getD x false) (λx hx hu=>by
  have:=(hr.alC hL h x hu).2;exact⟨this,hr.g3 x hu this⟩)
 omega
def Reach.none(hr:Reach left R owner number used oU)(h:∀ i,i<left.length->on number i=true):∀ i,oU.getD i false=false:=by
 obtain⟨a,_⟩:=hr.g4 (λ_=>False) (λ_=>False) (λ_ h _=>h) (λ_ h=>h.elim) (λi hi h0=>by rw[h i hi]at h0;simp at h0);intro i;cases hh:oU.getD i false with
 |false=>rfl
 |true=>exact(a i hh).elim
end
def q6(f:Nat->Nat)(N:List Int):List Int:=N.map λn=>if n<0 then -1 else(f n.toNat:Int)
def xF(n R':Nat)(N:List Int):List Int:=(bk R').map λx:Nat=>match (bk n).find? (λj=>decide (N.getD j 0=(x:Int))) with|some j=>(j:Int)|none=>-1
def alD{f:Nat->Nat}{N:List Int}{j:Nat}(h:j<N.length):(q6 f N).getD j 0=if N.getD j 0<0 then -1 else(f (N.getD j 0).toNat:Int):=by
 rw[q6,ax,bV,bq h,ax,bq h];rfl
def NM{n R':Nat}{N:List Int}{x:Nat}(hx:x<R'):(∃ j,j<n/\N.getD j 0=x/\(xF n R' N).getD x 0=(j:Nat))\/((xF n R' N).getD x 0 = -1/\∀ j,j<n->N.getD j 0≠x):=by
 have e:(xF n R' N).getD x 0=match (bk n).find? (λj=>decide (N.getD j 0=(x:Int))) with|some j=>(j:Int)|none=>-1:=by
  rw[xF,ax,bV,List.getElem?_range hx];rfl
 cases hf:(bk n).find? (λj=>decide (N.getD j 0=(x:Int))) with
 |some j =>
  rw[hf]at e;have h1:=List.find?_some hf;have h2:=List.mem_of_find?_eq_some hf;rw[decide_eq_true_eq]at h1;exact .inl ⟨j,nv.1 h2,h1,e⟩
 |none =>
  rw[hf]at e;rw[List.find?_eq_none]at hf;exact .inr ⟨e,λj hj he=>absurd (decide_eq_true he) (hf j (nv.2 hj))⟩
structure alE(left EP:List (List Int))(R':Nat)(f:Nat->Nat):Prop where
 len:EP.length=left.length
 to:∀ i,i<left.length->∀ x:Nat,(x:Int)∈left.getD i []->f x<R'/\(f x:Int)∈EP.getD i []
 inj:∀ i j,i<left.length->j<left.length->∀ x y:Nat,(x:Int)∈left.getD i []->(y:Int)∈left.getD j []->f x=f y->x=y
def AK.bj{left EP:List (List Int)}{R R':Nat}{f:Nat->Nat}{owner number:List Int}(h:AK left R owner number)(hf:alE left EP R' f):
  AK EP R' (xF left.length R' (q6 f number)) (q6 f number)/\∀ i,i<left.length->on (q6 f number) i=on number i:=by
 have hl:=hf.len;have hg:∀ j,j<left.length->(q6 f number).getD j 0=if number.getD j 0<0 then -1 else(f (number.getD j 0).toNat:Int):=λj hj=>alD (by rw[h.hN];exact hj);have MH:∀ j,j<left.length->0<=(q6 f number).getD j 0->0<=number.getD j 0/\(q6 f number).getD j 0=f (number.getD j 0).toNat/\(((number.getD j 0).toNat:Nat):Int)∈left.getD j []/\owner.getD (number.getD j 0).toNat 0=j:=λj hj h0=>by
  rw[hg j hj]at h0 ⊢;split at h0
  ·omega
  ·rename_i hn;obtain⟨a,b,c⟩:=h.fwd j hj AT;rw[if_neg hn];exact⟨AT,rfl,by rw[Int.toNat_of_nonneg AT];exact c,b⟩
 refine⟨⟨⟨by simp[xF],λo ho=>?_⟩,by rw[q6,List.length_map,h.hN,hl],λj hj=>?_,λj hj h0=>?_,λx hx h0=>?_⟩,λi hi=>?_⟩
 ·obtain⟨x,hx,rfl⟩:=List.mem_iff_getElem.1 ho;have bW:x<R':=by simpa [xF] using hx
  have e:(xF left.length R' (q6 f number))[x]=(xF left.length R' (q6 f number)).getD x 0:=by rw[ax,bq hx];rfl
  rw[e];rcases NM (n:=left.length) (N:=q6 f number) bW with⟨j,h1,h2,h3⟩|⟨h3,_⟩<;>rw[h3]<;>omega
 ·rw[hg j AT];split<;>omega
 ·obtain⟨a,b,c,d⟩:=MH j AT h0;obtain⟨p,q⟩:=hf.to j AT _ c;rw[b,cY];refine⟨AT,?_,q⟩;rcases NM (n:=left.length) (N:=q6 f number) p with⟨k,h1,h2,h3⟩|⟨_,h3⟩
  ·rw[h3];obtain⟨a',b',c',d'⟩:=MH k h1 AT;have:=hf.inj k j h1 AT _ _ c' c AT;rw[this,d]at d';omega
  ·exact absurd b (h3 j AT)
 ·rcases NM (n:=left.length) (N:=q6 f number) hx with⟨k,h1,h2,h3⟩|⟨h3,_⟩
  ·rw[h3,cY];exact h2
  ·omega
 ·rw[on,on,hg i hi];split
  ·rw[decide_eq_false AT,decide_eq_false AT]
  ·rw[decide_eq_true AT,decide_eq_true AT]
end T

