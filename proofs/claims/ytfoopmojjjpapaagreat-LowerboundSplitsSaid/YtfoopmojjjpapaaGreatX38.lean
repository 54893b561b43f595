import Derived.Test.YtfoopmojjjpapaaGreatX36
import Derived.Test.YtfoopmojjjpapaaGreatX37
set_option linter.all false
set_option maxHeartbeats 0
set_option maxRecDepth 20000
open List renaming getD_eq_getElem?_getD→ay,getElem?_set→bU,replicate→aK,mem_cons→bu,range→bn,getElem?_map→bM,getElem?_eq_getElem→bx,mem_range→nB,perm_middle→zA,getElem_of_mem→kr,nodup_cons→nC,mem_append→cG,map_cons→ez,mem_cons_of_mem→dZ,mem_map→bY,mem_filter→AR,getElem_map→EF
open Nat renaming strongRecOn→AP,le_refl→aZ
open Int renaming toNat_natCast→dg,le_refl→nD
open Bool renaming and_eq_true→bc,true_and→ic
open Go Go.Am
namespace T
def GG{α:Type}(l:List α)(i j:Nat)(v d:α)(h:i<l.length):(l.set i v).getD j d=if j=i then v else l.getD j d:=by
 simp only[ay,bU];by_cases uR:j=i
 ·subst uR;simp[h]
 ·simp[uR,Ne.symm uR]
def nW{α:Type}(l:List α)(i j:Nat)(v d:α)(h:j≠i):(l.set i v).getD j d=l.getD j d:=by
 simp only[ay,bU];simp[Ne.symm h]
def yi{α:Type}(l:List α)(i:Nat)(v d:α)(h:i<l.length):(l.set i v).getD i d=v:=by
 rw[GG _ _ _ _ _ h];simp
def adD{α:Type}(n j:Nat)(v:α):(aK n v).getD j v=v:=by
 simp only[ay,List.getElem?_replicate];split<;>rfl
structure Cp(left:List (List Int))(R:Nat)(owner number:List Int):Prop where
 hO:yT left.length R owner
 hN:number.length=left.length
 sH:∀ j,j<left.length->-1<=number.getD j 0
 fwd:∀ j,j<left.length->0<=number.getD j 0->number.getD j 0<R/\owner.getD (number.getD j 0).toNat 0=j/\number.getD j 0∈left.getD j []
 bwd:∀ x,x<R->0<=owner.getD x 0->number.getD (owner.getD x 0).toNat 0=x
structure MEx(left:List (List Int))(R:Nat)(xs:List Int)(i:Nat)(seen:List Bool)(owner number yj vp:List Int):Prop where
 hO:yT left.length R yj
 hN:vp.length=left.length
 sH:∀ j,j<left.length->-1<=vp.getD j 0
 fwd:∀ j,j<left.length->j≠i->0<=vp.getD j 0->vp.getD j 0<R/\yj.getD (vp.getD j 0).toNat 0=j/\vp.getD j 0∈left.getD j []
 bwd:∀ x,x<R->0<=yj.getD x 0->yj.getD x 0≠i->vp.getD (yj.getD x 0).toNat 0=x
 me :∃y,y<R/\vp.getD i 0=(y:Nat)/\yj.getD y 0=i/\(y:Int)∈xs/\seen.getD y false=false/\∀ x,x<R->yj.getD x 0=i->x=y\/seen.getD x false=true
 eA:∀ x,x<R->seen.getD x false=true->yj.getD x 0=owner.getD x 0
 same:∀ j,j<left.length->j≠i->(number.getD j 0<0\/∃ x,x<R/\number.getD j 0=(x:Nat)/\seen.getD x false=true)->vp.getD j 0=number.getD j 0
 pos:∀ j,j<left.length->j≠i->(0<=vp.getD j 0↔0<=number.getD j 0)
structure amE(left:List (List Int))(R:Nat)(xs:List Int)(seen:List Bool)(owner number:List Int)(Pk:List Bool)(yj vp:List Int):Prop where
 eo:yj=owner
 en:vp=number
 all:∀ x∈xs,Pk.getD x.toNat false=true
 cl:∀ x,x<R->Pk.getD x false=true->seen.getD x false=true\/(0<=owner.getD x 0/\∀ y∈left.getD (owner.getD x 0).toNat [],Pk.getD y.toNat false=true)
def amF{left:List (List Int)}{R:Nat}(hL:BQ R left):∀ (f:Nat) (xs:List Int) (i:Nat) (seen:List Bool) (owner number:List Int),qh seen<=f->seen.length=R->(∀ x∈xs,0<=x/\x<R)->i<left.length->Cp left R owner number ->
  (∀ x,x<R->owner.getD x 0=i->seen.getD x false=true)->∀ q,tE left f xs i seen owner number=q ->
   (q.1=true->MEx left R xs i seen owner number q.2.2.1 q.2.2.2)/\(q.1=false->amE left R xs seen owner number q.2.1 q.2.2.1 q.2.2.2)/\(∀ x,seen.getD x false=true->q.2.1.getD x false=true)/\q.2.1.length=R/\qh q.2.1<=qh seen:=by
 intro f
 induction f using AP with
 |_ f Pl =>
  intro xs
  induction xs with
  |nil =>
   intro i seen owner number hc hs hx hi hM h3 q hq;rw[tE.eq_def]at hq;subst hq;exact⟨G9,λ_=>⟨rfl,rfl,G9,λx _ h=>.inl h⟩,λ_ h=>h,hs,aZ _⟩
  |cons x r ih =>
   intro i seen owner number hc hs hx hi hM h3 q hq;obtain⟨hx0,hxR⟩:=hx x G9;have hr:∀ x∈r,0<=x/\x<R:=λy hy=>hx y (by simp[hy]);obtain⟨n,rfl⟩:∃n:Nat,x=n:=⟨x.toNat,Ey⟩;rw[tE.eq_def]at hq;simp only[dg]at hq;have AB:n<R:=Ey;have iz:n<owner.length:=by rw[hM.hO.1];exact AB
   have da:i<number.length:=by rw[hM.hN];exact hi
   by_cases eX:seen.getD n false=true
   ·rw[if_pos eX]at hq;obtain⟨a,b,c,d,e⟩:=ih i seen owner number hc hs hr hi hM h3 q hq;refine⟨λh=>?_,λh=>?_,c,d,e⟩
    ·obtain⟨y,y1,y2,y3,y4,y5,y6⟩:=(a h).me;exact { a h with me:=⟨y,y1,y2,y3,by simp[y4],y5,y6⟩ }
    ·refine { b h with all:=λy hy=>?_ };rcases bu.1 hy with rfl|hy
     ·simpa using c n eX
     ·exact(b h).all y hy
   ·have Pm:seen.getD n false=false:=by simpa using eX
    rw[if_neg eX]at hq;have fX:=ai4 seen n Ey Pm;have hog:=hM.hO.get AB;have yk:∀ x,seen.getD x false=true->(seen.set n true).getD x false=true:=λx hx=>by
     rw[GG _ _ _ _ _ Ey];split<;>simp_all
    by_cases ur:owner.getD n 0<0
    ·rw[if_pos ur]at hq;subst hq;refine⟨λ_=>?_,G9,yk,by simpa using hs,Hi⟩;dsimp only;refine⟨hM.hO.set hi,by simpa using hM.hN,?_,?_,?_,⟨n,AB,yi _ _ _ _ da,yi _ _ _ _ iz,G9,Pm,?_⟩,?_,?_,?_⟩
     ·intro j hj;rw[GG _ _ _ _ _ da];split
      ·omega
      ·exact hM.sH j hj
     ·intro j hj iX h0;rw[nW _ _ _ _ _ iX]at h0 ⊢;obtain⟨a,b,c⟩:=hM.fwd j hj h0;refine⟨a,?_,c⟩;rw[nW]
      ·exact b
      ·intro e;rw[e]at b;omega
     ·intro y hy h0 cE;by_cases zl:y=n
      ·subst zl;rw[yi _ _ _ _ iz]at cE;exact absurd rfl cE
      ·rw[nW _ _ _ _ _ zl]at h0 cE ⊢;rw[nW]
       ·exact hM.bwd y hy h0
       ·omega
     ·intro y hy he;by_cases zl:y=n
      ·exact .inl zl
      ·rw[nW _ _ _ _ _ zl]at he;exact .inr (h3 y hy he)
     ·intro y hy J2;rw[nW];intro e;subst e;simp_all
     ·intro j hj iX _;exact nW _ _ _ _ _ iX
     ·intro j hj iX;rw[nW _ _ _ _ _ iX]
    ·rw[if_neg ur]at hq;obtain⟨f',rfl⟩:∃f',f=f'+1:=⟨f-1,Ey⟩;simp only at hq;obtain⟨o,ho⟩:∃o:Nat,owner.getD n 0=o:=⟨(owner.getD n 0).toNat,Ey⟩;rw[ho]at hq;simp only[dg]at hq;have nN:o<left.length:=Ey;have Pn:number.getD o 0=n:=by
      have:=hM.bwd n AB Ey;rwa [ho,dg]at this
     have ql:o≠i:=by
      intro e;subst e;have:=h3 n AB ho;simp_all
     have OZ:∀ x,x<R->owner.getD x 0=o->(seen.set n true).getD x false=true:=by
      intro y hy he;have:=hM.bwd y hy Ey;rw[he,dg,Pn]at this;have:y=n:=Ey;subst this;exact yi _ _ _ _ Ey
     have hp:=Pl f' Ey (left.getD o []) o (seen.set n true) owner number Ey (by simpa using hs) (hL.get _).2 nN hM OZ _ rfl;generalize tE left f' (left.getD o []) o (seen.set n true) owner number=p at hp hq;obtain⟨p1,p2,p3,p4,p5⟩:=hp;by_cases pZ:p.1=true
     ·rw[if_pos pZ]at hq;subst hq;have hE:=p1 pZ;obtain⟨pb,ps,po,pn⟩:=p;dsimp only at hE p3 p4 p5 ⊢;obtain⟨y,y1,y2,y3,y4,y5,y6⟩:=hE.me;have hpo:n<po.length:=by rw[hE.hO.1];exact AB
      have GH:i<pn.length:=by rw[hE.hN];exact hi
      have Ds:po.getD n 0=o:=by rw[hE.eA n AB (yi _ _ _ _ Ey),ho]
      have zl:y≠n:=by
       intro e;subst e;rw[yi _ _ _ _ Ey]at y5;simp at y5
      have amG:pn.getD i 0=number.getD i 0:=by
       refine hE.same i hi (Ne.symm ql) ?_;by_cases h0:number.getD i 0<0
       ·exact .inl h0
       ·right;obtain⟨a,b,c⟩:=hM.fwd i hi Ey;exact⟨(number.getD i 0).toNat,Ey,Ey,yk _ (h3 _ Ey b)⟩
      refine⟨λ_=>⟨hE.hO.set hi,by simpa using hE.hN,?_,?_,?_,⟨n,AB,yi _ _ _ _ GH,yi _ _ _ _ hpo,G9,Pm,?_⟩,?_,?_,?_⟩,G9,λx h=>p3 x (yk x h),p4,Ey⟩
      ·intro j hj;rw[GG _ _ _ _ _ GH];split
       ·omega
       ·exact hE.sH j hj
      ·intro j hj iX h0;rw[nW _ _ _ _ _ iX]at h0 ⊢;by_cases Cq:j=o
       ·subst Cq;rw[y2];refine⟨Ey,?_,y4⟩;rw[dg,nW _ _ _ _ _ zl];exact y3
       ·obtain⟨a,b,c⟩:=hE.fwd j hj Cq h0;refine⟨a,?_,c⟩;rw[nW]
        ·exact b
        ·intro e;rw[e,Ds]at b;omega
      ·intro z hz h0 cE;by_cases Cr:z=n
       ·subst Cr;rw[yi _ _ _ _ hpo]at cE;exact absurd rfl cE
       ·rw[nW _ _ _ _ _ Cr]at h0 cE ⊢;rw[nW _ _ _ _ _ Ey];by_cases J3:po.getD z 0=o
        ·rcases y6 z hz J3 with rfl|aO
         ·rw[J3,dg,y2]
         ·have:=hE.eA z hz aO;rw[J3]at this;have hb:=hM.bwd z hz Ey;rw[<- this,dg,Pn]at hb;omega
        ·exact hE.bwd z hz h0 J3
      ·intro z hz he;by_cases Cr:z=n
       ·exact .inl Cr
       ·right;rw[nW _ _ _ _ _ Cr]at he;have hb:=hE.bwd z hz Ey Ey;rw[he,dg,amG]at hb;obtain⟨a,b,c⟩:=hM.fwd i hi Ey;rw[hb,dg]at b;exact h3 z hz b
      ·intro z hz aO;have Cr:z≠n:=by intro e;subst e;simp_all
       rw[nW _ _ _ _ _ Cr];exact hE.eA z hz (yk z aO)
      ·intro j hj iX wc;rw[nW _ _ _ _ _ iX];have Cq:j≠o:=by
        intro e;subst e;rcases wc with h|⟨z,hz,vW,zZ⟩
        ·omega
        ·have:z=n:=Ey;subst this;simp_all
       refine hE.same j hj Cq ?_;rcases wc with h|⟨z,hz,vW,zZ⟩
       ·exact .inl h
       ·exact .inr ⟨z,hz,vW,yk z zZ⟩
      ·intro j hj iX;rw[nW _ _ _ _ _ iX];by_cases Cq:j=o
       ·subst Cq;rw[y2,Pn];omega
       ·exact hE.pos j hj Cq
     ·rw[if_neg pZ]at hq;have hF:=p2 (by simpa using pZ);obtain⟨pb,ps,po,pn⟩:=p;dsimp only at hF p3 p4 p5 hq;obtain⟨rfl,rfl,Eb,GJ⟩:=hF;obtain⟨a,b,c,d,e⟩:=ih i ps po pn Ey p4 hr hi hM (λx hx h=>p3 x (yk x (h3 x hx h))) q hq;refine⟨λh=>?_,λh=>?_,λx h=>c x (p3 x (yk x h)),d,Ey⟩
      ·have hE:=a h;obtain⟨y,y1,y2,y3,y4,y5,y6⟩:=hE.me;refine⟨hE.hO,hE.hN,hE.sH,hE.fwd,hE.bwd,⟨y,y1,y2,y3,by simp[y4],?_,?_⟩,λz hz h=>hE.eA z hz (p3 z (yk z h)),?_,hE.pos⟩
       ·cases J2:seen.getD y false with
        |false=>rfl
        |true=>rw[p3 y (yk y J2)]at y5;simp at y5
       ·intro z hz he;rcases y6 z hz he with h|h
        ·exact .inl h
        ·right;have hk:=hE.eA z hz h;rw[he]at hk;exact h3 z hz hk.symm
       ·intro j hj iX wc;refine hE.same j hj iX ?_;rcases wc with h|⟨z,hz,vW,zZ⟩
        ·exact .inl h
        ·exact .inr ⟨z,hz,vW,p3 z (yk z zZ)⟩
      ·have hG:=b h;refine⟨hG.eo,hG.en,λy hy=>?_,λy hy J2=>?_⟩
       ·rcases bu.1 hy with rfl|hy
        ·rw[dg];exact c n (p3 n (yi _ _ _ _ Ey))
        ·exact hG.all y hy
       ·rcases hG.cl y hy J2 with h'|h'
        ·rcases GJ y hy h' with wD|wD
         ·rw[GG _ _ _ _ _ Ey]at wD;split at wD
          ·rename_i zl;subst zl;right;refine⟨Ey,?_⟩;rw[ho,dg];intro z hz;exact c _ (Eb z hz)
          ·exact .inl wD
         ·exact .inr ⟨wD.1,λz hz=>c _ (wD.2 z hz)⟩
        ·exact .inr h'
def J4(left:List (List Int))(R:Nat)(D:Nat->Prop)(owner:List Int):Prop:=∀ x,x<R->D x->0<=owner.getD x 0/\∀ y∈left.getD (owner.getD x 0).toNat [],D y.toNat
def amH{left:List (List Int)}{R:Nat}(hL:BQ R left){D:Nat->Prop}:∀ (f:Nat) (xs:List Int) (i:Nat) (seen:List Bool) (owner number:List Int),(∀ x∈xs,0<=x/\x<R)->J4 left R D owner ->
  ((∀ x∈xs,D x.toNat)->(tE left f xs i seen owner number).1=false)/\∀ x,x<R->D x->(tE left f xs i seen owner number).2.2.1.getD x 0=owner.getD x 0:=by
 intro f
 induction f using AP with
 |_ f Pl =>
  intro xs
  induction xs with
  |nil=>intro i seen owner number _ hC;rw[tE.eq_def];exact⟨λ_=>rfl,λ_ _ _=>rfl⟩
  |cons x r ih =>
   intro i seen owner number hx hC;have hr:∀ x∈r,0<=x/\x<R:=λy hy=>hx y (by simp[hy]);have hx1:=hx x G9;rw[tE.eq_def];simp only;split
   ·obtain⟨a,b⟩:=ih i seen owner number hr hC;exact⟨λh=>a λy hy=>h y (by simp[hy]),b⟩
   ·split
    ·rename_i h1 h2;refine⟨λh=>?_,λy hy hD=>?_⟩
     ·have:=(hC x.toNat Ey (h x G9)).1;omega
     ·rw[nW];intro e;subst e;have:=(hC _ hy hD).1;omega
    ·cases f with
     |zero=>exact⟨λ_=>rfl,λ_ _ _=>rfl⟩
     |succ f' =>
      obtain⟨a,b⟩:=Pl f' Ey (left.getD (owner.getD x.toNat 0).toNat []) (owner.getD x.toNat 0).toNat (seen.set x.toNat true) owner number (hL.get _).2 hC;simp only;generalize tE left f' (left.getD (owner.getD x.toNat 0).toNat []) (owner.getD x.toNat 0).toNat (seen.set x.toNat true) owner number=p at a b ⊢;have hC':J4 left R D p.2.2.1:=by
       intro y hy hD;rw[b y hy hD];exact hC y hy hD
      split
      ·rename_i hp;refine⟨λh=>?_,λy hy hD=>?_⟩
       ·have:=a (hC x.toNat Ey (h x G9)).2;simp_all
       ·dsimp only;rw[nW]
        ·exact b y hy hD
        ·intro e;subst e;have:=a (hC _ hy hD).2;simp_all
      ·obtain⟨c,d⟩:=ih i p.2.1 p.2.2.1 p.2.2.2 hr hC';exact⟨λh=>c λy hy=>h y (by simp[hy]),λy hy hD=>(d y hy hD).trans (b y hy hD)⟩
def cn(n:Nat)(p:Nat->Bool):Nat:=(bn n).countP p
def amJ(p:Nat->Bool):cn 0 p=0:=rfl
def yl(n:Nat)(p:Nat->Bool):cn (n+1) p=cn n p+(if p n=true then 1 else 0):=by
 simp only[cn,List.range_succ,List.countP_append,List.countP_cons,List.countP_nil,Nat.zero_add]
def adF{n:Nat}{p q:Nat->Bool}(h:∀ i,i<n->p i=q i):cn n p=cn n q:=by
 induction n with
 |zero=>rfl
 |succ n ih=>rw[yl,yl,ih λi hi=>h i Ey,h n Ey]
def amK{n:Nat}{p q:Nat->Bool}(h:∀ i,i<n->p i=true->q i=true):cn n p<=cn n q:=by
 induction n with
 |zero=>exact aZ _
 |succ n ih =>
  rw[yl,yl];have:=ih λi hi=>h i Ey;have:=h n Ey;split<;>split<;>simp_all<;>omega
def amL(n:Nat)(p q:Nat->Bool):cn n p=cn n (λi=>p i&&q i)+cn n (λi=>p i&&!q i):=by
 induction n with
 |zero=>rfl
 |succ n ih =>
  rw[yl,yl,yl,ih];cases p n<;>cases q n<;>simp<;>omega
def adG{n:Nat}{p q:Nat->Bool}(k:Nat)(hk:k<n)(h:∀ i,i<n->i≠k->p i=q i)(hp:p k=true)(hq:q k=false):cn n p=cn n q+1:=by
 induction n with
 |zero=>omega
 |succ n ih =>
  rw[yl,yl];by_cases yg:k=n
  ·subst yg;rw[adF (p:=p) (q:=q) λi hi=>h i Ey Ey,hp,hq];rfl
  ·rw[ih Ey λi hi=>h i Ey,h n Ey (Ne.symm yg)];omega
def adH{n m:Nat}{p q:Nat->Bool}(f:Nat->Nat)(h1:∀ i,i<n->p i=true->f i<m/\q (f i)=true)(h2:∀ i j,i<n->j<n->p i=true->p j=true->f i=f j->i=j):cn n p<=cn m q:=by
 induction n generalizing q with
 |zero=>simp[amJ]
 |succ n ih =>
  rw[yl];split
  ·rename_i hp;obtain⟨a,b⟩:=h1 n Ey hp;have e:=adG (n:=m) (p:=q) (q:=λx=>q x&&!decide (x=f n)) (f n) a (λi _ hi=>by simp[hi]) b G9;have:=ih (q:=λx=>q x&&!decide (x=f n)) (λi hi GH=>by
    obtain⟨c,d⟩:=h1 i Ey GH;refine⟨c,?_⟩;have:f i≠f n:=λe=>by have:=h2 i n Ey Ey GH hp e;omega
    simp[d,this]) (λi j hi hj=>h2 i j Ey Ey)
   omega
  ·exact ih (λi hi=>h1 i Ey) (λi j hi hj=>h2 i j Ey Ey)
def on(number:List Int)(i:Nat):Bool:=decide (0<=number.getD i 0)
structure Inv(left:List (List Int))(R:Nat)(w:Int)(i:Nat)(owner number:List Int)(D:Nat->Prop):Prop where
 ok:Cp left R owner number
 rest:∀ j,j<left.length->(i<=j\/(j:Int)=w)->number.getD j 0 = -1
 cl:J4 left R D owner
 dead:∀ j,j<i->j<left.length->(j:Int)≠w->number.getD j 0<0->∀ y∈left.getD j [],D y.toNat
def Inv.step{left:List (List Int)}{R:Nat}(hL:BQ R left){w:Int}{i:Nat}{owner number:List Int}{D:Nat->Prop}(h:Inv left R w i owner number D)(hi:i<left.length)(hw:(i:Int)≠w):
  ∀ q,tE left R (left.getD i []) i (aK R false) owner number=q->(∃ D',Inv left R w (i+1) q.2.2.1 q.2.2.2 D')/\cn left.length (on q.2.2.2)=cn left.length (on number)+(if q.1=true then 1 else 0):=by
 intro q hq;have xo:=h.rest i hi (.inl (aZ _));have h3:∀ x,x<R->owner.getD x 0=i->(aK R false).getD x false=true:=by
  intro x hx he;have:=h.ok.bwd x hx Ey;rw[he,dg,xo]at this;omega
 obtain⟨a,b,c,d,e⟩:=amF hL R (left.getD i []) i (aK R false) owner number (by rw[ai5];exact aZ _) G9 (hL.get _).2 hi h.ok h3 q hq;obtain⟨_,g⟩:=amH hL (D:=D) R (left.getD i []) i (aK R false) owner number (hL.get _).2 h.cl;rw[hq]at g;have bI:J4 left R D q.2.2.1:=by
  intro y hy hD;rw[g y hy hD];exact h.cl y hy hD
 cases hb:q.1 with
 |true =>
  have hE:=a hb;obtain⟨y,y1,y2,y3,y4,y5,y6⟩:=hE.me;refine⟨⟨D,⟨hE.hO,hE.hN,hE.sH,?_,?_⟩,?_,bI,?_⟩,?_⟩
  ·intro j hj h0;by_cases iX:j=i
   ·subst iX;rw[y2,dg];exact⟨Ey,y3,y4⟩
   ·exact hE.fwd j hj iX h0
  ·intro x hx h0;by_cases Po:q.2.2.1.getD x 0=i
   ·rcases y6 x hx Po with rfl|h'
    ·rw[Po,dg,y2]
    ·rw[adD]at h';simp at h'
   ·exact hE.bwd x hx h0 Po
  ·intro j hj wc;have iX:j≠i:=by rcases wc with h|h<;>omega
   have hr:=h.rest j hj (by rcases wc with h|h<;>omega);have:=hE.pos j hj iX;have:=hE.sH j hj;omega
  ·intro j hj iw Pp h0 z hz;have iX:j≠i:=by intro e;subst e;omega
   have:=hE.pos j iw iX;exact h.dead j Ey iw Pp Ey z hz
  ·rw[if_pos rfl];refine adG i hi (λj hj iX=>?_) ?_ ?_
   ·have:=hE.pos j hj iX;simp only[on,this]
   ·rw[on,y2];exact decide_eq_true Ey
   ·simp only[on,xo];rfl
 |false =>
  have hF:=b hb;rw[hF.eo,hF.en];refine⟨⟨λx=>D x\/q.2.1.getD x false=true,h.ok,λj hj wc=>h.rest j hj (by rcases wc with h|h<;>omega),?_,?_⟩,G9⟩
  ·intro x hx hD;rcases hD with hD|hD
   ·obtain⟨k,l⟩:=h.cl x hx hD;exact⟨k,λy hy=>.inl (l y hy)⟩
   ·rcases hF.cl x hx hD with h'|⟨k,l⟩
    ·rw[adD]at h';simp at h'
    ·exact⟨k,λy hy=>.inr (l y hy)⟩
  ·intro j hj iw Pp h0 z hz;by_cases iX:j=i
   ·subst iX;exact .inr (hF.all z hz)
   ·exact .inl (h.dead j Ey iw Pp h0 z hz)
def amM{left:List (List Int)}{R:Nat}{owner number:List Int}(h:Cp left R owner number){T D:Nat->Bool}(hT:∀ i,i<left.length->T i=true->∀ y∈left.getD i [],D y.toNat=true):
  cn left.length (λi=>T i&&on number i)<=cn R (λx=>D x&&decide (0<=owner.getD x 0)&&T (owner.getD x 0).toNat):=by
 refine adH (λi=>(number.getD i 0).toNat) (λi hi hp=>?_) (λi j hi hj hp hq he=>?_)
 ·simp only[bc,on,decide_eq_true_eq]at hp;obtain⟨a,b,c⟩:=h.fwd i hi hp.2;refine⟨Ey,?_⟩;simp only[b,dg,hp.1,hT i hi hp.1 _ c,ic,Bool.and_true,decide_eq_true_eq];omega
 ·simp only[bc,on,decide_eq_true_eq]at hp hq;obtain⟨a,b,c⟩:=h.fwd i hi hp.2;obtain⟨a',b',c'⟩:=h.fwd j hj hq.2;try dsimp only at he
  rw[he]at b;omega
def amN{left:List (List Int)}{R:Nat}{owner number:List Int}(h:Cp left R owner number){T D:Nat->Bool}(hD:∀ x,x<R->D x=true->0<=owner.getD x 0/\T (owner.getD x 0).toNat=true):
  cn R D<=cn left.length (λi=>T i&&on number i):=by
 refine adH (λx=>(owner.getD x 0).toNat) (λx hx hp=>?_) (λx y hx hy hp hq he=>?_)
 ·obtain⟨a,b⟩:=hD x hx hp;have hg:=h.hO.get hx;refine⟨Ey,?_⟩;simp only[b,ic,on,decide_eq_true_eq];rw[h.bwd x hx a];omega
 ·obtain⟨a,b⟩:=hD x hx hp;obtain⟨a',b'⟩:=hD y hy hq;have e1:=h.bwd x hx a;have e2:=h.bwd y hy a';try dsimp only at he
  rw[he]at e1;omega
structure Reach(left:List (List Int))(R:Nat)(owner number:List Int)(used qx:List Bool):Prop where
 lu:used.length=R
 li:qx.length=left.length
 g1:∀ i,i<left.length->on number i=false->qx.getD i false=true
 g2:∀ i,i<left.length->qx.getD i false=true->∀ x∈left.getD i [],used.getD x.toNat false=true
 g3:∀ x,used.getD x false=true->0<=owner.getD x 0->qx.getD (owner.getD x 0).toNat false=true
 g4:∀ (T E:Nat->Prop),(∀ x,E x->0<=owner.getD x 0->T (owner.getD x 0).toNat)->(∀ i,T i->∀ x∈left.getD i [],E x.toNat)->(∀ i,i<left.length->on number i=false->T i)->(∀ i,qx.getD i false=true->T i)/\∀ x,used.getD x false=true->E x
noncomputable def pb(D:Nat->Prop)(x:Nat):Bool:=@decide (D x) (Classical.propDecidable _)
section
variable {left:List (List Int)} {R:Nat} {owner number:List Int} {used qx:List Bool} {D:Nat->Prop}
def Reach.amO(hL:BQ R left)(h:Inv left R (-1) left.length owner number D)(hr:Reach left R owner number used qx):∀ x,used.getD x false=true->x<R/\0<=owner.getD x 0:=by
 intro x hx;obtain⟨_,b⟩:=hr.g4 (λi=>∀ y∈left.getD i [],D y.toNat) (λx=>x<R/\D x) (λx hx h0=>(h.cl x hx.1 hx.2).2) (λi hi y hy=>⟨by have:=(hL.get i).2 y hy;omega,hi y hy⟩) (λi hi h0=>h.dead i hi hi Ey (by simpa [on] using h0));obtain⟨c,d⟩:=b x hx;exact⟨c,(h.cl x c d).1⟩
def Reach.count(hL:BQ R left)(h:Inv left R (-1) left.length owner number D)(hr:Reach left R owner number used qx):
  cn left.length (λi=>qx.getD i false)=cn left.length (λi=>!on number i)+cn R (λx=>used.getD x false):=by
 rw[amL _ _ (on number)];have e1:cn left.length (λi=>qx.getD i false&&!on number i)=cn left.length (λi=>!on number i):=adF λi hi=>by
  cases ho:on number i with
  |true=>simp
  |false=>rw[hr.g1 i hi ho];rfl
 have h1:=amM h.ok (T:=λi=>qx.getD i false) (D:=λx=>used.getD x false) (λi hi hT=>hr.g2 i hi hT);have h2:cn R (λx=>used.getD x false&&decide (0<=owner.getD x 0)&&qx.getD (owner.getD x 0).toNat false)<=cn R (λx=>used.getD x false):=amK λi _ hi=>by simp only[bc]at hi;exact hi.1.1
 have h3:=amN h.ok (T:=λi=>qx.getD i false) (D:=λx=>used.getD x false) (λx hx hu=>by
  have:=(hr.amO hL h x hu).2;exact⟨this,hr.g3 x hu this⟩)
 omega
def Reach.none(hr:Reach left R owner number used qx)(h:∀ i,i<left.length->on number i=true):∀ i,qx.getD i false=false:=by
 obtain⟨a,_⟩:=hr.g4 (λ_=>False) (λ_=>False) (λ_ h _=>h) (λ_ h=>h.elim) (λi hi h0=>by rw[h i hi]at h0;simp at h0);intro i;cases hh:qx.getD i false with
 |false=>rfl
 |true=>exact(a i hh).elim
end
def sQ(f:Nat->Nat)(N:List Int):List Int:=N.map λn=>if n<0 then -1 else(f n.toNat:Int)
def zm(n R':Nat)(N:List Int):List Int:=(bn R').map λx:Nat=>match (bn n).find? (λj=>decide (N.getD j 0=(x:Int))) with|some j=>(j:Int)|none=>-1
def amP{f:Nat->Nat}{N:List Int}{j:Nat}(h:j<N.length):(sQ f N).getD j 0=if N.getD j 0<0 then -1 else(f (N.getD j 0).toNat:Int):=by
 rw[sQ,ay,bM,bx h,ay,bx h];rfl
def Pq{n R':Nat}{N:List Int}{x:Nat}(hx:x<R'):(∃ j,j<n/\N.getD j 0=x/\(zm n R' N).getD x 0=(j:Nat))\/((zm n R' N).getD x 0 = -1/\∀ j,j<n->N.getD j 0≠x):=by
 have e:(zm n R' N).getD x 0=match (bn n).find? (λj=>decide (N.getD j 0=(x:Int))) with|some j=>(j:Int)|none=>-1:=by
  rw[zm,ay,bM,List.getElem?_range hx];rfl
 cases hf:(bn n).find? (λj=>decide (N.getD j 0=(x:Int))) with
 |some j =>
  rw[hf]at e;have h1:=List.find?_some hf;have h2:=List.mem_of_find?_eq_some hf;rw[decide_eq_true_eq]at h1;exact .inl ⟨j,nB.1 h2,h1,e⟩
 |none =>
  rw[hf]at e;rw[List.find?_eq_none]at hf;exact .inr ⟨e,λj hj he=>absurd (decide_eq_true he) (hf j (nB.2 hj))⟩
structure amQ(left GK:List (List Int))(R':Nat)(f:Nat->Nat):Prop where
 len:GK.length=left.length
 to:∀ i,i<left.length->∀ x:Nat,(x:Int)∈left.getD i []->f x<R'/\(f x:Int)∈GK.getD i []
 inj:∀ i j,i<left.length->j<left.length->∀ x y:Nat,(x:Int)∈left.getD i []->(y:Int)∈left.getD j []->f x=f y->x=y
def Cp.br{left GK:List (List Int)}{R R':Nat}{f:Nat->Nat}{owner number:List Int}(h:Cp left R owner number)(hf:amQ left GK R' f):
  Cp GK R' (zm left.length R' (sQ f number)) (sQ f number)/\∀ i,i<left.length->on (sQ f number) i=on number i:=by
 have hl:=hf.len;have hg:∀ j,j<left.length->(sQ f number).getD j 0=if number.getD j 0<0 then -1 else(f (number.getD j 0).toNat:Int):=λj hj=>amP (by rw[h.hN];exact hj);have ON:∀ j,j<left.length->0<=(sQ f number).getD j 0->0<=number.getD j 0/\(sQ f number).getD j 0=f (number.getD j 0).toNat/\(((number.getD j 0).toNat:Nat):Int)∈left.getD j []/\owner.getD (number.getD j 0).toNat 0=j:=λj hj h0=>by
  rw[hg j hj]at h0 ⊢;split at h0
  ·omega
  ·rename_i hn;obtain⟨a,b,c⟩:=h.fwd j hj Ey;rw[if_neg hn];exact⟨Ey,rfl,by rw[Int.toNat_of_nonneg Ey];exact c,b⟩
 refine⟨⟨⟨by simp[zm],λo ho=>?_⟩,by rw[sQ,List.length_map,h.hN,hl],λj hj=>?_,λj hj h0=>?_,λx hx h0=>?_⟩,λi hi=>?_⟩
 ·obtain⟨x,hx,rfl⟩:=List.mem_iff_getElem.1 ho;have cf:x<R':=by simpa [zm] using hx
  have e:(zm left.length R' (sQ f number))[x]=(zm left.length R' (sQ f number)).getD x 0:=by rw[ay,bx hx];rfl
  rw[e];rcases Pq (n:=left.length) (N:=sQ f number) cf with⟨j,h1,h2,h3⟩|⟨h3,_⟩<;>rw[h3]<;>omega
 ·rw[hg j Ey];split<;>omega
 ·obtain⟨a,b,c,d⟩:=ON j Ey h0;obtain⟨p,q⟩:=hf.to j Ey _ c;rw[b,dg];refine⟨Ey,?_,q⟩;rcases Pq (n:=left.length) (N:=sQ f number) p with⟨k,h1,h2,h3⟩|⟨_,h3⟩
  ·rw[h3];obtain⟨a',b',c',d'⟩:=ON k h1 Ey;have:=hf.inj k j h1 Ey _ _ c' c Ey;rw[this,d]at d';omega
  ·exact absurd b (h3 j Ey)
 ·rcases Pq (n:=left.length) (N:=sQ f number) hx with⟨k,h1,h2,h3⟩|⟨h3,_⟩
  ·rw[h3,dg];exact h2
  ·omega
 ·rw[on,on,hg i hi];split
  ·rw[decide_eq_false Ey,decide_eq_false Ey]
  ·rw[decide_eq_true Ey,decide_eq_true Ey]
section
variable {α:Type} [Inhabited α]
def wN(lt:α->α->Bool)(x:α)(l:List α):Nat->Nat
 |0=>0
 |k+1=>if lt x (l.getD k default)=true then wN lt x l k else k+1
def adI(lt:α->α->Bool)(x:α)(l:List α):∀ k,wN lt x l k<=k
 |0=>aZ _
 |k+1=>by
  rw[wN];split
  ·have:=adI lt x l k;omega
  ·exact aZ _
def GL(lt:α->α->Bool)(x:α)(l:List α):List α:=l.take (wN lt x l l.length)++x::l.drop (wN lt x l l.length)
def Cs(lt:α->α->Bool):List α->List α->List α
 |[],out=>out
 |x::r,out=>Cs lt r (GL lt x out)
def Ps(lt:α->α->Bool)(x:α)(l:List α):(GL lt x l).Perm (x::l):=by
 unfold GL;refine zA.trans ?_;rw[List.take_append_drop]
def Pg(lt:α->α->Bool):∀ (l out:List α),(Cs lt l out).Perm (out++l)
 |[],out=>by rw[Cs,List.append_nil]
 |x::r,out=>by
  rw[Cs];refine(Pg lt r _).trans (((Ps lt x out).append_right r).trans ?_);exact zA.symm
def adJ(lt:α->α->Bool)(x:α)(l:List α):∀ k,(∀ j,wN lt x l k<=j->j<k->lt x (l.getD j default)=true)/\(0<wN lt x l k->lt x (l.getD (wN lt x l k-1) default)=false)
 |0=>⟨λj h1 h2=>Ey,λh=>by rw[wN]at h;omega⟩
 |k+1=>by
  obtain⟨a,b⟩:=adJ lt x l k;rw[wN];split
  ·rename_i h;refine⟨λj h1 h2=>?_,b⟩;by_cases hj:j=k
   ·subst hj;exact h
   ·exact a j h1 Ey
  ·rename_i h;exact⟨λj h1 h2=>Ey,λ_=>by simpa using h⟩
structure J5(lt:α->α->Bool)(P:α->Prop):Prop where
 tr:∀ a b c,P a->P b->P c->lt a b=true->lt b c=true->lt a c=true
 lK:∀ a b,P a->P b->a≠b->lt a b=true\/lt b a=true
 ir:∀ a b,P a->P b->lt a b=true->lt b a=false
def amR{lt:α->α->Bool}{P:α->Prop}(ho:J5 lt P){x:α}{l:List α}(hl:l.Pairwise λa b=>lt a b=true)(hP:∀ y∈l,P y)(hx:P x)(hn:x ∉ l):(GL lt x l).Pairwise λa b=>lt a b=true:=by
 obtain⟨a,b⟩:=adJ lt x l l.length;have hp:=adI lt x l l.length;unfold GL;generalize wN lt x l l.length=p at *;have hg:∀ j,j<l.length->l.getD j default∈l:=λj hj=>aF hj;have iy:∀ j (hj:j<l.length),l[j]=l.getD j default:=λj hj=>by rw[ay,bx hj];rfl
 have uR:∀ i j,i<j->j<l.length->lt (l.getD i default) (l.getD j default)=true:=λi j h1 h2=>by
  rw[<- iy i Ey,<- iy j h2];exact List.pairwise_iff_getElem.1 hl i j Ey h2 h1
 have yX:∀ y∈l.take p,lt y x=true:=λy hy=>by
  obtain⟨i,hi,rfl⟩:=kr hy;rw[List.length_take]at hi;rw[List.getElem_take,iy i Ey];have h1:=b Ey;have h2:l.getD (p-1) default∈l:=hg _ Ey;have h3:lt (l.getD (p-1) default) x=true:=(ho.lK _ _ (hP _ h2) hx (λe=>hn (e▸h2))).resolve_right (by rw[h1];decide);by_cases hip:i=p-1
  ·subst hip;exact h3
  ·exact ho.tr _ _ _ (hP _ (hg _ Ey)) (hP _ h2) hx (uR i (p-1) Ey Ey) h3
 have adK:∀ y∈l.drop p,lt x y=true:=λy hy=>by
  obtain⟨i,hi,rfl⟩:=kr hy;rw[List.length_drop]at hi;rw[List.getElem_drop,iy _ Ey];exact a _ Ey Ey
 rw[List.pairwise_append];refine⟨hl.sublist (List.take_sublist _ _),List.pairwise_cons.2 ⟨adK,hl.sublist (List.drop_sublist _ _)⟩,λy hy z hz=>?_⟩;rcases bu.1 hz with rfl|hz
 ·exact yX y hy
 ·exact ho.tr _ _ _ (hP _ (List.mem_of_mem_take hy)) hx (hP _ (List.mem_of_mem_drop hz)) (yX y hy) (adK z hz)
def adL{lt:α->α->Bool}{P:α->Prop}(ho:J5 lt P):∀ (l out:List α),out.Pairwise (λa b=>lt a b=true)->(∀ y∈out,P y)->(∀ y∈l,P y)->(out++l).Nodup->(Cs lt l out).Pairwise λa b=>lt a b=true
 |[],out,h,_,_,_=>h
 |x::r,out,h,h1,h2,h3=>by
  rw[Cs];have hp:(x::(out++r)).Nodup:=(zA.nodup_iff).1 h3;rw[nC,cG,not_or]at hp;refine adL ho r _ (amR ho h h1 (h2 x G9) hp.1.1) (λy hy=>?_) (λy hy=>h2 y (by simp[hy])) ?_
  ·rcases bu.1 ((Ps lt x out).mem_iff.1 hy) with rfl|hy
   ·exact h2 _ G9
   ·exact h1 y hy
  ·refine((Ps lt x out).append_right r).nodup_iff.2 ?_;rw[List.cons_append,nC,cG,not_or];exact hp
omit [Inhabited α] in
def adM{lt:α->α->Bool}{P:α->Prop}(ho:J5 lt P):∀ (a b:List α),a.Pairwise (λx y=>lt x y=true)->b.Pairwise (λx y=>lt x y=true)->(∀ x∈a,P x)->(∀ x,x∈a↔x∈b)->a=b
 |[],b,_,_,_,h=>by
  cases b with
  |nil=>rfl
  |cons y b=>have:=(h y).2 G9;simp at this
 |x::a,[],_,_,_,h=>by have:=(h x).1 G9;simp at this
 |x::a,y::b,ha,hb,hP,h=>by
  rw[List.pairwise_cons]at ha hb;have Pt:P y:=hP y ((h y).2 G9);have hir:∀ z,P z->lt z z=true->False:=λz hz hh=>by have:=ho.ir z z hz hz hh;rw[hh]at this;cases this
  have rS:x=y:=by
   rcases bu.1 ((h x).1 G9) with e|h1
   ·exact e
   ·rcases bu.1 ((h y).2 G9) with e|h2
    ·exact e.symm
    ·have:=ho.ir _ _ (hP x G9) Pt (ha.1 y h2);rw[hb.1 x h1]at this;cases this
  subst rS;congr 1;refine adM ho a b ha.2 hb.2 (λz hz=>hP z (by simp[hz])) λz=>?_;constructor
  ·intro hz;rcases bu.1 ((h z).1 (by simp[hz])) with e|h1
   ·subst e;exact(hir _ Pt (ha.1 _ hz)).elim
   ·exact h1
  ·intro hz;rcases bu.1 ((h z).2 (by simp[hz])) with e|h1
   ·subst e;exact(hir _ Pt (hb.1 _ hz)).elim
   ·exact h1
end
def dv.one{P:Program}{f:FuncId}{args:List AV}{aa:List Ob}{res:AV}{bh:List Ob}(h:dv P f args aa (λr os=>r=res/\os=bh)):Holds P f args aa res bh:=by
 refine⟨h.1,λγ aO hs=>(h.2 γ aO hs).mono ?_⟩;rintro e w'⟨r,os,cv,aC,⟨rfl,rfl⟩,h1,h2,h3,h4,h5⟩;exact⟨cv,aC,h1,h2,h3,h4,h5⟩
def KN(W:WS):Prop:=(W.am.map (·.1)).Nodup
def adO(k:List Int)(v:Int):∀ am:List (List Int×Int),(km k v am).map (·.1)=if k∈am.map (·.1) then am.map (·.1) else am.map (·.1)++[k]
 |[]=>rfl
 |p::r=>by
  have ih:=adO k v r;rw[km];by_cases hp:p.1=k
  ·rw[if_pos hp,if_pos (by rw[ez,hp];exact List.mem_cons_self)];simp[hp]
  ·rw[if_neg hp,ez,ih,ez];by_cases hk:k∈r.map (·.1)
   ·rw[if_pos hk,if_pos (dZ _ hk)]
   ·rw[if_neg hk,if_neg (by rw[bu,not_or];exact⟨λe=>hp e.symm,hk⟩)];rfl
def amU{k:List Int}{v:Int}{am:List (List Int×Int)}(h:(am.map (·.1)).Nodup):((km k v am).map (·.1)).Nodup:=by
 rw[adO];split
 ·exact h
 ·rename_i hk;exact List.nodup_append.2 ⟨h,G9,λa ha b hb=>by simp only[List.mem_singleton]at hb;subst hb;exact λe=>hk (e▸ha)⟩
section
variable {m:ah} {can:List (List Bool)}
def Pu{Q:WS->Prop}(h:∀ W p s o amt,Q W->Q (ry m W p s o amt))(W:WS)(hW:Q W)(p s:Nat):∀ i,Q (mo m can W p s i)
 |0=>hW
 |i+1=>by
  rw[mo];split
  ·exact h _ _ _ _ _ (Pu h W hW p s i)
  ·exact Pu h W hW p s i
def Pv{Q:WS->Prop}(h:∀ W p s o amt,Q W->Q (ry m W p s o amt))(W:WS)(hW:Q W)(p s:Nat):∀ i,Q (j3 m can W p s i)
 |0=>hW
 |i+1=>by
  rw[j3];split
  ·exact h _ _ _ _ _ (Pv h W hW p s i)
  ·exact Pv h W hW p s i
def amW{Q:WS->Prop}(h:∀ W p s o amt,Q W->Q (ry m W p s o amt))(W:WS)(hW:Q W)(p s:Nat):Q (Cu m can W p s):=Pv h _ (Pu h W hW p s _) p s _
def adP{α β:Type}{Q:α->Prop}{f:α->β->α}(h:∀ a b,Q a->Q (f a b)):∀ (l:List β) (a:α),Q a->Q (l.foldl f a)
 |[],a,ha=>ha
 |b::l,a,ha=>adP h l _ (h a b ha)
def adQ{Q:WS->Prop}(h:∀ W p s o amt,Q W->Q (ry m W p s o amt))(c6:List (List Int)):∀ (f:Nat) (st:WS×List Bool) (c:Nat),Q st.1->Q (jz m can c6 f st c).1
 |0,st,c,hs=>hs
 |f+1,st,c,hs=>by
  have hk:∀ (st:WS×List Bool) (p s:Nat),Q st.1->Q (Cv m can (jz m can c6 f) st p s).1:=λst p s hs=>by
   unfold Cv;split
   ·exact hs
   ·exact amW h _ (adQ h c6 f _ _ hs) p s
  rw[jz];exact adP (Q:=λa:WS×List Bool=>Q a.1) (λa b ha=>hk _ _ _ (hk _ _ _ ha)) _ _ hs
def Px{Q:WS->Prop}(h:∀ W p s o amt,Q W->Q (ry m W p s o amt))(c6:List (List Int))(st:WS×List Bool)(hs:Q st.1):∀ c,Q (nw m can c6 st c).1
 |0=>hs
 |c+1=>by
  rw[nw];split
  ·exact Px h c6 st hs c
  ·exact adQ h c6 _ _ _ (Px h c6 st hs c)
def amX{Q:WS->Prop}(h:∀ W p s o amt,Q W->Q (ry m W p s o amt))(W:WS)(hW:Q W)(r:Nat):Q (rq m can W r):=Px h _ _ hW _
def amu(W:WS)(hW:KN W)(r:Nat):KN (rq m can W r):=amX (λW p s o amt h=>amU h) W hW r
end
def vo(l:List Mv):List Mv:=Cs (Go.Proofs.ltOf vq) l []
def amY:∀ {am:List (List Int×Int)},(am.map (·.1)).Nodup->(∀ q∈am,∃ p s o:Int,q.1=[p,s,o])->∀ {x y:Mv},x∈kJ am->y∈kJ am->x.pair=y.pair->x.side=y.side->x.opt=y.opt->x=y:=by
 intro am hn hk x y hx hy h1 h2 h3;unfold kJ at hx hy;obtain⟨q,hq,rfl⟩:=bY.1 hx;obtain⟨r,hr,rfl⟩:=bY.1 hy;have hq:=(AR.1 hq).1;have hr:=(AR.1 hr).1;obtain⟨a,b,c,e1⟩:=hk q hq;obtain⟨a',b',c',e2⟩:=hk r hr;unfold Co at h1 h2 h3;rw[e1,e2]at h1 h2 h3;change a=a' at h1;change b=b' at h2;change c=c' at h3;have e3:q.1=r.1:=by rw[e1,e2,h1,h2,h3]
 have e4:q=r:=by
  obtain⟨i,hi,rfl⟩:=kr hq;obtain⟨j,hj,rfl⟩:=kr hr;have:=(List.getElem_inj (h₀:=by simpa using hi) (h₁:=by simpa using hj) hn).1 (by rw[EF,EF];exact e3);subst this;rfl
 rw[e4]
def adR:∀ {am:List (List Int×Int)},(am.map (·.1)).Nodup->(∀ q∈am,∃ p s o:Int,q.1=[p,s,o])->(kJ am).Nodup
 |[],_,_=>List.nodup_nil
 |q::r,hn,hk=>by
  rw[ez,nC]at hn;have ih:=adR hn.2 (λx hx=>hk x (dZ _ hx));unfold kJ at ih ⊢;rw[List.filter_cons];split
  ·rw[ez,nC];refine⟨λhm=>?_,ih⟩;obtain⟨t,ht,e⟩:=bY.1 hm;have ht:=(AR.1 ht).1;obtain⟨a,b,c,e1⟩:=hk q G9;obtain⟨a',b',c',e2⟩:=hk t (by simp[ht]);unfold Co at e;rw[e1,e2,Mv.mk.injEq]at e;have e:=(show a'=a/\b'=b/\c'=c/\t.2=q.2 from e);exact hn.1 (bY.2 ⟨t,ht,by rw[e1,e2,e.1,e.2.1,e.2.2.1]⟩)
  ·exact ih
def amb{am:List (List Int×Int)}(hn:(am.map (·.1)).Nodup)(hk:∀ q∈am,∃ p s o:Int,q.1=[p,s,o]){Y:List Mv}(hY:Y.Perm (kJ am))(hs:Y.Pairwise λa b=>Go.Proofs.ltOf vq b a=false):Y=vo (kJ am):=by
 have bG:=adR hn hk;have ho:J5 (Go.Proofs.ltOf vq) (·∈kJ am):={
  tr:=λa b c _ _ _=>by rw[sR,sR,sR];omega
  lK:=λa b ha hb gN=>by
   rw[sR,sR];refine Classical.byContradiction λh=>gN (amY hn hk ha hb ?_ ?_ ?_)<;>omega
  ir:=λa b _ _=>by rw[<- Bool.not_eq_true,sR,sR];omega }
 have hYn:Y.Nodup:=hY.nodup_iff.2 bG;refine adM ho _ _ ?_ (adL ho _ [] .nil G9 (λx hx=>hx) (by simpa using bG)) (λx hx=>hY.mem_iff.1 hx) λx=>(hY.mem_iff).trans (by unfold vo;exact((Pg _ (kJ am) []).mem_iff).symm);refine(hs.and hYn).imp_of_mem λ{a b} ha hb h=>?_;rcases ho.lK a b (hY.mem_iff.1 ha) (hY.mem_iff.1 hb) h.2 with h1|h1
 ·exact h1
 ·rw[h.1]at h1;cases h1
section
variable (m:ah) (left:List (List Bool))
def AA:Nat->Nat->List Mv->WS->List Mv
 |0,_,X,_=>X
 |n+1,k,X,V =>
  if(cp m left X).1=1099511627776 then X
  else if(cp m left (vo (kJ (rq m (er m left m.cls.length) V k).am))).2≠0\/((cp m left (vo (kJ (rq m (er m left m.cls.length) V k).am))).1<=(cp m left X).1/\0<k) then X
  else AA n (k+1) (if(cp m left X).1<(cp m left (vo (kJ (rq m (er m left m.cls.length) V k).am))).1 then vo (kJ (rq m (er m left m.cls.length) V k).am) else X) (rq m (er m left m.cls.length) V k)
def jJ(rounds:Int):List Mv:=AA m left rounds.toNat 0 [] (W0 m)
end
section
variable {m:ah} {left:List (List Bool)}
def Py:∀ (n k:Nat) (X:List Mv) (V:WS),(cp m left X).2=0->(cp m left (AA m left n k X V)).2=0/\(cp m left X).1<=(cp m left (AA m left n k X V)).1
 |0,k,X,V,h=>⟨h,nD _⟩
 |n+1,k,X,V,h=>by
  rw[AA];split
  ·exact⟨h,nD _⟩
  ·split
   ·exact⟨h,nD _⟩
   ·rename_i h1 h2;rw[not_or,Classical.not_not]at h2;by_cases h3:(cp m left X).1<(cp m left (vo (kJ (rq m (er m left m.cls.length) V k).am))).1
    ·rw[if_pos h3];have:=Py n (k+1) _ (rq m (er m left m.cls.length) V k) h2.1;exact⟨this.1,Ey⟩
    ·rw[if_neg h3];exact Py n (k+1) _ _ h
def ac7(rounds:Int)(h:(cp m left []).2=0):(cp m left (jJ m left rounds)).2=0/\(cp m left []).1<=(cp m left (jJ m left rounds)).1:=Py _ _ _ _ h
end
end T

