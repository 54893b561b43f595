import Derived.Test.YtfoopmojjjpapaaGreatX28
set_option linter.all false
set_option maxHeartbeats 0
set_option maxRecDepth 20000
open Nat renaming lt_or_ge→dE,strongRecOn→Is,le_refl→bb
open List renaming getD_eq_getElem?_getD→aB,getElem?_eq_none→gj,mem_map→b8,getElem?_set→bY,replicate→aJ,mem_cons→bj,range→bn,getElem?_map→b9,getElem?_eq_getElem→bT,mem_range→oV,perm_middle→xL,getElem_of_mem→qX,nodup_cons→nr,mem_append→cC,map_cons→fV,mem_cons_of_mem→dI,mem_filter→yV,getElem_map→Cv
open Int renaming toNat_natCast→ep,le_refl→nt
open Bool renaming and_eq_true→aZ,true_and→iu
open Go Go.Am
namespace T
def nK(m:ah)(left:List (List Bool))(rounds:Int):Int:=if kn m left≠0 then kn m left else if rounds<0\/64<rounds then 3 else 0
def GR(m:ah)(left:List (List Bool)):bQ m left []=if kn m left≠0 then(0,kn m left) else(lq m left (S0 m,T0 m),0):=by
 unfold bQ iO;split
 ·rfl
 ·rw[if_neg Iy,if_neg Iy];rfl
def alp(m:ah)(left:List (List Bool)):WS:=pL m (dR m left m.cls.length) (W0 m) 0
structure MvP(m:ah)(left:List (List Bool))(rounds:Int)(X:List Mv):Prop where
 ok:(bQ m left X).2=0
 ge:(bQ m left []).1<=(bQ m left X).1
 fir:1<=rounds->(bQ m left []).1≠1099511627776->∃ Y:List Mv,Y.Perm (ke (alp m left).am)/\((bQ m left Y).2=0->(bQ m left Y).1<=(bQ m left X).1)
def alh{m:ah}:mF m (W0 m):=by
 refine⟨by simp[W0],by simp[W0],λi hi=>?_,λj hj=>?_,λq hq=>by cases hq⟩
 ·unfold W0;dsimp only;rw[iX _ _ _ hi];simp[bV,cF]
 ·unfold W0;dsimp only;rw[iX _ _ _ hj];rfl
def ali{m:ah}(hm:VM m):WB 1099511627776 (W0 m):=by
 have key:∀ (l:List (List Int)),(∀ r∈l,∀ x∈r,-1099511627776<=x/\x<=1099511627776)->∀ a b,-1099511627776<=(l.getD a default).getD b 0/\(l.getD a default).getD b 0<=1099511627776:=λl hl a b=>by
  rcases dE a l.length with h1|h1
  ·have h2:=hl _ (aG (l:=l) (i:=a) (d:=default) h1);rcases dE b (l.getD a default).length with h3|h3
   ·exact h2 _ (aG h3)
   ·rw[aB,gj h3];decide
  ·have e:l.getD a default=default:=by rw[aB,gj h1];rfl
   rw[e];show -1099511627776<=(0:Int)/\(0:Int)<=1099511627776;decide
 refine⟨λc o=>?_,λp j=>?_,λk=>by show -268435456<=(0:Int)/\(0:Int)<=268435456;decide,by show 12884901888*((0:Nat):Int)<=1099511627776;decide⟩
 ·refine key (m.cls.map bV) (λr hr x hx=>?_) c o;obtain⟨l,hl,rfl⟩:=b8.1 hr;obtain⟨o,ho,rfl⟩:=b8.1 hx;have:=Dv (hm.rz l hl o ho);unfold bM at this;omega
 ·refine key (m.ae.map (·.ax)) (λr hr x hx=>?_) p j;obtain⟨q,hq,rfl⟩:=b8.1 hr;have:=GN (jP hm.pr q hq) x hx;unfold bM at this;omega
def EM{α:Type}(l:List α)(i j:Nat)(v d:α)(h:i<l.length):(l.set i v).getD j d=if j=i then v else l.getD j d:=by
 simp only[aB,bY];by_cases wm:j=i
 ·subst wm;simp[h]
 ·simp[wm,Ne.symm wm]
def mH{α:Type}(l:List α)(i j:Nat)(v d:α)(h:j≠i):(l.set i v).getD j d=l.getD j d:=by
 simp only[aB,bY];simp[Ne.symm h]
def wq{α:Type}(l:List α)(i:Nat)(v d:α)(h:i<l.length):(l.set i v).getD i d=v:=by
 rw[EM _ _ _ _ _ h];simp
def abV{α:Type}(n j:Nat)(v:α):(aJ n v).getD j v=v:=by
 simp only[aB,List.getElem?_replicate];split<;>rfl
structure AF(left:List (List Int))(R:Nat)(owner number:List Int):Prop where
 hO:w8 left.length R owner
 hN:number.length=left.length
 qv:∀ j,j<left.length->-1<=number.getD j 0
 fwd:∀ j,j<left.length->0<=number.getD j 0->number.getD j 0<R/\owner.getD (number.getD j 0).toNat 0=j/\number.getD j 0∈left.getD j []
 bwd:∀ x,x<R->0<=owner.getD x 0->number.getD (owner.getD x 0).toNat 0=x
structure MEx(left:List (List Int))(R:Nat)(xs:List Int)(i:Nat)(seen:List Bool)(owner number wu tJ:List Int):Prop where
 hO:w8 left.length R wu
 hN:tJ.length=left.length
 qv:∀ j,j<left.length->-1<=tJ.getD j 0
 fwd:∀ j,j<left.length->j≠i->0<=tJ.getD j 0->tJ.getD j 0<R/\wu.getD (tJ.getD j 0).toNat 0=j/\tJ.getD j 0∈left.getD j []
 bwd:∀ x,x<R->0<=wu.getD x 0->wu.getD x 0≠i->tJ.getD (wu.getD x 0).toNat 0=x
 me :∃y,y<R/\tJ.getD i 0=(y:Nat)/\wu.getD y 0=i/\(y:Int)∈xs/\seen.getD y false=false/\∀ x,x<R->wu.getD x 0=i->x=y\/seen.getD x false=true
 dV:∀ x,x<R->seen.getD x false=true->wu.getD x 0=owner.getD x 0
 same:∀ j,j<left.length->j≠i->(number.getD j 0<0\/∃ x,x<R/\number.getD j 0=(x:Nat)/\seen.getD x false=true)->tJ.getD j 0=number.getD j 0
 pos:∀ j,j<left.length->j≠i->(0<=tJ.getD j 0↔0<=number.getD j 0)
structure alr(left:List (List Int))(R:Nat)(xs:List Int)(seen:List Bool)(owner number:List Int)(Nt:List Bool)(wu tJ:List Int):Prop where
 eo:wu=owner
 en:tJ=number
 all:∀ x∈xs,Nt.getD x.toNat false=true
 cl:∀ x,x<R->Nt.getD x false=true->seen.getD x false=true\/(0<=owner.getD x 0/\∀ y∈left.getD (owner.getD x 0).toNat [],Nt.getD y.toNat false=true)
def als{left:List (List Int)}{R:Nat}(hL:zO R left):∀ (f:Nat) (xs:List Int) (i:Nat) (seen:List Bool) (owner number:List Int),yp seen<=f->seen.length=R->(∀ x∈xs,0<=x/\x<R)->i<left.length->AF left R owner number ->
  (∀ x,x<R->owner.getD x 0=i->seen.getD x false=true)->∀ q,rB left f xs i seen owner number=q ->
   (q.1=true->MEx left R xs i seen owner number q.2.2.1 q.2.2.2)/\(q.1=false->alr left R xs seen owner number q.2.1 q.2.2.1 q.2.2.2)/\(∀ x,seen.getD x false=true->q.2.1.getD x false=true)/\q.2.1.length=R/\yp q.2.1<=yp seen:=by
 intro f
 induction f using Is with
 |_ f Nu =>
  intro xs
  induction xs with
  |nil =>
   intro i seen owner number hc hs hx hi hM h3 q hq;rw[rB.eq_def]at hq;subst hq;exact⟨Iy,λ_=>⟨rfl,rfl,Iy,λx _ h=>.inl h⟩,λ_ h=>h,hs,bb _⟩
  |cons x r ih =>
   intro i seen owner number hc hs hx hi hM h3 q hq;obtain⟨hx0,hxR⟩:=hx x Iy;have hr:∀ x∈r,0<=x/\x<R:=λy hy=>hx y (by simp[hy]);obtain⟨n,rfl⟩:∃n:Nat,x=n:=⟨x.toNat,Ix⟩;rw[rB.eq_def]at hq;simp only[ep]at hq;have yU:n<R:=Ix;have qf:n<owner.length:=by rw[hM.hO.1];exact yU
   have eP:i<number.length:=by rw[hM.hN];exact hi
   by_cases eO:seen.getD n false=true
   ·rw[if_pos eO]at hq;obtain⟨a,b,c,d,e⟩:=ih i seen owner number hc hs hr hi hM h3 q hq;refine⟨λh=>?_,λh=>?_,c,d,e⟩
    ·obtain⟨y,y1,y2,y3,y4,y5,y6⟩:=(a h).me;exact { a h with me:=⟨y,y1,y2,y3,by simp[y4],y5,y6⟩ }
    ·refine { b h with all:=λy hy=>?_ };rcases bj.1 hy with rfl|hy
     ·simpa using c n eO
     ·exact(b h).all y hy
   ·have Nv:seen.getD n false=false:=by simpa using eO
    rw[if_neg eO]at hq;have iI:=aft seen n Ix Nv;have hog:=hM.hO.get yU;have wv:∀ x,seen.getD x false=true->(seen.set n true).getD x false=true:=λx hx=>by
     rw[EM _ _ _ _ _ Ix];split<;>simp_all
    by_cases nX:owner.getD n 0<0
    ·rw[if_pos nX]at hq;subst hq;refine⟨λ_=>?_,Iy,wv,by simpa using hs,NQ⟩;dsimp only;refine⟨hM.hO.set hi,by simpa using hM.hN,?_,?_,?_,⟨n,yU,wq _ _ _ _ eP,wq _ _ _ _ qf,Iy,Nv,?_⟩,?_,?_,?_⟩
     ·intro j hj;rw[EM _ _ _ _ _ eP];split
      ·omega
      ·exact hM.qv j hj
     ·intro j hj hZ h0;rw[mH _ _ _ _ _ hZ]at h0 ⊢;obtain⟨a,b,c⟩:=hM.fwd j hj h0;refine⟨a,?_,c⟩;rw[mH]
      ·exact b
      ·intro e;rw[e]at b;omega
     ·intro y hy h0 cA;by_cases xD:y=n
      ·subst xD;rw[wq _ _ _ _ qf]at cA;exact absurd rfl cA
      ·rw[mH _ _ _ _ _ xD]at h0 cA ⊢;rw[mH]
       ·exact hM.bwd y hy h0
       ·omega
     ·intro y hy he;by_cases xD:y=n
      ·exact .inl xD
      ·rw[mH _ _ _ _ _ xD]at he;exact .inr (h3 y hy he)
     ·intro y hy Im;rw[mH];intro e;subst e;simp_all
     ·intro j hj hZ _;exact mH _ _ _ _ _ hZ
     ·intro j hj hZ;rw[mH _ _ _ _ _ hZ]
    ·rw[if_neg nX]at hq;obtain⟨f',rfl⟩:∃f',f=f'+1:=⟨f-1,Ix⟩;simp only at hq;obtain⟨o,ho⟩:∃o:Nat,owner.getD n 0=o:=⟨(owner.getD n 0).toNat,Ix⟩;rw[ho]at hq;simp only[ep]at hq;have mV:o<left.length:=Ix;have Nw:number.getD o 0=n:=by
      have:=hM.bwd n yU Ix;rwa [ho,ep]at this
     have oM:o≠i:=by
      intro e;subst e;have:=h3 n yU ho;simp_all
     have M0:∀ x,x<R->owner.getD x 0=o->(seen.set n true).getD x false=true:=by
      intro y hy he;have:=hM.bwd y hy Ix;rw[he,ep,Nw]at this;have:y=n:=Ix;subst this;exact wq _ _ _ _ Ix
     have hp:=Nu f' Ix (left.getD o []) o (seen.set n true) owner number Ix (by simpa using hs) (hL.get _).2 mV hM M0 _ rfl;generalize rB left f' (left.getD o []) o (seen.set n true) owner number=p at hp hq;obtain⟨p1,p2,p3,p4,p5⟩:=hp;by_cases oO:p.1=true
     ·rw[if_pos oO]at hq;subst hq;have hE:=p1 oO;obtain⟨pb,ps,po,pn⟩:=p;dsimp only at hE p3 p4 p5 ⊢;obtain⟨y,y1,y2,y3,y4,y5,y6⟩:=hE.me;have hpo:n<po.length:=by rw[hE.hO.1];exact yU
      have EO:i<pn.length:=by rw[hE.hN];exact hi
      have Ci:po.getD n 0=o:=by rw[hE.dV n yU (wq _ _ _ _ Ix),ho]
      have xD:y≠n:=by
       intro e;subst e;rw[wq _ _ _ _ Ix]at y5;simp at y5
      have alu:pn.getD i 0=number.getD i 0:=by
       refine hE.same i hi (Ne.symm oM) ?_;by_cases h0:number.getD i 0<0
       ·exact .inl h0
       ·right;obtain⟨a,b,c⟩:=hM.fwd i hi Ix;exact⟨(number.getD i 0).toNat,Ix,Ix,wv _ (h3 _ Ix b)⟩
      refine⟨λ_=>⟨hE.hO.set hi,by simpa using hE.hN,?_,?_,?_,⟨n,yU,wq _ _ _ _ EO,wq _ _ _ _ hpo,Iy,Nv,?_⟩,?_,?_,?_⟩,Iy,λx h=>p3 x (wv x h),p4,Ix⟩
      ·intro j hj;rw[EM _ _ _ _ _ EO];split
       ·omega
       ·exact hE.qv j hj
      ·intro j hj hZ h0;rw[mH _ _ _ _ _ hZ]at h0 ⊢;by_cases AG:j=o
       ·subst AG;rw[y2];refine⟨Ix,?_,y4⟩;rw[ep,mH _ _ _ _ _ xD];exact y3
       ·obtain⟨a,b,c⟩:=hE.fwd j hj AG h0;refine⟨a,?_,c⟩;rw[mH]
        ·exact b
        ·intro e;rw[e,Ci]at b;omega
      ·intro z hz h0 cA;by_cases AH:z=n
       ·subst AH;rw[wq _ _ _ _ hpo]at cA;exact absurd rfl cA
       ·rw[mH _ _ _ _ _ AH]at h0 cA ⊢;rw[mH _ _ _ _ _ Ix];by_cases Io:po.getD z 0=o
        ·rcases y6 z hz Io with rfl|aN
         ·rw[Io,ep,y2]
         ·have:=hE.dV z hz aN;rw[Io]at this;have hb:=hM.bwd z hz Ix;rw[<- this,ep,Nw]at hb;omega
        ·exact hE.bwd z hz h0 Io
      ·intro z hz he;by_cases AH:z=n
       ·exact .inl AH
       ·right;rw[mH _ _ _ _ _ AH]at he;have hb:=hE.bwd z hz Ix Ix;rw[he,ep,alu]at hb;obtain⟨a,b,c⟩:=hM.fwd i hi Ix;rw[hb,ep]at b;exact h3 z hz b
      ·intro z hz aN;have AH:z≠n:=by intro e;subst e;simp_all
       rw[mH _ _ _ _ _ AH];exact hE.dV z hz (wv z aN)
      ·intro j hj hZ xE;rw[mH _ _ _ _ _ hZ];have AG:j≠o:=by
        intro e;subst e;rcases xE with h|⟨z,hz,wT,zZ⟩
        ·omega
        ·have:z=n:=Ix;subst this;simp_all
       refine hE.same j hj AG ?_;rcases xE with h|⟨z,hz,wT,zZ⟩
       ·exact .inl h
       ·exact .inr ⟨z,hz,wT,wv z zZ⟩
      ·intro j hj hZ;rw[mH _ _ _ _ _ hZ];by_cases AG:j=o
       ·subst AG;rw[y2,Nw];omega
       ·exact hE.pos j hj AG
     ·rw[if_neg oO]at hq;have hF:=p2 (by simpa using oO);obtain⟨pb,ps,po,pn⟩:=p;dsimp only at hF p3 p4 p5 hq;obtain⟨rfl,rfl,B6,Ej⟩:=hF;obtain⟨a,b,c,d,e⟩:=ih i ps po pn Ix p4 hr hi hM (λx hx h=>p3 x (wv x (h3 x hx h))) q hq;refine⟨λh=>?_,λh=>?_,λx h=>c x (p3 x (wv x h)),d,Ix⟩
      ·have hE:=a h;obtain⟨y,y1,y2,y3,y4,y5,y6⟩:=hE.me;refine⟨hE.hO,hE.hN,hE.qv,hE.fwd,hE.bwd,⟨y,y1,y2,y3,by simp[y4],?_,?_⟩,λz hz h=>hE.dV z hz (p3 z (wv z h)),?_,hE.pos⟩
       ·cases Im:seen.getD y false with
        |false=>rfl
        |true=>rw[p3 y (wv y Im)]at y5;simp at y5
       ·intro z hz he;rcases y6 z hz he with h|h
        ·exact .inl h
        ·right;have hk:=hE.dV z hz h;rw[he]at hk;exact h3 z hz hk.symm
       ·intro j hj hZ xE;refine hE.same j hj hZ ?_;rcases xE with h|⟨z,hz,wT,zZ⟩
        ·exact .inl h
        ·exact .inr ⟨z,hz,wT,p3 z (wv z zZ)⟩
      ·have hG:=b h;refine⟨hG.eo,hG.en,λy hy=>?_,λy hy Im=>?_⟩
       ·rcases bj.1 hy with rfl|hy
        ·rw[ep];exact c n (p3 n (wq _ _ _ _ Ix))
        ·exact hG.all y hy
       ·rcases hG.cl y hy Im with h'|h'
        ·rcases Ej y hy h' with uB|uB
         ·rw[EM _ _ _ _ _ Ix]at uB;split at uB
          ·rename_i xD;subst xD;right;refine⟨Ix,?_⟩;rw[ho,ep];intro z hz;exact c _ (B6 z hz)
          ·exact .inl uB
         ·exact .inr ⟨uB.1,λz hz=>c _ (uB.2 z hz)⟩
        ·exact .inr h'
def Ip(left:List (List Int))(R:Nat)(D:Nat->Prop)(owner:List Int):Prop:=∀ x,x<R->D x->0<=owner.getD x 0/\∀ y∈left.getD (owner.getD x 0).toNat [],D y.toNat
def alv{left:List (List Int)}{R:Nat}(hL:zO R left){D:Nat->Prop}:∀ (f:Nat) (xs:List Int) (i:Nat) (seen:List Bool) (owner number:List Int),(∀ x∈xs,0<=x/\x<R)->Ip left R D owner ->
  ((∀ x∈xs,D x.toNat)->(rB left f xs i seen owner number).1=false)/\∀ x,x<R->D x->(rB left f xs i seen owner number).2.2.1.getD x 0=owner.getD x 0:=by
 intro f
 induction f using Is with
 |_ f Nu =>
  intro xs
  induction xs with
  |nil=>intro i seen owner number _ hC;rw[rB.eq_def];exact⟨λ_=>rfl,λ_ _ _=>rfl⟩
  |cons x r ih =>
   intro i seen owner number hx hC;have hr:∀ x∈r,0<=x/\x<R:=λy hy=>hx y (by simp[hy]);have hx1:=hx x Iy;rw[rB.eq_def];simp only;split
   ·obtain⟨a,b⟩:=ih i seen owner number hr hC;exact⟨λh=>a λy hy=>h y (by simp[hy]),b⟩
   ·split
    ·rename_i h1 h2;refine⟨λh=>?_,λy hy hD=>?_⟩
     ·have:=(hC x.toNat Ix (h x Iy)).1;omega
     ·rw[mH];intro e;subst e;have:=(hC _ hy hD).1;omega
    ·cases f with
     |zero=>exact⟨λ_=>rfl,λ_ _ _=>rfl⟩
     |succ f' =>
      obtain⟨a,b⟩:=Nu f' Ix (left.getD (owner.getD x.toNat 0).toNat []) (owner.getD x.toNat 0).toNat (seen.set x.toNat true) owner number (hL.get _).2 hC;simp only;generalize rB left f' (left.getD (owner.getD x.toNat 0).toNat []) (owner.getD x.toNat 0).toNat (seen.set x.toNat true) owner number=p at a b ⊢;have hC':Ip left R D p.2.2.1:=by
       intro y hy hD;rw[b y hy hD];exact hC y hy hD
      split
      ·rename_i hp;refine⟨λh=>?_,λy hy hD=>?_⟩
       ·have:=a (hC x.toNat Ix (h x Iy)).2;simp_all
       ·dsimp only;rw[mH]
        ·exact b y hy hD
        ·intro e;subst e;have:=a (hC _ hy hD).2;simp_all
      ·obtain⟨c,d⟩:=ih i p.2.1 p.2.2.1 p.2.2.2 hr hC';exact⟨λh=>c λy hy=>h y (by simp[hy]),λy hy hD=>(d y hy hD).trans (b y hy hD)⟩
def cn(n:Nat)(p:Nat->Bool):Nat:=(bn n).countP p
def alx(p:Nat->Bool):cn 0 p=0:=rfl
def wx(n:Nat)(p:Nat->Bool):cn (n+1) p=cn n p+(if p n=true then 1 else 0):=by
 simp only[cn,List.range_succ,List.countP_append,List.countP_cons,List.countP_nil,Nat.zero_add]
def abX{n:Nat}{p q:Nat->Bool}(h:∀ i,i<n->p i=q i):cn n p=cn n q:=by
 induction n with
 |zero=>rfl
 |succ n ih=>rw[wx,wx,ih λi hi=>h i Ix,h n Ix]
def aly{n:Nat}{p q:Nat->Bool}(h:∀ i,i<n->p i=true->q i=true):cn n p<=cn n q:=by
 induction n with
 |zero=>exact bb _
 |succ n ih =>
  rw[wx,wx];have:=ih λi hi=>h i Ix;have:=h n Ix;split<;>split<;>simp_all<;>omega
def alz(n:Nat)(p q:Nat->Bool):cn n p=cn n (λi=>p i&&q i)+cn n (λi=>p i&&!q i):=by
 induction n with
 |zero=>rfl
 |succ n ih =>
  rw[wx,wx,wx,ih];cases p n<;>cases q n<;>simp<;>omega
def abY{n:Nat}{p q:Nat->Bool}(k:Nat)(hk:k<n)(h:∀ i,i<n->i≠k->p i=q i)(hp:p k=true)(hq:q k=false):cn n p=cn n q+1:=by
 induction n with
 |zero=>omega
 |succ n ih =>
  rw[wx,wx];by_cases AE:k=n
  ·subst AE;rw[abX (p:=p) (q:=q) λi hi=>h i Ix Ix,hp,hq];rfl
  ·rw[ih Ix λi hi=>h i Ix,h n Ix (Ne.symm AE)];omega
def abZ{n m:Nat}{p q:Nat->Bool}(f:Nat->Nat)(h1:∀ i,i<n->p i=true->f i<m/\q (f i)=true)(h2:∀ i j,i<n->j<n->p i=true->p j=true->f i=f j->i=j):cn n p<=cn m q:=by
 induction n generalizing q with
 |zero=>simp[alx]
 |succ n ih =>
  rw[wx];split
  ·rename_i hp;obtain⟨a,b⟩:=h1 n Ix hp;have e:=abY (n:=m) (p:=q) (q:=λx=>q x&&!decide (x=f n)) (f n) a (λi _ hi=>by simp[hi]) b Iy;have:=ih (q:=λx=>q x&&!decide (x=f n)) (λi hi EO=>by
    obtain⟨c,d⟩:=h1 i Ix EO;refine⟨c,?_⟩;have:f i≠f n:=λe=>by have:=h2 i n Ix Ix EO hp e;omega
    simp[d,this]) (λi j hi hj=>h2 i j Ix Ix)
   omega
  ·exact ih (λi hi=>h1 i Ix) (λi j hi hj=>h2 i j Ix Ix)
def on(number:List Int)(i:Nat):Bool:=decide (0<=number.getD i 0)
structure Inv(left:List (List Int))(R:Nat)(w:Int)(i:Nat)(owner number:List Int)(D:Nat->Prop):Prop where
 ok:AF left R owner number
 rest:∀ j,j<left.length->(i<=j\/(j:Int)=w)->number.getD j 0 = -1
 cl:Ip left R D owner
 dead:∀ j,j<i->j<left.length->(j:Int)≠w->number.getD j 0<0->∀ y∈left.getD j [],D y.toNat
def Inv.step{left:List (List Int)}{R:Nat}(hL:zO R left){w:Int}{i:Nat}{owner number:List Int}{D:Nat->Prop}(h:Inv left R w i owner number D)(hi:i<left.length)(hw:(i:Int)≠w):
  ∀ q,rB left R (left.getD i []) i (aJ R false) owner number=q->(∃ D',Inv left R w (i+1) q.2.2.1 q.2.2.2 D')/\cn left.length (on q.2.2.2)=cn left.length (on number)+(if q.1=true then 1 else 0):=by
 intro q hq;have vj:=h.rest i hi (.inl (bb _));have h3:∀ x,x<R->owner.getD x 0=i->(aJ R false).getD x false=true:=by
  intro x hx he;have:=h.ok.bwd x hx Ix;rw[he,ep,vj]at this;omega
 obtain⟨a,b,c,d,e⟩:=als hL R (left.getD i []) i (aJ R false) owner number (by rw[afu];exact bb _) Iy (hL.get _).2 hi h.ok h3 q hq;obtain⟨_,g⟩:=alv hL (D:=D) R (left.getD i []) i (aJ R false) owner number (hL.get _).2 h.cl;rw[hq]at g;have bG:Ip left R D q.2.2.1:=by
  intro y hy hD;rw[g y hy hD];exact h.cl y hy hD
 cases hb:q.1 with
 |true =>
  have hE:=a hb;obtain⟨y,y1,y2,y3,y4,y5,y6⟩:=hE.me;refine⟨⟨D,⟨hE.hO,hE.hN,hE.qv,?_,?_⟩,?_,bG,?_⟩,?_⟩
  ·intro j hj h0;by_cases hZ:j=i
   ·subst hZ;rw[y2,ep];exact⟨Ix,y3,y4⟩
   ·exact hE.fwd j hj hZ h0
  ·intro x hx h0;by_cases Nx:q.2.2.1.getD x 0=i
   ·rcases y6 x hx Nx with rfl|h'
    ·rw[Nx,ep,y2]
    ·rw[abV]at h';simp at h'
   ·exact hE.bwd x hx h0 Nx
  ·intro j hj xE;have hZ:j≠i:=by rcases xE with h|h<;>omega
   have hr:=h.rest j hj (by rcases xE with h|h<;>omega);have:=hE.pos j hj hZ;have:=hE.qv j hj;omega
  ·intro j hj gA Ny h0 z hz;have hZ:j≠i:=by intro e;subst e;omega
   have:=hE.pos j gA hZ;exact h.dead j Ix gA Ny Ix z hz
  ·rw[if_pos rfl];refine abY i hi (λj hj hZ=>?_) ?_ ?_
   ·have:=hE.pos j hj hZ;simp only[on,this]
   ·rw[on,y2];exact decide_eq_true Ix
   ·simp only[on,vj];rfl
 |false =>
  have hF:=b hb;rw[hF.eo,hF.en];refine⟨⟨λx=>D x\/q.2.1.getD x false=true,h.ok,λj hj xE=>h.rest j hj (by rcases xE with h|h<;>omega),?_,?_⟩,Iy⟩
  ·intro x hx hD;rcases hD with hD|hD
   ·obtain⟨k,l⟩:=h.cl x hx hD;exact⟨k,λy hy=>.inl (l y hy)⟩
   ·rcases hF.cl x hx hD with h'|⟨k,l⟩
    ·rw[abV]at h';simp at h'
    ·exact⟨k,λy hy=>.inr (l y hy)⟩
  ·intro j hj gA Ny h0 z hz;by_cases hZ:j=i
   ·subst hZ;exact .inr (hF.all z hz)
   ·exact .inl (h.dead j Ix gA Ny h0 z hz)
def alA{left:List (List Int)}{R:Nat}{owner number:List Int}(h:AF left R owner number){T D:Nat->Bool}(hT:∀ i,i<left.length->T i=true->∀ y∈left.getD i [],D y.toNat=true):
  cn left.length (λi=>T i&&on number i)<=cn R (λx=>D x&&decide (0<=owner.getD x 0)&&T (owner.getD x 0).toNat):=by
 refine abZ (λi=>(number.getD i 0).toNat) (λi hi hp=>?_) (λi j hi hj hp hq he=>?_)
 ·simp only[aZ,on,decide_eq_true_eq]at hp;obtain⟨a,b,c⟩:=h.fwd i hi hp.2;refine⟨Ix,?_⟩;simp only[b,ep,hp.1,hT i hi hp.1 _ c,iu,Bool.and_true,decide_eq_true_eq];omega
 ·simp only[aZ,on,decide_eq_true_eq]at hp hq;obtain⟨a,b,c⟩:=h.fwd i hi hp.2;obtain⟨a',b',c'⟩:=h.fwd j hj hq.2;try dsimp only at he
  rw[he]at b;omega
def alB{left:List (List Int)}{R:Nat}{owner number:List Int}(h:AF left R owner number){T D:Nat->Bool}(hD:∀ x,x<R->D x=true->0<=owner.getD x 0/\T (owner.getD x 0).toNat=true):
  cn R D<=cn left.length (λi=>T i&&on number i):=by
 refine abZ (λx=>(owner.getD x 0).toNat) (λx hx hp=>?_) (λx y hx hy hp hq he=>?_)
 ·obtain⟨a,b⟩:=hD x hx hp;have hg:=h.hO.get hx;refine⟨Ix,?_⟩;simp only[b,iu,on,decide_eq_true_eq];rw[h.bwd x hx a];omega
 ·obtain⟨a,b⟩:=hD x hx hp;obtain⟨a',b'⟩:=hD y hy hq;have e1:=h.bwd x hx a;have e2:=h.bwd y hy a';try dsimp only at he
  rw[he]at e1;omega
structure Reach(left:List (List Int))(R:Nat)(owner number:List Int)(used oU:List Bool):Prop where
 lu:used.length=R
 li:oU.length=left.length
 g1:∀ i,i<left.length->on number i=false->oU.getD i false=true
 g2:∀ i,i<left.length->oU.getD i false=true->∀ x∈left.getD i [],used.getD x.toNat false=true
 g3:∀ x,used.getD x false=true->0<=owner.getD x 0->oU.getD (owner.getD x 0).toNat false=true
 g4:∀ (T E:Nat->Prop),(∀ x,E x->0<=owner.getD x 0->T (owner.getD x 0).toNat)->(∀ i,T i->∀ x∈left.getD i [],E x.toNat)->(∀ i,i<left.length->on number i=false->T i)->(∀ i,oU.getD i false=true->T i)/\∀ x,used.getD x false=true->E x
noncomputable def pb(D:Nat->Prop)(x:Nat):Bool:=@decide (D x) (Classical.propDecidable _)
section
variable {left:List (List Int)} {R:Nat} {owner number:List Int} {used oU:List Bool} {D:Nat->Prop}
def Reach.alC(hL:zO R left)(h:Inv left R (-1) left.length owner number D)(hr:Reach left R owner number used oU):∀ x,used.getD x false=true->x<R/\0<=owner.getD x 0:=by
 intro x hx;obtain⟨_,b⟩:=hr.g4 (λi=>∀ y∈left.getD i [],D y.toNat) (λx=>x<R/\D x) (λx hx h0=>(h.cl x hx.1 hx.2).2) (λi hi y hy=>⟨by have:=(hL.get i).2 y hy;omega,hi y hy⟩) (λi hi h0=>h.dead i hi hi Ix (by simpa [on] using h0));obtain⟨c,d⟩:=b x hx;exact⟨c,(h.cl x c d).1⟩
def Reach.count(hL:zO R left)(h:Inv left R (-1) left.length owner number D)(hr:Reach left R owner number used oU):
  cn left.length (λi=>oU.getD i false)=cn left.length (λi=>!on number i)+cn R (λx=>used.getD x false):=by
 rw[alz _ _ (on number)];have e1:cn left.length (λi=>oU.getD i false&&!on number i)=cn left.length (λi=>!on number i):=abX λi hi=>by
  cases ho:on number i with
  |true=>simp
  |false=>rw[hr.g1 i hi ho];rfl
 have h1:=alA h.ok (T:=λi=>oU.getD i false) (D:=λx=>used.getD x false) (λi hi hT=>hr.g2 i hi hT);have h2:cn R (λx=>used.getD x false&&decide (0<=owner.getD x 0)&&oU.getD (owner.getD x 0).toNat false)<=cn R (λx=>used.getD x false):=aly λi _ hi=>by simp only[aZ]at hi;exact hi.1.1
 have h3:=alB h.ok (T:=λi=>oU.getD i false) (D:=λx=>used.getD x false) (λx hx hu=>by
  have:=(hr.alC hL h x hu).2;exact⟨this,hr.g3 x hu this⟩)
 omega
def Reach.none(hr:Reach left R owner number used oU)(h:∀ i,i<left.length->on number i=true):∀ i,oU.getD i false=false:=by
 obtain⟨a,_⟩:=hr.g4 (λ_=>False) (λ_=>False) (λ_ h _=>h) (λ_ h=>h.elim) (λi hi h0=>by rw[h i hi]at h0;simp at h0);intro i;cases hh:oU.getD i false with
 |false=>rfl
 |true=>exact(a i hh).elim
end
def qP(f:Nat->Nat)(N:List Int):List Int:=N.map λn=>if n<0 then -1 else(f n.toNat:Int)
def xF(n R':Nat)(N:List Int):List Int:=(bn R').map λx:Nat=>match (bn n).find? (λj=>decide (N.getD j 0=(x:Int))) with|some j=>(j:Int)|none=>-1
def alD{f:Nat->Nat}{N:List Int}{j:Nat}(h:j<N.length):(qP f N).getD j 0=if N.getD j 0<0 then -1 else(f (N.getD j 0).toNat:Int):=by
 rw[qP,aB,b9,bT h,aB,bT h];rfl
def Nz{n R':Nat}{N:List Int}{x:Nat}(hx:x<R'):(∃ j,j<n/\N.getD j 0=x/\(xF n R' N).getD x 0=(j:Nat))\/((xF n R' N).getD x 0 = -1/\∀ j,j<n->N.getD j 0≠x):=by
 have e:(xF n R' N).getD x 0=match (bn n).find? (λj=>decide (N.getD j 0=(x:Int))) with|some j=>(j:Int)|none=>-1:=by
  rw[xF,aB,b9,List.getElem?_range hx];rfl
 cases hf:(bn n).find? (λj=>decide (N.getD j 0=(x:Int))) with
 |some j =>
  rw[hf]at e;have h1:=List.find?_some hf;have h2:=List.mem_of_find?_eq_some hf;rw[decide_eq_true_eq]at h1;exact .inl ⟨j,oV.1 h2,h1,e⟩
 |none =>
  rw[hf]at e;rw[List.find?_eq_none]at hf;exact .inr ⟨e,λj hj he=>absurd (decide_eq_true he) (hf j (oV.2 hj))⟩
structure alE(left EP:List (List Int))(R':Nat)(f:Nat->Nat):Prop where
 len:EP.length=left.length
 to:∀ i,i<left.length->∀ x:Nat,(x:Int)∈left.getD i []->f x<R'/\(f x:Int)∈EP.getD i []
 inj:∀ i j,i<left.length->j<left.length->∀ x y:Nat,(x:Int)∈left.getD i []->(y:Int)∈left.getD j []->f x=f y->x=y
def AF.bf{left EP:List (List Int)}{R R':Nat}{f:Nat->Nat}{owner number:List Int}(h:AF left R owner number)(hf:alE left EP R' f):
  AF EP R' (xF left.length R' (qP f number)) (qP f number)/\∀ i,i<left.length->on (qP f number) i=on number i:=by
 have hl:=hf.len;have hg:∀ j,j<left.length->(qP f number).getD j 0=if number.getD j 0<0 then -1 else(f (number.getD j 0).toNat:Int):=λj hj=>alD (by rw[h.hN];exact hj);have M8:∀ j,j<left.length->0<=(qP f number).getD j 0->0<=number.getD j 0/\(qP f number).getD j 0=f (number.getD j 0).toNat/\(((number.getD j 0).toNat:Nat):Int)∈left.getD j []/\owner.getD (number.getD j 0).toNat 0=j:=λj hj h0=>by
  rw[hg j hj]at h0 ⊢;split at h0
  ·omega
  ·rename_i hn;obtain⟨a,b,c⟩:=h.fwd j hj Ix;rw[if_neg hn];exact⟨Ix,rfl,by rw[Int.toNat_of_nonneg Ix];exact c,b⟩
 refine⟨⟨⟨by simp[xF],λo ho=>?_⟩,by rw[qP,List.length_map,h.hN,hl],λj hj=>?_,λj hj h0=>?_,λx hx h0=>?_⟩,λi hi=>?_⟩
 ·obtain⟨x,hx,rfl⟩:=List.mem_iff_getElem.1 ho;have bS:x<R':=by simpa [xF] using hx
  have e:(xF left.length R' (qP f number))[x]=(xF left.length R' (qP f number)).getD x 0:=by rw[aB,bT hx];rfl
  rw[e];rcases Nz (n:=left.length) (N:=qP f number) bS with⟨j,h1,h2,h3⟩|⟨h3,_⟩<;>rw[h3]<;>omega
 ·rw[hg j Ix];split<;>omega
 ·obtain⟨a,b,c,d⟩:=M8 j Ix h0;obtain⟨p,q⟩:=hf.to j Ix _ c;rw[b,ep];refine⟨Ix,?_,q⟩;rcases Nz (n:=left.length) (N:=qP f number) p with⟨k,h1,h2,h3⟩|⟨_,h3⟩
  ·rw[h3];obtain⟨a',b',c',d'⟩:=M8 k h1 Ix;have:=hf.inj k j h1 Ix _ _ c' c Ix;rw[this,d]at d';omega
  ·exact absurd b (h3 j Ix)
 ·rcases Nz (n:=left.length) (N:=qP f number) hx with⟨k,h1,h2,h3⟩|⟨h3,_⟩
  ·rw[h3,ep];exact h2
  ·omega
 ·rw[on,on,hg i hi];split
  ·rw[decide_eq_false Ix,decide_eq_false Ix]
  ·rw[decide_eq_true Ix,decide_eq_true Ix]
section
variable {α:Type} [Inhabited α]
def uS(lt:α->α->Bool)(x:α)(l:List α):Nat->Nat
 |0=>0
 |k+1=>if lt x (l.getD k default)=true then uS lt x l k else k+1
def ab0(lt:α->α->Bool)(x:α)(l:List α):∀ k,uS lt x l k<=k
 |0=>bb _
 |k+1=>by
  rw[uS];split
  ·have:=ab0 lt x l k;omega
  ·exact bb _
def ER(lt:α->α->Bool)(x:α)(l:List α):List α:=l.take (uS lt x l l.length)++x::l.drop (uS lt x l l.length)
def AI(lt:α->α->Bool):List α->List α->List α
 |[],out=>out
 |x::r,out=>AI lt r (ER lt x out)
def NA(lt:α->α->Bool)(x:α)(l:List α):(ER lt x l).Perm (x::l):=by
 unfold ER;refine xL.trans ?_;rw[List.take_append_drop]
def Nq(lt:α->α->Bool):∀ (l out:List α),(AI lt l out).Perm (out++l)
 |[],out=>by rw[AI,List.append_nil]
 |x::r,out=>by
  rw[AI];refine(Nq lt r _).trans (((NA lt x out).append_right r).trans ?_);exact xL.symm
def ab1(lt:α->α->Bool)(x:α)(l:List α):∀ k,(∀ j,uS lt x l k<=j->j<k->lt x (l.getD j default)=true)/\(0<uS lt x l k->lt x (l.getD (uS lt x l k-1) default)=false)
 |0=>⟨λj h1 h2=>Ix,λh=>by rw[uS]at h;omega⟩
 |k+1=>by
  obtain⟨a,b⟩:=ab1 lt x l k;rw[uS];split
  ·rename_i h;refine⟨λj h1 h2=>?_,b⟩;by_cases hj:j=k
   ·subst hj;exact h
   ·exact a j h1 Ix
  ·rename_i h;exact⟨λj h1 h2=>Ix,λ_=>by simpa using h⟩
structure Iq(lt:α->α->Bool)(P:α->Prop):Prop where
 tr:∀ a b c,P a->P b->P c->lt a b=true->lt b c=true->lt a c=true
 j9:∀ a b,P a->P b->a≠b->lt a b=true\/lt b a=true
 ir:∀ a b,P a->P b->lt a b=true->lt b a=false
def alF{lt:α->α->Bool}{P:α->Prop}(ho:Iq lt P){x:α}{l:List α}(hl:l.Pairwise λa b=>lt a b=true)(hP:∀ y∈l,P y)(hx:P x)(hn:x ∉ l):(ER lt x l).Pairwise λa b=>lt a b=true:=by
 obtain⟨a,b⟩:=ab1 lt x l l.length;have hp:=ab0 lt x l l.length;unfold ER;generalize uS lt x l l.length=p at *;have hg:∀ j,j<l.length->l.getD j default∈l:=λj hj=>aG hj;have gd:∀ j (hj:j<l.length),l[j]=l.getD j default:=λj hj=>by rw[aB,bT hj];rfl
 have wm:∀ i j,i<j->j<l.length->lt (l.getD i default) (l.getD j default)=true:=λi j h1 h2=>by
  rw[<- gd i Ix,<- gd j h2];exact List.pairwise_iff_getElem.1 hl i j Ix h2 h1
 have BV:∀ y∈l.take p,lt y x=true:=λy hy=>by
  obtain⟨i,hi,rfl⟩:=qX hy;rw[List.length_take]at hi;rw[List.getElem_take,gd i Ix];have h1:=b Ix;have h2:l.getD (p-1) default∈l:=hg _ Ix;have h3:lt (l.getD (p-1) default) x=true:=(ho.j9 _ _ (hP _ h2) hx (λe=>hn (e▸h2))).resolve_right (by rw[h1];decide);by_cases hip:i=p-1
  ·subst hip;exact h3
  ·exact ho.tr _ _ _ (hP _ (hg _ Ix)) (hP _ h2) hx (wm i (p-1) Ix Ix) h3
 have ab2:∀ y∈l.drop p,lt x y=true:=λy hy=>by
  obtain⟨i,hi,rfl⟩:=qX hy;rw[List.length_drop]at hi;rw[List.getElem_drop,gd _ Ix];exact a _ Ix Ix
 rw[List.pairwise_append];refine⟨hl.sublist (List.take_sublist _ _),List.pairwise_cons.2 ⟨ab2,hl.sublist (List.drop_sublist _ _)⟩,λy hy z hz=>?_⟩;rcases bj.1 hz with rfl|hz
 ·exact BV y hy
 ·exact ho.tr _ _ _ (hP _ (List.mem_of_mem_take hy)) hx (hP _ (List.mem_of_mem_drop hz)) (BV y hy) (ab2 z hz)
def ab3{lt:α->α->Bool}{P:α->Prop}(ho:Iq lt P):∀ (l out:List α),out.Pairwise (λa b=>lt a b=true)->(∀ y∈out,P y)->(∀ y∈l,P y)->(out++l).Nodup->(AI lt l out).Pairwise λa b=>lt a b=true
 |[],out,h,_,_,_=>h
 |x::r,out,h,h1,h2,h3=>by
  rw[AI];have hp:(x::(out++r)).Nodup:=(xL.nodup_iff).1 h3;rw[nr,cC,not_or]at hp;refine ab3 ho r _ (alF ho h h1 (h2 x Iy) hp.1.1) (λy hy=>?_) (λy hy=>h2 y (by simp[hy])) ?_
  ·rcases bj.1 ((NA lt x out).mem_iff.1 hy) with rfl|hy
   ·exact h2 _ Iy
   ·exact h1 y hy
  ·refine((NA lt x out).append_right r).nodup_iff.2 ?_;rw[List.cons_append,nr,cC,not_or];exact hp
omit [Inhabited α] in
def ab4{lt:α->α->Bool}{P:α->Prop}(ho:Iq lt P):∀ (a b:List α),a.Pairwise (λx y=>lt x y=true)->b.Pairwise (λx y=>lt x y=true)->(∀ x∈a,P x)->(∀ x,x∈a↔x∈b)->a=b
 |[],b,_,_,_,h=>by
  cases b with
  |nil=>rfl
  |cons y b=>have:=(h y).2 Iy;simp at this
 |x::a,[],_,_,_,h=>by have:=(h x).1 Iy;simp at this
 |x::a,y::b,ha,hb,hP,h=>by
  rw[List.pairwise_cons]at ha hb;have NC:P y:=hP y ((h y).2 Iy);have hir:∀ z,P z->lt z z=true->False:=λz hz hh=>by have:=ho.ir z z hz hz hh;rw[hh]at this;cases this
  have qj:x=y:=by
   rcases bj.1 ((h x).1 Iy) with e|h1
   ·exact e
   ·rcases bj.1 ((h y).2 Iy) with e|h2
    ·exact e.symm
    ·have:=ho.ir _ _ (hP x Iy) NC (ha.1 y h2);rw[hb.1 x h1]at this;cases this
  subst qj;congr 1;refine ab4 ho a b ha.2 hb.2 (λz hz=>hP z (by simp[hz])) λz=>?_;constructor
  ·intro hz;rcases bj.1 ((h z).1 (by simp[hz])) with e|h1
   ·subst e;exact(hir _ NC (ha.1 _ hz)).elim
   ·exact h1
  ·intro hz;rcases bj.1 ((h z).2 (by simp[hz])) with e|h1
   ·subst e;exact(hir _ NC (hb.1 _ hz)).elim
   ·exact h1
end
def cQ.one{P:Program}{f:FuncId}{args:List AV}{aa:List Ob}{res:AV}{a8:List Ob}(h:cQ P f args aa (λr os=>r=res/\os=a8)):Holds P f args aa res a8:=by
 refine⟨h.1,λγ aN hs=>(h.2 γ aN hs).mono ?_⟩;rintro e w'⟨r,os,cv,az,⟨rfl,rfl⟩,h1,h2,h3,h4,h5⟩;exact⟨cv,az,h1,h2,h3,h4,h5⟩
def KN(W:WS):Prop:=(W.am.map (·.1)).Nodup
def ab6(k:List Int)(v:Int):∀ am:List (List Int×Int),(jF k v am).map (·.1)=if k∈am.map (·.1) then am.map (·.1) else am.map (·.1)++[k]
 |[]=>rfl
 |p::r=>by
  have ih:=ab6 k v r;rw[jF];by_cases hp:p.1=k
  ·rw[if_pos hp,if_pos (by rw[fV,hp];exact List.mem_cons_self)];simp[hp]
  ·rw[if_neg hp,fV,ih,fV];by_cases hk:k∈r.map (·.1)
   ·rw[if_pos hk,if_pos (dI _ hk)]
   ·rw[if_neg hk,if_neg (by rw[bj,not_or];exact⟨λe=>hp e.symm,hk⟩)];rfl
def alH{k:List Int}{v:Int}{am:List (List Int×Int)}(h:(am.map (·.1)).Nodup):((jF k v am).map (·.1)).Nodup:=by
 rw[ab6];split
 ·exact h
 ·rename_i hk;exact List.nodup_append.2 ⟨h,Iy,λa ha b hb=>by simp only[List.mem_singleton]at hb;subst hb;exact λe=>hk (e▸ha)⟩
section
variable {m:ah} {can:List (List Bool)}
def ND{Q:WS->Prop}(h:∀ W p s o amt,Q W->Q (pN m W p s o amt))(W:WS)(hW:Q W)(p s:Nat):∀ i,Q (kX m can W p s i)
 |0=>hW
 |i+1=>by
  rw[kX];split
  ·exact h _ _ _ _ _ (ND h W hW p s i)
  ·exact ND h W hW p s i
def NF{Q:WS->Prop}(h:∀ W p s o amt,Q W->Q (pN m W p s o amt))(W:WS)(hW:Q W)(p s:Nat):∀ i,Q (jq m can W p s i)
 |0=>hW
 |i+1=>by
  rw[jq];split
  ·exact h _ _ _ _ _ (NF h W hW p s i)
  ·exact NF h W hW p s i
def alI{Q:WS->Prop}(h:∀ W p s o amt,Q W->Q (pN m W p s o amt))(W:WS)(hW:Q W)(p s:Nat):Q (Ar m can W p s):=NF h _ (ND h W hW p s _) p s _
def ab7{α β:Type}{Q:α->Prop}{f:α->β->α}(h:∀ a b,Q a->Q (f a b)):∀ (l:List β) (a:α),Q a->Q (l.foldl f a)
 |[],a,ha=>ha
 |b::l,a,ha=>ab7 h l _ (h a b ha)
def ab8{Q:WS->Prop}(h:∀ W p s o amt,Q W->Q (pN m W p s o amt))(cO:List (List Int)):∀ (f:Nat) (st:WS×List Bool) (c:Nat),Q st.1->Q (iQ m can cO f st c).1
 |0,st,c,hs=>hs
 |f+1,st,c,hs=>by
  have hk:∀ (st:WS×List Bool) (p s:Nat),Q st.1->Q (Au m can (iQ m can cO f) st p s).1:=λst p s hs=>by
   unfold Au;split
   ·exact hs
   ·exact alI h _ (ab8 h cO f _ _ hs) p s
  rw[iQ];exact ab7 (Q:=λa:WS×List Bool=>Q a.1) (λa b ha=>hk _ _ _ (hk _ _ _ ha)) _ _ hs
def NG{Q:WS->Prop}(h:∀ W p s o amt,Q W->Q (pN m W p s o amt))(cO:List (List Int))(st:WS×List Bool)(hs:Q st.1):∀ c,Q (ma m can cO st c).1
 |0=>hs
 |c+1=>by
  rw[ma];split
  ·exact NG h cO st hs c
  ·exact ab8 h cO _ _ _ (NG h cO st hs c)
def alJ{Q:WS->Prop}(h:∀ W p s o amt,Q W->Q (pN m W p s o amt))(W:WS)(hW:Q W)(r:Nat):Q (pL m can W r):=NG h _ _ hW _
def alk(W:WS)(hW:KN W)(r:Nat):KN (pL m can W r):=alJ (λW p s o amt h=>alH h) W hW r
end
def uR(l:List Mv):List Mv:=AI (Go.Proofs.ltOf tG) l []
def alK:∀ {am:List (List Int×Int)},(am.map (·.1)).Nodup->(∀ q∈am,∃ p s o:Int,q.1=[p,s,o])->∀ {x y:Mv},x∈ke am->y∈ke am->x.pair=y.pair->x.side=y.side->x.opt=y.opt->x=y:=by
 intro am hn hk x y hx hy h1 h2 h3;unfold ke at hx hy;obtain⟨q,hq,rfl⟩:=b8.1 hx;obtain⟨r,hr,rfl⟩:=b8.1 hy;have hq:=(yV.1 hq).1;have hr:=(yV.1 hr).1;obtain⟨a,b,c,e1⟩:=hk q hq;obtain⟨a',b',c',e2⟩:=hk r hr;unfold Ay at h1 h2 h3;rw[e1,e2]at h1 h2 h3;change a=a' at h1;change b=b' at h2;change c=c' at h3;have e3:q.1=r.1:=by rw[e1,e2,h1,h2,h3]
 have e4:q=r:=by
  obtain⟨i,hi,rfl⟩:=qX hq;obtain⟨j,hj,rfl⟩:=qX hr;have:=(List.getElem_inj (h₀:=by simpa using hi) (h₁:=by simpa using hj) hn).1 (by rw[Cv,Cv];exact e3);subst this;rfl
 rw[e4]
def ab9:∀ {am:List (List Int×Int)},(am.map (·.1)).Nodup->(∀ q∈am,∃ p s o:Int,q.1=[p,s,o])->(ke am).Nodup
 |[],_,_=>List.nodup_nil
 |q::r,hn,hk=>by
  rw[fV,nr]at hn;have ih:=ab9 hn.2 (λx hx=>hk x (dI _ hx));unfold ke at ih ⊢;rw[List.filter_cons];split
  ·rw[fV,nr];refine⟨λhm=>?_,ih⟩;obtain⟨t,ht,e⟩:=b8.1 hm;have ht:=(yV.1 ht).1;obtain⟨a,b,c,e1⟩:=hk q Iy;obtain⟨a',b',c',e2⟩:=hk t (by simp[ht]);unfold Ay at e;rw[e1,e2,Mv.mk.injEq]at e;have e:=(show a'=a/\b'=b/\c'=c/\t.2=q.2 from e);exact hn.1 (b8.2 ⟨t,ht,by rw[e1,e2,e.1,e.2.1,e.2.2.1]⟩)
  ·exact ih
def alc{am:List (List Int×Int)}(hn:(am.map (·.1)).Nodup)(hk:∀ q∈am,∃ p s o:Int,q.1=[p,s,o]){Y:List Mv}(hY:Y.Perm (ke am))(hs:Y.Pairwise λa b=>Go.Proofs.ltOf tG b a=false):Y=uR (ke am):=by
 have bU:=ab9 hn hk;have ho:Iq (Go.Proofs.ltOf tG) (·∈ke am):={
  tr:=λa b c _ _ _=>by rw[qJ,qJ,qJ];omega
  j9:=λa b ha hb iY=>by
   rw[qJ,qJ];refine Classical.byContradiction λh=>iY (alK hn hk ha hb ?_ ?_ ?_)<;>omega
  ir:=λa b _ _=>by rw[<- Bool.not_eq_true,qJ,qJ];omega }
 have hYn:Y.Nodup:=hY.nodup_iff.2 bU;refine ab4 ho _ _ ?_ (ab3 ho _ [] .nil Iy (λx hx=>hx) (by simpa using bU)) (λx hx=>hY.mem_iff.1 hx) λx=>(hY.mem_iff).trans (by unfold uR;exact((Nq _ (ke am) []).mem_iff).symm);refine(hs.and hYn).imp_of_mem λ{a b} ha hb h=>?_;rcases ho.j9 a b (hY.mem_iff.1 ha) (hY.mem_iff.1 hb) h.2 with h1|h1
 ·exact h1
 ·rw[h.1]at h1;cases h1
section
variable (m:ah) (left:List (List Bool))
def yT:Nat->Nat->List Mv->WS->List Mv
 |0,_,X,_=>X
 |n+1,k,X,V =>
  if(bQ m left X).1=1099511627776 then X
  else if(bQ m left (uR (ke (pL m (dR m left m.cls.length) V k).am))).2≠0\/((bQ m left (uR (ke (pL m (dR m left m.cls.length) V k).am))).1<=(bQ m left X).1/\0<k) then X
  else yT n (k+1) (if(bQ m left X).1<(bQ m left (uR (ke (pL m (dR m left m.cls.length) V k).am))).1 then uR (ke (pL m (dR m left m.cls.length) V k).am) else X) (pL m (dR m left m.cls.length) V k)
def nj(rounds:Int):List Mv:=yT m left rounds.toNat 0 [] (W0 m)
end
section
variable {m:ah} {left:List (List Bool)}
def NH:∀ (n k:Nat) (X:List Mv) (V:WS),(bQ m left X).2=0->(bQ m left (yT m left n k X V)).2=0/\(bQ m left X).1<=(bQ m left (yT m left n k X V)).1
 |0,k,X,V,h=>⟨h,nt _⟩
 |n+1,k,X,V,h=>by
  rw[yT];split
  ·exact⟨h,nt _⟩
  ·split
   ·exact⟨h,nt _⟩
   ·rename_i h1 h2;rw[not_or,Classical.not_not]at h2;by_cases h3:(bQ m left X).1<(bQ m left (uR (ke (pL m (dR m left m.cls.length) V k).am))).1
    ·rw[if_pos h3];have:=NH n (k+1) _ (pL m (dR m left m.cls.length) V k) h2.1;exact⟨this.1,Ix⟩
    ·rw[if_neg h3];exact NH n (k+1) _ _ h
def KU(rounds:Int)(h:(bQ m left []).2=0):(bQ m left (nj m left rounds)).2=0/\(bQ m left []).1<=(bQ m left (nj m left rounds)).1:=NH _ _ _ _ h
end
end T

