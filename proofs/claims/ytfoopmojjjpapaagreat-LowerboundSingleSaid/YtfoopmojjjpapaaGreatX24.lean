import Derived.Test.YtfoopmojjjpapaaGreatX21
import Derived.Test.YtfoopmojjjpapaaGreatX23
set_option linter.all false
set_option maxHeartbeats 0
set_option maxRecDepth 20000
open Nat renaming lt_or_ge→dP,strongRecOn→As,le_refl→aY
open List renaming getD_eq_getElem?_getD→az,getElem?_eq_none→dK,mem_map→bW,getElem?_set→bU,replicate→aK,mem_cons→bw,range→bu,getElem?_map→bI,getElem?_eq_getElem→bF,mem_range→oF,perm_middle→za,getElem_of_mem→mZ,nodup_cons→mX,mem_append→cG,map_cons→ei,mem_cons_of_mem→dR,mem_filter→Av,getElem_map→D1
open Int renaming toNat_natCast→c7,le_refl→mY
open Bool renaming and_eq_true→bb,true_and→gK
open Go Go.Am
namespace T
def nv(m:ah)(left:List (List Bool))(rounds:Int):Int:=if lg m left≠0 then lg m left else if rounds<0\/64<rounds then 3 else 0
def Me(m:ah)(left:List (List Bool)):b8 m left []=if lg m left≠0 then(0,lg m left) else(l8 m left (S0 m,T0 m),0):=by
 unfold b8 gH;split
 ·rfl
 ·rw[if_neg GM,if_neg GM];rfl
def ann(m:ah)(left:List (List Bool)):WS:=qE m (eh m left m.cls.length) (W0 m) 0
structure MvP(m:ah)(left:List (List Bool))(rounds:Int)(X:List Mv):Prop where
 ok:(b8 m left X).2=0
 ge:(b8 m left []).1<=(b8 m left X).1
 fir:1<=rounds->(b8 m left []).1≠1099511627776->∃ Y:List Mv,Y.Perm (kU (ann m left).am)/\((b8 m left Y).2=0->(b8 m left Y).1<=(b8 m left X).1)
def anf{m:ah}:nG m (W0 m):=by
 refine⟨by simp[W0],by simp[W0],λi hi=>?_,λj hj=>?_,λq hq=>by cases hq⟩
 ·unfold W0;dsimp only;rw[iS _ _ _ hi];simp[b9,cN]
 ·unfold W0;dsimp only;rw[iS _ _ _ hj];rfl
def ang{m:ah}(hm:VM m):WB 1099511627776 (W0 m):=by
 have key:∀ (l:List (List Int)),(∀ r∈l,∀ x∈r,-1099511627776<=x/\x<=1099511627776)->∀ a b,-1099511627776<=(l.getD a default).getD b 0/\(l.getD a default).getD b 0<=1099511627776:=λl hl a b=>by
  rcases dP a l.length with h1|h1
  ·have h2:=hl _ (aF (l:=l) (i:=a) (d:=default) h1);rcases dP b (l.getD a default).length with h3|h3
   ·exact h2 _ (aF h3)
   ·rw[az,dK h3];decide
  ·have e:l.getD a default=default:=by rw[az,dK h1];rfl
   rw[e];show -1099511627776<=(0:Int)/\(0:Int)<=1099511627776;decide
 refine⟨λc o=>?_,λp j=>?_,λk=>by show -268435456<=(0:Int)/\(0:Int)<=268435456;decide,by show 12884901888*((0:Nat):Int)<=1099511627776;decide⟩
 ·refine key (m.cls.map b9) (λr hr x hx=>?_) c o;obtain⟨l,hl,rfl⟩:=bW.1 hr;obtain⟨o,ho,rfl⟩:=bW.1 hx;have:=EW (hm.sW l hl o ho);unfold bT at this;omega
 ·refine key (m.ae.map (·.ay)) (λr hr x hx=>?_) p j;obtain⟨q,hq,rfl⟩:=bW.1 hr;have:=Ii (j6 hm.pr q hq) x hx;unfold bT at this;omega
def Gr{α:Type}(l:List α)(i j:Nat)(v d:α)(h:i<l.length):(l.set i v).getD j d=if j=i then v else l.getD j d:=by
 simp only[az,bU];by_cases xE:j=i
 ·subst xE;simp[h]
 ·simp[xE,Ne.symm xE]
def nI{α:Type}(l:List α)(i j:Nat)(v d:α)(h:j≠i):(l.set i v).getD j d=l.getD j d:=by
 simp only[az,bU];simp[Ne.symm h]
def xN{α:Type}(l:List α)(i:Nat)(v d:α)(h:i<l.length):(l.set i v).getD i d=v:=by
 rw[Gr _ _ _ _ _ h];simp
def adR{α:Type}(n j:Nat)(v:α):(aK n v).getD j v=v:=by
 simp only[az,List.getElem?_replicate];split<;>rfl
structure B3(left:List (List Int))(R:Nat)(owner number:List Int):Prop where
 hO:yy left.length R owner
 hN:number.length=left.length
 rL:∀ j,j<left.length->-1<=number.getD j 0
 fwd:∀ j,j<left.length->0<=number.getD j 0->number.getD j 0<R/\owner.getD (number.getD j 0).toNat 0=j/\number.getD j 0∈left.getD j []
 bwd:∀ x,x<R->0<=owner.getD x 0->number.getD (owner.getD x 0).toNat 0=x
structure MEx(left:List (List Int))(R:Nat)(xs:List Int)(i:Nat)(seen:List Bool)(owner number xO uU:List Int):Prop where
 hO:yy left.length R xO
 hN:uU.length=left.length
 rL:∀ j,j<left.length->-1<=uU.getD j 0
 fwd:∀ j,j<left.length->j≠i->0<=uU.getD j 0->uU.getD j 0<R/\xO.getD (uU.getD j 0).toNat 0=j/\uU.getD j 0∈left.getD j []
 bwd:∀ x,x<R->0<=xO.getD x 0->xO.getD x 0≠i->uU.getD (xO.getD x 0).toNat 0=x
 me :∃y,y<R/\uU.getD i 0=(y:Nat)/\xO.getD y 0=i/\(y:Int)∈xs/\seen.getD y false=false/\∀ x,x<R->xO.getD x 0=i->x=y\/seen.getD x false=true
 ek:∀ x,x<R->seen.getD x false=true->xO.getD x 0=owner.getD x 0
 same:∀ j,j<left.length->j≠i->(number.getD j 0<0\/∃ x,x<R/\number.getD j 0=(x:Nat)/\seen.getD x false=true)->uU.getD j 0=number.getD j 0
 pos:∀ j,j<left.length->j≠i->(0<=uU.getD j 0↔0<=number.getD j 0)
structure anp(left:List (List Int))(R:Nat)(xs:List Int)(seen:List Bool)(owner number:List Int)(Pg:List Bool)(xO uU:List Int):Prop where
 eo:xO=owner
 en:uU=number
 all:∀ x∈xs,Pg.getD x.toNat false=true
 cl:∀ x,x<R->Pg.getD x false=true->seen.getD x false=true\/(0<=owner.getD x 0/\∀ y∈left.getD (owner.getD x 0).toNat [],Pg.getD y.toNat false=true)
def anq{left:List (List Int)}{R:Nat}(hL:Bu R left):∀ (f:Nat) (xs:List Int) (i:Nat) (seen:List Bool) (owner number:List Int),pN seen<=f->seen.length=R->(∀ x∈xs,0<=x/\x<R)->i<left.length->B3 left R owner number ->
  (∀ x,x<R->owner.getD x 0=i->seen.getD x false=true)->∀ q,ta left f xs i seen owner number=q ->
   (q.1=true->MEx left R xs i seen owner number q.2.2.1 q.2.2.2)/\(q.1=false->anp left R xs seen owner number q.2.1 q.2.2.1 q.2.2.2)/\(∀ x,seen.getD x false=true->q.2.1.getD x false=true)/\q.2.1.length=R/\pN q.2.1<=pN seen:=by
 intro f
 induction f using As with
 |_ f Ph =>
  intro xs
  induction xs with
  |nil =>
   intro i seen owner number hc hs hx hi hM h3 q hq;rw[ta.eq_def]at hq;subst hq;exact⟨GM,λ_=>⟨rfl,rfl,GM,λx _ h=>.inl h⟩,λ_ h=>h,hs,aY _⟩
  |cons x r ih =>
   intro i seen owner number hc hs hx hi hM h3 q hq;obtain⟨hx0,hxR⟩:=hx x GM;have hr:∀ x∈r,0<=x/\x<R:=λy hy=>hx y (by simp[hy]);obtain⟨n,rfl⟩:∃n:Nat,x=n:=⟨x.toNat,GK⟩;rw[ta.eq_def]at hq;simp only[c7]at hq;have An:n<R:=GK;have kE:n<owner.length:=by rw[hM.hO.1];exact An
   have eJ:i<number.length:=by rw[hM.hN];exact hi
   by_cases fc:seen.getD n false=true
   ·rw[if_pos fc]at hq;obtain⟨a,b,c,d,e⟩:=ih i seen owner number hc hs hr hi hM h3 q hq;refine⟨λh=>?_,λh=>?_,c,d,e⟩
    ·obtain⟨y,y1,y2,y3,y4,y5,y6⟩:=(a h).me;exact { a h with me:=⟨y,y1,y2,y3,by simp[y4],y5,y6⟩ }
    ·refine { b h with all:=λy hy=>?_ };rcases bw.1 hy with rfl|hy
     ·simpa using c n fc
     ·exact(b h).all y hy
   ·have Pj:seen.getD n false=false:=by simpa using fc
    rw[if_neg fc]at hq;have gD:=ahK seen n GK Pj;have hog:=hM.hO.get An;have xP:∀ x,seen.getD x false=true->(seen.set n true).getD x false=true:=λx hx=>by
     rw[Gr _ _ _ _ _ GK];split<;>simp_all
    by_cases pj:owner.getD n 0<0
    ·rw[if_pos pj]at hq;subst hq;refine⟨λ_=>?_,GM,xP,by simpa using hs,PW⟩;dsimp only;refine⟨hM.hO.set hi,by simpa using hM.hN,?_,?_,?_,⟨n,An,xN _ _ _ _ eJ,xN _ _ _ _ kE,GM,Pj,?_⟩,?_,?_,?_⟩
     ·intro j hj;rw[Gr _ _ _ _ _ eJ];split
      ·omega
      ·exact hM.rL j hj
     ·intro j hj iG h0;rw[nI _ _ _ _ _ iG]at h0 ⊢;obtain⟨a,b,c⟩:=hM.fwd j hj h0;refine⟨a,?_,c⟩;rw[nI]
      ·exact b
      ·intro e;rw[e]at b;omega
     ·intro y hy h0 cy;by_cases yU:y=n
      ·subst yU;rw[xN _ _ _ _ kE]at cy;exact absurd rfl cy
      ·rw[nI _ _ _ _ _ yU]at h0 cy ⊢;rw[nI]
       ·exact hM.bwd y hy h0
       ·omega
     ·intro y hy he;by_cases yU:y=n
      ·exact .inl yU
      ·rw[nI _ _ _ _ _ yU]at he;exact .inr (h3 y hy he)
     ·intro y hy JZ;rw[nI];intro e;subst e;simp_all
     ·intro j hj iG _;exact nI _ _ _ _ _ iG
     ·intro j hj iG;rw[nI _ _ _ _ _ iG]
    ·rw[if_neg pj]at hq;obtain⟨f',rfl⟩:∃f',f=f'+1:=⟨f-1,GK⟩;simp only at hq;obtain⟨o,ho⟩:∃o:Nat,owner.getD n 0=o:=⟨(owner.getD n 0).toNat,GK⟩;rw[ho]at hq;simp only[c7]at hq;have nt:o<left.length:=GK;have Pk:number.getD o 0=n:=by
      have:=hM.bwd n An GK;rwa [ho,c7]at this
     have pU:o≠i:=by
      intro e;subst e;have:=h3 n An ho;simp_all
     have Mr:∀ x,x<R->owner.getD x 0=o->(seen.set n true).getD x false=true:=by
      intro y hy he;have:=hM.bwd y hy GK;rw[he,c7,Pk]at this;have:y=n:=GK;subst this;exact xN _ _ _ _ GK
     have hp:=Ph f' GK (left.getD o []) o (seen.set n true) owner number GK (by simpa using hs) (hL.get _).2 nt hM Mr _ rfl;generalize ta left f' (left.getD o []) o (seen.set n true) owner number=p at hp hq;obtain⟨p1,p2,p3,p4,p5⟩:=hp;by_cases pY:p.1=true
     ·rw[if_pos pY]at hq;subst hq;have hE:=p1 pY;obtain⟨pb,ps,po,pn⟩:=p;dsimp only at hE p3 p4 p5 ⊢;obtain⟨y,y1,y2,y3,y4,y5,y6⟩:=hE.me;have hpo:n<po.length:=by rw[hE.hO.1];exact An
      have Gs:i<pn.length:=by rw[hE.hN];exact hi
      have DF:po.getD n 0=o:=by rw[hE.ek n An (xN _ _ _ _ GK),ho]
      have yU:y≠n:=by
       intro e;subst e;rw[xN _ _ _ _ GK]at y5;simp at y5
      have anr:pn.getD i 0=number.getD i 0:=by
       refine hE.same i hi (Ne.symm pU) ?_;by_cases h0:number.getD i 0<0
       ·exact .inl h0
       ·right;obtain⟨a,b,c⟩:=hM.fwd i hi GK;exact⟨(number.getD i 0).toNat,GK,GK,xP _ (h3 _ GK b)⟩
      refine⟨λ_=>⟨hE.hO.set hi,by simpa using hE.hN,?_,?_,?_,⟨n,An,xN _ _ _ _ Gs,xN _ _ _ _ hpo,GM,Pj,?_⟩,?_,?_,?_⟩,GM,λx h=>p3 x (xP x h),p4,GK⟩
      ·intro j hj;rw[Gr _ _ _ _ _ Gs];split
       ·omega
       ·exact hE.rL j hj
      ·intro j hj iG h0;rw[nI _ _ _ _ _ iG]at h0 ⊢;by_cases B4:j=o
       ·subst B4;rw[y2];refine⟨GK,?_,y4⟩;rw[c7,nI _ _ _ _ _ yU];exact y3
       ·obtain⟨a,b,c⟩:=hE.fwd j hj B4 h0;refine⟨a,?_,c⟩;rw[nI]
        ·exact b
        ·intro e;rw[e,DF]at b;omega
      ·intro z hz h0 cy;by_cases B5:z=n
       ·subst B5;rw[xN _ _ _ _ hpo]at cy;exact absurd rfl cy
       ·rw[nI _ _ _ _ _ B5]at h0 cy ⊢;rw[nI _ _ _ _ _ GK];by_cases J0:po.getD z 0=o
        ·rcases y6 z hz J0 with rfl|aP
         ·rw[J0,c7,y2]
         ·have:=hE.ek z hz aP;rw[J0]at this;have hb:=hM.bwd z hz GK;rw[<- this,c7,Pk]at hb;omega
        ·exact hE.bwd z hz h0 J0
      ·intro z hz he;by_cases B5:z=n
       ·exact .inl B5
       ·right;rw[nI _ _ _ _ _ B5]at he;have hb:=hE.bwd z hz GK GK;rw[he,c7,anr]at hb;obtain⟨a,b,c⟩:=hM.fwd i hi GK;rw[hb,c7]at b;exact h3 z hz b
      ·intro z hz aP;have B5:z≠n:=by intro e;subst e;simp_all
       rw[nI _ _ _ _ _ B5];exact hE.ek z hz (xP z aP)
      ·intro j hj iG vD;rw[nI _ _ _ _ _ iG];have B4:j≠o:=by
        intro e;subst e;rcases vD with h|⟨z,hz,ye,Be⟩
        ·omega
        ·have:z=n:=GK;subst this;simp_all
       refine hE.same j hj B4 ?_;rcases vD with h|⟨z,hz,ye,Be⟩
       ·exact .inl h
       ·exact .inr ⟨z,hz,ye,xP z Be⟩
      ·intro j hj iG;rw[nI _ _ _ _ _ iG];by_cases B4:j=o
       ·subst B4;rw[y2,Pk];omega
       ·exact hE.pos j hj B4
     ·rw[if_neg pY]at hq;have hF:=p2 (by simpa using pY);obtain⟨pb,ps,po,pn⟩:=p;dsimp only at hF p3 p4 p5 hq;obtain⟨rfl,rfl,Dz,F8⟩:=hF;obtain⟨a,b,c,d,e⟩:=ih i ps po pn GK p4 hr hi hM (λx hx h=>p3 x (xP x (h3 x hx h))) q hq;refine⟨λh=>?_,λh=>?_,λx h=>c x (p3 x (xP x h)),d,GK⟩
      ·have hE:=a h;obtain⟨y,y1,y2,y3,y4,y5,y6⟩:=hE.me;refine⟨hE.hO,hE.hN,hE.rL,hE.fwd,hE.bwd,⟨y,y1,y2,y3,by simp[y4],?_,?_⟩,λz hz h=>hE.ek z hz (p3 z (xP z h)),?_,hE.pos⟩
       ·cases JZ:seen.getD y false with
        |false=>rfl
        |true=>rw[p3 y (xP y JZ)]at y5;simp at y5
       ·intro z hz he;rcases y6 z hz he with h|h
        ·exact .inl h
        ·right;have hk:=hE.ek z hz h;rw[he]at hk;exact h3 z hz hk.symm
       ·intro j hj iG vD;refine hE.same j hj iG ?_;rcases vD with h|⟨z,hz,ye,Be⟩
        ·exact .inl h
        ·exact .inr ⟨z,hz,ye,p3 z (xP z Be)⟩
      ·have hG:=b h;refine⟨hG.eo,hG.en,λy hy=>?_,λy hy JZ=>?_⟩
       ·rcases bw.1 hy with rfl|hy
        ·rw[c7];exact c n (p3 n (xN _ _ _ _ GK))
        ·exact hG.all y hy
       ·rcases hG.cl y hy JZ with h'|h'
        ·rcases F8 y hy h' with vO|vO
         ·rw[Gr _ _ _ _ _ GK]at vO;split at vO
          ·rename_i yU;subst yU;right;refine⟨GK,?_⟩;rw[ho,c7];intro z hz;exact c _ (Dz z hz)
          ·exact .inl vO
         ·exact .inr ⟨vO.1,λz hz=>c _ (vO.2 z hz)⟩
        ·exact .inr h'
def J1(left:List (List Int))(R:Nat)(D:Nat->Prop)(owner:List Int):Prop:=∀ x,x<R->D x->0<=owner.getD x 0/\∀ y∈left.getD (owner.getD x 0).toNat [],D y.toNat
def ans{left:List (List Int)}{R:Nat}(hL:Bu R left){D:Nat->Prop}:∀ (f:Nat) (xs:List Int) (i:Nat) (seen:List Bool) (owner number:List Int),(∀ x∈xs,0<=x/\x<R)->J1 left R D owner ->
  ((∀ x∈xs,D x.toNat)->(ta left f xs i seen owner number).1=false)/\∀ x,x<R->D x->(ta left f xs i seen owner number).2.2.1.getD x 0=owner.getD x 0:=by
 intro f
 induction f using As with
 |_ f Ph =>
  intro xs
  induction xs with
  |nil=>intro i seen owner number _ hC;rw[ta.eq_def];exact⟨λ_=>rfl,λ_ _ _=>rfl⟩
  |cons x r ih =>
   intro i seen owner number hx hC;have hr:∀ x∈r,0<=x/\x<R:=λy hy=>hx y (by simp[hy]);have C2:=hx x GM;rw[ta.eq_def];simp only;split
   ·obtain⟨a,b⟩:=ih i seen owner number hr hC;exact⟨λh=>a λy hy=>h y (by simp[hy]),b⟩
   ·split
    ·rename_i h1 h2;refine⟨λh=>?_,λy hy hD=>?_⟩
     ·have:=(hC x.toNat GK (h x GM)).1;omega
     ·rw[nI];intro e;subst e;have:=(hC _ hy hD).1;omega
    ·cases f with
     |zero=>exact⟨λ_=>rfl,λ_ _ _=>rfl⟩
     |succ f' =>
      obtain⟨a,b⟩:=Ph f' GK (left.getD (owner.getD x.toNat 0).toNat []) (owner.getD x.toNat 0).toNat (seen.set x.toNat true) owner number (hL.get _).2 hC;simp only;generalize ta left f' (left.getD (owner.getD x.toNat 0).toNat []) (owner.getD x.toNat 0).toNat (seen.set x.toNat true) owner number=p at a b ⊢;have hC':J1 left R D p.2.2.1:=by
       intro y hy hD;rw[b y hy hD];exact hC y hy hD
      split
      ·rename_i hp;refine⟨λh=>?_,λy hy hD=>?_⟩
       ·have:=a (hC x.toNat GK (h x GM)).2;simp_all
       ·dsimp only;rw[nI]
        ·exact b y hy hD
        ·intro e;subst e;have:=a (hC _ hy hD).2;simp_all
      ·obtain⟨c,d⟩:=ih i p.2.1 p.2.2.1 p.2.2.2 hr hC';exact⟨λh=>c λy hy=>h y (by simp[hy]),λy hy hD=>(d y hy hD).trans (b y hy hD)⟩
def cn(n:Nat)(p:Nat->Bool):Nat:=(bu n).countP p
def anu(p:Nat->Bool):cn 0 p=0:=rfl
def xQ(n:Nat)(p:Nat->Bool):cn (n+1) p=cn n p+(if p n=true then 1 else 0):=by
 simp only[cn,List.range_succ,List.countP_append,List.countP_cons,List.countP_nil,Nat.zero_add]
def adT{n:Nat}{p q:Nat->Bool}(h:∀ i,i<n->p i=q i):cn n p=cn n q:=by
 induction n with
 |zero=>rfl
 |succ n ih=>rw[xQ,xQ,ih λi hi=>h i GK,h n GK]
def anv{n:Nat}{p q:Nat->Bool}(h:∀ i,i<n->p i=true->q i=true):cn n p<=cn n q:=by
 induction n with
 |zero=>exact aY _
 |succ n ih =>
  rw[xQ,xQ];have:=ih λi hi=>h i GK;have:=h n GK;split<;>split<;>simp_all<;>omega
def anw(n:Nat)(p q:Nat->Bool):cn n p=cn n (λi=>p i&&q i)+cn n (λi=>p i&&!q i):=by
 induction n with
 |zero=>rfl
 |succ n ih =>
  rw[xQ,xQ,xQ,ih];cases p n<;>cases q n<;>simp<;>omega
def adU{n:Nat}{p q:Nat->Bool}(k:Nat)(hk:k<n)(h:∀ i,i<n->i≠k->p i=q i)(hp:p k=true)(hq:q k=false):cn n p=cn n q+1:=by
 induction n with
 |zero=>omega
 |succ n ih =>
  rw[xQ,xQ];by_cases xz:k=n
  ·subst xz;rw[adT (p:=p) (q:=q) λi hi=>h i GK GK,hp,hq];rfl
  ·rw[ih GK λi hi=>h i GK,h n GK (Ne.symm xz)];omega
def adV{n m:Nat}{p q:Nat->Bool}(f:Nat->Nat)(h1:∀ i,i<n->p i=true->f i<m/\q (f i)=true)(h2:∀ i j,i<n->j<n->p i=true->p j=true->f i=f j->i=j):cn n p<=cn m q:=by
 induction n generalizing q with
 |zero=>simp[anu]
 |succ n ih =>
  rw[xQ];split
  ·rename_i hp;obtain⟨a,b⟩:=h1 n GK hp;have e:=adU (n:=m) (p:=q) (q:=λx=>q x&&!decide (x=f n)) (f n) a (λi _ hi=>by simp[hi]) b GM;have:=ih (q:=λx=>q x&&!decide (x=f n)) (λi hi Gs=>by
    obtain⟨c,d⟩:=h1 i GK Gs;refine⟨c,?_⟩;have:f i≠f n:=λe=>by have:=h2 i n GK GK Gs hp e;omega
    simp[d,this]) (λi j hi hj=>h2 i j GK GK)
   omega
  ·exact ih (λi hi=>h1 i GK) (λi j hi hj=>h2 i j GK GK)
def on(number:List Int)(i:Nat):Bool:=decide (0<=number.getD i 0)
structure Inv(left:List (List Int))(R:Nat)(w:Int)(i:Nat)(owner number:List Int)(D:Nat->Prop):Prop where
 ok:B3 left R owner number
 rest:∀ j,j<left.length->(i<=j\/(j:Int)=w)->number.getD j 0 = -1
 cl:J1 left R D owner
 dead:∀ j,j<i->j<left.length->(j:Int)≠w->number.getD j 0<0->∀ y∈left.getD j [],D y.toNat
def Inv.step{left:List (List Int)}{R:Nat}(hL:Bu R left){w:Int}{i:Nat}{owner number:List Int}{D:Nat->Prop}(h:Inv left R w i owner number D)(hi:i<left.length)(hw:(i:Int)≠w):
  ∀ q,ta left R (left.getD i []) i (aK R false) owner number=q->(∃ D',Inv left R w (i+1) q.2.2.1 q.2.2.2 D')/\cn left.length (on q.2.2.2)=cn left.length (on number)+(if q.1=true then 1 else 0):=by
 intro q hq;have wN:=h.rest i hi (.inl (aY _));have h3:∀ x,x<R->owner.getD x 0=i->(aK R false).getD x false=true:=by
  intro x hx he;have:=h.ok.bwd x hx GK;rw[he,c7,wN]at this;omega
 obtain⟨a,b,c,d,e⟩:=anq hL R (left.getD i []) i (aK R false) owner number (by rw[ahL];exact aY _) GM (hL.get _).2 hi h.ok h3 q hq;obtain⟨_,g⟩:=ans hL (D:=D) R (left.getD i []) i (aK R false) owner number (hL.get _).2 h.cl;rw[hq]at g;have bK:J1 left R D q.2.2.1:=by
  intro y hy hD;rw[g y hy hD];exact h.cl y hy hD
 cases hb:q.1 with
 |true =>
  have hE:=a hb;obtain⟨y,y1,y2,y3,y4,y5,y6⟩:=hE.me;refine⟨⟨D,⟨hE.hO,hE.hN,hE.rL,?_,?_⟩,?_,bK,?_⟩,?_⟩
  ·intro j hj h0;by_cases iG:j=i
   ·subst iG;rw[y2,c7];exact⟨GK,y3,y4⟩
   ·exact hE.fwd j hj iG h0
  ·intro x hx h0;by_cases Pl:q.2.2.1.getD x 0=i
   ·rcases y6 x hx Pl with rfl|h'
    ·rw[Pl,c7,y2]
    ·rw[adR]at h';simp at h'
   ·exact hE.bwd x hx h0 Pl
  ·intro j hj vD;have iG:j≠i:=by rcases vD with h|h<;>omega
   have hr:=h.rest j hj (by rcases vD with h|h<;>omega);have:=hE.pos j hj iG;have:=hE.rL j hj;omega
  ·intro j hj gu Pm h0 z hz;have iG:j≠i:=by intro e;subst e;omega
   have:=hE.pos j gu iG;exact h.dead j GK gu Pm GK z hz
  ·rw[if_pos rfl];refine adU i hi (λj hj iG=>?_) ?_ ?_
   ·have:=hE.pos j hj iG;simp only[on,this]
   ·rw[on,y2];exact decide_eq_true GK
   ·simp only[on,wN];rfl
 |false =>
  have hF:=b hb;rw[hF.eo,hF.en];refine⟨⟨λx=>D x\/q.2.1.getD x false=true,h.ok,λj hj vD=>h.rest j hj (by rcases vD with h|h<;>omega),?_,?_⟩,GM⟩
  ·intro x hx hD;rcases hD with hD|hD
   ·obtain⟨k,l⟩:=h.cl x hx hD;exact⟨k,λy hy=>.inl (l y hy)⟩
   ·rcases hF.cl x hx hD with h'|⟨k,l⟩
    ·rw[adR]at h';simp at h'
    ·exact⟨k,λy hy=>.inr (l y hy)⟩
  ·intro j hj gu Pm h0 z hz;by_cases iG:j=i
   ·subst iG;exact .inr (hF.all z hz)
   ·exact .inl (h.dead j GK gu Pm h0 z hz)
def anx{left:List (List Int)}{R:Nat}{owner number:List Int}(h:B3 left R owner number){T D:Nat->Bool}(hT:∀ i,i<left.length->T i=true->∀ y∈left.getD i [],D y.toNat=true):
  cn left.length (λi=>T i&&on number i)<=cn R (λx=>D x&&decide (0<=owner.getD x 0)&&T (owner.getD x 0).toNat):=by
 refine adV (λi=>(number.getD i 0).toNat) (λi hi hp=>?_) (λi j hi hj hp hq he=>?_)
 ·simp only[bb,on,decide_eq_true_eq]at hp;obtain⟨a,b,c⟩:=h.fwd i hi hp.2;refine⟨GK,?_⟩;simp only[b,c7,hp.1,hT i hi hp.1 _ c,gK,Bool.and_true,decide_eq_true_eq];omega
 ·simp only[bb,on,decide_eq_true_eq]at hp hq;obtain⟨a,b,c⟩:=h.fwd i hi hp.2;obtain⟨a',b',c'⟩:=h.fwd j hj hq.2;try dsimp only at he
  rw[he]at b;omega
def anz{left:List (List Int)}{R:Nat}{owner number:List Int}(h:B3 left R owner number){T D:Nat->Bool}(hD:∀ x,x<R->D x=true->0<=owner.getD x 0/\T (owner.getD x 0).toNat=true):
  cn R D<=cn left.length (λi=>T i&&on number i):=by
 refine adV (λx=>(owner.getD x 0).toNat) (λx hx hp=>?_) (λx y hx hy hp hq he=>?_)
 ·obtain⟨a,b⟩:=hD x hx hp;have hg:=h.hO.get hx;refine⟨GK,?_⟩;simp only[b,gK,on,decide_eq_true_eq];rw[h.bwd x hx a];omega
 ·obtain⟨a,b⟩:=hD x hx hp;obtain⟨a',b'⟩:=hD y hy hq;have e1:=h.bwd x hx a;have e2:=h.bwd y hy a';try dsimp only at he
  rw[he]at e1;omega
structure Reach(left:List (List Int))(R:Nat)(owner number:List Int)(used p6:List Bool):Prop where
 lu:used.length=R
 li:p6.length=left.length
 g1:∀ i,i<left.length->on number i=false->p6.getD i false=true
 g2:∀ i,i<left.length->p6.getD i false=true->∀ x∈left.getD i [],used.getD x.toNat false=true
 g3:∀ x,used.getD x false=true->0<=owner.getD x 0->p6.getD (owner.getD x 0).toNat false=true
 g4:∀ (T E:Nat->Prop),(∀ x,E x->0<=owner.getD x 0->T (owner.getD x 0).toNat)->(∀ i,T i->∀ x∈left.getD i [],E x.toNat)->(∀ i,i<left.length->on number i=false->T i)->(∀ i,p6.getD i false=true->T i)/\∀ x,used.getD x false=true->E x
noncomputable def pb(D:Nat->Prop)(x:Nat):Bool:=@decide (D x) (Classical.propDecidable _)
section
variable {left:List (List Int)} {R:Nat} {owner number:List Int} {used p6:List Bool} {D:Nat->Prop}
def Reach.anA(hL:Bu R left)(h:Inv left R (-1) left.length owner number D)(hr:Reach left R owner number used p6):∀ x,used.getD x false=true->x<R/\0<=owner.getD x 0:=by
 intro x hx;obtain⟨_,b⟩:=hr.g4 (λi=>∀ y∈left.getD i [],D y.toNat) (λx=>x<R/\D x) (λx hx h0=>(h.cl x hx.1 hx.2).2) (λi hi y hy=>⟨by have:=(hL.get i).2 y hy;omega,hi y hy⟩) (λi hi h0=>h.dead i hi hi GK (by simpa [on] using h0));obtain⟨c,d⟩:=b x hx;exact⟨c,(h.cl x c d).1⟩
def Reach.count(hL:Bu R left)(h:Inv left R (-1) left.length owner number D)(hr:Reach left R owner number used p6):
  cn left.length (λi=>p6.getD i false)=cn left.length (λi=>!on number i)+cn R (λx=>used.getD x false):=by
 rw[anw _ _ (on number)];have e1:cn left.length (λi=>p6.getD i false&&!on number i)=cn left.length (λi=>!on number i):=adT λi hi=>by
  cases ho:on number i with
  |true=>simp
  |false=>rw[hr.g1 i hi ho];rfl
 have h1:=anx h.ok (T:=λi=>p6.getD i false) (D:=λx=>used.getD x false) (λi hi hT=>hr.g2 i hi hT);have h2:cn R (λx=>used.getD x false&&decide (0<=owner.getD x 0)&&p6.getD (owner.getD x 0).toNat false)<=cn R (λx=>used.getD x false):=anv λi _ hi=>by simp only[bb]at hi;exact hi.1.1
 have h3:=anz h.ok (T:=λi=>p6.getD i false) (D:=λx=>used.getD x false) (λx hx hu=>by
  have:=(hr.anA hL h x hu).2;exact⟨this,hr.g3 x hu this⟩)
 omega
def Reach.none(hr:Reach left R owner number used p6)(h:∀ i,i<left.length->on number i=true):∀ i,p6.getD i false=false:=by
 obtain⟨a,_⟩:=hr.g4 (λ_=>False) (λ_=>False) (λ_ h _=>h) (λ_ h=>h.elim) (λi hi h0=>by rw[h i hi]at h0;simp at h0);intro i;cases hh:p6.getD i false with
 |false=>rfl
 |true=>exact(a i hh).elim
end
def r9(f:Nat->Nat)(N:List Int):List Int:=N.map λn=>if n<0 then -1 else(f n.toNat:Int)
def yV(n R':Nat)(N:List Int):List Int:=(bu R').map λx:Nat=>match (bu n).find? (λj=>decide (N.getD j 0=(x:Int))) with|some j=>(j:Int)|none=>-1
def anB{f:Nat->Nat}{N:List Int}{j:Nat}(h:j<N.length):(r9 f N).getD j 0=if N.getD j 0<0 then -1 else(f (N.getD j 0).toNat:Int):=by
 rw[r9,az,bI,bF h,az,bF h];rfl
def Pn{n R':Nat}{N:List Int}{x:Nat}(hx:x<R'):(∃ j,j<n/\N.getD j 0=x/\(yV n R' N).getD x 0=(j:Nat))\/((yV n R' N).getD x 0 = -1/\∀ j,j<n->N.getD j 0≠x):=by
 have e:(yV n R' N).getD x 0=match (bu n).find? (λj=>decide (N.getD j 0=(x:Int))) with|some j=>(j:Int)|none=>-1:=by
  rw[yV,az,bI,List.getElem?_range hx];rfl
 cases hf:(bu n).find? (λj=>decide (N.getD j 0=(x:Int))) with
 |some j =>
  rw[hf]at e;have h1:=List.find?_some hf;have h2:=List.mem_of_find?_eq_some hf;rw[decide_eq_true_eq]at h1;exact .inl ⟨j,oF.1 h2,h1,e⟩
 |none =>
  rw[hf]at e;rw[List.find?_eq_none]at hf;exact .inr ⟨e,λj hj he=>absurd (decide_eq_true he) (hf j (oF.2 hj))⟩
structure anC(left Gt:List (List Int))(R':Nat)(f:Nat->Nat):Prop where
 len:Gt.length=left.length
 to:∀ i,i<left.length->∀ x:Nat,(x:Int)∈left.getD i []->f x<R'/\(f x:Int)∈Gt.getD i []
 inj:∀ i j,i<left.length->j<left.length->∀ x y:Nat,(x:Int)∈left.getD i []->(y:Int)∈left.getD j []->f x=f y->x=y
def B3.bk{left Gt:List (List Int)}{R R':Nat}{f:Nat->Nat}{owner number:List Int}(h:B3 left R owner number)(hf:anC left Gt R' f):
  B3 Gt R' (yV left.length R' (r9 f number)) (r9 f number)/\∀ i,i<left.length->on (r9 f number) i=on number i:=by
 have hl:=hf.len;have hg:∀ j,j<left.length->(r9 f number).getD j 0=if number.getD j 0<0 then -1 else(f (number.getD j 0).toNat:Int):=λj hj=>anB (by rw[h.hN];exact hj);have Of:∀ j,j<left.length->0<=(r9 f number).getD j 0->0<=number.getD j 0/\(r9 f number).getD j 0=f (number.getD j 0).toNat/\(((number.getD j 0).toNat:Nat):Int)∈left.getD j []/\owner.getD (number.getD j 0).toNat 0=j:=λj hj h0=>by
  rw[hg j hj]at h0 ⊢;split at h0
  ·omega
  ·rename_i hn;obtain⟨a,b,c⟩:=h.fwd j hj GK;rw[if_neg hn];exact⟨GK,rfl,by rw[Int.toNat_of_nonneg GK];exact c,b⟩
 refine⟨⟨⟨by simp[yV],λo ho=>?_⟩,by rw[r9,List.length_map,h.hN,hl],λj hj=>?_,λj hj h0=>?_,λx hx h0=>?_⟩,λi hi=>?_⟩
 ·obtain⟨x,hx,rfl⟩:=List.mem_iff_getElem.1 ho;have b6:x<R':=by simpa [yV] using hx
  have e:(yV left.length R' (r9 f number))[x]=(yV left.length R' (r9 f number)).getD x 0:=by rw[az,bF hx];rfl
  rw[e];rcases Pn (n:=left.length) (N:=r9 f number) b6 with⟨j,h1,h2,h3⟩|⟨h3,_⟩<;>rw[h3]<;>omega
 ·rw[hg j GK];split<;>omega
 ·obtain⟨a,b,c,d⟩:=Of j GK h0;obtain⟨p,q⟩:=hf.to j GK _ c;rw[b,c7];refine⟨GK,?_,q⟩;rcases Pn (n:=left.length) (N:=r9 f number) p with⟨k,h1,h2,h3⟩|⟨_,h3⟩
  ·rw[h3];obtain⟨a',b',c',d'⟩:=Of k h1 GK;have:=hf.inj k j h1 GK _ _ c' c GK;rw[this,d]at d';omega
  ·exact absurd b (h3 j GK)
 ·rcases Pn (n:=left.length) (N:=r9 f number) hx with⟨k,h1,h2,h3⟩|⟨h3,_⟩
  ·rw[h3,c7];exact h2
  ·omega
 ·rw[on,on,hg i hi];split
  ·rw[decide_eq_false GK,decide_eq_false GK]
  ·rw[decide_eq_true GK,decide_eq_true GK]
section
variable {α:Type} [Inhabited α]
def wj(lt:α->α->Bool)(x:α)(l:List α):Nat->Nat
 |0=>0
 |k+1=>if lt x (l.getD k default)=true then wj lt x l k else k+1
def adW(lt:α->α->Bool)(x:α)(l:List α):∀ k,wj lt x l k<=k
 |0=>aY _
 |k+1=>by
  rw[wj];split
  ·have:=adW lt x l k;omega
  ·exact aY _
def Gu(lt:α->α->Bool)(x:α)(l:List α):List α:=l.take (wj lt x l l.length)++x::l.drop (wj lt x l l.length)
def B6(lt:α->α->Bool):List α->List α->List α
 |[],out=>out
 |x::r,out=>B6 lt r (Gu lt x out)
def Po(lt:α->α->Bool)(x:α)(l:List α):(Gu lt x l).Perm (x::l):=by
 unfold Gu;refine za.trans ?_;rw[List.take_append_drop]
def Pd(lt:α->α->Bool):∀ (l out:List α),(B6 lt l out).Perm (out++l)
 |[],out=>by rw[B6,List.append_nil]
 |x::r,out=>by
  rw[B6];refine(Pd lt r _).trans (((Po lt x out).append_right r).trans ?_);exact za.symm
def adX(lt:α->α->Bool)(x:α)(l:List α):∀ k,(∀ j,wj lt x l k<=j->j<k->lt x (l.getD j default)=true)/\(0<wj lt x l k->lt x (l.getD (wj lt x l k-1) default)=false)
 |0=>⟨λj h1 h2=>GK,λh=>by rw[wj]at h;omega⟩
 |k+1=>by
  obtain⟨a,b⟩:=adX lt x l k;rw[wj];split
  ·rename_i h;refine⟨λj h1 h2=>?_,b⟩;by_cases hj:j=k
   ·subst hj;exact h
   ·exact a j h1 GK
  ·rename_i h;exact⟨λj h1 h2=>GK,λ_=>by simpa using h⟩
structure J2(lt:α->α->Bool)(P:α->Prop):Prop where
 tr:∀ a b c,P a->P b->P c->lt a b=true->lt b c=true->lt a c=true
 kK:∀ a b,P a->P b->a≠b->lt a b=true\/lt b a=true
 ir:∀ a b,P a->P b->lt a b=true->lt b a=false
def anD{lt:α->α->Bool}{P:α->Prop}(ho:J2 lt P){x:α}{l:List α}(hl:l.Pairwise λa b=>lt a b=true)(hP:∀ y∈l,P y)(hx:P x)(hn:x ∉ l):(Gu lt x l).Pairwise λa b=>lt a b=true:=by
 obtain⟨a,b⟩:=adX lt x l l.length;have hp:=adW lt x l l.length;unfold Gu;generalize wj lt x l l.length=p at *;have hg:∀ j,j<l.length->l.getD j default∈l:=λj hj=>aF hj;have gd:∀ j (hj:j<l.length),l[j]=l.getD j default:=λj hj=>by rw[az,bF hj];rfl
 have xE:∀ i j,i<j->j<l.length->lt (l.getD i default) (l.getD j default)=true:=λi j h1 h2=>by
  rw[<- gd i GK,<- gd j h2];exact List.pairwise_iff_getElem.1 hl i j GK h2 h1
 have yF:∀ y∈l.take p,lt y x=true:=λy hy=>by
  obtain⟨i,hi,rfl⟩:=mZ hy;rw[List.length_take]at hi;rw[List.getElem_take,gd i GK];have h1:=b GK;have h2:l.getD (p-1) default∈l:=hg _ GK;have h3:lt (l.getD (p-1) default) x=true:=(ho.kK _ _ (hP _ h2) hx (λe=>hn (e▸h2))).resolve_right (by rw[h1];decide);by_cases hip:i=p-1
  ·subst hip;exact h3
  ·exact ho.tr _ _ _ (hP _ (hg _ GK)) (hP _ h2) hx (xE i (p-1) GK GK) h3
 have adY:∀ y∈l.drop p,lt x y=true:=λy hy=>by
  obtain⟨i,hi,rfl⟩:=mZ hy;rw[List.length_drop]at hi;rw[List.getElem_drop,gd _ GK];exact a _ GK GK
 rw[List.pairwise_append];refine⟨hl.sublist (List.take_sublist _ _),List.pairwise_cons.2 ⟨adY,hl.sublist (List.drop_sublist _ _)⟩,λy hy z hz=>?_⟩;rcases bw.1 hz with rfl|hz
 ·exact yF y hy
 ·exact ho.tr _ _ _ (hP _ (List.mem_of_mem_take hy)) hx (hP _ (List.mem_of_mem_drop hz)) (yF y hy) (adY z hz)
def adZ{lt:α->α->Bool}{P:α->Prop}(ho:J2 lt P):∀ (l out:List α),out.Pairwise (λa b=>lt a b=true)->(∀ y∈out,P y)->(∀ y∈l,P y)->(out++l).Nodup->(B6 lt l out).Pairwise λa b=>lt a b=true
 |[],out,h,_,_,_=>h
 |x::r,out,h,h1,h2,h3=>by
  rw[B6];have hp:(x::(out++r)).Nodup:=(za.nodup_iff).1 h3;rw[mX,cG,not_or]at hp;refine adZ ho r _ (anD ho h h1 (h2 x GM) hp.1.1) (λy hy=>?_) (λy hy=>h2 y (by simp[hy])) ?_
  ·rcases bw.1 ((Po lt x out).mem_iff.1 hy) with rfl|hy
   ·exact h2 _ GM
   ·exact h1 y hy
  ·refine((Po lt x out).append_right r).nodup_iff.2 ?_;rw[List.cons_append,mX,cG,not_or];exact hp
omit [Inhabited α] in
def ad0{lt:α->α->Bool}{P:α->Prop}(ho:J2 lt P):∀ (a b:List α),a.Pairwise (λx y=>lt x y=true)->b.Pairwise (λx y=>lt x y=true)->(∀ x∈a,P x)->(∀ x,x∈a↔x∈b)->a=b
 |[],b,_,_,_,h=>by
  cases b with
  |nil=>rfl
  |cons y b=>have:=(h y).2 GM;simp at this
 |x::a,[],_,_,_,h=>by have:=(h x).1 GM;simp at this
 |x::a,y::b,ha,hb,hP,h=>by
  rw[List.pairwise_cons]at ha hb;have Pp:P y:=hP y ((h y).2 GM);have hir:∀ z,P z->lt z z=true->False:=λz hz hh=>by have:=ho.ir z z hz hz hh;rw[hh]at this;cases this
  have ri:x=y:=by
   rcases bw.1 ((h x).1 GM) with e|h1
   ·exact e
   ·rcases bw.1 ((h y).2 GM) with e|h2
    ·exact e.symm
    ·have:=ho.ir _ _ (hP x GM) Pp (ha.1 y h2);rw[hb.1 x h1]at this;cases this
  subst ri;congr 1;refine ad0 ho a b ha.2 hb.2 (λz hz=>hP z (by simp[hz])) λz=>?_;constructor
  ·intro hz;rcases bw.1 ((h z).1 (by simp[hz])) with e|h1
   ·subst e;exact(hir _ Pp (ha.1 _ hz)).elim
   ·exact h1
  ·intro hz;rcases bw.1 ((h z).2 (by simp[hz])) with e|h1
   ·subst e;exact(hir _ Pp (hb.1 _ hz)).elim
   ·exact h1
end
def cX.one{P:Program}{f:FuncId}{args:List AV}{aa:List Ob}{res:AV}{bn:List Ob}(h:cX P f args aa (λr os=>r=res/\os=bn)):Holds P f args aa res bn:=by
 refine⟨h.1,λγ aP hs=>(h.2 γ aP hs).mono ?_⟩;rintro e w'⟨r,os,cv,aA,⟨rfl,rfl⟩,h1,h2,h3,h4,h5⟩;exact⟨cv,aA,h1,h2,h3,h4,h5⟩
def KN(W:WS):Prop:=(W.am.map (·.1)).Nodup
def ad2(k:List Int)(v:Int):∀ am:List (List Int×Int),(j9 k v am).map (·.1)=if k∈am.map (·.1) then am.map (·.1) else am.map (·.1)++[k]
 |[]=>rfl
 |p::r=>by
  have ih:=ad2 k v r;rw[j9];by_cases hp:p.1=k
  ·rw[if_pos hp,if_pos (by rw[ei,hp];exact List.mem_cons_self)];simp[hp]
  ·rw[if_neg hp,ei,ih,ei];by_cases hk:k∈r.map (·.1)
   ·rw[if_pos hk,if_pos (dR _ hk)]
   ·rw[if_neg hk,if_neg (by rw[bw,not_or];exact⟨λe=>hp e.symm,hk⟩)];rfl
def anF{k:List Int}{v:Int}{am:List (List Int×Int)}(h:(am.map (·.1)).Nodup):((j9 k v am).map (·.1)).Nodup:=by
 rw[ad2];split
 ·exact h
 ·rename_i hk;exact List.nodup_append.2 ⟨h,GM,λa ha b hb=>by simp only[List.mem_singleton]at hb;subst hb;exact λe=>hk (e▸ha)⟩
section
variable {m:ah} {can:List (List Bool)}
def Pq{Q:WS->Prop}(h:∀ W p s o amt,Q W->Q (qD m W p s o amt))(W:WS)(hW:Q W)(p s:Nat):∀ i,Q (lN m can W p s i)
 |0=>hW
 |i+1=>by
  rw[lN];split
  ·exact h _ _ _ _ _ (Pq h W hW p s i)
  ·exact Pq h W hW p s i
def Ps{Q:WS->Prop}(h:∀ W p s o amt,Q W->Q (qD m W p s o amt))(W:WS)(hW:Q W)(p s:Nat):∀ i,Q (jS m can W p s i)
 |0=>hW
 |i+1=>by
  rw[jS];split
  ·exact h _ _ _ _ _ (Ps h W hW p s i)
  ·exact Ps h W hW p s i
def anG{Q:WS->Prop}(h:∀ W p s o amt,Q W->Q (qD m W p s o amt))(W:WS)(hW:Q W)(p s:Nat):Q (Bs m can W p s):=Ps h _ (Pq h W hW p s _) p s _
def ad3{α β:Type}{Q:α->Prop}{f:α->β->α}(h:∀ a b,Q a->Q (f a b)):∀ (l:List β) (a:α),Q a->Q (l.foldl f a)
 |[],a,ha=>ha
 |b::l,a,ha=>ad3 h l _ (h a b ha)
def ad4{Q:WS->Prop}(h:∀ W p s o amt,Q W->Q (qD m W p s o amt))(cT:List (List Int)):∀ (f:Nat) (st:WS×List Bool) (c:Nat),Q st.1->Q (jm m can cT f st c).1
 |0,st,c,hs=>hs
 |f+1,st,c,hs=>by
  have hk:∀ (st:WS×List Bool) (p s:Nat),Q st.1->Q (Bt m can (jm m can cT f) st p s).1:=λst p s hs=>by
   unfold Bt;split
   ·exact hs
   ·exact anG h _ (ad4 h cT f _ _ hs) p s
  rw[jm];exact ad3 (Q:=λa:WS×List Bool=>Q a.1) (λa b ha=>hk _ _ _ (hk _ _ _ ha)) _ _ hs
def Pt{Q:WS->Prop}(h:∀ W p s o amt,Q W->Q (qD m W p s o amt))(cT:List (List Int))(st:WS×List Bool)(hs:Q st.1):∀ c,Q (mS m can cT st c).1
 |0=>hs
 |c+1=>by
  rw[mS];split
  ·exact Pt h cT st hs c
  ·exact ad4 h cT _ _ _ (Pt h cT st hs c)
def anH{Q:WS->Prop}(h:∀ W p s o amt,Q W->Q (qD m W p s o amt))(W:WS)(hW:Q W)(r:Nat):Q (qE m can W r):=Pt h _ _ hW _
def ani(W:WS)(hW:KN W)(r:Nat):KN (qE m can W r):=anH (λW p s o amt h=>anF h) W hW r
end
def wg(l:List Mv):List Mv:=B6 (Go.Proofs.ltOf uS) l []
def anI:∀ {am:List (List Int×Int)},(am.map (·.1)).Nodup->(∀ q∈am,∃ p s o:Int,q.1=[p,s,o])->∀ {x y:Mv},x∈kU am->y∈kU am->x.pair=y.pair->x.side=y.side->x.opt=y.opt->x=y:=by
 intro am hn hk x y hx hy h1 h2 h3;unfold kU at hx hy;obtain⟨q,hq,rfl⟩:=bW.1 hx;obtain⟨r,hr,rfl⟩:=bW.1 hy;have hq:=(Av.1 hq).1;have hr:=(Av.1 hr).1;obtain⟨a,b,c,e1⟩:=hk q hq;obtain⟨a',b',c',e2⟩:=hk r hr;unfold BY at h1 h2 h3;rw[e1,e2]at h1 h2 h3;change a=a' at h1;change b=b' at h2;change c=c' at h3;have e3:q.1=r.1:=by rw[e1,e2,h1,h2,h3]
 have e4:q=r:=by
  obtain⟨i,hi,rfl⟩:=mZ hq;obtain⟨j,hj,rfl⟩:=mZ hr;have:=(List.getElem_inj (h₀:=by simpa using hi) (h₁:=by simpa using hj) hn).1 (by rw[D1,D1];exact e3);subst this;rfl
 rw[e4]
def ad5:∀ {am:List (List Int×Int)},(am.map (·.1)).Nodup->(∀ q∈am,∃ p s o:Int,q.1=[p,s,o])->(kU am).Nodup
 |[],_,_=>List.nodup_nil
 |q::r,hn,hk=>by
  rw[ei,mX]at hn;have ih:=ad5 hn.2 (λx hx=>hk x (dR _ hx));unfold kU at ih ⊢;rw[List.filter_cons];split
  ·rw[ei,mX];refine⟨λhm=>?_,ih⟩;obtain⟨t,ht,e⟩:=bW.1 hm;have ht:=(Av.1 ht).1;obtain⟨a,b,c,e1⟩:=hk q GM;obtain⟨a',b',c',e2⟩:=hk t (by simp[ht]);unfold BY at e;rw[e1,e2,Mv.mk.injEq]at e;have e:=(show a'=a/\b'=b/\c'=c/\t.2=q.2 from e);exact hn.1 (bW.2 ⟨t,ht,by rw[e1,e2,e.1,e.2.1,e.2.2.1]⟩)
  ·exact ih
def am'{am:List (List Int×Int)}(hn:(am.map (·.1)).Nodup)(hk:∀ q∈am,∃ p s o:Int,q.1=[p,s,o]){Y:List Mv}(hY:Y.Perm (kU am))(hs:Y.Pairwise λa b=>Go.Proofs.ltOf uS b a=false):Y=wg (kU am):=by
 have bV:=ad5 hn hk;have ho:J2 (Go.Proofs.ltOf uS) (·∈kU am):={
  tr:=λa b c _ _ _=>by rw[rX,rX,rX];omega
  kK:=λa b ha hb ju=>by
   rw[rX,rX];refine Classical.byContradiction λh=>ju (anI hn hk ha hb ?_ ?_ ?_)<;>omega
  ir:=λa b _ _=>by rw[<- Bool.not_eq_true,rX,rX];omega }
 have hYn:Y.Nodup:=hY.nodup_iff.2 bV;refine ad0 ho _ _ ?_ (adZ ho _ [] .nil GM (λx hx=>hx) (by simpa using bV)) (λx hx=>hY.mem_iff.1 hx) λx=>(hY.mem_iff).trans (by unfold wg;exact((Pd _ (kU am) []).mem_iff).symm);refine(hs.and hYn).imp_of_mem λ{a b} ha hb h=>?_;rcases ho.kK a b (hY.mem_iff.1 ha) (hY.mem_iff.1 hb) h.2 with h1|h1
 ·exact h1
 ·rw[h.1]at h1;cases h1
section
variable (m:ah) (left:List (List Bool))
def Al:Nat->Nat->List Mv->WS->List Mv
 |0,_,X,_=>X
 |n+1,k,X,V =>
  if(b8 m left X).1=1099511627776 then X
  else if(b8 m left (wg (kU (qE m (eh m left m.cls.length) V k).am))).2≠0\/((b8 m left (wg (kU (qE m (eh m left m.cls.length) V k).am))).1<=(b8 m left X).1/\0<k) then X
  else Al n (k+1) (if(b8 m left X).1<(b8 m left (wg (kU (qE m (eh m left m.cls.length) V k).am))).1 then wg (kU (qE m (eh m left m.cls.length) V k).am) else X) (qE m (eh m left m.cls.length) V k)
def oc(rounds:Int):List Mv:=Al m left rounds.toNat 0 [] (W0 m)
end
section
variable {m:ah} {left:List (List Bool)}
def Pu:∀ (n k:Nat) (X:List Mv) (V:WS),(b8 m left X).2=0->(b8 m left (Al m left n k X V)).2=0/\(b8 m left X).1<=(b8 m left (Al m left n k X V)).1
 |0,k,X,V,h=>⟨h,mY _⟩
 |n+1,k,X,V,h=>by
  rw[Al];split
  ·exact⟨h,mY _⟩
  ·split
   ·exact⟨h,mY _⟩
   ·rename_i h1 h2;rw[not_or,Classical.not_not]at h2;by_cases h3:(b8 m left X).1<(b8 m left (wg (kU (qE m (eh m left m.cls.length) V k).am))).1
    ·rw[if_pos h3];have:=Pu n (k+1) _ (qE m (eh m left m.cls.length) V k) h2.1;exact⟨this.1,GK⟩
    ·rw[if_neg h3];exact Pu n (k+1) _ _ h
def Tb(rounds:Int)(h:(b8 m left []).2=0):(b8 m left (oc m left rounds)).2=0/\(b8 m left []).1<=(b8 m left (oc m left rounds)).1:=Pu _ _ _ _ h
end
end T

