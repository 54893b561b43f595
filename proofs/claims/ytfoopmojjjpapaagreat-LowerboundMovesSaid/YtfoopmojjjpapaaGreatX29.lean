import Derived.Test.YtfoopmojjjpapaaGreatX28
set_option linter.all false
set_option maxHeartbeats 0
set_option maxRecDepth 20000
open Nat renaming lt_or_ge→dE,strongRecOn→Iq,le_refl→bc
open List renaming getD_eq_getElem?_getD→aB,getElem?_eq_none→gk,mem_map→b8,getElem?_set→bY,replicate→aJ,mem_cons→bj,range→bn,getElem?_map→b9,getElem?_eq_getElem→bT,mem_range→oV,perm_middle→xI,getElem_of_mem→qW,nodup_cons→nr,mem_append→cB,map_cons→fW,mem_cons_of_mem→dS,mem_filter→yT,getElem_map→Cs
open Int renaming toNat_natCast→ep,le_refl→nt
open Bool renaming and_eq_true→aZ,true_and→iu
open Go Go.Am
namespace T
def nK(m:ah)(left:List (List Bool))(rounds:Int):Int:=if kn m left≠0 then kn m left else if rounds<0\/64<rounds then 3 else 0
def GO(m:ah)(left:List (List Bool)):bQ m left []=if kn m left≠0 then(0,kn m left) else(lq m left (S0 m,T0 m),0):=by
 unfold bQ iO;split
 ·rfl
 ·rw[if_neg Iw,if_neg Iw];rfl
def aln(m:ah)(left:List (List Bool)):WS:=pK m (dP m left m.cls.length) (W0 m) 0
structure MvP(m:ah)(left:List (List Bool))(rounds:Int)(X:List Mv):Prop where
 ok:(bQ m left X).2=0
 ge:(bQ m left []).1<=(bQ m left X).1
 fir:1<=rounds->(bQ m left []).1≠1099511627776->∃ Y:List Mv,Y.Perm (kf (aln m left).am)/\((bQ m left Y).2=0->(bQ m left Y).1<=(bQ m left X).1)
def alf{m:ah}:mF m (W0 m):=by
 refine⟨by simp[W0],by simp[W0],λi hi=>?_,λj hj=>?_,λq hq=>by cases hq⟩
 ·unfold W0;dsimp only;rw[iX _ _ _ hi];simp[bV,cF]
 ·unfold W0;dsimp only;rw[iX _ _ _ hj];rfl
def alg{m:ah}(hm:VM m):WB 1099511627776 (W0 m):=by
 have key:∀ (l:List (List Int)),(∀ r∈l,∀ x∈r,-1099511627776<=x/\x<=1099511627776)->∀ a b,-1099511627776<=(l.getD a default).getD b 0/\(l.getD a default).getD b 0<=1099511627776:=λl hl a b=>by
  rcases dE a l.length with h1|h1
  ·have h2:=hl _ (aG (l:=l) (i:=a) (d:=default) h1);rcases dE b (l.getD a default).length with h3|h3
   ·exact h2 _ (aG h3)
   ·rw[aB,gk h3];decide
  ·have e:l.getD a default=default:=by rw[aB,gk h1];rfl
   rw[e];show -1099511627776<=(0:Int)/\(0:Int)<=1099511627776;decide
 refine⟨λc o=>?_,λp j=>?_,λk=>by show -268435456<=(0:Int)/\(0:Int)<=268435456;decide,by show 12884901888*((0:Nat):Int)<=1099511627776;decide⟩
 ·refine key (m.cls.map bV) (λr hr x hx=>?_) c o;obtain⟨l,hl,rfl⟩:=b8.1 hr;obtain⟨o,ho,rfl⟩:=b8.1 hx;have:=Dt (hm.ry l hl o ho);unfold bM at this;omega
 ·refine key (m.ae.map (·.ax)) (λr hr x hx=>?_) p j;obtain⟨q,hq,rfl⟩:=b8.1 hr;have:=GK (jQ hm.pr q hq) x hx;unfold bM at this;omega
def EJ{α:Type}(l:List α)(i j:Nat)(v d:α)(h:i<l.length):(l.set i v).getD j d=if j=i then v else l.getD j d:=by
 simp only[aB,bY];by_cases wg:j=i
 ·subst wg;simp[h]
 ·simp[wg,Ne.symm wg]
def mH{α:Type}(l:List α)(i j:Nat)(v d:α)(h:j≠i):(l.set i v).getD j d=l.getD j d:=by
 simp only[aB,bY];simp[Ne.symm h]
def wm{α:Type}(l:List α)(i:Nat)(v d:α)(h:i<l.length):(l.set i v).getD i d=v:=by
 rw[EJ _ _ _ _ _ h];simp
def abR{α:Type}(n j:Nat)(v:α):(aJ n v).getD j v=v:=by
 simp only[aB,List.getElem?_replicate];split<;>rfl
structure AB(left:List (List Int))(R:Nat)(owner number:List Int):Prop where
 hO:w5 left.length R owner
 hN:number.length=left.length
 qu:∀ j,j<left.length->-1<=number.getD j 0
 fwd:∀ j,j<left.length->0<=number.getD j 0->number.getD j 0<R/\owner.getD (number.getD j 0).toNat 0=j/\number.getD j 0∈left.getD j []
 bwd:∀ x,x<R->0<=owner.getD x 0->number.getD (owner.getD x 0).toNat 0=x
structure MEx(left:List (List Int))(R:Nat)(xs:List Int)(i:Nat)(seen:List Bool)(owner number wo tI:List Int):Prop where
 hO:w5 left.length R wo
 hN:tI.length=left.length
 qu:∀ j,j<left.length->-1<=tI.getD j 0
 fwd:∀ j,j<left.length->j≠i->0<=tI.getD j 0->tI.getD j 0<R/\wo.getD (tI.getD j 0).toNat 0=j/\tI.getD j 0∈left.getD j []
 bwd:∀ x,x<R->0<=wo.getD x 0->wo.getD x 0≠i->tI.getD (wo.getD x 0).toNat 0=x
 me :∃y,y<R/\tI.getD i 0=(y:Nat)/\wo.getD y 0=i/\(y:Int)∈xs/\seen.getD y false=false/\∀ x,x<R->wo.getD x 0=i->x=y\/seen.getD x false=true
 dV:∀ x,x<R->seen.getD x false=true->wo.getD x 0=owner.getD x 0
 same:∀ j,j<left.length->j≠i->(number.getD j 0<0\/∃ x,x<R/\number.getD j 0=(x:Nat)/\seen.getD x false=true)->tI.getD j 0=number.getD j 0
 pos:∀ j,j<left.length->j≠i->(0<=tI.getD j 0↔0<=number.getD j 0)
structure alp(left:List (List Int))(R:Nat)(xs:List Int)(seen:List Bool)(owner number:List Int)(Nq:List Bool)(wo tI:List Int):Prop where
 eo:wo=owner
 en:tI=number
 all:∀ x∈xs,Nq.getD x.toNat false=true
 cl:∀ x,x<R->Nq.getD x false=true->seen.getD x false=true\/(0<=owner.getD x 0/\∀ y∈left.getD (owner.getD x 0).toNat [],Nq.getD y.toNat false=true)
def alq{left:List (List Int)}{R:Nat}(hL:zM R left):∀ (f:Nat) (xs:List Int) (i:Nat) (seen:List Bool) (owner number:List Int),yn seen<=f->seen.length=R->(∀ x∈xs,0<=x/\x<R)->i<left.length->AB left R owner number ->
  (∀ x,x<R->owner.getD x 0=i->seen.getD x false=true)->∀ q,rA left f xs i seen owner number=q ->
   (q.1=true->MEx left R xs i seen owner number q.2.2.1 q.2.2.2)/\(q.1=false->alp left R xs seen owner number q.2.1 q.2.2.1 q.2.2.2)/\(∀ x,seen.getD x false=true->q.2.1.getD x false=true)/\q.2.1.length=R/\yn q.2.1<=yn seen:=by
 intro f
 induction f using Iq with
 |_ f Nr =>
  intro xs
  induction xs with
  |nil =>
   intro i seen owner number hc hs hx hi hM h3 q hq;rw[rA.eq_def]at hq;subst hq;exact⟨Iw,λ_=>⟨rfl,rfl,Iw,λx _ h=>.inl h⟩,λ_ h=>h,hs,bc _⟩
  |cons x r ih =>
   intro i seen owner number hc hs hx hi hM h3 q hq;obtain⟨hx0,hxR⟩:=hx x Iw;have hr:∀ x∈r,0<=x/\x<R:=λy hy=>hx y (by simp[hy]);obtain⟨n,rfl⟩:∃n:Nat,x=n:=⟨x.toNat,Iv⟩;rw[rA.eq_def]at hq;simp only[ep]at hq;have yS:n<R:=Iv;have qc:n<owner.length:=by rw[hM.hO.1];exact yS
   have eP:i<number.length:=by rw[hM.hN];exact hi
   by_cases eO:seen.getD n false=true
   ·rw[if_pos eO]at hq;obtain⟨a,b,c,d,e⟩:=ih i seen owner number hc hs hr hi hM h3 q hq;refine⟨λh=>?_,λh=>?_,c,d,e⟩
    ·obtain⟨y,y1,y2,y3,y4,y5,y6⟩:=(a h).me;exact { a h with me:=⟨y,y1,y2,y3,by simp[y4],y5,y6⟩ }
    ·refine { b h with all:=λy hy=>?_ };rcases bj.1 hy with rfl|hy
     ·simpa using c n eO
     ·exact(b h).all y hy
   ·have Ns:seen.getD n false=false:=by simpa using eO
    rw[if_neg eO]at hq;have iH:=afp seen n Iv Ns;have hog:=hM.hO.get yS;have wq:∀ x,seen.getD x false=true->(seen.set n true).getD x false=true:=λx hx=>by
     rw[EJ _ _ _ _ _ Iv];split<;>simp_all
    by_cases nX:owner.getD n 0<0
    ·rw[if_pos nX]at hq;subst hq;refine⟨λ_=>?_,Iw,wq,by simpa using hs,NN⟩;dsimp only;refine⟨hM.hO.set hi,by simpa using hM.hN,?_,?_,?_,⟨n,yS,wm _ _ _ _ eP,wm _ _ _ _ qc,Iw,Ns,?_⟩,?_,?_,?_⟩
     ·intro j hj;rw[EJ _ _ _ _ _ eP];split
      ·omega
      ·exact hM.qu j hj
     ·intro j hj hZ h0;rw[mH _ _ _ _ _ hZ]at h0 ⊢;obtain⟨a,b,c⟩:=hM.fwd j hj h0;refine⟨a,?_,c⟩;rw[mH]
      ·exact b
      ·intro e;rw[e]at b;omega
     ·intro y hy h0 cz;by_cases xz:y=n
      ·subst xz;rw[wm _ _ _ _ qc]at cz;exact absurd rfl cz
      ·rw[mH _ _ _ _ _ xz]at h0 cz ⊢;rw[mH]
       ·exact hM.bwd y hy h0
       ·omega
     ·intro y hy he;by_cases xz:y=n
      ·exact .inl xz
      ·rw[mH _ _ _ _ _ xz]at he;exact .inr (h3 y hy he)
     ·intro y hy Ik;rw[mH];intro e;subst e;simp_all
     ·intro j hj hZ _;exact mH _ _ _ _ _ hZ
     ·intro j hj hZ;rw[mH _ _ _ _ _ hZ]
    ·rw[if_neg nX]at hq;obtain⟨f',rfl⟩:∃f',f=f'+1:=⟨f-1,Iv⟩;simp only at hq;obtain⟨o,ho⟩:∃o:Nat,owner.getD n 0=o:=⟨(owner.getD n 0).toNat,Iv⟩;rw[ho]at hq;simp only[ep]at hq;have mV:o<left.length:=Iv;have Nt:number.getD o 0=n:=by
      have:=hM.bwd n yS Iv;rwa [ho,ep]at this
     have oM:o≠i:=by
      intro e;subst e;have:=h3 n yS ho;simp_all
     have MX:∀ x,x<R->owner.getD x 0=o->(seen.set n true).getD x false=true:=by
      intro y hy he;have:=hM.bwd y hy Iv;rw[he,ep,Nt]at this;have:y=n:=Iv;subst this;exact wm _ _ _ _ Iv
     have hp:=Nr f' Iv (left.getD o []) o (seen.set n true) owner number Iv (by simpa using hs) (hL.get _).2 mV hM MX _ rfl;generalize rA left f' (left.getD o []) o (seen.set n true) owner number=p at hp hq;obtain⟨p1,p2,p3,p4,p5⟩:=hp;by_cases oO:p.1=true
     ·rw[if_pos oO]at hq;subst hq;have hE:=p1 oO;obtain⟨pb,ps,po,pn⟩:=p;dsimp only at hE p3 p4 p5 ⊢;obtain⟨y,y1,y2,y3,y4,y5,y6⟩:=hE.me;have hpo:n<po.length:=by rw[hE.hO.1];exact yS
      have EK:i<pn.length:=by rw[hE.hN];exact hi
      have Cg:po.getD n 0=o:=by rw[hE.dV n yS (wm _ _ _ _ Iv),ho]
      have xz:y≠n:=by
       intro e;subst e;rw[wm _ _ _ _ Iv]at y5;simp at y5
      have alr:pn.getD i 0=number.getD i 0:=by
       refine hE.same i hi (Ne.symm oM) ?_;by_cases h0:number.getD i 0<0
       ·exact .inl h0
       ·right;obtain⟨a,b,c⟩:=hM.fwd i hi Iv;exact⟨(number.getD i 0).toNat,Iv,Iv,wq _ (h3 _ Iv b)⟩
      refine⟨λ_=>⟨hE.hO.set hi,by simpa using hE.hN,?_,?_,?_,⟨n,yS,wm _ _ _ _ EK,wm _ _ _ _ hpo,Iw,Ns,?_⟩,?_,?_,?_⟩,Iw,λx h=>p3 x (wq x h),p4,Iv⟩
      ·intro j hj;rw[EJ _ _ _ _ _ EK];split
       ·omega
       ·exact hE.qu j hj
      ·intro j hj hZ h0;rw[mH _ _ _ _ _ hZ]at h0 ⊢;by_cases AD:j=o
       ·subst AD;rw[y2];refine⟨Iv,?_,y4⟩;rw[ep,mH _ _ _ _ _ xz];exact y3
       ·obtain⟨a,b,c⟩:=hE.fwd j hj AD h0;refine⟨a,?_,c⟩;rw[mH]
        ·exact b
        ·intro e;rw[e,Cg]at b;omega
      ·intro z hz h0 cz;by_cases AE:z=n
       ·subst AE;rw[wm _ _ _ _ hpo]at cz;exact absurd rfl cz
       ·rw[mH _ _ _ _ _ AE]at h0 cz ⊢;rw[mH _ _ _ _ _ Iv];by_cases Il:po.getD z 0=o
        ·rcases y6 z hz Il with rfl|aN
         ·rw[Il,ep,y2]
         ·have:=hE.dV z hz aN;rw[Il]at this;have hb:=hM.bwd z hz Iv;rw[<- this,ep,Nt]at hb;omega
        ·exact hE.bwd z hz h0 Il
      ·intro z hz he;by_cases AE:z=n
       ·exact .inl AE
       ·right;rw[mH _ _ _ _ _ AE]at he;have hb:=hE.bwd z hz Iv Iv;rw[he,ep,alr]at hb;obtain⟨a,b,c⟩:=hM.fwd i hi Iv;rw[hb,ep]at b;exact h3 z hz b
      ·intro z hz aN;have AE:z≠n:=by intro e;subst e;simp_all
       rw[mH _ _ _ _ _ AE];exact hE.dV z hz (wq z aN)
      ·intro j hj hZ xA;rw[mH _ _ _ _ _ hZ];have AD:j≠o:=by
        intro e;subst e;rcases xA with h|⟨z,hz,wQ,zX⟩
        ·omega
        ·have:z=n:=Iv;subst this;simp_all
       refine hE.same j hj AD ?_;rcases xA with h|⟨z,hz,wQ,zX⟩
       ·exact .inl h
       ·exact .inr ⟨z,hz,wQ,wq z zX⟩
      ·intro j hj hZ;rw[mH _ _ _ _ _ hZ];by_cases AD:j=o
       ·subst AD;rw[y2,Nt];omega
       ·exact hE.pos j hj AD
     ·rw[if_neg oO]at hq;have hF:=p2 (by simpa using oO);obtain⟨pb,ps,po,pn⟩:=p;dsimp only at hF p3 p4 p5 hq;obtain⟨rfl,rfl,B4,Eg⟩:=hF;obtain⟨a,b,c,d,e⟩:=ih i ps po pn Iv p4 hr hi hM (λx hx h=>p3 x (wq x (h3 x hx h))) q hq;refine⟨λh=>?_,λh=>?_,λx h=>c x (p3 x (wq x h)),d,Iv⟩
      ·have hE:=a h;obtain⟨y,y1,y2,y3,y4,y5,y6⟩:=hE.me;refine⟨hE.hO,hE.hN,hE.qu,hE.fwd,hE.bwd,⟨y,y1,y2,y3,by simp[y4],?_,?_⟩,λz hz h=>hE.dV z hz (p3 z (wq z h)),?_,hE.pos⟩
       ·cases Ik:seen.getD y false with
        |false=>rfl
        |true=>rw[p3 y (wq y Ik)]at y5;simp at y5
       ·intro z hz he;rcases y6 z hz he with h|h
        ·exact .inl h
        ·right;have hk:=hE.dV z hz h;rw[he]at hk;exact h3 z hz hk.symm
       ·intro j hj hZ xA;refine hE.same j hj hZ ?_;rcases xA with h|⟨z,hz,wQ,zX⟩
        ·exact .inl h
        ·exact .inr ⟨z,hz,wQ,p3 z (wq z zX)⟩
      ·have hG:=b h;refine⟨hG.eo,hG.en,λy hy=>?_,λy hy Ik=>?_⟩
       ·rcases bj.1 hy with rfl|hy
        ·rw[ep];exact c n (p3 n (wm _ _ _ _ Iv))
        ·exact hG.all y hy
       ·rcases hG.cl y hy Ik with h'|h'
        ·rcases Eg y hy h' with uB|uB
         ·rw[EJ _ _ _ _ _ Iv]at uB;split at uB
          ·rename_i xz;subst xz;right;refine⟨Iv,?_⟩;rw[ho,ep];intro z hz;exact c _ (B4 z hz)
          ·exact .inl uB
         ·exact .inr ⟨uB.1,λz hz=>c _ (uB.2 z hz)⟩
        ·exact .inr h'
def Im(left:List (List Int))(R:Nat)(D:Nat->Prop)(owner:List Int):Prop:=∀ x,x<R->D x->0<=owner.getD x 0/\∀ y∈left.getD (owner.getD x 0).toNat [],D y.toNat
def als{left:List (List Int)}{R:Nat}(hL:zM R left){D:Nat->Prop}:∀ (f:Nat) (xs:List Int) (i:Nat) (seen:List Bool) (owner number:List Int),(∀ x∈xs,0<=x/\x<R)->Im left R D owner ->
  ((∀ x∈xs,D x.toNat)->(rA left f xs i seen owner number).1=false)/\∀ x,x<R->D x->(rA left f xs i seen owner number).2.2.1.getD x 0=owner.getD x 0:=by
 intro f
 induction f using Iq with
 |_ f Nr =>
  intro xs
  induction xs with
  |nil=>intro i seen owner number _ hC;rw[rA.eq_def];exact⟨λ_=>rfl,λ_ _ _=>rfl⟩
  |cons x r ih =>
   intro i seen owner number hx hC;have hr:∀ x∈r,0<=x/\x<R:=λy hy=>hx y (by simp[hy]);have hx1:=hx x Iw;rw[rA.eq_def];simp only;split
   ·obtain⟨a,b⟩:=ih i seen owner number hr hC;exact⟨λh=>a λy hy=>h y (by simp[hy]),b⟩
   ·split
    ·rename_i h1 h2;refine⟨λh=>?_,λy hy hD=>?_⟩
     ·have:=(hC x.toNat Iv (h x Iw)).1;omega
     ·rw[mH];intro e;subst e;have:=(hC _ hy hD).1;omega
    ·cases f with
     |zero=>exact⟨λ_=>rfl,λ_ _ _=>rfl⟩
     |succ f' =>
      obtain⟨a,b⟩:=Nr f' Iv (left.getD (owner.getD x.toNat 0).toNat []) (owner.getD x.toNat 0).toNat (seen.set x.toNat true) owner number (hL.get _).2 hC;simp only;generalize rA left f' (left.getD (owner.getD x.toNat 0).toNat []) (owner.getD x.toNat 0).toNat (seen.set x.toNat true) owner number=p at a b ⊢;have hC':Im left R D p.2.2.1:=by
       intro y hy hD;rw[b y hy hD];exact hC y hy hD
      split
      ·rename_i hp;refine⟨λh=>?_,λy hy hD=>?_⟩
       ·have:=a (hC x.toNat Iv (h x Iw)).2;simp_all
       ·dsimp only;rw[mH]
        ·exact b y hy hD
        ·intro e;subst e;have:=a (hC _ hy hD).2;simp_all
      ·obtain⟨c,d⟩:=ih i p.2.1 p.2.2.1 p.2.2.2 hr hC';exact⟨λh=>c λy hy=>h y (by simp[hy]),λy hy hD=>(d y hy hD).trans (b y hy hD)⟩
def cn(n:Nat)(p:Nat->Bool):Nat:=(bn n).countP p
def alv(p:Nat->Bool):cn 0 p=0:=rfl
def wu(n:Nat)(p:Nat->Bool):cn (n+1) p=cn n p+(if p n=true then 1 else 0):=by
 simp only[cn,List.range_succ,List.countP_append,List.countP_cons,List.countP_nil,Nat.zero_add]
def abT{n:Nat}{p q:Nat->Bool}(h:∀ i,i<n->p i=q i):cn n p=cn n q:=by
 induction n with
 |zero=>rfl
 |succ n ih=>rw[wu,wu,ih λi hi=>h i Iv,h n Iv]
def alw{n:Nat}{p q:Nat->Bool}(h:∀ i,i<n->p i=true->q i=true):cn n p<=cn n q:=by
 induction n with
 |zero=>exact bc _
 |succ n ih =>
  rw[wu,wu];have:=ih λi hi=>h i Iv;have:=h n Iv;split<;>split<;>simp_all<;>omega
def alx(n:Nat)(p q:Nat->Bool):cn n p=cn n (λi=>p i&&q i)+cn n (λi=>p i&&!q i):=by
 induction n with
 |zero=>rfl
 |succ n ih =>
  rw[wu,wu,wu,ih];cases p n<;>cases q n<;>simp<;>omega
def abU{n:Nat}{p q:Nat->Bool}(k:Nat)(hk:k<n)(h:∀ i,i<n->i≠k->p i=q i)(hp:p k=true)(hq:q k=false):cn n p=cn n q+1:=by
 induction n with
 |zero=>omega
 |succ n ih =>
  rw[wu,wu];by_cases AA:k=n
  ·subst AA;rw[abT (p:=p) (q:=q) λi hi=>h i Iv Iv,hp,hq];rfl
  ·rw[ih Iv λi hi=>h i Iv,h n Iv (Ne.symm AA)];omega
def abV{n m:Nat}{p q:Nat->Bool}(f:Nat->Nat)(h1:∀ i,i<n->p i=true->f i<m/\q (f i)=true)(h2:∀ i j,i<n->j<n->p i=true->p j=true->f i=f j->i=j):cn n p<=cn m q:=by
 induction n generalizing q with
 |zero=>simp[alv]
 |succ n ih =>
  rw[wu];split
  ·rename_i hp;obtain⟨a,b⟩:=h1 n Iv hp;have e:=abU (n:=m) (p:=q) (q:=λx=>q x&&!decide (x=f n)) (f n) a (λi _ hi=>by simp[hi]) b Iw;have:=ih (q:=λx=>q x&&!decide (x=f n)) (λi hi EK=>by
    obtain⟨c,d⟩:=h1 i Iv EK;refine⟨c,?_⟩;have:f i≠f n:=λe=>by have:=h2 i n Iv Iv EK hp e;omega
    simp[d,this]) (λi j hi hj=>h2 i j Iv Iv)
   omega
  ·exact ih (λi hi=>h1 i Iv) (λi j hi hj=>h2 i j Iv Iv)
def on(number:List Int)(i:Nat):Bool:=decide (0<=number.getD i 0)
structure Inv(left:List (List Int))(R:Nat)(w:Int)(i:Nat)(owner number:List Int)(D:Nat->Prop):Prop where
 ok:AB left R owner number
 rest:∀ j,j<left.length->(i<=j\/(j:Int)=w)->number.getD j 0 = -1
 cl:Im left R D owner
 dead:∀ j,j<i->j<left.length->(j:Int)≠w->number.getD j 0<0->∀ y∈left.getD j [],D y.toNat
def Inv.step{left:List (List Int)}{R:Nat}(hL:zM R left){w:Int}{i:Nat}{owner number:List Int}{D:Nat->Prop}(h:Inv left R w i owner number D)(hi:i<left.length)(hw:(i:Int)≠w):
  ∀ q,rA left R (left.getD i []) i (aJ R false) owner number=q->(∃ D',Inv left R w (i+1) q.2.2.1 q.2.2.2 D')/\cn left.length (on q.2.2.2)=cn left.length (on number)+(if q.1=true then 1 else 0):=by
 intro q hq;have vh:=h.rest i hi (.inl (bc _));have h3:∀ x,x<R->owner.getD x 0=i->(aJ R false).getD x false=true:=by
  intro x hx he;have:=h.ok.bwd x hx Iv;rw[he,ep,vh]at this;omega
 obtain⟨a,b,c,d,e⟩:=alq hL R (left.getD i []) i (aJ R false) owner number (by rw[afq];exact bc _) Iw (hL.get _).2 hi h.ok h3 q hq;obtain⟨_,g⟩:=als hL (D:=D) R (left.getD i []) i (aJ R false) owner number (hL.get _).2 h.cl;rw[hq]at g;have bG:Im left R D q.2.2.1:=by
  intro y hy hD;rw[g y hy hD];exact h.cl y hy hD
 cases hb:q.1 with
 |true =>
  have hE:=a hb;obtain⟨y,y1,y2,y3,y4,y5,y6⟩:=hE.me;refine⟨⟨D,⟨hE.hO,hE.hN,hE.qu,?_,?_⟩,?_,bG,?_⟩,?_⟩
  ·intro j hj h0;by_cases hZ:j=i
   ·subst hZ;rw[y2,ep];exact⟨Iv,y3,y4⟩
   ·exact hE.fwd j hj hZ h0
  ·intro x hx h0;by_cases Nu:q.2.2.1.getD x 0=i
   ·rcases y6 x hx Nu with rfl|h'
    ·rw[Nu,ep,y2]
    ·rw[abR]at h';simp at h'
   ·exact hE.bwd x hx h0 Nu
  ·intro j hj xA;have hZ:j≠i:=by rcases xA with h|h<;>omega
   have hr:=h.rest j hj (by rcases xA with h|h<;>omega);have:=hE.pos j hj hZ;have:=hE.qu j hj;omega
  ·intro j hj gA Nv h0 z hz;have hZ:j≠i:=by intro e;subst e;omega
   have:=hE.pos j gA hZ;exact h.dead j Iv gA Nv Iv z hz
  ·rw[if_pos rfl];refine abU i hi (λj hj hZ=>?_) ?_ ?_
   ·have:=hE.pos j hj hZ;simp only[on,this]
   ·rw[on,y2];exact decide_eq_true Iv
   ·simp only[on,vh];rfl
 |false =>
  have hF:=b hb;rw[hF.eo,hF.en];refine⟨⟨λx=>D x\/q.2.1.getD x false=true,h.ok,λj hj xA=>h.rest j hj (by rcases xA with h|h<;>omega),?_,?_⟩,Iw⟩
  ·intro x hx hD;rcases hD with hD|hD
   ·obtain⟨k,l⟩:=h.cl x hx hD;exact⟨k,λy hy=>.inl (l y hy)⟩
   ·rcases hF.cl x hx hD with h'|⟨k,l⟩
    ·rw[abR]at h';simp at h'
    ·exact⟨k,λy hy=>.inr (l y hy)⟩
  ·intro j hj gA Nv h0 z hz;by_cases hZ:j=i
   ·subst hZ;exact .inr (hF.all z hz)
   ·exact .inl (h.dead j Iv gA Nv h0 z hz)
def aly{left:List (List Int)}{R:Nat}{owner number:List Int}(h:AB left R owner number){T D:Nat->Bool}(hT:∀ i,i<left.length->T i=true->∀ y∈left.getD i [],D y.toNat=true):
  cn left.length (λi=>T i&&on number i)<=cn R (λx=>D x&&decide (0<=owner.getD x 0)&&T (owner.getD x 0).toNat):=by
 refine abV (λi=>(number.getD i 0).toNat) (λi hi hp=>?_) (λi j hi hj hp hq he=>?_)
 ·simp only[aZ,on,decide_eq_true_eq]at hp;obtain⟨a,b,c⟩:=h.fwd i hi hp.2;refine⟨Iv,?_⟩;simp only[b,ep,hp.1,hT i hi hp.1 _ c,iu,Bool.and_true,decide_eq_true_eq];omega
 ·simp only[aZ,on,decide_eq_true_eq]at hp hq;obtain⟨a,b,c⟩:=h.fwd i hi hp.2;obtain⟨a',b',c'⟩:=h.fwd j hj hq.2;try dsimp only at he
  rw[he]at b;omega
def alz{left:List (List Int)}{R:Nat}{owner number:List Int}(h:AB left R owner number){T D:Nat->Bool}(hD:∀ x,x<R->D x=true->0<=owner.getD x 0/\T (owner.getD x 0).toNat=true):
  cn R D<=cn left.length (λi=>T i&&on number i):=by
 refine abV (λx=>(owner.getD x 0).toNat) (λx hx hp=>?_) (λx y hx hy hp hq he=>?_)
 ·obtain⟨a,b⟩:=hD x hx hp;have hg:=h.hO.get hx;refine⟨Iv,?_⟩;simp only[b,iu,on,decide_eq_true_eq];rw[h.bwd x hx a];omega
 ·obtain⟨a,b⟩:=hD x hx hp;obtain⟨a',b'⟩:=hD y hy hq;have e1:=h.bwd x hx a;have e2:=h.bwd y hy a';try dsimp only at he
  rw[he]at e1;omega
structure Reach(left:List (List Int))(R:Nat)(owner number:List Int)(used oU:List Bool):Prop where
 lu:used.length=R
 li:oU.length=left.length
 g1:∀ i,i<left.length->on number i=false->oU.getD i false=true
 g2:∀ i,i<left.length->oU.getD i false=true->∀ x∈left.getD i [],used.getD x.toNat false=true
 g3:∀ x,used.getD x false=true->0<=owner.getD x 0->oU.getD (owner.getD x 0).toNat false=true
 g4:∀ (T E:Nat->Prop),(∀ x,E x->0<=owner.getD x 0->T (owner.getD x 0).toNat)->(∀ i,T i->∀ x∈left.getD i [],E x.toNat)->(∀ i,i<left.length->on number i=false->T i)->(∀ i,oU.getD i false=true->T i)/\∀ x,used.getD x false=true->E x
noncomputable def pb(D:Nat->Prop)(x:Nat):Bool:=@decide (D x) (Classical.propDecidable _)
section
variable {left:List (List Int)} {R:Nat} {owner number:List Int} {used oU:List Bool} {D:Nat->Prop}
def Reach.alA(hL:zM R left)(h:Inv left R (-1) left.length owner number D)(hr:Reach left R owner number used oU):∀ x,used.getD x false=true->x<R/\0<=owner.getD x 0:=by
 intro x hx;obtain⟨_,b⟩:=hr.g4 (λi=>∀ y∈left.getD i [],D y.toNat) (λx=>x<R/\D x) (λx hx h0=>(h.cl x hx.1 hx.2).2) (λi hi y hy=>⟨by have:=(hL.get i).2 y hy;omega,hi y hy⟩) (λi hi h0=>h.dead i hi hi Iv (by simpa [on] using h0));obtain⟨c,d⟩:=b x hx;exact⟨c,(h.cl x c d).1⟩
def Reach.count(hL:zM R left)(h:Inv left R (-1) left.length owner number D)(hr:Reach left R owner number used oU):
  cn left.length (λi=>oU.getD i false)=cn left.length (λi=>!on number i)+cn R (λx=>used.getD x false):=by
 rw[alx _ _ (on number)];have e1:cn left.length (λi=>oU.getD i false&&!on number i)=cn left.length (λi=>!on number i):=abT λi hi=>by
  cases ho:on number i with
  |true=>simp
  |false=>rw[hr.g1 i hi ho];rfl
 have h1:=aly h.ok (T:=λi=>oU.getD i false) (D:=λx=>used.getD x false) (λi hi hT=>hr.g2 i hi hT);have h2:cn R (λx=>used.getD x false&&decide (0<=owner.getD x 0)&&oU.getD (owner.getD x 0).toNat false)<=cn R (λx=>used.getD x false):=alw λi _ hi=>by simp only[aZ]at hi;exact hi.1.1
 have h3:=alz h.ok (T:=λi=>oU.getD i false) (D:=λx=>used.getD x false) (λx hx hu=>by
  have:=(hr.alA hL h x hu).2;exact⟨this,hr.g3 x hu this⟩)
 omega
def Reach.none(hr:Reach left R owner number used oU)(h:∀ i,i<left.length->on number i=true):∀ i,oU.getD i false=false:=by
 obtain⟨a,_⟩:=hr.g4 (λ_=>False) (λ_=>False) (λ_ h _=>h) (λ_ h=>h.elim) (λi hi h0=>by rw[h i hi]at h0;simp at h0);intro i;cases hh:oU.getD i false with
 |false=>rfl
 |true=>exact(a i hh).elim
end
def qO(f:Nat->Nat)(N:List Int):List Int:=N.map λn=>if n<0 then -1 else(f n.toNat:Int)
def xB(n R':Nat)(N:List Int):List Int:=(bn R').map λx:Nat=>match (bn n).find? (λj=>decide (N.getD j 0=(x:Int))) with|some j=>(j:Int)|none=>-1
def alB{f:Nat->Nat}{N:List Int}{j:Nat}(h:j<N.length):(qO f N).getD j 0=if N.getD j 0<0 then -1 else(f (N.getD j 0).toNat:Int):=by
 rw[qO,aB,b9,bT h,aB,bT h];rfl
def Nw{n R':Nat}{N:List Int}{x:Nat}(hx:x<R'):(∃ j,j<n/\N.getD j 0=x/\(xB n R' N).getD x 0=(j:Nat))\/((xB n R' N).getD x 0 = -1/\∀ j,j<n->N.getD j 0≠x):=by
 have e:(xB n R' N).getD x 0=match (bn n).find? (λj=>decide (N.getD j 0=(x:Int))) with|some j=>(j:Int)|none=>-1:=by
  rw[xB,aB,b9,List.getElem?_range hx];rfl
 cases hf:(bn n).find? (λj=>decide (N.getD j 0=(x:Int))) with
 |some j =>
  rw[hf]at e;have h1:=List.find?_some hf;have h2:=List.mem_of_find?_eq_some hf;rw[decide_eq_true_eq]at h1;exact .inl ⟨j,oV.1 h2,h1,e⟩
 |none =>
  rw[hf]at e;rw[List.find?_eq_none]at hf;exact .inr ⟨e,λj hj he=>absurd (decide_eq_true he) (hf j (oV.2 hj))⟩
structure alC(left EL:List (List Int))(R':Nat)(f:Nat->Nat):Prop where
 len:EL.length=left.length
 to:∀ i,i<left.length->∀ x:Nat,(x:Int)∈left.getD i []->f x<R'/\(f x:Int)∈EL.getD i []
 inj:∀ i j,i<left.length->j<left.length->∀ x y:Nat,(x:Int)∈left.getD i []->(y:Int)∈left.getD j []->f x=f y->x=y
def AB.bf{left EL:List (List Int)}{R R':Nat}{f:Nat->Nat}{owner number:List Int}(h:AB left R owner number)(hf:alC left EL R' f):
  AB EL R' (xB left.length R' (qO f number)) (qO f number)/\∀ i,i<left.length->on (qO f number) i=on number i:=by
 have hl:=hf.len;have hg:∀ j,j<left.length->(qO f number).getD j 0=if number.getD j 0<0 then -1 else(f (number.getD j 0).toNat:Int):=λj hj=>alB (by rw[h.hN];exact hj);have M5:∀ j,j<left.length->0<=(qO f number).getD j 0->0<=number.getD j 0/\(qO f number).getD j 0=f (number.getD j 0).toNat/\(((number.getD j 0).toNat:Nat):Int)∈left.getD j []/\owner.getD (number.getD j 0).toNat 0=j:=λj hj h0=>by
  rw[hg j hj]at h0 ⊢;split at h0
  ·omega
  ·rename_i hn;obtain⟨a,b,c⟩:=h.fwd j hj Iv;rw[if_neg hn];exact⟨Iv,rfl,by rw[Int.toNat_of_nonneg Iv];exact c,b⟩
 refine⟨⟨⟨by simp[xB],λo ho=>?_⟩,by rw[qO,List.length_map,h.hN,hl],λj hj=>?_,λj hj h0=>?_,λx hx h0=>?_⟩,λi hi=>?_⟩
 ·obtain⟨x,hx,rfl⟩:=List.mem_iff_getElem.1 ho;have bS:x<R':=by simpa [xB] using hx
  have e:(xB left.length R' (qO f number))[x]=(xB left.length R' (qO f number)).getD x 0:=by rw[aB,bT hx];rfl
  rw[e];rcases Nw (n:=left.length) (N:=qO f number) bS with⟨j,h1,h2,h3⟩|⟨h3,_⟩<;>rw[h3]<;>omega
 ·rw[hg j Iv];split<;>omega
 ·obtain⟨a,b,c,d⟩:=M5 j Iv h0;obtain⟨p,q⟩:=hf.to j Iv _ c;rw[b,ep];refine⟨Iv,?_,q⟩;rcases Nw (n:=left.length) (N:=qO f number) p with⟨k,h1,h2,h3⟩|⟨_,h3⟩
  ·rw[h3];obtain⟨a',b',c',d'⟩:=M5 k h1 Iv;have:=hf.inj k j h1 Iv _ _ c' c Iv;rw[this,d]at d';omega
  ·exact absurd b (h3 j Iv)
 ·rcases Nw (n:=left.length) (N:=qO f number) hx with⟨k,h1,h2,h3⟩|⟨h3,_⟩
  ·rw[h3,ep];exact h2
  ·omega
 ·rw[on,on,hg i hi];split
  ·rw[decide_eq_false Iv,decide_eq_false Iv]
  ·rw[decide_eq_true Iv,decide_eq_true Iv]
section
variable {α:Type} [Inhabited α]
def uS(lt:α->α->Bool)(x:α)(l:List α):Nat->Nat
 |0=>0
 |k+1=>if lt x (l.getD k default)=true then uS lt x l k else k+1
def abW(lt:α->α->Bool)(x:α)(l:List α):∀ k,uS lt x l k<=k
 |0=>bc _
 |k+1=>by
  rw[uS];split
  ·have:=abW lt x l k;omega
  ·exact bc _
def EM(lt:α->α->Bool)(x:α)(l:List α):List α:=l.take (uS lt x l l.length)++x::l.drop (uS lt x l l.length)
def AF(lt:α->α->Bool):List α->List α->List α
 |[],out=>out
 |x::r,out=>AF lt r (EM lt x out)
def Nx(lt:α->α->Bool)(x:α)(l:List α):(EM lt x l).Perm (x::l):=by
 unfold EM;refine xI.trans ?_;rw[List.take_append_drop]
def Nl(lt:α->α->Bool):∀ (l out:List α),(AF lt l out).Perm (out++l)
 |[],out=>by rw[AF,List.append_nil]
 |x::r,out=>by
  rw[AF];refine(Nl lt r _).trans (((Nx lt x out).append_right r).trans ?_);exact xI.symm
def abX(lt:α->α->Bool)(x:α)(l:List α):∀ k,(∀ j,uS lt x l k<=j->j<k->lt x (l.getD j default)=true)/\(0<uS lt x l k->lt x (l.getD (uS lt x l k-1) default)=false)
 |0=>⟨λj h1 h2=>Iv,λh=>by rw[uS]at h;omega⟩
 |k+1=>by
  obtain⟨a,b⟩:=abX lt x l k;rw[uS];split
  ·rename_i h;refine⟨λj h1 h2=>?_,b⟩;by_cases hj:j=k
   ·subst hj;exact h
   ·exact a j h1 Iv
  ·rename_i h;exact⟨λj h1 h2=>Iv,λ_=>by simpa using h⟩
structure Io(lt:α->α->Bool)(P:α->Prop):Prop where
 tr:∀ a b c,P a->P b->P c->lt a b=true->lt b c=true->lt a c=true
 ka:∀ a b,P a->P b->a≠b->lt a b=true\/lt b a=true
 ir:∀ a b,P a->P b->lt a b=true->lt b a=false
def alD{lt:α->α->Bool}{P:α->Prop}(ho:Io lt P){x:α}{l:List α}(hl:l.Pairwise λa b=>lt a b=true)(hP:∀ y∈l,P y)(hx:P x)(hn:x ∉ l):(EM lt x l).Pairwise λa b=>lt a b=true:=by
 obtain⟨a,b⟩:=abX lt x l l.length;have hp:=abW lt x l l.length;unfold EM;generalize uS lt x l l.length=p at *;have hg:∀ j,j<l.length->l.getD j default∈l:=λj hj=>aG hj;have gf:∀ j (hj:j<l.length),l[j]=l.getD j default:=λj hj=>by rw[aB,bT hj];rfl
 have wg:∀ i j,i<j->j<l.length->lt (l.getD i default) (l.getD j default)=true:=λi j h1 h2=>by
  rw[<- gf i Iv,<- gf j h2];exact List.pairwise_iff_getElem.1 hl i j Iv h2 h1
 have BS:∀ y∈l.take p,lt y x=true:=λy hy=>by
  obtain⟨i,hi,rfl⟩:=qW hy;rw[List.length_take]at hi;rw[List.getElem_take,gf i Iv];have h1:=b Iv;have h2:l.getD (p-1) default∈l:=hg _ Iv;have h3:lt (l.getD (p-1) default) x=true:=(ho.ka _ _ (hP _ h2) hx (λe=>hn (e▸h2))).resolve_right (by rw[h1];decide);by_cases hip:i=p-1
  ·subst hip;exact h3
  ·exact ho.tr _ _ _ (hP _ (hg _ Iv)) (hP _ h2) hx (wg i (p-1) Iv Iv) h3
 have abY:∀ y∈l.drop p,lt x y=true:=λy hy=>by
  obtain⟨i,hi,rfl⟩:=qW hy;rw[List.length_drop]at hi;rw[List.getElem_drop,gf _ Iv];exact a _ Iv Iv
 rw[List.pairwise_append];refine⟨hl.sublist (List.take_sublist _ _),List.pairwise_cons.2 ⟨abY,hl.sublist (List.drop_sublist _ _)⟩,λy hy z hz=>?_⟩;rcases bj.1 hz with rfl|hz
 ·exact BS y hy
 ·exact ho.tr _ _ _ (hP _ (List.mem_of_mem_take hy)) hx (hP _ (List.mem_of_mem_drop hz)) (BS y hy) (abY z hz)
def abZ{lt:α->α->Bool}{P:α->Prop}(ho:Io lt P):∀ (l out:List α),out.Pairwise (λa b=>lt a b=true)->(∀ y∈out,P y)->(∀ y∈l,P y)->(out++l).Nodup->(AF lt l out).Pairwise λa b=>lt a b=true
 |[],out,h,_,_,_=>h
 |x::r,out,h,h1,h2,h3=>by
  rw[AF];have hp:(x::(out++r)).Nodup:=(xI.nodup_iff).1 h3;rw[nr,cB,not_or]at hp;refine abZ ho r _ (alD ho h h1 (h2 x Iw) hp.1.1) (λy hy=>?_) (λy hy=>h2 y (by simp[hy])) ?_
  ·rcases bj.1 ((Nx lt x out).mem_iff.1 hy) with rfl|hy
   ·exact h2 _ Iw
   ·exact h1 y hy
  ·refine((Nx lt x out).append_right r).nodup_iff.2 ?_;rw[List.cons_append,nr,cB,not_or];exact hp
omit [Inhabited α] in
def ab0{lt:α->α->Bool}{P:α->Prop}(ho:Io lt P):∀ (a b:List α),a.Pairwise (λx y=>lt x y=true)->b.Pairwise (λx y=>lt x y=true)->(∀ x∈a,P x)->(∀ x,x∈a↔x∈b)->a=b
 |[],b,_,_,_,h=>by
  cases b with
  |nil=>rfl
  |cons y b=>have:=(h y).2 Iw;simp at this
 |x::a,[],_,_,_,h=>by have:=(h x).1 Iw;simp at this
 |x::a,y::b,ha,hb,hP,h=>by
  rw[List.pairwise_cons]at ha hb;have Ny:P y:=hP y ((h y).2 Iw);have hir:∀ z,P z->lt z z=true->False:=λz hz hh=>by have:=ho.ir z z hz hz hh;rw[hh]at this;cases this
  have qh:x=y:=by
   rcases bj.1 ((h x).1 Iw) with e|h1
   ·exact e
   ·rcases bj.1 ((h y).2 Iw) with e|h2
    ·exact e.symm
    ·have:=ho.ir _ _ (hP x Iw) Ny (ha.1 y h2);rw[hb.1 x h1]at this;cases this
  subst qh;congr 1;refine ab0 ho a b ha.2 hb.2 (λz hz=>hP z (by simp[hz])) λz=>?_;constructor
  ·intro hz;rcases bj.1 ((h z).1 (by simp[hz])) with e|h1
   ·subst e;exact(hir _ Ny (ha.1 _ hz)).elim
   ·exact h1
  ·intro hz;rcases bj.1 ((h z).2 (by simp[hz])) with e|h1
   ·subst e;exact(hir _ Ny (hb.1 _ hz)).elim
   ·exact h1
end
def cL.one{P:Program}{f:FuncId}{args:List AV}{aa:List Ob}{res:AV}{a8:List Ob}(h:cL P f args aa (λr os=>r=res/\os=a8)):Holds P f args aa res a8:=by
 refine⟨h.1,λγ aN hs=>(h.2 γ aN hs).mono ?_⟩;rintro e w'⟨r,os,cv,az,⟨rfl,rfl⟩,h1,h2,h3,h4,h5⟩;exact⟨cv,az,h1,h2,h3,h4,h5⟩
def KN(W:WS):Prop:=(W.am.map (·.1)).Nodup
def ab2(k:List Int)(v:Int):∀ am:List (List Int×Int),(jG k v am).map (·.1)=if k∈am.map (·.1) then am.map (·.1) else am.map (·.1)++[k]
 |[]=>rfl
 |p::r=>by
  have ih:=ab2 k v r;rw[jG];by_cases hp:p.1=k
  ·rw[if_pos hp,if_pos (by rw[fW,hp];exact List.mem_cons_self)];simp[hp]
  ·rw[if_neg hp,fW,ih,fW];by_cases hk:k∈r.map (·.1)
   ·rw[if_pos hk,if_pos (dS _ hk)]
   ·rw[if_neg hk,if_neg (by rw[bj,not_or];exact⟨λe=>hp e.symm,hk⟩)];rfl
def alF{k:List Int}{v:Int}{am:List (List Int×Int)}(h:(am.map (·.1)).Nodup):((jG k v am).map (·.1)).Nodup:=by
 rw[ab2];split
 ·exact h
 ·rename_i hk;exact List.nodup_append.2 ⟨h,Iw,λa ha b hb=>by simp only[List.mem_singleton]at hb;subst hb;exact λe=>hk (e▸ha)⟩
section
variable {m:ah} {can:List (List Bool)}
def Nz{Q:WS->Prop}(h:∀ W p s o amt,Q W->Q (pM m W p s o amt))(W:WS)(hW:Q W)(p s:Nat):∀ i,Q (kX m can W p s i)
 |0=>hW
 |i+1=>by
  rw[kX];split
  ·exact h _ _ _ _ _ (Nz h W hW p s i)
  ·exact Nz h W hW p s i
def NA{Q:WS->Prop}(h:∀ W p s o amt,Q W->Q (pM m W p s o amt))(W:WS)(hW:Q W)(p s:Nat):∀ i,Q (jq m can W p s i)
 |0=>hW
 |i+1=>by
  rw[jq];split
  ·exact h _ _ _ _ _ (NA h W hW p s i)
  ·exact NA h W hW p s i
def alG{Q:WS->Prop}(h:∀ W p s o amt,Q W->Q (pM m W p s o amt))(W:WS)(hW:Q W)(p s:Nat):Q (Ap m can W p s):=NA h _ (Nz h W hW p s _) p s _
def ab3{α β:Type}{Q:α->Prop}{f:α->β->α}(h:∀ a b,Q a->Q (f a b)):∀ (l:List β) (a:α),Q a->Q (l.foldl f a)
 |[],a,ha=>ha
 |b::l,a,ha=>ab3 h l _ (h a b ha)
def ab4{Q:WS->Prop}(h:∀ W p s o amt,Q W->Q (pM m W p s o amt))(cO:List (List Int)):∀ (f:Nat) (st:WS×List Bool) (c:Nat),Q st.1->Q (iQ m can cO f st c).1
 |0,st,c,hs=>hs
 |f+1,st,c,hs=>by
  have hk:∀ (st:WS×List Bool) (p s:Nat),Q st.1->Q (Ar m can (iQ m can cO f) st p s).1:=λst p s hs=>by
   unfold Ar;split
   ·exact hs
   ·exact alG h _ (ab4 h cO f _ _ hs) p s
  rw[iQ];exact ab3 (Q:=λa:WS×List Bool=>Q a.1) (λa b ha=>hk _ _ _ (hk _ _ _ ha)) _ _ hs
def NC{Q:WS->Prop}(h:∀ W p s o amt,Q W->Q (pM m W p s o amt))(cO:List (List Int))(st:WS×List Bool)(hs:Q st.1):∀ c,Q (ma m can cO st c).1
 |0=>hs
 |c+1=>by
  rw[ma];split
  ·exact NC h cO st hs c
  ·exact ab4 h cO _ _ _ (NC h cO st hs c)
def alH{Q:WS->Prop}(h:∀ W p s o amt,Q W->Q (pM m W p s o amt))(W:WS)(hW:Q W)(r:Nat):Q (pK m can W r):=NC h _ _ hW _
def ali(W:WS)(hW:KN W)(r:Nat):KN (pK m can W r):=alH (λW p s o amt h=>alF h) W hW r
end
def uR(l:List Mv):List Mv:=AF (Go.Proofs.ltOf tF) l []
def alI:∀ {am:List (List Int×Int)},(am.map (·.1)).Nodup->(∀ q∈am,∃ p s o:Int,q.1=[p,s,o])->∀ {x y:Mv},x∈kf am->y∈kf am->x.pair=y.pair->x.side=y.side->x.opt=y.opt->x=y:=by
 intro am hn hk x y hx hy h1 h2 h3;unfold kf at hx hy;obtain⟨q,hq,rfl⟩:=b8.1 hx;obtain⟨r,hr,rfl⟩:=b8.1 hy;have hq:=(yT.1 hq).1;have hr:=(yT.1 hr).1;obtain⟨a,b,c,e1⟩:=hk q hq;obtain⟨a',b',c',e2⟩:=hk r hr;unfold Aw at h1 h2 h3;rw[e1,e2]at h1 h2 h3;change a=a' at h1;change b=b' at h2;change c=c' at h3;have e3:q.1=r.1:=by rw[e1,e2,h1,h2,h3]
 have e4:q=r:=by
  obtain⟨i,hi,rfl⟩:=qW hq;obtain⟨j,hj,rfl⟩:=qW hr;have:=(List.getElem_inj (h₀:=by simpa using hi) (h₁:=by simpa using hj) hn).1 (by rw[Cs,Cs];exact e3);subst this;rfl
 rw[e4]
def ab5:∀ {am:List (List Int×Int)},(am.map (·.1)).Nodup->(∀ q∈am,∃ p s o:Int,q.1=[p,s,o])->(kf am).Nodup
 |[],_,_=>List.nodup_nil
 |q::r,hn,hk=>by
  rw[fW,nr]at hn;have ih:=ab5 hn.2 (λx hx=>hk x (dS _ hx));unfold kf at ih ⊢;rw[List.filter_cons];split
  ·rw[fW,nr];refine⟨λhm=>?_,ih⟩;obtain⟨t,ht,e⟩:=b8.1 hm;have ht:=(yT.1 ht).1;obtain⟨a,b,c,e1⟩:=hk q Iw;obtain⟨a',b',c',e2⟩:=hk t (by simp[ht]);unfold Aw at e;rw[e1,e2,Mv.mk.injEq]at e;have e:=(show a'=a/\b'=b/\c'=c/\t.2=q.2 from e);exact hn.1 (b8.2 ⟨t,ht,by rw[e1,e2,e.1,e.2.1,e.2.2.1]⟩)
  ·exact ih
def ala{am:List (List Int×Int)}(hn:(am.map (·.1)).Nodup)(hk:∀ q∈am,∃ p s o:Int,q.1=[p,s,o]){Y:List Mv}(hY:Y.Perm (kf am))(hs:Y.Pairwise λa b=>Go.Proofs.ltOf tF b a=false):Y=uR (kf am):=by
 have bU:=ab5 hn hk;have ho:Io (Go.Proofs.ltOf tF) (·∈kf am):={
  tr:=λa b c _ _ _=>by rw[qI,qI,qI];omega
  ka:=λa b ha hb iY=>by
   rw[qI,qI];refine Classical.byContradiction λh=>iY (alI hn hk ha hb ?_ ?_ ?_)<;>omega
  ir:=λa b _ _=>by rw[<- Bool.not_eq_true,qI,qI];omega }
 have hYn:Y.Nodup:=hY.nodup_iff.2 bU;refine ab0 ho _ _ ?_ (abZ ho _ [] .nil Iw (λx hx=>hx) (by simpa using bU)) (λx hx=>hY.mem_iff.1 hx) λx=>(hY.mem_iff).trans (by unfold uR;exact((Nl _ (kf am) []).mem_iff).symm);refine(hs.and hYn).imp_of_mem λ{a b} ha hb h=>?_;rcases ho.ka a b (hY.mem_iff.1 ha) (hY.mem_iff.1 hb) h.2 with h1|h1
 ·exact h1
 ·rw[h.1]at h1;cases h1
section
variable (m:ah) (left:List (List Bool))
def yR:Nat->Nat->List Mv->WS->List Mv
 |0,_,X,_=>X
 |n+1,k,X,V =>
  if(bQ m left X).1=1099511627776 then X
  else if(bQ m left (uR (kf (pK m (dP m left m.cls.length) V k).am))).2≠0\/((bQ m left (uR (kf (pK m (dP m left m.cls.length) V k).am))).1<=(bQ m left X).1/\0<k) then X
  else yR n (k+1) (if(bQ m left X).1<(bQ m left (uR (kf (pK m (dP m left m.cls.length) V k).am))).1 then uR (kf (pK m (dP m left m.cls.length) V k).am) else X) (pK m (dP m left m.cls.length) V k)
def nj(rounds:Int):List Mv:=yR m left rounds.toNat 0 [] (W0 m)
end
section
variable {m:ah} {left:List (List Bool)}
def ND:∀ (n k:Nat) (X:List Mv) (V:WS),(bQ m left X).2=0->(bQ m left (yR m left n k X V)).2=0/\(bQ m left X).1<=(bQ m left (yR m left n k X V)).1
 |0,k,X,V,h=>⟨h,nt _⟩
 |n+1,k,X,V,h=>by
  rw[yR];split
  ·exact⟨h,nt _⟩
  ·split
   ·exact⟨h,nt _⟩
   ·rename_i h1 h2;rw[not_or,Classical.not_not]at h2;by_cases h3:(bQ m left X).1<(bQ m left (uR (kf (pK m (dP m left m.cls.length) V k).am))).1
    ·rw[if_pos h3];have:=ND n (k+1) _ (pK m (dP m left m.cls.length) V k) h2.1;exact⟨this.1,Iv⟩
    ·rw[if_neg h3];exact ND n (k+1) _ _ h
def KR(rounds:Int)(h:(bQ m left []).2=0):(bQ m left (nj m left rounds)).2=0/\(bQ m left []).1<=(bQ m left (nj m left rounds)).1:=ND _ _ _ _ h
end
end T

