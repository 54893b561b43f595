import Derived.Test.YtdipcmigdbnheaaGreatX27
set_option linter.all false
set_option maxHeartbeats 0
set_option maxRecDepth 20000
open Int renaming le_refl→dy,le_trans→oP,toNat_of_nonneg→pF,toNat_natCast→gA
open Bool renaming and_eq_true→ba,false_or→mu,not_eq_false→ES
open List renaming getD_eq_getElem?_getD→aA,getElem?_set→bV,length_replicate→sZ,mem_map→bZ,any_eq_true→pE,getElem_of_mem→rT,getElem?_eq_getElem→bT,all_eq_true→gz,getElem?_map→cg,getElem_mem→py
open Option renaming getD_some→mo
open Nat renaming le_refl→aG
open Go Go.Am Go.Proofs
namespace T
def jI(m:aj)(P:List Nd)(b:Int)(s:dX):Int×Bool :=
 if(nd P s.1).cls≠-1 then(b,true)
 else if 0<(nd P s.1).dh.length then(b,DJ m (nd P s.1) s.2.1)
 else(min b (kB m s.2.1 (nd P s.1).eI).1,(kB m s.2.1 (nd P s.1).eI).2==0)
def lL(m:aj)(P:List Nd):Int×Bool:=if(rp m P (jI m P) 1099511627776).2=true then((rp m P (jI m P) 1099511627776).1,true) else(0,false)
def TY{α:Type}{P:List Nd}{step:α->dX->α×Bool}:∀ {L:List dX} {a r:α},kF P step L a=(r,true)->∀ (J:α->Prop) (R:α->α->Prop),(∀ x,R x x)->(∀ x y z,R x y->R y z->R x z)->(∀ s∈L,∀ x,(step x s).2=true->R x (step x s).1) ->
  ∀ s∈L,s.2.2.contains (nd P s.1).cls=false/\∃ x,(step x s).2=true/\R (step x s).1 r
 |[],a,r,h,J,R,h1,h2,h3,s,hs=>by simp at hs
 |t::L,a,r,h,J,R,h1,h2,h3,s,hs=>by
  rw[kF]at h;split at h
  ·cases h
  ·rename_i hc;split at h
   ·rename_i jc;have ih:=TY h J R h1 h2 (λu hu=>h3 u (by simp[hu]));rcases List.mem_cons.1 hs with e|hs
    ·subst e;refine⟨by simpa using hc,a,jc,?_⟩;have mono:∀ (L:List dX) (x y:α),(∀ u∈L,∀ x,(step x u).2=true->R x (step x u).1)->kF P step L x=(y,true)->R x y:=by
      intro L
      induction L with
      |nil=>intro x y _ h;rw[kF]at h;cases h;exact h1 _
      |cons u L AU =>
       intro x y hm h;rw[kF]at h;split at h
       ·cases h
       ·split at h
        ·rename_i hu;exact h2 _ _ _ (hm u Jd x hu) (AU _ _ (λv hv=>hm v (by simp[hv])) h)
        ·cases h
     exact mono L _ _ (λu hu=>h3 u (by simp[hu])) h
    ·exact ih s hs
   ·cases h
def TB{m:aj}{P:List Nd}{n:Int}(h:lL m P=(n,true)):VM m/\lx m P=true/\kF P (jI m P) (vs P (root m)) 1099511627776=(n,true):=by
 unfold lL rp at h;by_cases h2:eJ m=0/\lx m P=true
 ·rw[if_pos h2]at h;split at h
  ·rename_i h1;refine⟨fc.1 h2.1,h2.2,?_⟩;have e:(kF P (jI m P) (vs P (root m)) 1099511627776).1=n:=congrArg Prod.fst h;exact Prod.ext e h1
  ·cases h
 ·rw[if_neg h2]at h;split at h
  ·rename_i h1;cases h1
  ·cases h
def TZ{m:aj}{P:List Nd}(b:Int)(s:dX):(jI m P b s).1<=b:=by
 unfold jI;split
 ·exact dy _
 split
 ·exact dy _
 ·exact Int.min_le_left ..
def TC{m:aj}{P:List Nd}{n:Int}(h:kF P (jI m P) (vs P (root m)) 1099511627776=(n,true)):n<=1099511627776/\∀ s∈vs P (root m),s.2.2.contains (nd P s.1).cls=false/\((nd P s.1).cls = -1->if 0<(nd P s.1).dh.length then DJ m (nd P s.1) s.2.1=true else n<=(kB m s.2.1 (nd P s.1).eI).1/\(kB m s.2.1 (nd P s.1).eI).2=0):=by
 have acq:∀ (L:List dX) (a r:Int),kF P (jI m P) L a=(r,true)->r<=a:=by
  intro L
  induction L with
  |nil=>intro a r h;rw[kF]at h;cases h;exact dy _
  |cons s L ih =>
   intro a r h;rw[kF]at h;split at h
   ·cases h
   ·split at h
    ·exact oP (ih _ _ h) (TZ a s)
    ·cases h
 refine⟨acq _ _ _ h,λs hs=>?_⟩;obtain⟨h1,x,h2,h3⟩:=TY h (λ_=>True) (λx y=>y<=x) (λx=>dy _) (λx y z h1 h2=>oP h2 h1) (λs _ x _=>TZ x s) s hs;refine⟨h1,λhc=>?_⟩;unfold jI at h2 h3;rw[if_neg I6]at h2 h3;split
 ·rename_i hg;rw[if_pos hg]at h2;exact h2
 ·rename_i hg;rw[if_neg hg]at h2 h3;dsimp only at h2 h3;exact⟨I6,by simpa using h2⟩
def acr{m:aj}{P:List Nd}(hm:VM m)(hs:lx m P=true){plan:List Int}(hp:FP m plan):∀ (f:Nat) (s:dX),tY m P s->P.length-s.1<=f->vo m s.2.1 plan->∃ t∈vs P s,tY m P t/\(nd P t.1).cls = -1/\vo m t.2.1 plan:=by
 have hd:=DW hs;intro f
 induction f with
 |zero=>intro s hg hf;have:=hg.1;omega
 |succ f ih =>
  intro s hg hf dL;rw[yO hd hg.1];by_cases hc:(nd P s.1).cls = -1
  ·exact⟨s,Jd,hg,hc,dL⟩
  ·have hn:=HF hs hg.1;unfold lv mT at hn;rw[ba,if_neg hc,decide_eq_true_eq]at hn;obtain⟨⟨c1,c2,c3,_⟩,_⟩:=hn;have cE:=hp.len;have T1:=hp.get (nd P s.1).cls.toNat I6;rw[pF c1]at T1;obtain⟨o1,o2,o3,o4⟩:=gV.1 T1;have ho:(plan.getD (nd P s.1).cls.toNat 0).toNat<(nd P s.1).kids.length:=I6;have hk:=yN hd hg.1 ho;have eA:=hg.2.1.1;have aZ:=hg.2.1.2 (nd P s.1).cls.toNat I6;obtain⟨t,ht,h2⟩:=ih (ml P s (plan.getD (nd P s.1).cls.toNat 0).toNat) (S9 hd hg ho) I6 (λi hi=>by
    show((bN s.2.1 (nd P s.1).cls.toNat (plan.getD (nd P s.1).cls.toNat 0).toNat).getD i default).getD _ false=true;unfold bN;by_cases e:(nd P s.1).cls.toNat=i
    ·subst e;rw[SJ _ _ _ I6];unfold lq;rw[aA,bV,if_pos rfl,if_pos (by rw[sZ,aZ];omega)];rfl
    ·rw[aA (l:=s.2.1.set _ _),List.getElem?_set_ne e,<- aA];exact dL i hi)
   refine⟨t,List.mem_cons_of_mem _ (List.mem_flatMap.2 ⟨_,?_,ht⟩),h2⟩;rw[List.mem_reverse];exact bZ.2 ⟨_,List.mem_range.2 ho,rfl⟩
def T2:∀ (f:Nat->Int) (n i:Nat),(∀ j,j<n->0<=f j)->i<n->f i<=bf f n
 |f,0,i,_,h=>I6
 |f,n+1,i,h0,h=>by
  rw[bf];have B7:∀ n,(∀ j,j<n->0<=f j)->0<=bf f n:=λn=>by
   induction n with
   |zero=>intro _;exact dy _
   |succ n ih=>intro h;rw[bf];have:=ih λj hj=>h j I6;have:=h n I6;omega
  by_cases e:i=n
  ·subst e;have:=B7 i λj hj=>h0 j I6;omega
  ·have:=T2 f n i (λj hj=>h0 j I6) I6;have:=h0 n I6;omega
def T3(f:Nat->Int)(n:Nat)(h:∀ j,j<n->0<=f j):0<=bf f n:=by
 induction n with
 |zero=>exact dy _
 |succ n ih=>rw[bf];have:=ih λj hj=>h j I6;have:=h n I6;omega
def T4{m:aj}(hm:VM m){plan:List Int}(hp:FP m plan){j:Nat}(hj:j<m.cls.length):0<=kx m plan j:=by
 have h0:=hp.get j (by rw[hp.len];exact hj);obtain⟨b1,b2,b3,b4⟩:=gV.1 h0;rw[gA]at b4;have hl:=aC (l:=m.cls) (i:=j) (d:=default) hj;have ho:=aC (l:=m.cls.getD j default) (i:=(plan.getD j 0).toNat) (d:=default) I6;have:=Ao (hm.kQ _ hl _ ho);unfold bL at this;unfold kx;omega
def T5{m:aj}(hm:VM m)(plan:List Int){i:Nat}(hi:i<m.ae.length):0<=iX m plan (m.ae.getD i default):=by
 have ef:=jo hm.pr _ (aC (l:=m.ae) (i:=i) (d:=default) hi);have:=Ax ef (plan.getD (m.ae.getD i default).fst.toNat 0) (plan.getD (m.ae.getD i default).snd.toNat 0);unfold bL at this;unfold iX;omega
def T6{m:aj}(hm:VM m)(plan:List Int){i:Nat}(hi:i<m.ar.length):0<=gM plan (m.ar.getD i default):=by
 obtain⟨q1,q2,q3,q4⟩:=lp (hm.ct _ (aC (l:=m.ar) (i:=i) (d:=default) hi));have:=Aw (most:=(m.ar.getD i default).most) (sum:=kv plan (m.ar.getD i default).aS 0) (lN q3);unfold bL at this;unfold gM;omega
def acs{m:aj}(hm:VM m){plan:List Int}(hp:FP m plan){a b:Int}(h:vq m a (plan.getD a.toNat 0) b (plan.getD b.toNat 0)=true):jO (iC m plan) 0=1099511627776:=by
 have hex :∃p∈m.ae,iX m plan p=1099511627776:=by
  unfold vq at h;split at h
  ·obtain⟨p,hp,h⟩:=pE.1 h;unfold DI at h;rw[decide_eq_true_eq]at h;exact⟨p,hp,by unfold iX;rw[h.1,h.2.1];exact h.2.2⟩
  ·obtain⟨p,hp,h⟩:=pE.1 h;unfold DI at h;rw[decide_eq_true_eq]at h;exact⟨p,hp,by unfold iX;rw[h.1,h.2.1];exact h.2.2⟩
 obtain⟨p,w5,he⟩:=hex;obtain⟨i,hi,rfl⟩:=rT w5;rw[yC hm hp];have h1:=T3 (kx m plan) m.cls.length λj hj=>T4 hm hp hj;have h2:=T2 (λi=>iX m plan (m.ae.getD i default)) m.ae.length i (λj hj=>T5 hm plan hj) hi;have h3:=T3 (λi=>gM plan (m.ar.getD i default)) m.ar.length λj hj=>T6 hm plan hj;have e:m.ae.getD i default=m.ae[i]:=by rw[aA,bT hi];rfl
 rw[e,he]at h2;omega
def T7:∀ (n:Nat) (l:List Nat),l.Nodup->(∀ x∈l,x<n)->l.length<=n
 |0,l,_,h=>by
  cases l with
  |nil=>simp
  |cons x l=>have:=h x Jd;omega
 |n+1,l,hn,h=>by
  have h1:=T7 n (l.erase n) (hn.erase n) (λx hx=>by
   have h2:=(hn.mem_erase_iff).1 hx;have:=h x h2.2;have:=h2.1;omega)
  rw[List.length_erase]at h1;split at h1<;>omega
def acu{n:Nat}:∀ (l:List Nat),l.length > n->(∀ x∈l,x<n)->∃ i j,i<j/\j<l.length/\l[i]?=l[j]?:=by
 intro l hl hx;by_cases hn:l.Nodup
 ·exfalso;have h2:=T7 n l hn hx;omega
 ·unfold List.Nodup at hn;rw[List.pairwise_iff_getElem]at hn;simp only[Classical.not_forall,Decidable.not_not]at hn;obtain⟨i,j,hi,hj,pg,he⟩:=hn;exact⟨i,j,pg,hj,by rw[bT hi,bT hj,he]⟩
def acv{m:aj}(hm:VM m){plan:List Int}(hp:FP m plan){x:Nd}{left:List (List Bool)}(hf:ej m left)(dL:vo m left plan)(h:DJ m x left=true):jO (iC m plan) 0=1099511627776:=by
 unfold DJ at h;simp only[ba,decide_eq_true_eq]at h;obtain⟨⟨⟨h1,h2⟩,h3⟩,h4⟩:=h;have hgm:=abh h1;rw[gz]at h3 h4;have m6:∀ c∈x.dh,∃ i,i<x.cells.length/\(c,plan.getD c.toNat 0)∈x.cells.getD i default:=λc hc=>by
  have qL:=hgm c hc;have a9:=h4 c hc;unfold SE at a9;have cE:=hp.len;have hg:=hp.get c.toNat I6;obtain⟨b1,b2,b3,b4⟩:=gV.1 hg;rw[gA]at b4;have hr:=hf.2 c.toNat (by have:=hf.1;omega);have h5:=DK.1 a9 (plan.getD c.toNat 0).toNat I6;rw[dL c.toNat I6,Bool.not_true,mu,pE]at h5;obtain⟨l,hl,h6⟩:=h5;rw[pE]at h6;obtain⟨y,hy,h7⟩:=h6;unfold Sx at h7;rw[decide_eq_true_eq,pF b3]at h7;obtain⟨i,hi,rfl⟩:=rT hl;refine⟨i,hi,?_⟩;rw[aA,bT hi,mo,<- h7];exact hy
 have eC :∃f:Int->Nat,∀ c∈x.dh,f c<x.cells.length/\(c,plan.getD c.toNat 0)∈x.cells.getD (f c) default:=by
  classical
  refine⟨λc=>if hc:c∈x.dh then Classical.choose (m6 c hc) else 0,λc hc=>?_⟩;dsimp only;rw[dif_pos hc];exact Classical.choose_spec (m6 c hc)
 obtain⟨f,qo⟩:=eC;obtain⟨i,j,pg,hj,he⟩:=acu (n:=x.cells.length) (x.dh.map f) (by simpa using h2) (λy hy=>by
  obtain⟨c,hc,rfl⟩:=bZ.1 hy;exact(qo c hc).1)
 rw[List.length_map]at hj;rw[cg,cg,bT I6,bT hj]at he;simp only[Option.map_some,Option.some.injEq]at he;have bq:∀ j,j<x.dh.length->∀ i,i<j->x.dh.getD i 0<x.dh.getD j 0:=by
  intro j
  induction j with
  |zero=>intro _ i hi;omega
  |succ j ih =>
   intro hj i hi;have h5:=DK.1 h1 (j+1) hj;rw[decide_eq_true_eq]at h5;have h6:x.dh.getD j 0<x.dh.getD (j+1) 0:=by
    rcases h5.2.2 with h|h
    ·omega
    ·simpa using h
   by_cases e:i=j
   ·subst e;exact h6
   ·have:=ih I6 i I6;omega
 have df:=bq j hj i pg;rw[aA,aA,bT I6,bT hj,mo,mo]at df;have m1:=(qo x.dh[i] (py _)).2;have m2:=(qo x.dh[j] (py _)).2;rw[he]at m1;have cy:=(qo x.dh[j] (py _)).1;generalize x.dh[i]=a at *;generalize x.dh[j]=b at *;have h5:=h3 _ (aC (d:=default) cy);generalize x.cells.getD (f b) default=l at *;unfold SA at h5;have key:∀ u v:Int×Int,u∈l->v∈l->u.1≠v.1->vq m u.1 u.2 v.1 v.2=true:=λu v hu hv df=>by
  obtain⟨p,hp',rfl⟩:=rT hu;obtain⟨q,yc,rfl⟩:=rT hv;have one:∀ p q (hp:p<l.length) (hq:q<p),l[p].1≠l[q].1->vq m l[p].1 l[p].2 l[q].1 l[q].2=true:=λp q hp hq df=>by
   have h6:=DK.1 h5 p hp;unfold Sz at h6;rw[ba,gz,aA,bT hp,mo]at h6;have h7:=h6.2 l[q] (by rw[List.mem_take_iff_getElem];exact⟨q,I6,rfl⟩);unfold Sy at h7;rw[decide_eq_false df,mu]at h7;exact h7
  rcases Nat.lt_trichotomy p q with h|h|h
  ·rw[abg df];exact one q p yc h (Ne.symm df)
  ·subst h;exact absurd rfl df
  ·exact one p q hp' h df
 exact acs hm hp (key _ _ m1 m2 aaK)
def acy{m:aj}{P:List Nd}{n:Int}(h:lL m P=(n,true)){plan:List Int}(hp:FP m plan):n<=jO (iC m plan) 0:=by
 obtain⟨hm,hs,hr⟩:=TB h;obtain⟨hn,hl⟩:=TC hr;have hlen:=S8 hs;have dT:=DX hm;obtain⟨t,ht,hg,hc,dL⟩:=acr hm hs hp P.length (root m) ⟨by show 0<_;omega,dT,aG _⟩ I6 (λi hi=>by
  show((dt m).getD i default).getD _ false=true;have hg:=hp.get i (by rw[hp.len];exact hi);obtain⟨b1,b2,b3,b4⟩:=gV.1 hg;rw[gA]at b4;unfold dt;rw[if_pos (fc.2 hm)];unfold mj;rw[ik _ _ _ hi,aA,List.getElem?_replicate,if_pos I6];rfl)
 have h2:=(hl t ht).2 hc;split at h2
 ·rw[acv hm hp hg.2.1 dL h2];exact hn
 ·refine oP h2.1 ?_;have h3:=h2.2;unfold kB at h3 ⊢;split at h3
  ·cases h3
  split at h3
  ·cases h3
  rename_i h4 h5;rw[if_neg h4,if_neg h5];rw[ES,gz]at h5;exact RQ hm hp _ hg.2.1 dL _ h5
def acf{m:aj}{P:List Nd}(hm:VM m)(hs:lx m P=true)(h:∀ s∈vs P (root m),s.2.2.contains (nd P s.1).cls=false/\((nd P s.1).cls = -1->(nd P s.1).dh.length=0/\(kB m s.2.1 (nd P s.1).eI).2=0)):
  ∃ n,lL m P=(n,true)/\∀ a,a<=1099511627776->(∀ s∈vs P (root m),(nd P s.1).cls = -1->a<=(kB m s.2.1 (nd P s.1).eI).1)->a<=n:=by
 have key:∀ (L:List dX) (b:Int),(∀ s∈L,s.2.2.contains (nd P s.1).cls=false/\((nd P s.1).cls = -1->(nd P s.1).dh.length=0/\(kB m s.2.1 (nd P s.1).eI).2=0)) ->
   (kF P (jI m P) L b).2=true/\∀ a,a<=b->(∀ s∈L,(nd P s.1).cls = -1->a<=(kB m s.2.1 (nd P s.1).eI).1)->a<=(kF P (jI m P) L b).1:=by
  intro L
  induction L with
  |nil=>intro b _;exact⟨rfl,λa h _=>h⟩
  |cons s L ih =>
   intro b h;obtain⟨h1,h2⟩:=h s Jd;have acz:(jI m P b s).2=true:=by
    unfold jI;by_cases hc:(nd P s.1).cls = -1
    ·rw[if_neg I6,if_neg (by have:=(h2 hc).1;omega)];simp[(h2 hc).2]
    ·rw[if_pos hc]
   rw[kF,h1,if_neg Jd,if_pos acz];obtain⟨i1,i2⟩:=ih (jI m P b s).1 λt ht=>h t (by simp[ht]);refine⟨i1,λa ha hl=>i2 a ?_ λt ht=>hl t (by simp[ht])⟩;unfold jI;by_cases hc:(nd P s.1).cls = -1
   ·rw[if_neg I6,if_neg (by have:=(h2 hc).1;omega)];have:=hl s Jd hc;show a<=min _ _;omega
   ·rw[if_pos hc];exact ha
 obtain⟨k1,k2⟩:=key (vs P (root m)) 1099511627776 h;refine⟨(kF P (jI m P) (vs P (root m)) 1099511627776).1,?_,k2⟩;have hw:rp m P (jI m P) 1099511627776=kF P (jI m P) (vs P (root m)) 1099511627776:=if_pos ⟨fc.2 hm,hs⟩;unfold lL;rw[hw,if_pos k1]
def kU(l:List Mv):Nd:=⟨-1,[],l,[],[]⟩
def HU{P:List Nd}(hd:Down P){s:dX}(hs:s.1<P.length)(hk:(nd P s.1).kids=[]):vs P s=[s]:=by
 rw[yO hd hs];unfold qj im;rw[hk];rfl
def TD{m:aj}(left:List (List Bool)):kB m left []=(mS m left (S0 m,T0 m),0):=rfl
abbrev lS:=List (Int×Int)
def lT(up:lS)(j:Nat):Int×Int:=up.getD j default
def Ia(n:Nat):lS:=List.replicate n (-1,0)
def T8(up:lS):Nat->Nat->lS
 |0,_=>[]
 |f+1,k=>if 0<=(lT up k).1 then lT up k::T8 up f (lT up k).1.toNat else []
def anc(up:lS)(k:Nat):lS:=T8 up (k+1) k
def acB(P:List Nd)(c:Int)(l:lS):Bool:=l.any λa=>(nd P a.1.toNat).cls==c
def D8(n i:Nat)(kids:List Int)(up:lS):Nat->Option lS
 |0=>some up
 |o+1=>(D8 n i kids up o).bind λu=>if oI n i (kids.getD o 0)=true/\(lT u (kids.getD o 0).toNat).1<0 then some (u.set (kids.getD o 0).toNat ((i:Int),(o:Int))) else none
def T9(m:aj)(P:List Nd)(i:Nat)(up:lS):Option lS :=
 if 0<i/\(lT up i).1<0 then none
 else if mT m (nd P i)=false then none
 else if(nd P i).cls = -1 then some up
 else if acB P (nd P i).cls (anc up i)=true then none
 else D8 P.length i (nd P i).kids up (nd P i).kids.length
structure UI(P:List Nd)(i o:Nat)(up:lS):Prop where
 len:up.length=P.length
 low:∀ j,j<P.length->lT up j=(-1,0)\/∃ p q:Nat,lT up j=((p:Int),(q:Int))/\p<j/\q<(nd P p).kids.length/\(p<i\/p=i/\q<o)
 set:∀ p q,(p<i\/p=i/\q<o)->p<P.length->q<(nd P p).kids.length->∃ j,j<P.length/\p<j/\(nd P p).kids.getD q 0=(j:Int)/\lT up j=((p:Int),(q:Int))
 D9:∀ j:Nat,j<P.length->((iJ (P.take i)++(nd P i).kids.take o).count (j:Int)=if 0<=(lT up j).1 then 1 else 0)
def T'(n j:Nat)(h:j<n):lT (Ia n) j=(-1,0):=by
 unfold lT Ia;rw[aA,List.getElem?_replicate_of_lt h];rfl
def UI.zero(P:List Nd):UI P 0 0 (Ia P.length) where
 len:=sZ
 low j hj:=.inl (T' _ _ hj)
 set p q h:=I6
 D9 j hj:=by rw[T' _ _ hj];simp[iJ]
def Ea{up:lS}{k j:Nat}{x:Int×Int}(hk:k<up.length):lT (up.set k x) j=if k=j then x else lT up j:=by
 unfold lT;rw[aA,bV];by_cases e:k=j
 ·subst e;rw[if_pos rfl,if_pos hk,if_pos rfl];rfl
 ·rw[if_neg e,if_neg e,aA]
def UI.yp{P:List Nd}{i o:Nat}{up:lS}(h:UI P i o up)(hi:i<P.length)(ho:o<(nd P i).kids.length)(hk:oI P.length i ((nd P i).kids.getD o 0)=true)(hu:(lT up ((nd P i).kids.getD o 0).toNat).1<0):
  UI P i (o+1) (up.set ((nd P i).kids.getD o 0).toNat ((i:Int),(o:Int))):=by
 unfold oI at hk;rw[decide_eq_true_eq]at hk;have ua:(nd P i).kids.take (o+1)=(nd P i).kids.take o++[(nd P i).kids.getD o 0]:=iB ho;generalize iK:(nd P i).kids.getD o 0=k at *;obtain⟨kn,rfl⟩:∃kn:Nat,k=kn:=⟨k.toNat,I6⟩;rw[gA]at hu ⊢;have cr:kn<up.length:=by rw[h.len];omega
 refine⟨by rw[List.length_set];exact h.len,λj hj=>?_,λp q sw hp hq=>?_,λj hj=>?_⟩
 ·rw[Ea cr];by_cases e:kn=j
  ·subst e;rw[if_pos rfl];exact .inr ⟨i,o,rfl,I6,ho,.inr ⟨rfl,I6⟩⟩
  ·rw[if_neg e];rcases h.low j hj with h1|⟨p,q,h1,h2,h3,h4⟩
   ·exact .inl h1
   ·exact .inr ⟨p,q,h1,h2,h3,I6⟩
 ·by_cases e:p=i/\q=o
  ·obtain⟨rfl,rfl⟩:=e;exact⟨kn,I6,I6,iK,by rw[Ea cr,if_pos rfl]⟩
  ·obtain⟨j,h1,h2,h3,h4⟩:=h.set p q I6 hp hq;refine⟨j,h1,h2,h3,?_⟩;rw[Ea cr,if_neg ?_,h4];rintro rfl;rw[h4]at hu;dsimp only at hu;omega
 ·rw[ua,<- List.append_assoc,List.count_append,h.D9 j hj,Ea cr];by_cases e:kn=j
  ·subst e;rw[if_neg I6,if_pos rfl,if_pos aaK];simp
  ·have hb:((kn:Int)==(j:Int))=false:=by rw[beq_eq_false_iff_ne];omega
   rw[if_neg e,List.count_singleton,hb];rfl
def acC{P:List Nd}{i:Nat}(hi:i<P.length):P.take (i+1)=P.take i++[nd P i]:=iB hi
def UI.next{P:List Nd}{i:Nat}{up:lS}(h:UI P i (nd P i).kids.length up)(hi:i<P.length):UI P (i+1) 0 up where
 len:=h.len
 low j hj:=by
  rcases h.low j hj with h1|⟨p,q,h1,h2,h3,h4⟩
  ·exact .inl h1
  ·exact .inr ⟨p,q,h1,h2,h3,I6⟩
 set p q sw hp hq:=h.set p q (by
  by_cases e:p=i
  ·subst e;exact .inr ⟨rfl,hq⟩
  ·omega) hp hq
 D9 j hj:=by
  rw[List.take_zero,List.append_nil,acC hi,Sk,<- h.D9 j hj,List.take_length]
def UI.kids{P:List Nd}{i:Nat}(hi:i<P.length){up:lS}(h:UI P i 0 up):∀ o u,o<=(nd P i).kids.length->D8 P.length i (nd P i).kids up o=some u->UI P i o u:=by
 intro o
 induction o with
 |zero=>intro u _ hu;cases hu;exact h
 |succ o ih =>
  intro u ho hu;unfold D8 at hu;obtain⟨v,hv,hu⟩:=Option.bind_eq_some_iff.1 hu;by_cases hc:oI P.length i ((nd P i).kids.getD o 0)=true/\(lT v ((nd P i).kids.getD o 0).toNat).1<0
  ·rw[if_pos hc]at hu;cases hu;exact(ih v I6 hv).yp hi I6 hc.1 hc.2
  ·rw[if_neg hc]at hu;cases hu
def acD{m:aj}{x:Nd}(h:mT m x=true)(hc:x.cls = -1):x.kids.length=0:=by
 unfold mT at h;rw[if_pos hc,decide_eq_true_eq]at h;exact h.1
def UI.node{m:aj}{P:List Nd}{i:Nat}(hi:i<P.length){up u:lS}(h:UI P i 0 up)(hu:T9 m P i up=some u):UI P (i+1) 0 u:=by
 unfold T9 at hu;split at hu
 ·cases hu
 split at hu
 ·cases hu
 rename_i h1 h2;rw[ES]at h2;split at hu
 ·rename_i h3;cases hu;have:=acD h2 h3;refine UI.next ?_ hi;rw[this];exact h
 split at hu
 ·cases hu
 exact(UI.kids hi h _ _ (aG _) hu).next hi
def UI.lt{P:List Nd}{i o:Nat}{up:lS}(h:UI P i o up){k:Nat}(hk:k<P.length)(h0:0<=(lT up k).1):(lT up k).1.toNat<k:=by
 rcases h.low k hk with h1|⟨p,q,h1,h2,h3,h4⟩
 ·rw[h1]at h0;exact absurd h0 aab
 ·rw[h1];simpa using h2
end T

