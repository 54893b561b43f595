import Derived.Test.YtfoopmojjjpapaaGreatX27
import Derived.Test.YtfoopmojjjpapaaGreatX22
set_option linter.all false
set_option maxHeartbeats 0
set_option maxRecDepth 20000
open List renaming mem_cons→bm,getD_eq_getElem?_getD→ax,mem_flatMap→CH,mem_reverse→wq,mem_map→bS,any_eq_true→nA,getElem_of_mem→kX,getElem?_eq_getElem→bq,all_eq_true→gd,getElem?_map→bV,getElem_mem→oV,flatMap_append→tS,count_append→On,mem_singleton→c8,contains_iff_mem→pY,getD_cons_zero→iv,getD_cons_succ→fq
open Bool renaming not_true→kU,and_eq_true→bg,false_or→oW,eq_false_iff→CL
open Int renaming le_refl→kB,le_trans→za,toNat_of_nonneg→ss,toNat_natCast→cY
open Option renaming getD_some→mI
open Nat renaming le_refl→aX,zero_le→aW
open Go Go.Am Go.Proofs
namespace T
def jr(m:ah)(P:List Nd)(b:Int)(s:dS):Int×Bool :=
 if(nd P s.1).cls≠-1 then(b,true)
 else if 0<(nd P s.1).aT.length then(b,ng m (nd P s.1) s.2.1)
 else(min b (fZ m s.2.1 (nd P s.1).dT).1,(fZ m s.2.1 (nd P s.1).dT).2==0)
def oB(m:ah)(P:List Nd):Int×Bool:=if(rQ m P (jr m P) 1099511627776).2=true then((rQ m P (jr m P) 1099511627776).1,true) else(0,false)
def aga(m:ah)(P:List Nd)(hP:PB P)(hm:VM m)(b:Int)(s:dS)(hs:xg m P s):
  Holds Tryz.prog 66 [.agg [Oi s.1,.tree 1 (rowsOf ay s.2.1)],.ptr 1 0 0,.ptr 0 0 0,.ptr 2 0 0] [.var (aq m),.var (cz P),.var [Oi b]] (.lit (.bool (jr m P b s).2)) [.var (aq m),.var (cz P),.var [Oi (jr m P b s).1]]:=by
 obtain⟨i,left,ab⟩:=s;have hi:i<P.length:=hs.1;have hf:cp m left:=hs.2.1;have Aa:=hP.KV;have bx:P.getD i default=nd P i:=rfl;have cq:=aE (l:=P) (i:=i) (d:=default) hi;have b2:=hP.dT _ cq;have b3:=hP.aT _ cq;have b4:=hP.cells _ cq;have b5:=hP.cell _ cq;generalize an:jr m P b (i,left,ab)=res;unfold jr at an;rw[bx]at b2 b3 b4 b5;dsimp only at an;have rB:=agb m (nd P i) left hm hf b3 b4 b5;have Hf:=U0 m left (nd P i).dT hm hf b2;generalize ng m (nd P i) left=cw at *;generalize fZ m left (nd P i).dT=lt at *;generalize cS:nd P i=x at *;obtain⟨c,kids,dT,aT,cells⟩:=x;obtain⟨v,e⟩:=lt;dsimp only at *;refine Holds.aN 41 3 [.tmp 5] Tryz.func66 ?_;by_cases hc:c = -1;rotate_left
 ·rw[if_pos hc]at an;((repeat'(first|refine Vb (X3 @cz.eq_1 @bx @aM.eq_1) ?_|(refine Xi ?_ ?_<;>try intro ht)|exact Xx|fail)))
  subst an;exact Xw false [0,1,2] @cz.eq_1
 rw[if_neg AT]at an;by_cases hg:0<aT.length
 ·rw[if_pos hg]at an;((repeat'(first|refine Vd (X3 @cz.eq_1 @bx @aM.eq_1) rB ?_|(refine Xi ?_ ?_<;>try intro ht)|exact Xx|fail)))
  subst an;exact Xw false [0,1,2] @cz.eq_1
 rw[if_neg hg]at an;((repeat'(first|refine Vd (X3 @cz.eq_1 @bx @aM.eq_1) Hf ?_|(refine Xi ?_ ?_<;>try intro ht)|exact Xx|fail)))
 subst an;exact Xw false [0,1,2] @cz.eq_1
def Lt(m:ah)(P:List Nd)(hm:MB m)(hP:PB P):Holds Tryz.prog 35 [.agg (aq m),.agg (cz P)] [] (.bu [Oi (oB m P).1,.lit (.bool (oB m P).2)]) []:=by
 have hw:=agc m P hm hP (λ_=>.var (aq m)) (λ_=>.var (cz P)) (λb:Int=>.var [Oi b]) [.ptr 1 0 0,.ptr 0 0 0,.ptr 2 0 0] 66 (jr m P) (Inv:=λ_ _=>True)
  ⟨λρ h0 h1 h2 a=>⟨rfl,rfl,rfl⟩,λρ h0 h1 h2 v hv=>by
   simp only[bm,List.not_mem_nil,or_false]at hv;rcases hv with rfl|rfl|rfl<;>simp only[bj,h0,h1,h2],λ_ _ _ _ _=>trivial,λbG a s _ hs _=>aga m P hP bG a s hs⟩ 1099511627776 (λ_ _=>trivial)
 generalize an:oB m P=res;unfold oB at an;generalize rQ m P (jr m P) 1099511627776=r at *;obtain⟨b,ok⟩:=r;dsimp only at hw an;refine Holds.aN 15 0 [.tmp 4,.tmp 5] Tryz.func35 ?_;((refine Vb @cz.eq_1 ?_)<;>try with_reducible intro K hK)
 refine fi hw IM ?_;cases ok
 ·rw[if_neg IM]at an;((try revert hK K);(repeat'(first|refine Vb @Bool.not_false ?_|(refine Xi ?_ ?_<;>try intro ht)|exact Xx|fail)))
  subst an;exact aU rfl rfl
 ·rw[if_pos rfl]at an;((try revert hK K);(repeat'(first|refine Vb @kU ?_|(refine Xi ?_ ?_<;>try intro ht)|exact Xx|fail)))
  subst an;exact aU rfl rfl
def U1{α:Type}{P:List Nd}{step:α->dS->α×Bool}:∀ {L:List dS} {a r:α},kP P step L a=(r,true)->∀ (J:α->Prop) (R:α->α->Prop),(∀ x,R x x)->(∀ x y z,R x y->R y z->R x z)->(∀ s∈L,∀ x,(step x s).2=true->R x (step x s).1) ->
  ∀ s∈L,s.2.2.contains (nd P s.1).cls=false/\∃ x,(step x s).2=true/\R (step x s).1 r
 |[],a,r,h,J,R,h1,h2,h3,s,hs=>by simp at hs
 |t::L,a,r,h,J,R,h1,h2,h3,s,hs=>by
  rw[kP]at h;split at h
  ·cases h
  ·rename_i hc;split at h
   ·rename_i j3;have ih:=U1 h J R h1 h2 (λu hu=>h3 u (by simp[hu]));rcases bm.1 hs with e|hs
    ·subst e;refine⟨by simpa using hc,a,j3,?_⟩;have mono:∀ (L:List dS) (x y:α),(∀ u∈L,∀ x,(step x u).2=true->R x (step x u).1)->kP P step L x=(y,true)->R x y:=by
      intro L
      induction L with
      |nil=>intro x y _ h;rw[kP]at h;cases h;exact h1 _
      |cons u L D3 =>
       intro x y hm h;rw[kP]at h;split at h
       ·cases h
       ·split at h
        ·rename_i hu;exact h2 _ _ _ (hm u IM x hu) (D3 _ _ (λv hv=>hm v (by simp[hv])) h)
        ·cases h
     exact mono L _ _ (λu hu=>h3 u (by simp[hu])) h
    ·exact ih s hs
   ·cases h
def Kz{m:ah}{P:List Nd}{n:Int}(h:oB m P=(n,true)):VM m/\km m P=true/\kP P (jr m P) (vs P (root m)) 1099511627776=(n,true):=by
 unfold oB rQ at h;by_cases h2:iB m=0/\km m P=true
 ·rw[if_pos h2]at h;split at h
  ·rename_i h1;refine⟨jD.1 h2.1,h2.2,?_⟩;have e:(kP P (jr m P) (vs P (root m)) 1099511627776).1=n:=congrArg Prod.fst h;exact Prod.ext e h1
  ·cases h
 ·rw[if_neg h2]at h;split at h
  ·rename_i h1;cases h1
  ·cases h
def U2{m:ah}{P:List Nd}(b:Int)(s:dS):(jr m P b s).1<=b:=by
 unfold jr;split
 ·exact kB _
 split
 ·exact kB _
 ·exact Int.min_le_left ..
def KA{m:ah}{P:List Nd}{n:Int}(h:kP P (jr m P) (vs P (root m)) 1099511627776=(n,true)):n<=1099511627776/\∀ s∈vs P (root m),s.2.2.contains (nd P s.1).cls=false/\((nd P s.1).cls = -1->if 0<(nd P s.1).aT.length then ng m (nd P s.1) s.2.1=true else n<=(fZ m s.2.1 (nd P s.1).dT).1/\(fZ m s.2.1 (nd P s.1).dT).2=0):=by
 have agd:∀ (L:List dS) (a r:Int),kP P (jr m P) L a=(r,true)->r<=a:=by
  intro L
  induction L with
  |nil=>intro a r h;rw[kP]at h;cases h;exact kB _
  |cons s L ih =>
   intro a r h;rw[kP]at h;split at h
   ·cases h
   ·split at h
    ·exact za (ih _ _ h) (U2 a s)
    ·cases h
 refine⟨agd _ _ _ h,λs hs=>?_⟩;obtain⟨h1,x,h2,h3⟩:=U1 h (λ_=>True) (λx y=>y<=x) (λx=>kB _) (λx y z h1 h2=>za h2 h1) (λs _ x _=>U2 x s) s hs;refine⟨h1,λhc=>?_⟩;unfold jr at h2 h3;rw[if_neg AT]at h2 h3;split
 ·rename_i hg;rw[if_pos hg]at h2;exact h2
 ·rename_i hg;rw[if_neg hg]at h2 h3;dsimp only at h2 h3;exact⟨AT,by simpa using h2⟩
def age{m:ah}{P:List Nd}(hm:VM m)(hs:km m P=true){plan:List Int}(hp:FP m plan):∀ (f:Nat) (s:dS),xg m P s->P.length-s.1<=f->uz m s.2.1 plan->∃ t∈vs P s,xg m P t/\(nd P t.1).cls = -1/\uz m t.2.1 plan:=by
 have hd:=yk hs;intro f
 induction f with
 |zero=>intro s hg hf;have:=hg.1;omega
 |succ f ih =>
  intro s hg hf bR;rw[wR hd hg.1];by_cases hc:(nd P s.1).cls = -1
  ·exact⟨s,IM,hg,hc,bR⟩
  ·have hn:=He hs hg.1;unfold ln nf at hn;rw[bg,if_neg hc,decide_eq_true_eq]at hn;obtain⟨⟨c1,c2,c3,_⟩,_⟩:=hn;have eG:=hp.len;have U3:=hp.get (nd P s.1).cls.toNat AT;rw[ss c1]at U3;obtain⟨o1,o2,o3,o4⟩:=iN.1 U3;have ho:(plan.getD (nd P s.1).cls.toNat 0).toNat<(nd P s.1).kids.length:=AT;have hk:=yF hd hg.1 ho;have gK:=hg.2.1.1;have bE:=hg.2.1.2 (nd P s.1).cls.toNat AT;obtain⟨t,ht,h2⟩:=ih (lg P s (plan.getD (nd P s.1).cls.toNat 0).toNat) (U4 hd hg ho) AT (λi hi=>by
    show((db s.2.1 (nd P s.1).cls.toNat (plan.getD (nd P s.1).cls.toNat 0).toNat).getD i default).getD _ false=true;unfold db;by_cases e:(nd P s.1).cls.toNat=i
    ·subst e;rw[rJ _ _ _ AT];unfold mZ;rw[ax,List.getElem?_set,if_pos rfl,if_pos (by rw[List.length_replicate,bE];omega)];rfl
    ·rw[ax (l:=s.2.1.set _ _),List.getElem?_set_ne e,<- ax];exact bR i hi)
   refine⟨t,List.mem_cons_of_mem _ (CH.2 ⟨_,?_,ht⟩),h2⟩;rw[wq];exact bS.2 ⟨_,List.mem_range.2 ho,rfl⟩
def U5:∀ (f:Nat->Int) (n i:Nat),(∀ j,j<n->0<=f j)->i<n->f i<=br f n
 |f,0,i,_,h=>AT
 |f,n+1,i,h0,h=>by
  rw[br];have Bf:∀ n,(∀ j,j<n->0<=f j)->0<=br f n:=λn=>by
   induction n with
   |zero=>intro _;exact kB _
   |succ n ih=>intro h;rw[br];have:=ih λj hj=>h j AT;have:=h n AT;omega
  by_cases e:i=n
  ·subst e;have:=Bf i λj hj=>h0 j AT;omega
  ·have:=U5 f n i (λj hj=>h0 j AT) AT;have:=h0 n AT;omega
def U6(f:Nat->Int)(n:Nat)(h:∀ j,j<n->0<=f j):0<=br f n:=by
 induction n with
 |zero=>exact kB _
 |succ n ih=>rw[br];have:=ih λj hj=>h j AT;have:=h n AT;omega
def agf{m:ah}(hm:VM m){plan:List Int}(hp:FP m plan){j:Nat}(hj:j<m.cls.length):0<=qJ m plan j:=by
 have h0:=hp.get j (by rw[hp.len];exact hj);obtain⟨b1,b2,b3,b4⟩:=iN.1 h0;rw[cY]at b4;have hl:=aE (l:=m.cls) (i:=j) (d:=default) hj;have ho:=aE (l:=m.cls.getD j default) (i:=(plan.getD j 0).toNat) (d:=default) AT;have:=BK (hm.qK _ hl _ ho);unfold bJ at this;unfold qJ;omega
def agh{m:ah}(hm:VM m)(plan:List Int){i:Nat}(hi:i<m.ae.length):0<=mu m plan (m.ae.getD i default):=by
 have dp:=jG hm.pr _ (aE (l:=m.ae) (i:=i) (d:=default) hi);have:=GJ dp (plan.getD (m.ae.getD i default).fst.toNat 0) (plan.getD (m.ae.getD i default).snd.toNat 0);unfold bJ at this;unfold mu;omega
def agi{m:ah}(hm:VM m)(plan:List Int){i:Nat}(hi:i<m.aC.length):0<=lQ plan (m.aC.getD i default):=by
 obtain⟨q1,q2,q3,q4⟩:=qL (hm.ct _ (aE (l:=m.aC) (i:=i) (d:=default) hi));have:=GH (most:=(m.aC.getD i default).most) (sum:=wZ plan (m.aC.getD i default).aZ 0) (rL q3);unfold bJ at this;unfold lQ;omega
def agj{m:ah}(hm:VM m){plan:List Int}(hp:FP m plan){a b:Int}(h:uB m a (plan.getD a.toNat 0) b (plan.getD b.toNat 0)=true):pz (rK m plan) 0=1099511627776:=by
 have hex :∃p∈m.ae,mu m plan p=1099511627776:=by
  unfold uB at h;split at h
  ·obtain⟨p,hp,h⟩:=nA.1 h;unfold uG at h;rw[decide_eq_true_eq]at h;exact⟨p,hp,by unfold mu;rw[h.1,h.2.1];exact h.2.2⟩
  ·obtain⟨p,hp,h⟩:=nA.1 h;unfold uG at h;rw[decide_eq_true_eq]at h;exact⟨p,hp,by unfold mu;rw[h.1,h.2.1];exact h.2.2⟩
 obtain⟨p,Lu,he⟩:=hex;obtain⟨i,hi,rfl⟩:=kX Lu;rw[Sp hm hp];have h1:=U6 (qJ m plan) m.cls.length λj hj=>agf hm hp hj;have h2:=U5 (λi=>mu m plan (m.ae.getD i default)) m.ae.length i (λj hj=>agh hm plan hj) hi;have h3:=U6 (λi=>lQ plan (m.aC.getD i default)) m.aC.length λj hj=>agi hm plan hj;have e:m.ae.getD i default=m.ae[i]:=by rw[ax,bq hi];rfl
 rw[e,he]at h2;omega
def U7:∀ (n:Nat) (l:List Nat),l.Nodup->(∀ x∈l,x<n)->l.length<=n
 |0,l,_,h=>by
  cases l with
  |nil=>simp
  |cons x l=>have:=h x IM;omega
 |n+1,l,hn,h=>by
  have h1:=U7 n (l.erase n) (hn.erase n) (λx hx=>by
   have h2:=(hn.mem_erase_iff).1 hx;have:=h x h2.2;have:=h2.1;omega)
  rw[List.length_erase]at h1;split at h1<;>omega
def agk{n:Nat}:∀ (l:List Nat),l.length > n->(∀ x∈l,x<n)->∃ i j,i<j/\j<l.length/\l[i]?=l[j]?:=by
 intro l hl hx;by_cases hn:l.Nodup
 ·exfalso;have h2:=U7 n l hn hx;omega
 ·unfold List.Nodup at hn;rw[List.pairwise_iff_getElem]at hn;simp only[Classical.not_forall,Decidable.not_not]at hn;obtain⟨i,j,hi,hj,oM,he⟩:=hn;exact⟨i,j,oM,hj,by rw[bq hi,bq hj,he]⟩
def agl{m:ah}(hm:VM m){plan:List Int}(hp:FP m plan){x:Nd}{left:List (List Bool)}(hf:cp m left)(bR:uz m left plan)(h:ng m x left=true):pz (rK m plan) 0=1099511627776:=by
 unfold ng at h;simp only[bg,decide_eq_true_eq]at h;obtain⟨⟨⟨h1,h2⟩,h3⟩,h4⟩:=h;have B7:=S3 h1;rw[gd]at h3 h4;have ri:∀ c∈x.aT,∃ i,i<x.cells.length/\(c,plan.getD c.toNat 0)∈x.cells.getD i default:=λc hc=>by
  have rB:=B7 c hc;have aQ:=h4 c hc;unfold yy at aQ;have eG:=hp.len;have hg:=hp.get c.toNat AT;obtain⟨b1,b2,b3,b4⟩:=iN.1 hg;rw[cY]at b4;have hr:=hf.2 c.toNat (by have:=hf.1;omega);have h5:=zY.1 aQ (plan.getD c.toNat 0).toNat AT;rw[bR c.toNat AT,kU,oW,nA]at h5;obtain⟨l,hl,h6⟩:=h5;rw[nA]at h6;obtain⟨y,hy,h7⟩:=h6;unfold oH at h7;rw[decide_eq_true_eq,ss b3]at h7;obtain⟨i,hi,rfl⟩:=kX hl;refine⟨i,hi,?_⟩;rw[ax,bq hi,mI,<- h7];exact hy
 have kM :∃f:Int->Nat,∀ c∈x.aT,f c<x.cells.length/\(c,plan.getD c.toNat 0)∈x.cells.getD (f c) default:=by
  classical
  refine⟨λc=>if hc:c∈x.aT then Classical.choose (ri c hc) else 0,λc hc=>?_⟩;dsimp only;rw[dif_pos hc];exact Classical.choose_spec (ri c hc)
 obtain⟨f,Hg⟩:=kM;obtain⟨i,j,oM,hj,he⟩:=agk (n:=x.cells.length) (x.aT.map f) (by simpa using h2) (λy hy=>by
  obtain⟨c,hc,rfl⟩:=bS.1 hy;exact(Hg c hc).1)
 rw[List.length_map]at hj;rw[bV,bV,bq AT,bq hj]at he;simp only[Option.map_some,Option.some.injEq]at he;have aS:∀ j,j<x.aT.length->∀ i,i<j->x.aT.getD i 0<x.aT.getD j 0:=by
  intro j
  induction j with
  |zero=>intro _ i hi;omega
  |succ j ih =>
   intro hj i hi;have h5:=zY.1 h1 (j+1) hj;rw[decide_eq_true_eq]at h5;have h6:x.aT.getD j 0<x.aT.getD (j+1) 0:=by
    rcases h5.2.2 with h|h
    ·omega
    ·simpa using h
   by_cases e:i=j
   ·subst e;exact h6
   ·have:=ih AT i AT;omega
 have bZ:=aS j hj i oM;rw[ax,ax,bq AT,bq hj,mI,mI]at bZ;have m1:=(Hg x.aT[i] (oV _)).2;have m2:=(Hg x.aT[j] (oV _)).2;rw[he]at m1;have bn:=(Hg x.aT[j] (oV _)).1;generalize x.aT[i]=a at *;generalize x.aT[j]=b at *;have h5:=h3 _ (aE (d:=default) bn);generalize x.cells.getD (f b) default=l at *;unfold uC at h5;have key:∀ u v:Int×Int,u∈l->v∈l->u.1≠v.1->uB m u.1 u.2 v.1 v.2=true:=λu v hu hv bZ=>by
  obtain⟨p,hp',rfl⟩:=kX hu;obtain⟨q,xh,rfl⟩:=kX hv;have one:∀ p q (hp:p<l.length) (hq:q<p),l[p].1≠l[q].1->uB m l[p].1 l[p].2 l[q].1 l[q].2=true:=λp q hp hq bZ=>by
   have h6:=zY.1 h5 p hp;unfold yx at h6;rw[bg,gd,ax,bq hp,mI]at h6;have h7:=h6.2 l[q] (by rw[List.mem_take_iff_getElem];exact⟨q,AT,rfl⟩);unfold BQ at h7;rw[decide_eq_false bZ,oW]at h7;exact h7
  rcases Nat.lt_trichotomy p q with h|h|h
  ·rw[af9 bZ];exact one q p xh h (Ne.symm bZ)
  ·subst h;exact absurd rfl bZ
  ·exact one p q hp' h bZ
 exact agj hm hp (key _ _ m1 m2 NZ)
def agn{m:ah}{P:List Nd}{n:Int}(h:oB m P=(n,true)){plan:List Int}(hp:FP m plan):n<=pz (rK m plan) 0:=by
 obtain⟨hm,hs,hr⟩:=Kz h;obtain⟨hn,hl⟩:=KA hr;have hlen:=U8 hs;have nL:=zP hm;obtain⟨t,ht,hg,hc,bR⟩:=age hm hs hp P.length (root m) ⟨by show 0<_;omega,nL,aX _⟩ AT (λi hi=>by
  show((cg m).getD i default).getD _ false=true;have hg:=hp.get i (by rw[hp.len];exact hi);obtain⟨b1,b2,b3,b4⟩:=iN.1 hg;rw[cY]at b4;unfold cg;rw[if_pos (jD.2 hm)];unfold cu;rw[gR _ _ _ hi,ax,List.getElem?_replicate,if_pos AT];rfl)
 have h2:=(hl t ht).2 hc;split at h2
 ·rw[agl hm hp hg.2.1 bR h2];exact hn
 ·refine za h2.1 ?_;have h3:=h2.2;unfold fZ at h3 ⊢;split at h3
  ·cases h3
  split at h3
  ·cases h3
  rename_i h4 h5;rw[if_neg h4,if_neg h5];rw[Bool.not_eq_false,gd]at h5;exact ae6 hm hp _ hg.2.1 bR _ h5
def ago{m:ah}{P:List Nd}(hm:VM m)(hs:km m P=true)(h:∀ s∈vs P (root m),s.2.2.contains (nd P s.1).cls=false/\((nd P s.1).cls = -1->(nd P s.1).aT.length=0/\(fZ m s.2.1 (nd P s.1).dT).2=0)):
  ∃ n,oB m P=(n,true)/\∀ a,a<=1099511627776->(∀ s∈vs P (root m),(nd P s.1).cls = -1->a<=(fZ m s.2.1 (nd P s.1).dT).1)->a<=n:=by
 have key:∀ (L:List dS) (b:Int),(∀ s∈L,s.2.2.contains (nd P s.1).cls=false/\((nd P s.1).cls = -1->(nd P s.1).aT.length=0/\(fZ m s.2.1 (nd P s.1).dT).2=0)) ->
   (kP P (jr m P) L b).2=true/\∀ a,a<=b->(∀ s∈L,(nd P s.1).cls = -1->a<=(fZ m s.2.1 (nd P s.1).dT).1)->a<=(kP P (jr m P) L b).1:=by
  intro L
  induction L with
  |nil=>intro b _;exact⟨rfl,λa h _=>h⟩
  |cons s L ih =>
   intro b h;obtain⟨h1,h2⟩:=h s IM;have xi:(jr m P b s).2=true:=by
    unfold jr;by_cases hc:(nd P s.1).cls = -1
    ·rw[if_neg AT,if_neg (by have:=(h2 hc).1;omega)];simp[(h2 hc).2]
    ·rw[if_pos hc]
   rw[kP,h1,if_neg IM,if_pos xi];obtain⟨i1,i2⟩:=ih (jr m P b s).1 λt ht=>h t (by simp[ht]);refine⟨i1,λa ha hl=>i2 a ?_ λt ht=>hl t (by simp[ht])⟩;unfold jr;by_cases hc:(nd P s.1).cls = -1
   ·rw[if_neg AT,if_neg (by have:=(h2 hc).1;omega)];have:=hl s IM hc;show a<=min _ _;omega
   ·rw[if_pos hc];exact ha
 obtain⟨k1,k2⟩:=key (vs P (root m)) 1099511627776 h;refine⟨(kP P (jr m P) (vs P (root m)) 1099511627776).1,?_,k2⟩;have hw:rQ m P (jr m P) 1099511627776=kP P (jr m P) (vs P (root m)) 1099511627776:=if_pos ⟨jD.2 hm,hs⟩;unfold oB;rw[hw,if_pos k1]
def eH(l:List Mv):Nd:=⟨-1,[],l,[],[]⟩
def Ky{P:List Nd}(hd:Down P){s:dS}(hs:s.1<P.length)(hk:(nd P s.1).kids=[]):vs P s=[s]:=by
 rw[wR hd hs];unfold qF iO;rw[hk];rfl
def RV{m:ah}(left:List (List Bool)):fZ m left []=(kk m left (S0 m,T0 m),0):=rfl
mutual
inductive eS(m:ah)(P:List Nd)(Q:List Int->Prop):Nat->Nat->List Int->Prop
 |leaf (lo:Nat) (ab:List Int) (l:List Mv) (h:nd P lo=eH l) (hl:l.length<=2000) (hv:∀ x∈l,il m x=true) (ha:(-1:Int) ∉ ab) (hq:Q ab):eS m P Q lo (lo+1) ab
 |node (lo hi:Nat) (ab:List Int) (c:Nat) (ks:List Int) (h:nd P lo=⟨c,ks,[],[],[]⟩) (hc:c<m.cls.length) (ha:(c:Int) ∉ ab) (hk:ks.length=(m.cls.getD c default).length) (hs:iV m P Q (lo+1) hi (ab++[(c:Int)]) ks):eS m P Q lo hi ab
inductive iV(m:ah)(P:List Nd)(Q:List Int->Prop):Nat->Nat->List Int->List Int->Prop
 |nil (lo:Nat) (ab:List Int):iV m P Q lo lo ab []
 |cons (lo mid hi:Nat) (ab:List Int) (ks:List Int) (h:eS m P Q lo mid ab) (hs:iV m P Q mid hi ab ks):iV m P Q lo hi ab ((lo:Int)::ks)
end
def iV.snoc{m:ah}{P:List Nd}{Q:List Int->Prop}{mid hi:Nat}{ab:List Int}(h2:eS m P Q mid hi ab):∀ {ks:List Int} {lo:Nat},iV m P Q lo mid ab ks->iV m P Q lo hi ab (ks++[(mid:Int)])
 |[],lo,h=>by
  cases h;exact .cons _ _ _ _ _ h2 (.nil _ _)
 |k::ks,lo,h=>by
  cases h with
  |cons _ aeF _ _ _ h1 hs=>exact .cons _ _ _ _ _ h1 (iV.snoc h2 hs)
mutual
def eS.lt{m:ah}{P:List Nd}{Q:List Int->Prop}{lo hi:Nat}{ab:List Int}:eS m P Q lo hi ab->lo<hi
 |.leaf _ _ _ _ _ _ _ _=>Nat.lt_succ_self _
 |.node _ _ _ _ _ _ _ _ _ hs=>by have:=hs.le;omega
def iV.le{m:ah}{P:List Nd}{Q:List Int->Prop}{lo hi:Nat}{ab ks:List Int}:iV m P Q lo hi ab ks->lo<=hi
 |.nil _ _=>aX _
 |.cons _ _ _ _ _ h hs=>by have:=h.lt;have:=hs.le;omega
end
mutual
def eS.frame{m:ah}{P P':List Nd}{Q:List Int->Prop}{lo hi:Nat}{ab:List Int}:eS m P Q lo hi ab->(∀ i,lo<=i->i<hi->nd P' i=nd P i)->eS m P' Q lo hi ab
 |.leaf _ _ l h hl hv ha hq,hf=>.leaf _ _ l ((hf _ (aX _) (Nat.lt_succ_self _)).trans h) hl hv ha hq
 |.node _ _ _ c ks h hc ha hk hs,hf=>.node _ _ _ c ks ((hf _ (aX _) (by have:=hs.le;omega)).trans h) hc ha hk (hs.frame λi h1 h2=>hf i AT h2)
def iV.frame{m:ah}{P P':List Nd}{Q:List Int->Prop}{lo hi:Nat}{ab ks:List Int}:iV m P Q lo hi ab ks->(∀ i,lo<=i->i<hi->nd P' i=nd P i)->iV m P' Q lo hi ab ks
 |.nil _ _,_=>.nil _ _
 |.cons _ mid _ _ _ h hs,hf=>.cons _ _ _ _ _ (h.frame λi h1 h2=>hf i h1 (by have:=hs.le;omega)) (hs.frame λi h1 h2=>hf i (by have:=h.lt;omega) h2)
end
def tw(P:List Nd)(lo hi:Nat):List Int:=(List.range' lo (hi-lo)).flatMap λi=>(nd P i).kids
def U9(P:List Nd){lo mid hi:Nat}(h1:lo<=mid)(h2:mid<=hi):tw P lo hi=tw P lo mid++tw P mid hi:=by
 unfold tw;rw[<- tS];congr 1;have:=List.range'_append (s:=lo) (m:=mid-lo) (n:=hi-mid) (step:=1);simp only[Nat.one_mul]at this;rw[show lo+(mid-lo)=mid by omega,show mid-lo+(hi-mid)=hi-lo by omega]at this;exact this.symm
def U'(P:List Nd)(lo:Nat):tw P lo (lo+1)=(nd P lo).kids:=by
 unfold tw;rw[show lo+1-lo=1 by omega];simp
def agp(P:List Nd)(lo:Nat):tw P lo lo=[]:=by unfold tw;rw[Nat.sub_self];rfl
mutual
def eS.count{m:ah}{P:List Nd}{Q:List Int->Prop}{lo hi:Nat}{ab:List Int}:eS m P Q lo hi ab->∀ j:Nat,(tw P lo hi).count (j:Int)=if lo<j/\j<hi then 1 else 0
 |.leaf lo _ l h _ _ _ _,j=>by
  rw[U',h,if_neg AT];rfl
 |.node lo hi _ c ks h _ _ _ hs,j=>by
  have hle:=hs.le;rw[U9 P (Nat.le_succ lo) hle,U',h,On];have:=hs.count j;dsimp only;rw[this];by_cases h1:lo<j/\j<hi
  ·rw[if_pos AT,if_pos h1]
  ·rw[if_neg AT,if_neg h1]
def iV.count{m:ah}{P:List Nd}{Q:List Int->Prop}{lo hi:Nat}{ab ks:List Int}:iV m P Q lo hi ab ks->∀ j:Nat,ks.count (j:Int)+(tw P lo hi).count (j:Int)=if lo<=j/\j<hi then 1 else 0
 |.nil lo _,j=>by rw[agp,if_neg AT];rfl
 |.cons lo mid hi _ ks h hs,j=>by
  have aS:=h.lt;have hle:=hs.le;rw[U9 P (Nat.le_of_lt aS) hle,On,List.count_cons];have h1:=h.count j;have h2:=hs.count j;have hb:((lo:Int)==(j:Int))=decide (lo=j):=by rw[Bool.eq_iff_iff,beq_iff_eq,decide_eq_true_eq];omega
  rw[h1,hb];by_cases e:lo=j
  ·subst e;rw[if_neg AT]at h2;simp only[decide_true,if_true];rw[if_neg AT,if_pos AT];omega
  ·simp only[decide_eq_false e,Bool.false_eq_true,if_false];by_cases h3:lo<j/\j<mid
   ·rw[if_pos h3,if_pos AT];rw[if_neg AT]at h2;omega
   ·rw[if_neg h3];by_cases h4:mid<=j/\j<hi
    ·rw[if_pos h4]at h2;rw[if_pos AT];omega
    ·rw[if_neg h4]at h2;rw[if_neg AT];omega
end
mutual
def eS.B8{m:ah}{P:List Nd}{Q:List Int->Prop}{lo hi:Nat}{ab:List Int}:eS m P Q lo hi ab->∀ i,lo<=i->i<hi->nf m (nd P i)=true/\∀ k∈(nd P i).kids,(i:Int)<k/\k<hi
 |.leaf lo _ l h _ _ _ _,i,h1,h2=>by
  obtain rfl:i=lo:=AT;rw[h];exact⟨rfl,λk hk=>by cases hk⟩
 |.node lo hi _ c ks h hc _ hk hs,i,h1,h2=>by
  by_cases e:i=lo
  ·subst e;rw[h];refine⟨?_,λk jU=>?_⟩
   ·unfold nf;rw[if_neg (by show ¬((c:Int) = -1);omega),decide_eq_true_eq];exact⟨by show(0:Int)<=c;omega,by show(c:Int)<_;omega,by show ks.length=_;rw[cY];exact hk,rfl,rfl,rfl⟩
   ·have:=hs.Ve k jU;omega
  ·exact hs.B8 i AT h2
def iV.B8{m:ah}{P:List Nd}{Q:List Int->Prop}{lo hi:Nat}{ab ks:List Int}:iV m P Q lo hi ab ks->∀ i,lo<=i->i<hi->nf m (nd P i)=true/\∀ k∈(nd P i).kids,(i:Int)<k/\k<hi
 |.nil lo _,i,h1,h2=>AT
 |.cons lo mid hi _ ks h hs,i,h1,h2=>by
  have hle:=hs.le;by_cases e:i<mid
  ·obtain⟨a,b⟩:=h.B8 i h1 e;exact⟨a,λk hk=>by have:=b k hk;omega⟩
  ·exact hs.B8 i AT h2
def iV.Ve{m:ah}{P:List Nd}{Q:List Int->Prop}{lo hi:Nat}{ab ks:List Int}:iV m P Q lo hi ab ks->∀ k∈ks,(lo:Int)<=k/\k<hi
 |.nil lo _,k,hk=>by cases hk
 |.cons lo mid hi _ ks h hs,k,hk=>by
  have aS:=h.lt;have hle:=hs.le;rcases bm.1 hk with rfl|hk
  ·omega
  ·have:=hs.Ve k hk;omega
end
mutual
def eS.flat{m:ah}{P:List Nd}{Q:List Int->Prop}{lo hi:Nat}{ab:List Int}:eS m P Q lo hi ab->∀ i,lo<=i->i<hi->(nd P i).dT.length<=2000/\(nd P i).aT=[]/\(nd P i).cells=[]
 |.leaf lo _ l h hl _ _ _,i,h1,h2=>by
  obtain rfl:i=lo:=AT;rw[h];exact⟨hl,rfl,rfl⟩
 |.node lo hi _ c ks h hc _ hk hs,i,h1,h2=>by
  by_cases e:i=lo
  ·subst e;rw[h];exact⟨aW _,rfl,rfl⟩
  ·exact hs.flat i AT h2
def iV.flat{m:ah}{P:List Nd}{Q:List Int->Prop}{lo hi:Nat}{ab ks:List Int}:iV m P Q lo hi ab ks->∀ i,lo<=i->i<hi->(nd P i).dT.length<=2000/\(nd P i).aT=[]/\(nd P i).cells=[]
 |.nil lo _,i,h1,h2=>AT
 |.cons lo mid hi _ ks h hs,i,h1,h2=>by
  have hle:=hs.le;by_cases e:i<mid
  ·exact h.flat i h1 e
  ·exact hs.flat i AT h2
end
def agq(P:List Nd):tw P 0 P.length=iQ P:=by
 unfold tw iQ;rw[Nat.sub_zero,<- List.range_eq_range'];have:∀ n,n<=P.length->(List.range n).flatMap (λi=>(nd P i).kids)=(P.take n).flatMap (·.kids):=by
  intro n
  induction n with
  |zero=>intro _;rfl
  |succ n ih =>
   intro hn;rw[List.range_succ,tS,ih AT,ei AT,tS,List.flatMap_singleton,List.flatMap_singleton];rfl
 rw[this P.length (aX _),List.take_length]
def eS.shaped{m:ah}{P:List Nd}{Q:List Int->Prop}(h:eS m P Q 0 P.length [])(hn:P.length<=20000):km m P=true:=by
 have aS:=h.lt;rw[S2 ⟨aS,hn⟩ (λi hi=>by
  obtain⟨a,b⟩:=h.B8 i (aW _) hi;show ln m P.length i (nd P i)=true;unfold ln;rw[a,Bool.true_and,gd];intro k hk;have:=b k hk;unfold pF;rw[decide_eq_true_eq];exact this)]
 rw[Bool.not_eq_true',List.any_eq_false];intro x hx;unfold jT at hx;rw[<- List.map_drop]at hx;obtain⟨j,hj,rfl⟩:=bS.1 hx;have FM:1<=j/\j<P.length:=by
  obtain⟨i,hi,rfl⟩:=kX hj;rw[List.length_drop,List.length_range]at hi;rw[List.getElem_drop,List.getElem_range];omega
 have hc:=h.count j;rw[agq,if_pos AT]at hc;rw[hc];decide
def agr{m:ah}{left:List (List Bool)}{l:List Mv}(hl:l.length<=2000)(hv:∀ x∈l,il m x=true):fZ m left l=(kk m left (iF m l (S0 m,T0 m)),0):=by
 unfold fZ;rw[if_neg AT,if_neg (by rw[gd.2 hv];simp)]
mutual
def eS.B9{m:ah}{P:List Nd}{Q:List Int->Prop}(hd:Down P){lo hi:Nat}{ab:List Int}:eS m P Q lo hi ab->hi<=P.length->∀ left,∀ t∈vs P (lo,left,ab),t.2.2.contains (nd P t.1).cls=false/\((nd P t.1).cls = -1->(nd P t.1).aT.length=0/\(fZ m t.2.1 (nd P t.1).dT).2=0)
 |.leaf lo ab l h hl hv ha _,hh,left,t,ht=>by
  rw[Ky hd (by show lo<_;omega) (by show(nd P lo).kids=[];rw[h];rfl),c8]at ht;subst ht;dsimp only;rw[h];refine⟨?_,λ_=>⟨rfl,by show(fZ m left l).2=0;rw[agr hl hv]⟩⟩;show ab.contains (-1)=false;rw[CL];intro hc;exact ha (pY.1 hc)
 |.node lo hi ab c ks h hc ha hk hs,hh,left,t,ht=>by
  have hle:=hs.le;rw[wR hd (by show lo<_;omega),bm]at ht;rcases ht with rfl|ht
  ·dsimp only;rw[h];refine⟨?_,λh2=>absurd (show(c:Int) = -1 from h2) AT⟩;rw[CL];intro hc;exact ha (pY.1 hc)
  ·obtain⟨u,hu,ht⟩:=CH.1 ht;obtain⟨o,ho,rfl⟩:=wS (wq.1 hu);dsimp only at ho;have yj:lg P (lo,left,ab) o=((ks.getD o 0).toNat,db left c o,ab++[(c:Int)]):=by
    unfold lg;dsimp only;rw[h];rfl
   rw[yj]at ht;rw[h]at ho;exact hs.B9 hd hh o ho _ t ht
def iV.B9{m:ah}{P:List Nd}{Q:List Int->Prop}(hd:Down P){lo hi:Nat}{ab ks:List Int}:iV m P Q lo hi ab ks->hi<=P.length->∀ o,o<ks.length->∀ left,∀ t∈vs P ((ks.getD o 0).toNat,left,ab),t.2.2.contains (nd P t.1).cls=false/\((nd P t.1).cls = -1->(nd P t.1).aT.length=0/\(fZ m t.2.1 (nd P t.1).dT).2=0)
 |.nil _ _,_,o,ho,_,_,_=>by cases ho
 |.cons lo mid hi ab ks h hs,hh,o,ho,left,t,ht=>by
  have hle:=hs.le;cases o with
  |zero =>
   rw[iv,cY]at ht;exact h.B9 hd AT left t ht
  |succ o =>
   rw[fq]at ht;exact hs.B9 hd hh o (by simpa using ho) left t ht
end
mutual
def eS.leaves{m:ah}{P:List Nd}{Q:List Int->Prop}(hd:Down P){lo hi:Nat}{ab:List Int}:eS m P Q lo hi ab->hi<=P.length->∀ left,∀ t∈vs P (lo,left,ab),(nd P t.1).cls = -1->Q t.2.2
 |.leaf lo ab l h hl hv ha hq,hh,left,t,ht,_=>by
  rw[Ky hd (by show lo<_;omega) (by show(nd P lo).kids=[];rw[h];rfl),c8]at ht;subst ht;exact hq
 |.node lo hi ab c ks h hc ha hk hs,hh,left,t,ht,bn=>by
  have hle:=hs.le;rw[wR hd (by show lo<_;omega),bm]at ht;rcases ht with rfl|ht
  ·dsimp only at bn;rw[h]at bn;exact absurd (show(c:Int) = -1 from bn) AT
  ·obtain⟨u,hu,ht⟩:=CH.1 ht;obtain⟨o,ho,rfl⟩:=wS (wq.1 hu);dsimp only at ho;have yj:lg P (lo,left,ab) o=((ks.getD o 0).toNat,db left c o,ab++[(c:Int)]):=by
    unfold lg;dsimp only;rw[h];rfl
   rw[yj]at ht;rw[h]at ho;exact hs.leaves hd hh o ho _ t ht bn
def iV.leaves{m:ah}{P:List Nd}{Q:List Int->Prop}(hd:Down P){lo hi:Nat}{ab ks:List Int}:iV m P Q lo hi ab ks->hi<=P.length->∀ o,o<ks.length->∀ left,∀ t∈vs P ((ks.getD o 0).toNat,left,ab),(nd P t.1).cls = -1->Q t.2.2
 |.nil _ _,_,o,ho,_,_,_,_=>by cases ho
 |.cons lo mid hi ab ks h hs,hh,o,ho,left,t,ht,bn=>by
  have hle:=hs.le;cases o with
  |zero =>
   rw[iv,cY]at ht;exact h.leaves hd AT left t ht bn
  |succ o =>
   rw[fq]at ht;exact hs.leaves hd hh o (by simpa using ho) left t ht bn
end
def eS.Ds{m:ah}{P:List Nd}{Q:List Int->Prop}(hm:VM m)(h:eS m P Q 0 P.length [])(hn:P.length<=20000):∃n,oB m P=(n,true)/\∀ a,a<=1099511627776->(∀ s∈vs P (root m),(nd P s.1).cls = -1->a<=(fZ m s.2.1 (nd P s.1).dT).1)->a<=n:=by
 have hs:=h.shaped hn;exact ago hm hs λs j3=>h.B9 (yk hs) (aX _) (cg m) s j3
end T

