import Derived.Test.YtdipcmigdbnheaaGreatX23
set_option linter.all false
set_option maxHeartbeats 0
set_option maxRecDepth 20000
open List renaming getElem_of_mem→mJ,getD_eq_getElem?_getD→aA,getElem?_eq_getElem→bK,all_eq_true→fT,take_append_drop→Dr,count_append→tC,take_zero→kK,append_nil→g9,any_eq_false→yL,mem_cons→cB,mem_reverse→uE,map_cons→dg,reverse_cons→Ki,contains_iff_mem→rq,mem_map→cz,getElem?_set_ne→bR,nodup_cons→uA,range→aW,map_append→fW,mem_range→mH,count_eq_zero→PH,length→oW,ext_getElem?→kq,getElem?_map→cj,getElem?_set→cA,getElem?_eq_none→dW,getElem?_replicate_of_lt→Kj,getElem?_range→lg,replicate→bH,mem_append→cH,length_map→dX,length_range→J8,map_set→ry,getElem?_eq_some_iff→a8,perm_middle→DA,append_assoc→cM,Perm→tB,length_set→bF,mem_append_left→Kb,not_mem_nil→kI,mem_of_getElem?→iD,take→kL,drop→iT,length_append→bQ,length_take→eN,take_of_length_le→dJ
open Bool renaming not_eq_false→z7,true_and→eQ,eq_iff_iff→mI,and_eq_true→bw,not_false→je,not_true→gT
open Nat renaming le_refl→aN,strongRecOn→Dq,zero_le→aI,not_lt_zero→m8,min_eq_left→pC
open Option renaming getD_some→jB,map_some→fl
open Int renaming toNat_natCast→fq,min_eq_left→Kk,le_refl→eC,le_trans→sE
open Go Go.Am Go.Proofs
namespace T
def acg{m:aj}{P:List Nd}{n:Nat}{up:ei}(h:m7 m P n=some up):∀ i,i<n->∃ u v,m7 m P i=some u/\pA m P i u=some v:=by
 intro i hi;cases hu:m7 m P i with
 |none=>rw[OD hu n GC]at h;cases h
 |some u =>
  cases hv:pA m P i u with
  |none =>
   have h1:m7 m P (i+1)=none:=by
    show(m7 m P i).bind _=none;rw[hu];exact hv
   rw[OD h1 n GC]at h;cases h
  |some v=>exact⟨u,v,rfl,hv⟩
def alH{n i:Nat}{kids:List Int}{up v:ei}(h:oT n i kids up kids.length=some v):∀ k∈kids,mB n i k=true:=by
 intro k hk;obtain⟨o,ho,rfl⟩:=mJ hk;cases hw:oT n i kids up o with
 |none=>rw[abW hw kids.length GC]at h;cases h
 |some w =>
  by_cases hc:mB n i (kids.getD o 0)=true/\(fe w (kids.getD o 0).toNat).1<0
  ·have:=hc.1;rwa [aA,bK ho]at this
  ·rw[abZ hw ho hc]at h;cases h
def OO{m:aj}{P:List Nd}{i:Nat}{u v:ei}(h:pA m P i u=some v):
  ¬(0<i/\(fe u i).1<0)/\m4 m (nd P i)=true/\((nd P i).cls≠-1->ri P (nd P i).cls (l6 u i)=false)/\lC m P.length i (nd P i)=true:=by
 unfold pA at h;split at h
 ·cases h
 rename_i h1;split at h
 ·cases h
 rename_i h2;rw[z7]at h2;split at h
 ·rename_i h3;refine⟨h1,h2,λhh=>absurd h3 hh,?_⟩;unfold lC;rw[h2,eQ,List.eq_nil_of_length_eq_zero (OE h2 h3)];rfl
 split at h
 ·cases h
 rename_i h3 h4;refine⟨h1,h2,λ_=>by simpa using h4,?_⟩;unfold lC;rw[h2,eQ,fT];exact alH h
def ach{P:List Nd}(i:Nat)(k:Int):(gz (P.take i)).count k<=(gz P).count k:=by
 conv=>rhs;rw[<- Dr i P]
 unfold gz;rw[List.flatMap_append,tC];omega
def F9{m:aj}{P:List Nd}{up:ei}(h:oa m P=some up):(1<=P.length/\P.length<=20000)/\m7 m P P.length=some up:=by
 unfold oa at h;split at h
 ·rename_i hs;exact⟨hs,h⟩
 ·cases h
def UI.full{P:List Nd}{up:ei}(h:UI P P.length 0 up)(j:Nat)(hj:j<P.length):(gz P).count (j:Int)=if 0<=(fe up j).1 then 1 else 0:=by
 have:=h.Bw j hj;rwa [kK,g9,List.take_length]at this
def Dg{m:aj}{P:List Nd}{up:ei}(h:oa m P=some up):j5 m P=true:=by
 obtain⟨hs,hf⟩:=F9 h;have dF:=acg hf;have lF:=zS _ _ (aN _) hf;have jV:∀ j,1<=j->j<P.length->(gz P).count (j:Int)=1:=λj h1 h2=>by
  obtain⟨u,v,hu,hv⟩:=dF j h2;have hn:=(OO hv).1;have hc:=(zS _ _ GC hu).Bw j h2;rw[kK,g9,if_pos GC]at hc;have hle:=ach (P:=P) j (j:Int);have Gb:=lF.full j h2;split at Gb<;>omega
 rw[IX hs λi hi=>by obtain⟨u,v,_,hv⟩:=dF i hi;exact(OO hv).2.2.2,Bool.not_eq_true'];rw[yL];intro x hx;obtain⟨j,hj,rfl⟩:=mJ hx;rw[List.length_drop,Ba]at hj;rw[List.getElem_drop];have:=IW (gz P) (j:=1+j) (show 1+j<P.length by omega);rw[aA,bK (by rw[Ba];omega),jV (1+j) GC GC]at this;rw[jB]at this;rw[this];decide
def alI{P:List Nd}(hd:Down P)(R:dU->Prop)(dP:∀ s o,s.1<P.length->o<(nd P s.1).kids.length->R s->R (nD P s o)):
  ∀ (f:Nat) (s:dU),s.1<P.length->R s->∀ v∈mD P f s,R v:=by
 intro f
 induction f with
 |zero=>intro s _ _ v hv;exact absurd hv (by simp[mD])
 |succ f ih =>
  intro s hs hr v hv;rw[mD]at hv;rcases cB.1 hv with rfl|hv
  ·exact hr
  ·obtain⟨t,ht,hv⟩:=List.mem_flatMap.1 hv;obtain⟨o,ho,rfl⟩:=wX (uE.1 ht);exact ih _ (wY hd hs ho).2.1 (dP s o hs ho hr) v hv
def qb(P:List Nd)(l:ei)(x:List (List Bool)):List (List Bool):=l.foldl (λacc a=>bV acc (nd P a.1.toNat).cls.toNat a.2.toNat) x
def Gc(m:aj)(P:List Nd)(u:ei)(s:dU):Prop:=(l6 u s.1).map (λa=>(nd P a.1.toNat).cls)=s.2.2.reverse/\s.2.1=qb P (l6 u s.1).reverse (dH m)
def JH{m:aj}{P:List Nd}(hd:Down P){i:Nat}{u:ei}(h:UI P i 0 u)(h0:0<P.length):∀ v∈vs P (root m),v.1<=i->Gc m P u v:=by
 refine alI hd (λs=>s.1<=i->Gc m P u s) ?_ _ (root m) h0 ?_
 ·intro s o hs ho hr hle;obtain⟨h1,h2,h3⟩:=wY hd hs ho;obtain⟨r1,r2⟩:=hr GC;obtain⟨j,qF,El,hj3,hj4⟩:=h.set s.1 o (.inl GC) hs ho;have e:(nD P s o).1=j:=GC;unfold Gc;rw[e,Dd h qF,hj4,if_pos PA];dsimp only;rw[fq];refine⟨?_,?_⟩
  ·rw[dg,r1];show _=(s.2.2++[(nd P s.1).cls]).reverse;rw[List.reverse_append];rfl
  ·unfold qb;rw[Ki,List.foldl_append];show bV s.2.1 _ _=_;rw[r2];rfl
 ·intro _;have AF:fe u 0=(-1,0):=by
   rcases h.low 0 h0 with h1|⟨p,q,h1,h2,_⟩
   ·exact h1
   ·omega
  unfold Gc;rw[Dd h (show(root m).1<P.length from h0)];show _/\_;have:(fe u (root m).1)=(-1,0):=AF;rw[this,if_neg Px];exact⟨rfl,rfl⟩
def OP{m:aj}{P:List Nd}{u:ei}{s:dU}(h:Gc m P u s)(c:Int):ri P c (l6 u s.1)=s.2.2.contains c:=by
 have h1:ri P c (l6 u s.1)=((l6 u s.1).map λa=>(nd P a.1.toNat).cls).any (· == c):=by
  unfold ri;rw[List.any_map];rfl
 rw[h1,h.1,List.any_reverse,mI,List.any_eq_true,rq];constructor
 ·rintro⟨x,hx,e⟩;rw[beq_iff_eq]at e;subst e;exact hx
 ·exact λhx=>⟨c,hx,GF⟩
def aci{m:aj}{P:List Nd}(h:j5 m P=true){j:Nat}(hj:j<P.length):∃v∈vs P (root m),v.1=j:=by
 have:=abI h (s:=root m) rfl j hj;have hm:j∈(vs P (root m)).map (·.1):=by
  rw[<- List.count_pos_iff];omega
 obtain⟨v,hv,e⟩:=cz.1 hm;exact⟨v,hv,e⟩
def alK{m:aj}{P:List Nd}(h:j5 m P=true)(hn:oa m P=none):∃v∈vs P (root m),v.2.2.contains (nd P v.1).cls=true:=by
 have hl:=vF h;have hd:=vD h;have gQ :∃i u,i<P.length/\m7 m P i=some u/\pA m P i u=none:=by
  refine Classical.byContradiction λnS=>?_;have dF:∀ i,i<=P.length->∃ u,m7 m P i=some u:=by
   intro i
   induction i with
   |zero=>exact λ_=>⟨_,rfl⟩
   |succ i ih =>
    intro hi;obtain⟨u,hu⟩:=ih GC;cases hv:pA m P i u with
    |none=>exact absurd ⟨i,u,GC,hu,hv⟩ nS
    |some v =>
     refine⟨v,?_⟩;show(m7 m P i).bind _=_;rw[hu];exact hv
  obtain⟨u,hu⟩:=dF _ (aN _);unfold oa at hn;rw[if_pos hl,hu]at hn;cases hn
 obtain⟨i,u,hi,hu,hv⟩:=gQ;have lF:=zS i u GC hu;obtain⟨v,bT,OQ⟩:=aci h hi;refine⟨v,bT,?_⟩;have lu:=JH hd lF GC v bT GC;rw[<- OP lu,OQ];have wR:=C3 h hi;unfold lC at wR;rw[bw,fT]at wR;unfold pA at hv;split at hv
 ·rename_i hp;obtain⟨p,xT,yl,_⟩:=abG h (show 1<=i by omega) hi;have:i∈kN P p:=by rw[<- List.count_pos_iff];omega
  unfold kN at this;obtain⟨k,hk,e⟩:=cz.1 this;obtain⟨q,hq,rfl⟩:=mJ hk;obtain⟨j,h1,h2,h3,h4⟩:=lF.set p q (.inl xT) GC hq;rw[aA,bK hq,jB]at h3;rw[h3,fq]at e;subst e;rw[h4]at hp;exact absurd hp.2 PA
 split at hv
 ·rename_i h2;rw[wR.1]at h2;cases h2
 split at hv
 ·cases hv
 split at hv
 ·assumption
 exfalso;have alL:∀ o,o<=(nd P i).kids.length->∃ w,oT P.length i (nd P i).kids u o=some w:=by
  intro o
  induction o with
  |zero=>exact λ_=>⟨_,rfl⟩
  |succ o ih =>
   intro ho;obtain⟨w,hw⟩:=ih GC;have pW:=wR.2 _ (ay (l:=(nd P i).kids) (i:=o) (d:=0) GC);refine⟨_,ab0 hw ⟨pW,?_⟩⟩;unfold mB at pW;rw[decide_eq_true_eq]at pW;have hwi:=UI.kids hi lF o w GC hw;have im:(nd P i).kids.take (o+1)=(nd P i).kids.take o++[(nd P i).kids.getD o 0]:=eG GC;generalize iO:(nd P i).kids.getD o 0=k at *;obtain⟨kn,rfl⟩:∃kn:Nat,k=kn:=⟨k.toNat,GC⟩;rw[fq];refine Classical.byContradiction λnR=>?_;have hc:=hwi.Bw kn GC;rw[if_pos GC]at hc;have h1:=abF h (j:=kn) GC GC;have h2:(gz (P.take (i+1))).count (kn:Int)<=(gz P).count (kn:Int):=ach _ _;rw[abY hi,Ni,tC]at h2;have h3:((nd P i).kids.take (o+1)).count (kn:Int)<=(nd P i).kids.count (kn:Int):=by
    conv=>rhs;rw[<- Dr (o+1) (nd P i).kids]
    rw[tC];omega
   rw[im,tC]at h3;rw[tC]at hc;have h4:([(kn:Int)]:List Int).count (kn:Int)=1:=GF;omega
 obtain⟨w,hw⟩:=alL _ (aN _);rw[hw]at hv;cases hv
def vK(m:aj)(P:List Nd)(up:ei)(k:Nat):List (List Bool):=qb P (l6 up k) (dH m)
def acj{P:List Nd}{i o:Nat}{up:ei}(h:UI P i o up):∀ k,k<P.length->∀ a∈l6 up k,∃ p q:Nat,a=((p:Int),(q:Int))/\p<k/\q<(nd P p).kids.length:=by
 intro k
 induction k using Dq with
 |_ k ih =>
  intro hk a ha;rw[Dd h hk]at ha;rcases h.low k hk with h1|⟨p,q,h1,h2,h3,_⟩
  ·rw[h1,if_neg Px]at ha;cases ha
  ·rw[h1,if_pos PA]at ha;rcases cB.1 ha with rfl|ha
   ·exact⟨p,q,rfl,h2,h3⟩
   ·dsimp only at ha;rw[fq]at ha;obtain⟨p',q',e1,e2,e3⟩:=ih p h2 GC a ha;exact⟨p',q',e1,GC,e3⟩
def JF{m:aj}{P:List Nd}(h:j5 m P=true){p:Nat}(hp:p<P.length){q:Nat}(hq:q<(nd P p).kids.length):0<=(nd P p).cls/\(nd P p).cls<m.cls.length:=by
 have wR:=C3 h hp;unfold lC at wR;rw[bw]at wR;have h1:=wR.1;by_cases hc:(nd P p).cls = -1
 ·have:=OE h1 hc;omega
 ·unfold m4 at h1;rw[if_neg hc,decide_eq_true_eq]at h1;exact⟨h1.1,h1.2.1⟩
def ack{m:aj}{P:List Nd}{up:ei}(h:oa m P=some up):∀ v∈vs P (root m),v.2.2.contains (nd P v.1).cls=false:=by
 intro v hv;have hs:=Dg h;have hl:=vF hs;have hd:=vD hs;have sv:=Jy hd _ (root m) (show 0<P.length by omega) v hv;obtain⟨u,w,hu,hw⟩:=acg (F9 h).2 v.1 sv;have lF:=zS _ _ GC hu;have lu:=JH hd lF GC v hv GC;rw[<- OP lu];by_cases hc:(nd P v.1).cls = -1
 ·unfold ri;rw[yL];intro a ha;obtain⟨p,q,e1,e2,e3⟩:=acj lF v.1 sv a ha;subst e1;have:=JF hs (show p<P.length by omega) e3;dsimp only;rw[fq,hc,beq_iff_eq];omega
 ·exact(OO hw).2.2.1 hc
def alN(x:List (List Bool)){a b:Nat}(h:a≠b)(o q:Nat):bV (bV x a o) b q=bV (bV x b q) a o:=by
 have g:∀ {a b:Nat} (r:List Bool),a≠b->(x.set a r).getD b default=x.getD b default:=λr h=>by
  rw[aA,bR h,<- aA]
 unfold bV;rw[g _ h,g _ (Ne.symm h)];exact List.set_comm _ _ h
def yz(P:List Nd)(l:ei):List Nat:=l.map λa=>(nd P a.1.toNat).cls.toNat
def alO{P:List Nd}(a:Int×Int):∀ (l:ei) (x:List (List Bool)),(nd P a.1.toNat).cls.toNat ∉ yz P l->qb P (l++[a]) x=qb P (a::l) x:=by
 intro l
 induction l with
 |nil=>intro x _;rfl
 |cons b l ih =>
  intro x hx;have h1:(nd P b.1.toNat).cls.toNat≠(nd P a.1.toNat).cls.toNat:=λe=>hx (by unfold yz;rw[dg,e];simp);have h2:(nd P a.1.toNat).cls.toNat ∉ yz P l:=λe=>hx (by unfold yz at e ⊢;rw[dg];exact List.mem_cons_of_mem _ e);show qb P (l++[a]) (bV x _ _)=qb P l (bV (bV x _ _) _ _);rw[ih _ h2];show qb P l (bV (bV x _ _) _ _)=_;rw[alN x h1]
def alP{P:List Nd}:∀ (l:ei) (x:List (List Bool)),(yz P l).Nodup->qb P l.reverse x=qb P l x:=by
 intro l
 induction l with
 |nil=>intro x _;rfl
 |cons b l ih =>
  intro x hx;unfold yz at hx;rw[dg,uA]at hx;rw[Ki,alO b _ x (λhm=>hx.1 (by unfold yz at hm;rw[List.map_reverse,uE]at hm;exact hm))];show qb P l.reverse (bV x _ _)=qb P l (bV x _ _);exact ih _ hx.2
def alQ{m:aj}{P:List Nd}{up:ei}(h:oa m P=some up):∀ k,k<P.length->(yz P (l6 up k)).Nodup:=by
 have hs:=Dg h;have hl:=vF hs;have hd:=vD hs;have lF:=zS _ _ (aN _) (F9 h).2;intro k
 induction k using Dq with
 |_ k ih =>
  intro hk;rw[Dd lF hk];rcases lF.low k hk with h1|⟨p,q,h1,h2,h3,_⟩
  ·rw[h1,if_neg Px];exact List.nodup_nil
  ·rw[h1,if_pos PA];unfold yz;dsimp only;rw[dg,uA,fq];refine⟨λhm=>?_,ih p h2 GC⟩;obtain⟨a,ha,e⟩:=cz.1 hm;obtain⟨v,hv,OQ⟩:=aci hs (show p<P.length by omega);have nS:=ack h v hv;rw[<- OP (JH hd lF GC v hv GC),OQ]at nS;unfold ri at nS;rw[yL]at nS;have:=nS a ha;obtain⟨p',q',e1,e2,e3⟩:=acj lF p GC a ha;subst e1;have c1:=JF hs (show p'<P.length by omega) e3;have c2:=JF hs (show p<P.length by omega) h3;dsimp only at e this;rw[fq]at e this;rw[beq_iff_eq]at this;omega
def alR{m:aj}{P:List Nd}{up:ei}(h:oa m P=some up):∀ v∈vs P (root m),vK m P up v.1=v.2.1:=by
 intro v hv;have hs:=Dg h;have hl:=vF hs;have hd:=vD hs;have lF:=zS _ _ (aN _) (F9 h).2;have sv:=Jy hd _ (root m) (show 0<P.length by omega) v hv;rw[(JH hd lF GC v hv GC).2,alP _ _ (alQ h _ sv)];rfl
def w9(m:aj)(x:Nd)(left:List (List Bool)):Option Int :=
 if x.cls≠-1 then some 1099511627776
 else if 0<x.a9.length then(if lW m x left=true then some 1099511627776 else none)
 else if(iC m left x.cV).2=0 then some (iC m left x.cV).1 else none
def uv:List (Option Int)->Int->Option Int
 |[],b=>some b
 |none::_,_=>none
 |some v::l,b=>uv l (min b v)
def alS{l l':List (Option Int)}(h:l.Perm l'):∀ b,uv l b=uv l' b:=by
 induction h with
 |nil=>exact λ_=>rfl
 |cons x _ ih=>intro b;cases x<;>simp only[uv,ih]
 |swap x y l =>
  intro b;cases x<;>cases y<;>simp only[uv];congr 1;omega
 |trans _ _ h1 h2=>exact λb=>(h1 b).trans (h2 b)
def alT{m:aj}{P:List Nd}:∀ (L:List dU) (b:Int),b<=1099511627776->(∀ s∈L,s.2.2.contains (nd P s.1).cls=false) ->
  uv (L.map λs=>w9 m (nd P s.1) s.2.1) b=if(kF P (gB m P) L b).2=true then some (kF P (gB m P) L b).1 else none:=by
 intro L
 induction L with
 |nil=>intro b _ _;rfl
 |cons s L ih =>
  intro b hb h;have hc:=h s GF;have hL:=λb hb=>ih b hb λt ht=>h t (by simp[ht]);rw[dg,kF,if_neg (show ¬(s.2.2.contains (nd P s.1).cls=true) by rw[hc];simp)];generalize G7:(L.map λs=>w9 m (nd P s.1) s.2.1)=ml at *;clear G7 ih;generalize iu:gB m P b s=cs at *;unfold gB at iu;subst iu;unfold w9;by_cases h1:(nd P s.1).cls≠-1
  ·rw[if_pos h1,if_pos h1,if_pos rfl];show uv _ (min b _)=_;rw[Kk hb];exact hL b hb
  ·rw[if_neg h1,if_neg h1];by_cases h2:0<(nd P s.1).a9.length
   ·rw[if_pos h2,if_pos h2];by_cases h3:lW m (nd P s.1) s.2.1=true
    ·rw[if_pos h3,h3,if_pos rfl];show uv _ (min b _)=_;rw[Kk hb];exact hL b hb
    ·rw[if_neg h3,if_neg h3];rfl
   ·rw[if_neg h2,if_neg h2];by_cases h3:(iC m s.2.1 (nd P s.1).cV).2=0
    ·rw[if_pos h3,h3,if_pos (show(((0:Int)==0)=true) from rfl)];exact hL _ GC
    ·have h4:((iC m s.2.1 (nd P s.1).cV).2==0)=false:=beq_false_of_ne h3;rw[if_neg h3,h4];rfl
def vJ(m:aj)(P:List Nd)(up:ei)(i:Nat):Option Int:=uv ((aW i).map λk=>w9 m (nd P k) (vK m P up k)) 1099511627776
def alU(x:Option Int):∀ (l:List (Option Int)) (b:Int),uv (l++[x]) b=(uv l b).bind λc=>x.map (min c):=by
 intro l
 induction l with
 |nil=>intro b;cases x<;>rfl
 |cons y l ih=>intro b;cases y with
  |none=>rfl
  |some v=>exact ih _
def ab'(m:aj)(P:List Nd)(up:ei)(i:Nat):vJ m P up (i+1)=(vJ m P up i).bind λc=>(w9 m (nd P i) (vK m P up i)).map (min c):=by
 unfold vJ;rw[List.range_succ,fW];exact alU _ _ _
def alV{m:aj}{P:List Nd}(h:j5 m P=true):((vs P (root m)).map (·.1)).Perm (aW P.length):=by
 have hl:=vF h;rw[List.perm_iff_count];intro a;by_cases ha:a<P.length
 ·rw[abI h rfl a ha,List.nodup_range.count,if_pos (mH.2 ha)]
 ·rw[PH.2,PH.2 (by rw[mH];exact ha)];intro hm;obtain⟨v,hv,e⟩:=cz.1 hm;have:=Jy (vD h) _ (root m) (show 0<P.length by omega) v hv;omega
def JC(m:aj)(P:List Nd):Int×Bool :=
 match oa m P with
 |none=>(0,false)
 |some up=>match vJ m P up P.length with
  |none=>(0,false)
  |some b=>(b,true)
def alk{m:aj}(hm:VM m)(P:List Nd):jx m P=JC m P:=by
 unfold JC;cases hf:oa m P with
 |none =>
  dsimp only;by_cases hs:j5 m P=true
  ·obtain⟨v,hv,hh⟩:=alK hs hf;generalize hc:jx m P=c;obtain⟨n,ok⟩:=c;cases ok
   ·unfold jx at hc;split at hc
    ·cases hc
    ·exact hc.symm
   ·obtain⟨_,_,h3⟩:=Oj hc;have:=((Ok h3).2 v hv).1;rw[this]at hh;cases hh
  ·have hw:q8 m P (gB m P) 1099511627776=(1099511627776,false):=if_neg λh=>hs h.2;unfold jx;rw[hw,if_neg GF]
 |some up =>
  dsimp only;have hs:=Dg hf;have hw:q8 m P (gB m P) 1099511627776=kF P (gB m P) (vs P (root m)) 1099511627776:=if_pos ⟨eK.2 hm,hs⟩;have hr:=alT (m:=m) (P:=P) (vs P (root m)) 1099511627776 (eC _) (ack hf);have he:vJ m P up P.length=uv ((vs P (root m)).map λs=>w9 m (nd P s.1) s.2.1) 1099511627776:=by
   unfold vJ;rw[<- alS ((alV hs).map _),List.map_map];congr 1;refine List.map_congr_left λv hv=>?_;show w9 m (nd P v.1) (vK m P up v.1)=_;rw[alR hf v hv]
  rw[he,hr];unfold jx;rw[hw];by_cases h2:(kF P (gB m P) (vs P (root m)) 1099511627776).2=true
  ·rw[if_pos h2,if_pos h2]
  ·rw[if_neg h2,if_neg h2]
def nP(x y:Ob)(A:List (List AV))(Y:List (List Bool)):List Ob:=x::y::.arr 1 A::qY Y
def JD(x y:Ob)(A:List (List AV))(Y:List (List Bool)):(nP x y A Y)[0]?=some x:=rfl
def JE(x y:Ob)(A:List (List AV))(Y:List (List Bool)):(nP x y A Y)[1]?=some y:=rfl
def Ga(x y:Ob)(A:List (List AV))(Y:List (List Bool)):(nP x y A Y)[2]?=some (.arr 1 A):=rfl
def nPk(x y:Ob)(A:List (List AV)){Y:List (List Bool)}{i:Nat}(h:i<Y.length):(nP x y A Y)[3+i]?=some (.arr 1 (aX (Y.getD i default))):=by
 have:=nOk y A h;have e:3+i=(2+i)+1:=GC;rw[e];exact this
def nPs(x y:Ob)(A:List (List AV))(Y:List (List Bool))(i:Nat)(r:List Bool):(nP x y A Y).set (3+i) (.arr 1 (aX r))=nP x y A (Y.set i r):=by
 have:=nOs y A Y i r;have e:3+i=(2+i)+1:=GC;rw[e];show x::(nO y A Y).set (2+i) _=_;rw[this];rfl
def alw{x:List (List Bool)}{i:Nat}{r:List Bool}(hr:r.length=(x.getD i default).length):(x.set i r).map oW=x.map oW:=by
 apply kq;intro j;rw[cj,cj,cA];split
 ·rename_i e;subst e;split
  ·rename_i h2;rw[bK h2] ;rw[aA,bK h2]at hr;simpa using hr
  ·rename_i h2;rw[dW GC]
 ·rfl
def als{w o k:Nat}{r:List Bool}(hw:r.length=w)(h:∀ b,b<k->r.getD b false=(b==o))(hk:k<w):∀ b,b<k+1->(r.set k (k==o)).getD b false=(b==o):=by
 intro b hb;rw[aA,cA];by_cases e:k=b
 ·subst e;rw[if_pos rfl,if_pos GC];rfl
 ·rw[if_neg e,<- aA];exact h b GC
def alv{w o:Nat}{r:List Bool}(hw:r.length=w)(h:∀ b,b<w->r.getD b false=(b==o)):r=mV w o:=by
 apply kq;intro b;unfold mV;rw[cA,List.length_replicate];by_cases hb:b<w
 ·have:=h b hb;rw[aA,bK GC,jB]at this;rw[bK GC,this];by_cases e:o=b
  ·subst e;rw[if_pos rfl,if_pos hb];simp
  ·rw[if_neg e,Kj hb];congr 1;exact beq_false_of_ne (Ne.symm e)
 ·rw[dW GC];by_cases e:o=b
  ·subst e;rw[if_pos rfl,if_neg hb]
  ·rw[if_neg e,dW aar]
def rp(m:aj)(g:List Int):List Bool:=(aW m.cls.length).map λ(c:Nat)=>g.contains (c:Int)
def OR(m:aj)(g:List Int):(rp m g).length=m.cls.length:=by simp[rp]
def alW{m:aj}(g:List Int){c:Nat}(h:c<m.cls.length):(rp m g).getD c false=g.contains (c:Int):=by
 unfold rp;rw[aA,cj,lg h];rfl
def alX(m:aj):rp m []=bH m.cls.length false:=by
 apply kq;intro j;unfold rp;rw[cj];by_cases h:j<m.cls.length
 ·rw[lg h,Kj h];rfl
 ·rw[dW aar,dW aar];rfl
def acm{m:aj}(g:List Int){c:Nat}(h:c<m.cls.length):rp m (g++[(c:Int)])=(rp m g).set c true:=by
 apply kq;intro j;rw[cA,OR];unfold rp;rw[cj,cj];by_cases hj:j<m.cls.length
 ·rw[lg hj,fl,fl];by_cases e:c=j
  ·subst e;rw[if_pos rfl,if_pos h];simp
  ·rw[if_neg e];congr 1;rw[mI,rq,rq,cH,List.mem_singleton];constructor
   ·rintro(h1|h1)
    ·exact h1
    ·omega
   ·exact .inl
 ·rw[dW aar];by_cases e:c=j
  ·subst e;omega
  ·rw[if_neg e];rfl
def l7(m:aj)(L:List (Int×Int)):List (List Bool):=(aW m.cls.length).map λ(c:Nat)=>(aW (m.cls.getD c default).length).map λ(o:Nat)=>L.any (jA (c:Int) (o:Int))
def Dh(m:aj)(L:List (Int×Int)):(l7 m L).length=m.cls.length:=by simp[l7]
def JI{m:aj}(L:List (Int×Int)){c:Nat}(h:c<m.cls.length):(l7 m L).getD c default=(aW (m.cls.getD c default).length).map λ(o:Nat)=>L.any (jA (c:Int) (o:Int)):=by
 unfold l7;rw[aA,cj,lg h];rfl
def alY{m:aj}(L:List (Int×Int)){c o:Nat}(h:c<m.cls.length)(ho:o<(m.cls.getD c default).length):((l7 m L).getD c default).getD o false=L.any (jA (c:Int) (o:Int)):=by
 rw[JI L h,aA,cj,lg ho];rfl
def alZ(m:aj):l7 m []=m.cls.map λl=>bH l.length false:=by
 apply kq;intro j;unfold l7;rw[cj,cj];by_cases h:j<m.cls.length
 ·rw[lg h,bK h,fl,fl];congr 1;rw[aA,bK h,jB];apply kq;intro o;rw[cj];by_cases ho:o<m.cls[j].length
  ·rw[lg ho,Kj ho];rfl
  ·rw[dW aar,dW aar];rfl
 ·rw[dW aar,dW GC];rfl
def al0{m:aj}(L:List (Int×Int)){c o:Nat}(h:c<m.cls.length)(ho:o<(m.cls.getD c default).length):
  l7 m (L++[((c:Int),(o:Int))])=(l7 m L).set c (((l7 m L).getD c default).set o true):=by
 apply kq;intro j;rw[cA,Dh,JI L h];by_cases hj:j<m.cls.length
 ·have hg:∀ K,(l7 m K)[j]?=some ((aW (m.cls.getD j default).length).map λ(o:Nat)=>K.any (jA (j:Int) (o:Int))):=λK=>by
   unfold l7;rw[cj,lg hj];rfl
  rw[hg,hg];by_cases e:c=j
  ·subst e;rw[if_pos rfl,if_pos h];congr 1;apply kq;intro q;rw[cA,dX,J8,cj,cj];by_cases hq:q<(m.cls.getD c default).length
   ·rw[lg hq,fl,fl,List.any_append];by_cases e2:o=q
    ·subst e2;rw[if_pos rfl,if_pos ho];simp[jA]
    ·rw[if_neg e2];congr 1;have:jA (c:Int) (q:Int) ((c:Int),(o:Int))=false:=by
      unfold jA;rw[decide_eq_false_iff_not,Prod.mk.injEq];omega
     simp[this]
   ·rw[dW (by rw[J8];omega)];by_cases e2:o=q
    ·subst e2;omega
    ·rw[if_neg e2];rfl
  ·rw[if_neg e];congr 2;funext q;rw[List.any_append];have:jA (j:Int) (q:Int) ((c:Int),(o:Int))=false:=by
    unfold jA;rw[decide_eq_false_iff_not,Prod.mk.injEq];omega
   simp[this]
 ·rw[dW (by rw[Dh];omega)];by_cases e:c=j
  ·subst e;omega
  ·rw[if_neg e,dW (by rw[Dh];omega)]
structure QS where
 n:Nat
 p:Nat
 R:List Rw
 s:DS
def Gd(r:Rw):Nd:=⟨r.c,(r.Cw.map (·.2)).getD [],(r.mv.map (·.2)).getD [],[],[]⟩
def lG(f:List (List Bool)->QS->QS)(left:List (List Bool))(c:Nat):Nat->Nat->QS->Nat->List Int->QS×Nat×List Int
 |0,_,g,q,ks=>(g,q,ks)
 |w+1,o,g,q,ks =>
  lG f left c w (o+1) ⟨(f (bV left c o) ⟨g.n+1,g.p,g.R,g.s⟩).n+2,(f (bV left c o) ⟨g.n+1,g.p,g.R,g.s⟩).p,(f (bV left c o) ⟨g.n+1,g.p,g.R,g.s⟩).R,(f (bV left c o) ⟨g.n+1,g.p,g.R,g.s⟩).s⟩ ((f (bV left c o) ⟨g.n+1,g.p,g.R,g.s⟩).n+1) (ks++[(g.R.length:Int)])
def OS(c j:Nat)(r:QS×Nat×List Int):QS:=⟨r.1.n,r.1.p,r.1.R.set j ⟨(c:Int),some (r.2.1,r.2.2),none⟩,w5 c j (r.1.s,r.2.2)⟩
def mF(m:aj):Nat->Nat->List (List Bool)->QS->QS
 |0,_,_,g=>g
 |f+1,c,left,g =>
  if g.s.bA<=fc m left then⟨g.n+2,g.n+1,g.R++[dx],{ g.s with nodes:=g.s.nodes++[nE []],cK:=min g.s.cK (fc m left) }⟩
  else if dr left c=left.length then⟨g.n+3,g.n+1,g.R++[dx],{ g.s with nodes:=g.s.nodes++[nE []],plan:=kd left,bA:=fc m left,cK:=min g.s.cK (fc m left) }⟩
  else if g.s.spl=0\/g.s.room<(left.getD (dr left c) default).length then⟨g.n+2,g.n+1,g.R++[dx],{ g.s with nodes:=g.s.nodes++[nE []],whole:=false,cK:=min g.s.cK (fc m left) }⟩
  else OS (dr left c) g.R.length (lG (mF m f (dr left c+1)) left (dr left c) (left.getD (dr left c) default).length 0 ⟨g.n+4,g.n+1,g.R++[dx],lY left (dr left c) (fc m left) g.s⟩ (g.n+3) [])
def uw(g:QS):Prop:=g.s.nodes=g.R.map Gd
def uw.len{g:QS}(h:uw g):g.s.nodes.length=g.R.length:=by rw[h,dX]
def uw.lf{g:QS}(h:uw g):g.s.nodes++[nE []]=(g.R++[dx]).map Gd:=by rw[h,fW];rfl
def acn{f:List (List Bool)->QS->QS}{f':List (List Bool)->DS->DS}(hf:∀ left g,uw g->uw (f left g)/\(f left g).s=f' left g.s)(left:List (List Bool))(c:Nat):∀ (w o:Nat) (g:QS) (q:Nat) (ks:List Int),uw g ->
  uw (lG f left c w o g q ks).1/\((lG f left c w o g q ks).1.s,(lG f left c w o g q ks).2.2)=g7 f' left c w o g.s ks
 |0,o,g,q,ks,h=>⟨h,rfl⟩
 |w+1,o,g,q,ks,h=>by
  obtain⟨a,b⟩:=hf (bV left c o) ⟨g.n+1,g.p,g.R,g.s⟩ h;rw[lG,g7];have:=acn hf left c w (o+1) ⟨(f (bV left c o) ⟨g.n+1,g.p,g.R,g.s⟩).n+2,(f (bV left c o) ⟨g.n+1,g.p,g.R,g.s⟩).p,(f (bV left c o) ⟨g.n+1,g.p,g.R,g.s⟩).R,(f (bV left c o) ⟨g.n+1,g.p,g.R,g.s⟩).s⟩ ((f (bV left c o) ⟨g.n+1,g.p,g.R,g.s⟩).n+1) (ks++[(g.R.length:Int)]) a;refine⟨this.1,this.2.trans ?_⟩;dsimp only;rw[b,h.len]
def aco(m:aj):∀ (f c:Nat) (left:List (List Bool)) (g:QS),uw g->uw (mF m f c left g)/\(mF m f c left g).s=lZ m f c left g.s
 |0,c,left,g,h=>⟨h,rfl⟩
 |f+1,c,left,g,h=>by
  rw[mF,lZ];split
  ·exact⟨h.lf,rfl⟩
  split
  ·exact⟨h.lf,rfl⟩
  split
  ·exact⟨h.lf,rfl⟩
  obtain⟨a,b⟩:=acn (λal1 g2 h2=>aco m f (dr left c+1) al1 g2 h2) left (dr left c) (left.getD (dr left c) default).length 0 ⟨g.n+4,g.n+1,g.R++[dx],lY left (dr left c) (fc m left) g.s⟩ (g.n+3) [] h.lf;dsimp only at b;rw[<- b,<- h.len];refine⟨?_,rfl⟩;unfold uw OS w5 at *;dsimp only at *;rw[a,ry];rfl
def Fc.j8{F F':List (Nat×Ob)}{os:List Ob}(h:Fc F os){i:Nat}{y:Ob}(hk:F'.map (·.1)=F.map (·.1))(hy:(i,y)∈F')(hF:∀ b∈F',b.1≠i->b∈F):Fc F' (os.set i y):=by
 have bX:(F'.map (·.1)).Nodup:=by rw[hk];exact h.nd
 refine⟨λb hb=>?_,bX⟩;by_cases e:b.1=i
 ·have h1:=Is bX b hb;have h2:=Is bX _ hy;rw[e]at h1;have:b=(i,y):=by dsimp only at h2;rw[h1]at h2;exact Option.some.inj h2
  subst this;have hi:i∈F.map (·.1):=by rw[<- hk];exact cz.2 ⟨_,hy,rfl⟩
  obtain⟨c,hc,e2⟩:=cz.1 hi;have br:=(a8.1 (h.at_ c hc)).1;rw[cA,if_pos rfl,if_pos (by rw[<- e2];exact br)]
 ·rw[bR (Ne.symm e)];exact h.at_ b (hF b hb e)
def By:List AV:=[.ptr 8 0 0,.ptr 5 0 0,.ptr 0 0 0,.ptr 1 0 0,.ptr 2 0 0,.ptr 7 0 0,.ptr 6 0 0,.ptr 9 0 0]
def eP(pv:AV)(t0:Int)(s:DS):AV:=if s.bA<t0 then .tree 1 (ints s.plan) else pv
section
variable (dn:FuncId) (m:aj) (left:List (List Bool)) (pv:AV) (t0:Int)
def vL(s:DS):Ob:=.var [eP pv t0 s,aaC s.bA,aaC s.cK,.lit (.slice none 0 0)]
def bB(g:QS):List (Nat×Ob):=[(0,.var (aq m)),(1,vL pv t0 g.s),(2,.var [aaC g.s.spl]),(4,.arr 1 (rowsOf aQ left)),(5,.var [.ref 4 1 0 left.length]),(6,.var [.lit (.bool g.s.whole)]),(7,.var [aaC g.s.room]),(9,.var [.fn dn By]),(8,.var [.ref g.p 5 0 g.R.length])]
def qB(g:QS)(C:List (Nat×Ob)):List (Nat×Ob):=bB dn m left pv t0 g++(g.p,.arr 5 (rowsOf cS g.R))::(gN g.R++C)
end
variable {dn:FuncId} {m:aj} {left left':List (List Bool)} {pv:AV} {t0:Int}
def zU(g:QS):(bB dn m left pv t0 g).map (·.1)=[0,1,2,4,5,6,7,9,8]:=rfl
def acp{g g':QS}{C C':List (Nat×Ob)}(hp:g'.p=g.p)(hR:(gN g'.R++C').map (·.1)=(gN g.R++C).map (·.1)):(qB dn m left' pv t0 g' C').map (·.1)=(qB dn m left pv t0 g C).map (·.1):=by
 unfold qB;rw[fW,fW,zU,zU,dg,dg,hR];dsimp only;rw[hp]
def tu{g:QS}{b:Nat×Ob}{C:List (Nat×Ob)}:(b::qB dn m left pv t0 g C).Perm (qB dn m left pv t0 g (b::C)):=by
 unfold qB;have h:∀ (A D:List (Nat×Ob)) (x:Nat×Ob),(b::(A++x::(D++C))).Perm (A++x::(D++b::C)):=λA D x=>by
  have:=(DA (a:=b) (l₁:=A++x::D) (l₂:=C)).symm;simpa [cM] using this
 exact h _ _ _
def acq{g:QS}{C:List (Nat×Ob)}{p' k n:Nat}{s':DS}(h:FK (qB dn m left pv t0 g C) n)(h1:n<=p')(h2:p'<k):FK (qB dn m left' pv t0 ⟨k,p',g.R++[dx],s'⟩ C) k:=by
 have h3:=((h.perm DA).drop.add (i:=p') (x:=.arr 5 (rowsOf cS (g.R++[dx]))) h1 h2).perm (DA (l₁:=bB dn m left pv t0 g)).symm;refine h3.keys ?_;unfold qB;rw[fW,fW,zU,zU,dg,dg];dsimp only;rw[show gN (g.R++[dx])=gN g.R by rw[EZ,Iq];unfold nZ dx kO mO;simp]
def al2{g:QS}{C:List (Nat×Ob)}{j n:Nat}{s':DS}{k:Nat}(hj:j<g.R.length)(hl:g.R.getD j default=dx)(r:Rw)(h:FK (nZ r++qB dn m left pv t0 g C) n):FK (qB dn m left' pv t0 ⟨k,g.p,g.R.set j r,s'⟩ C) n:=by
 have hp:=Vq hj r;rw[hl]at hp;have e:nZ dx++gN (g.R.set j r)=gN (g.R.set j r):=rfl;rw[e]at hp;have h1:(nZ r++(bB dn m left pv t0 g++(g.p,.arr 5 (rowsOf cS g.R))::(gN g.R++C))).Perm (bB dn m left pv t0 g++(g.p,.arr 5 (rowsOf cS g.R))::(gN (g.R.set j r)++C)):=by
  have a1:=Ir (nZ r) (bB dn m left pv t0 g++[(g.p,.arr 5 (rowsOf cS g.R))]) (gN g.R++C);simp only[cM,List.cons_append,List.nil_append]at a1;refine a1.trans (tB.append_left _ (tB.cons _ ?_));rw[<- cM];exact tB.append_right C hp.symm
 refine(h.perm h1).keys ?_;unfold qB;rw[fW,fW,zU,zU,dg,dg]
structure DO(dn:FuncId)(m:aj)(left left':List (List Bool))(pv:AV)(t0:Int)(C:List (Nat×Ob))(g r:QS):Prop where
 lt:g.R.length<r.R.length
 pre:∀ i,i<g.R.length->r.R.getD i default=g.R.getD i default
 ol:g.n<=r.n
 fk:FK (qB dn m left' pv t0 r C) r.n
def FK.lf{g:QS}{C:List (Nat×Ob)}{n:Nat}{s':DS}{k:Nat}(h:FK (qB dn m left pv t0 g C) n):FK (qB dn m left' pv t0 ⟨k,g.p,g.R,s'⟩ C) n:=h.keys (acp rfl rfl)
def acr{R Z:List Rw}{i:Nat}(h:i<R.length):(R++Z).getD i default=R.getD i default:=by
 rw[aA,List.getElem?_append_left h,aA]
def acs(R:List Rw):(R++[dx]).getD R.length default=dx:=by rw[aA,List.getElem?_append_right (aN _),Nat.sub_self];rfl
def al3{R:List Rw}{i j:Nat}(h:i≠j)(r:Rw):(R.set j r).getD i default=R.getD i default:=by
 rw[aA,bR (Ne.symm h),aA]
def acu{f:List (List Bool)->QS->QS}{left0:List (List Bool)}{c:Nat}{C:List (Nat×Ob)}(x:Ob)(hf:∀ (o:Nat) (g:QS) (C':List (Nat×Ob)),FK (qB dn m left pv t0 g C') g.n->DO dn m left left pv t0 C' g (f (bV left0 c o) g)):
  ∀ (w o:Nat) (g:QS) (q:Nat) (ks:List Int),FK (qB dn m left pv t0 g ((q,x)::C)) g.n ->
  g.R.length<=(lG f left0 c w o g q ks).1.R.length/\(∀ i,i<g.R.length->(lG f left0 c w o g q ks).1.R.getD i default=g.R.getD i default)/\g.n<=(lG f left0 c w o g q ks).1.n/\FK (qB dn m left pv t0 (lG f left0 c w o g q ks).1 (((lG f left0 c w o g q ks).2.1,x)::C)) (lG f left0 c w o g q ks).1.n
 |0,o,g,q,ks,h=>⟨aN _,λ_ _=>rfl,aN _,h⟩
 |w+1,o,g,q,ks,h=>by
  have h1:=hf o ⟨g.n+1,g.p,g.R,g.s⟩ ((q,x)::C) (h.lf.mono (Nat.le_add_right _ _));rw[lG];generalize f (bV left0 c o) ⟨g.n+1,g.p,g.R,g.s⟩=r at *;obtain⟨b1,b2,b3,b4⟩:=h1;dsimp only at b1 b2 b3;have h2:FK (qB dn m left pv t0 ⟨r.n+2,r.p,r.R,r.s⟩ ((r.n+1,x)::C)) (r.n+2) :=
   (((b4.perm tu.symm).drop.add (i:=r.n+1) (x:=x) GC (k:=r.n+2) GC).perm tu).lf
  obtain⟨i1,i2,i3,i4⟩:=acu x hf w (o+1) ⟨r.n+2,r.p,r.R,r.s⟩ (r.n+1) (ks++[(g.R.length:Int)]) h2;dsimp only at i1 i2 i3;exact⟨GC,λi hi=>(i2 i GC).trans (b2 i hi),GC,i4⟩
def JJ{N:Nat}:∀ (f c:Nat) (left0:List (List Bool)) (g:QS) (C:List (Nat×Ob)),left0.length=N->N+1<=f+c->c<=N->FK (qB dn m left pv t0 g C) g.n->DO dn m left left pv t0 C g (mF m f c left0 g)
 |0,c,left0,g,C,hl,Gb,cm,h=>GC
 |f+1,c,left0,g,C,hl,Gb,cm,h=>by
  have base:∀ (k:Nat) (s':DS),g.n+2<=k->DO dn m left left pv t0 C g ⟨k,g.n+1,g.R++[dx],s'⟩:=λk s' hk=>⟨GF,λi hi=>acr hi,by show g.n<=k;omega,acq h GC GC⟩;rw[mF];split
  ·exact base _ _ (aN _)
  split
  ·exact base _ _ GC
  split
  ·exact base _ _ (aN _)
  rename_i he _;obtain⟨g1,g2,g3,g4⟩:=Br (left:=left0) _ c rfl;have hsk:dr left0 c<N:=by have:=g2 GC;omega
  have hq:FK (qB dn m left pv t0 ⟨g.n+4,g.n+1,g.R++[dx],lY left0 (dr left0 c) (fc m left0) g.s⟩ ((g.n+3,.gone)::C)) (g.n+4):=by
   have:=acq (left':=left) (s':=lY left0 (dr left0 c) (fc m left0) g.s) (p':=g.n+1) (k:=g.n+3) h GC GC;exact((this.add (i:=g.n+3) (x:=.gone) (aN _) (k:=g.n+4) GC).perm tu).lf
  obtain⟨i1,i2,i3,i4⟩:=acu (dn:=dn) (m:=m) (left:=left) (pv:=pv) (t0:=t0) (left0:=left0) (c:=dr left0 c) (C:=C) (f:=mF m f (dr left0 c+1)) .gone (λo g' C' hh=>JJ f (dr left0 c+1) (bV left0 (dr left0 c) o) g' C' (by unfold bV;simpa using hl) GC GC hh) (left0.getD (dr left0 c) default).length 0 _ (g.n+3) [] hq;generalize lG (mF m f (dr left0 c+1)) left0 (dr left0 c) (left0.getD (dr left0 c) default).length 0 ⟨g.n+4,g.n+1,g.R++[dx],lY left0 (dr left0 c) (fc m left0) g.s⟩ (g.n+3) []=r at *;dsimp only at i1 i2 i3;have gM:(g.R++[dx]).length=g.R.length+1:=GF;unfold OS;refine⟨by dsimp only;rw[bF];omega,λi hi=>?_,PA,?_⟩
  ·dsimp only;rw[al3 GC,i2 i GC];exact acr hi
  ·have xY:r.1.R.getD g.R.length default=dx:=by rw[i2 _ GC];exact acs _
   refine al2 (left:=left) (g:=r.1) (C:=C) GC xY _ ?_;exact(i4.perm tu.symm).keys rfl
variable {dn:FuncId} {m:aj} {left left':List (List Bool)} {pv:AV} {t0:Int} {os:List Ob} {g g':QS} {C:List (Nat×Ob)}
theorem zV(h:Fc (qB dn m left pv t0 g C) os){i:Nat}{y:Ob}(hp:g'.p=g.p:=by rfl)(hR:g'.R=g.R:=by rfl)(hy:(i,y)∈bB dn m left' pv t0 g':=by simp[bB,vL,eP])(hb:∀ b∈bB dn m left' pv t0 g',b.1≠i->b∈bB dn m left pv t0 g:=by(intro b hb dO;simp only[bB,List.mem_cons,List.not_mem_nil,or_false]at hb ⊢;rcases hb with rfl|rfl|rfl|rfl|rfl|rfl|rfl|rfl|rfl<;>first|exact absurd rfl dO|simp[vL,eP])):Fc (qB dn m left' pv t0 g' C) (os.set i y):=by
 refine h.j8 (acp hp (by rw[hR])) (List.mem_append_left _ hy) fun b uf dO=>?_;unfold qB at uf ⊢;rcases List.mem_append.1 uf with h1|h1
 ·exact List.mem_append_left _ (hb b h1 dO)
 ·rw[hp,hR]at h1;exact List.mem_append_right _ h1
def nH(h:Fc (qB dn m left pv t0 g C) os){b:Nat×Ob}(hb:b∈bB dn m left pv t0 g):os[b.1]?=some b.2:=h.at_ b (Kb _ hb)
def OT(h:Fc (qB dn m left pv t0 g C) os):os[g.p]?=some (.arr 5 (rowsOf cS g.R)):=h.at_ (g.p,_) (by unfold qB;simp)
def Ge(h:Fc (qB dn m left pv t0 g C) os){b:Nat×Ob}(hb:b∈C):os[b.1]?=some b.2:=h.at_ b (by unfold qB;simp[hb])
def acw(h:Fc (qB dn m left pv t0 g C) os){b:Nat×Ob}(hb:b∈bB dn m left pv t0 g):g.p≠b.1:=λe=>by
 have h1:=OT h;rw[e,nH h hb]at h1;simp only[bB,cB,kI,or_false]at hb;rcases hb with rfl|rfl|rfl|rfl|rfl|rfl|rfl|rfl|rfl<;>simp[vL]at h1
def al4(h:Fc (qB dn m left pv t0 g C) os)(k:Nat)(X:List Nd):Fc (qB dn m left pv t0 ⟨k,os.length+1,g.R++[dx],{ g.s with nodes:=X }⟩ C) ((os.set g.p .gone).set 8 (.var [.ref (os.length+1) 5 0 (g.R.length+1)])++[.arr 5 [cS dx],.arr 5 (rowsOf cS (g.R++[dx]))]):=by
 have h1:=(h.front (bB dn m left pv t0 g)).kill .gone;have hl:(os.set g.p Ob.gone).length=os.length:=bF;have h8:8<(os.set g.p Ob.gone).length:=by
  rw[hl];exact(a8.1 (nH h (b:=(8,.var [.ref g.p 5 0 g.R.length])) (by simp[bB]))).1
 have e:(os.set g.p .gone).set 8 (.var [.ref (os.length+1) 5 0 (g.R.length+1)])++[.arr 5 [cS dx],.arr 5 (rowsOf cS (g.R++[dx]))]=(os.set g.p .gone++[Ob.arr 5 [cS dx],Ob.arr 5 (rowsOf cS (g.R++[dx]))]).set 8 (.var [.ref (os.length+1) 5 0 (g.R.length+1)]):=by
  rw[List.set_append_left _ _ h8]
 rw[e];have h3:=(h1.app [.arr 5 [cS dx],.arr 5 (rowsOf cS (g.R++[dx]))]).add (k:=os.length+1) (x:=.arr 5 (rowsOf cS (g.R++[dx]))) (by rw[<- hl,nX];rfl) (h1.fresh (by rw[hl];omega));have h4:=h3.perm (DA (l₁:=bB dn m left pv t0 g)).symm;refine h4.j8 ?_ ?_ λb hb dO=>?_
 ·unfold qB;rw[fW,fW,zU,zU,dg,dg];dsimp only;rw[show gN (g.R++[dx])=gN g.R by rw[EZ,Iq];unfold nZ dx kO mO;simp]
 ·unfold qB bB;simp
 ·unfold qB at hb;rw[show gN (g.R++[dx])=gN g.R by rw[EZ,Iq];unfold nZ dx kO mO;simp]at hb;rcases cH.1 hb with h5|h5
  ·refine Kb _ ?_;simp only[bB,cB,kI,or_false]at h5 ⊢;rcases h5 with rfl|rfl|rfl|rfl|rfl|rfl|rfl|rfl|rfl<;>first|exact absurd rfl dO|simp[vL,eP]
  ·exact List.mem_append_right _ h5
def al5{c:Int}{q j:Nat}{ks:List Int}(hj:j<g.R.length)(hl:g.R.getD j default=dx)(h:Fc (qB dn m left pv t0 g ((q,.arr 1 (ints ks))::C)) os)(k:Nat)(X:List Nd):
  Fc (qB dn m left pv t0 ⟨k,g.p,g.R.set j ⟨c,some (q,ks),none⟩,{ g.s with nodes:=X }⟩ C) (os.set g.p (.arr 5 (rowsOf cS (g.R.set j ⟨c,some (q,ks),none⟩)))):=by
 have hp:=Vq hj (⟨c,some (q,ks),none⟩:Rw);rw[hl]at hp;have e:nZ dx++gN (g.R.set j ⟨c,some (q,ks),none⟩)=gN (g.R.set j ⟨c,some (q,ks),none⟩):=rfl;rw[e]at hp;have e2:nZ (⟨c,some (q,ks),none⟩:Rw)=[(q,.arr 1 (ints ks))]:=rfl;rw[e2]at hp;have h1:=((h.front (bB dn m left pv t0 g)).put (.arr 5 (rowsOf cS (g.R.set j ⟨c,some (q,ks),none⟩)))).perm (DA (l₁:=bB dn m left pv t0 g)).symm;refine h1.perm ?_;unfold qB;have h2:bB dn m left pv t0 ⟨k,g.p,g.R.set j ⟨c,some (q,ks),none⟩,{ g.s with nodes:=X }⟩=bB dn m left pv t0 g:=by
  unfold bB vL eP;dsimp only;rw[bF]
 rw[h2];refine tB.append_left _ (tB.cons _ ?_);have h3:(gN g.R++(q,Ob.arr 1 (ints ks))::C).Perm ([(q,Ob.arr 1 (ints ks))]++(gN g.R++C)):=DA;refine h3.trans ?_;rw[<- cM];exact tB.append_right C hp.symm
structure Cn(s r:DS):Prop where
 a:0<=s.spl->0<=r.spl
 b:r.spl<=s.spl
 c:0<=s.room->0<=r.room
 d:r.room<=s.room
 e:r.bA<=s.bA
def Cn.refl(s:DS):Cn s s:=⟨λh=>h,eC _,λh=>h,eC _,eC _⟩
def Cn.trans{s r t:DS}(h:Cn s r)(k:Cn r t):Cn s t:=⟨λx=>k.a (h.a x),sE k.b h.b,λx=>k.c (h.c x),sE k.d h.d,sE k.e h.e⟩
def acx{f:List (List Bool)->QS->QS}{left0:List (List Bool)}{c:Nat}(hf:∀ (o:Nat) (g:QS),((f (bV left0 c o) g).R.length:Int)+(f (bV left0 c o) g).s.room=g.R.length+g.s.room+1):
  ∀ (w o:Nat) (g:QS) (q:Nat) (ks:List Int),((lG f left0 c w o g q ks).1.R.length:Int)+(lG f left0 c w o g q ks).1.s.room=g.R.length+g.s.room+w
 |0,o,g,q,ks=>by show(g.R.length:Int)+g.s.room=_;simp
 |w+1,o,g,q,ks=>by
  have h1:=hf o ⟨g.n+1,g.p,g.R,g.s⟩;rw[lG];generalize f (bV left0 c o) ⟨g.n+1,g.p,g.R,g.s⟩=r at *;have:=acx hf w (o+1) ⟨r.n+2,r.p,r.R,r.s⟩ (r.n+1) (ks++[(g.R.length:Int)]);dsimp only at h1 this ⊢;rw[this];omega
def acy(m:aj){N:Nat}:∀ (f c:Nat) (left0:List (List Bool)) (g:QS),left0.length=N->N+1<=f+c->c<=N->((mF m f c left0 g).R.length:Int)+(mF m f c left0 g).s.room=g.R.length+g.s.room+1
 |0,c,left0,g,hl,Gb,cm=>GC
 |f+1,c,left0,g,hl,Gb,cm=>by
  have gM:(g.R++[dx]).length=g.R.length+1:=GF;rw[mF];split
  ·show((g.R++[dx]).length:Int)+g.s.room=_;omega
  split
  ·show((g.R++[dx]).length:Int)+g.s.room=_;omega
  split
  ·show((g.R++[dx]).length:Int)+g.s.room=_;omega
  rename_i he _;obtain⟨g1,g2,g3,g4⟩:=Br (left:=left0) _ c rfl;have hsk:dr left0 c<N:=by have:=g2 GC;omega
  have hK:=acx (left0:=left0) (c:=dr left0 c) (f:=mF m f (dr left0 c+1)) (λo g'=>acy m f (dr left0 c+1) (bV left0 (dr left0 c) o) g' (by unfold bV;simpa using hl) GC GC) (left0.getD (dr left0 c) default).length 0 ⟨g.n+4,g.n+1,g.R++[dx],lY left0 (dr left0 c) (fc m left0) g.s⟩ (g.n+3) [];generalize lG (mF m f (dr left0 c+1)) left0 (dr left0 c) (left0.getD (dr left0 c) default).length 0 ⟨g.n+4,g.n+1,g.R++[dx],lY left0 (dr left0 c) (fc m left0) g.s⟩ (g.n+3) []=r at *;unfold lY at hK;dsimp only at hK;show((r.1.R.set g.R.length _).length:Int)+r.1.s.room=_;rw[bF];omega
def acz{f:List (List Bool)->QS->QS}(hf:∀ l g,Cn g.s (f l g).s)(left:List (List Bool))(c:Nat):∀ (w o:Nat) (g:QS) (q:Nat) (ks:List Int),Cn g.s (lG f left c w o g q ks).1.s
 |0,o,g,q,ks=>Cn.refl g.s
 |w+1,o,g,q,ks=>by
  have h1:=hf (bV left c o) ⟨g.n+1,g.p,g.R,g.s⟩;rw[lG];generalize f (bV left c o) ⟨g.n+1,g.p,g.R,g.s⟩=r at *;exact h1.trans (acz hf left c w (o+1) ⟨r.n+2,r.p,r.R,r.s⟩ (r.n+1) _)
def acA(m:aj):∀ (f c:Nat) (left:List (List Bool)) (g:QS),Cn g.s (mF m f c left g).s
 |0,c,left,g=>Cn.refl g.s
 |f+1,c,left,g=>by
  rw[mF];split
  ·exact⟨λh=>h,eC _,λh=>h,eC _,eC _⟩
  split
  ·exact⟨λh=>h,eC _,λh=>h,eC _,PA⟩
  split
  ·exact⟨λh=>h,eC _,λh=>h,eC _,eC _⟩
  rename_i hb;rw[not_or]at hb;refine Cn.trans (r:=lY left (dr left c) (fc m left) g.s) ?_ ?_
  ·unfold lY;exact⟨λh=>PA,PA,λh=>PA,PA,eC _⟩
  ·have:=acz (λl g=>acA m f (dr left c+1) l g) left (dr left c) (left.getD (dr left c) default).length 0 ⟨g.n+4,g.n+1,g.R++[dx],lY left (dr left c) (fc m left) g.s⟩ (g.n+3) [];exact⟨this.a,this.b,this.c,this.d,this.e⟩
variable {dn:FuncId} {m:aj} {left left':List (List Bool)} {pv:AV} {t0:Int} {os:List Ob} {g g':QS} {C:List (Nat×Ob)}
def acB{b:Nat×Ob}:(qB dn m left pv t0 g (b::C)).Perm (b::qB dn m left pv t0 g C):=tu.symm
def al6{q nv:Nat}{x y X':Ob}(a:Ob)(h:Fc (qB dn m left pv t0 g ((q,x)::(nv,y)::C)) os)(k:Nat)(b:Ob):Fc (qB dn m left pv t0 ⟨k,g.p,g.R,g.s⟩ ((os.length+1,b)::(nv,X')::C)) ((os.set q .gone).set nv X'++[a,b]):=by
 have h1:=((h.perm acB).kill .gone).perm acB;have h2:=((h1.put X').app [a,b]).add (k:=os.length+1) (x:=b) (by
  have:((os.set q Ob.gone).set nv X').length=os.length:=GF;rw[<- this,nX];rfl) ((h1.put X').fresh GF)
 have h3:((os.length+1,b)::(nv,X')::qB dn m left pv t0 g C).Perm (qB dn m left pv t0 ⟨k,g.p,g.R,g.s⟩ ((os.length+1,b)::(nv,X')::C)):=(tB.cons _ tu).trans tu;exact h2.perm h3
def acC{c:Nat}(x y:List Bool):(rowsOf aQ (left.set c x)).set c [.tree 1 (aX y)]=rowsOf aQ (left.set c y):=by
 unfold rowsOf;rw[ry,ry,List.set_set];rfl
def setRow_self{c:Nat}(hc:c<left.length):left.set c (left.getD c default)=left:=by
 rw[aA,bK hc];exact List.set_getElem_self hc
def al7{R:List Rw}{j:Nat}{r:Rw}(hj:j<R.length)(h:R.getD j default=r):(rowsOf cS R)[j]?=some (cS r):=by
 unfold rowsOf;rw[cj,bK hj,fl];rw[aA,bK hj,jB]at h;rw[h]
def al8(R:List Rw)(j:Nat)(r:Rw):(rowsOf cS R).set j (cS r)=rowsOf cS (R.set j r):=by unfold rowsOf;rw[ry]
variable {σ:St} {kp:Nat->Prop}
def al9{id n:Nat}{xs:List Int}(ho:σ.aa[id]?=some (.arr 1 (ints xs)))(hn:n=xs.length)(hk:¬ kp id):cL σ kp (.tree 1 (ints xs)) (.ref id 1 0 n) :=
 cL.mk ho (by rw[hn];simp[ints]) hk (rH _) (kQ.AY (f:=λ_=>[]) (g:=λ_=>[]) rfl λj c d hc hd=>by rw[hc]at hd;cases hd;exact Il (λv hv=>sL _ _ (iD hc) v hv) rfl)
def al'{α:Type}{enc:α->List AV}{w:Nat}[Row enc w]{id n:Nat}{xs:List α}(ho:σ.aa[id]?=some (.arr w (rowsOf enc xs)))(hn:n=xs.length)(hk:¬ kp id):cL σ kp (.tree w (rowsOf enc xs)) (.ref id w 0 n) :=
 cL.mk ho (by rw[hn,b8]) hk (gr _) (kQ.AY (f:=λ_=>[]) (g:=λ_=>[]) rfl λj c d hc hd=>by rw[hc]at hd;cases hd;exact Il (λv hv=>kW _ _ (iD hc) v hv) rfl)
def ama(x:Option (Nat×List Int))(h:∀ b∈kO x,σ.aa[b.1]?=some b.2)(hk:∀ i,¬ kp i):cL σ kp (.tree 1 (ints ((x.map (·.2)).getD []))) (kE x):=by
 cases x with
 |none=>exact .nil 1
 |some y=>exact al9 (h (y.1,.arr 1 (ints y.2)) (by simp[kO])) rfl (hk _)
def amb(x:Option (Nat×List Mv))(h:∀ b∈mO x,σ.aa[b.1]?=some b.2)(hk:∀ i,¬ kp i):cL σ kp (.tree 4 (rowsOf ca ((x.map (·.2)).getD []))) (mE x):=by
 cases x with
 |none=>exact .nil 4
 |some y=>exact al' (h (y.1,.arr 4 (rowsOf ca y.2)) (by simp[mO])) rfl (hk _)
def amc(r:Rw)(h:∀ b∈nZ r,σ.aa[b.1]?=some b.2)(hk:∀ i,¬ kp i):fF (cL σ kp) (aG (Gd r)) (cS r) :=
 ⟨.lit _,ama r.Cw (λb hb=>h b (by unfold nZ;simp[hb])) hk,amb r.mv (λb hb=>h b (by unfold nZ;simp[hb])) hk,.nil 1,.nil 1,trivial⟩
def acD(hk:∀ i,¬ kp i):∀ (R:List Rw),(∀ b∈gN R,σ.aa[b.1]?=some b.2)->kQ (cL σ kp) (rowsOf aG (R.map Gd)) (rowsOf cS R)
 |[],_=>trivial
 |r::R,h=>⟨amc r (λb hb=>h b (by unfold gN;simp[hb])) hk,acD hk R (λb hb=>h b (by unfold gN at hb ⊢;rw[List.flatMap_cons,cH];exact .inr hb))⟩
def mR{p:Nat}{R:List Rw}(hp:σ.aa[p]?=some (.arr 5 (rowsOf cS R)))(h:∀ b∈gN R,σ.aa[b.1]?=some b.2)(hk:∀ i,¬ kp i):cL σ kp (.tree 5 (rowsOf aG (R.map Gd))) (.ref p 5 0 R.length) :=
 cL.mk hp (by rw[Vp]) (hk _) (gr _) (acD hk R h)
def acE(xs:List Nm)(q:Nm):rowsOf a7 xs++[[AV.lit (.int .i64 q.1),.lit (.bool q.2)]]=rowsOf a7 (xs++[q]):=by simp[rowsOf,a7]
def amd{m:aj}(hm:VM m)(oM:m.av=[]){gi ai bi:Nat}{D E:List (Nat×Nat)}{S T:List (List Nm)}{os:List Ob}(h:LO a7 (GB m gi ai bi D E) D E S T os)(hg:LG m jM (S,T)){left:List (List Bool)}(hf:dD m left):
  fh Tryz.prog 135 [.ptr gi 0 0,.tree 1 (rowsOf aQ left)] os λr ob=>r=aaC (oR m left (S,T))/\os.length<=ob.length:=by
 obtain⟨fg,fa,fb⟩:=zL h;have eg:=bg fg;have ea:=bg fa;have eb:=bg fb;have hD:=h.rD.len;have hE:=h.rE.len;have jS:S.length=m.cls.length:=hg.s;have C1:T.length=m.ae.length:=hg.t;have yn:=hm.cls;have s5:=hm.ae;have zr:=hm.av;have fC:=hf.1;rw[Za];refine fh.aD 80 os.length [.tmp 4] Tryz.func135 ?_;((try revert hK K);(repeat'(first|refine Vb (X3 @fg @fa @gC.eq_1) ?_|(refine V2 (X3 @fg @fa @gC.eq_1) ?_ ?_<;>try with_reducible intro hb)|(refine Xi ?_ ?_<;>try intro ht)|refine VD ?_ ?_|exact Xx|fail))<;>try with_reducible intro K hK)
 all_goals try(exfalso;omega)
 have yo:D.length=m.cls.length:=GC;refine aM (λz:Nat×List Ob×Nat×List Nm=>(⟨aw [(0,.ptr gi 0 0),(1,.tree 1 (rowsOf aQ left)),(5,.ref z.2.2.1 2 0 z.2.2.2.length),(17,aaC m.cls.length),(18,aaC z.1)],z.2.1⟩:St))
  (λz=>z.1<=m.cls.length/\gI os z.2.1/\z.2.1[z.2.2.1]?=some (.arr 2 (rowsOf a7 z.2.2.2))/\os.length<=z.2.2.1/\z.2.2.2=(PC left S z.1).map pt)
  (λz=>m.cls.length-z.1) (0,os++[.arr 2 []],os.length,[]) ⟨aI _,(gI.refl _).app _,kf _ _ _,aN _,rfl⟩ ?_ ?_
 ·refine aF.trans (aF.nil 5 2 (by simp only[Kc,simprocAttr]) Px) ?_;exact Xv @yo
 rintro⟨i,ob,ti,ps⟩⟨hi,bm,c9,g6,dN⟩Ql an ar;dsimp only at hi bm c9 g6 dN ⊢;have cu:ps.length=i:=by rw[dN,dX,wP]
 by_cases hi':i<m.cls.length
 ·have kA:=aaM hm (h.az bm) hg hf i hi';have dP:(PC left S (i+1)).map pt=ps++[p5 (jc (S.getD i default) (left.getD i default))]:=by
   rw[show PC left S (i+1)=PC left S i++[dQ (S.getD i default) (left.getD i default) (0,false)] from wL _ i,fW,<- dN,IG];rfl
  have wV:=Jf (jc (S.getD i default) (left.getD i default)) (by have:=Fa (S.getD i default) (left.getD i default);have:=hg.sl i hi';have:=hm.opt _ (ay (d:=default) hi');dsimp only at *;omega);generalize jc (S.getD i default) (left.getD i default)=Bi at *;generalize p5 Bi=q at *;repeat'(first|((fail_if_success (first|refine eT 5 ?_|refine eU 5 ?_));refine Xr X0 ?_;intro K hK)|refine Xo X0 ?_|(refine hK _ ?_;clear hK K)|(refine Xg X0 ?_ ?_<;>try intro hb)|(refine Xi ?_ ?_<;>try intro ht)|refine Xy ?_|refine Xd ?_ ?_|exact Xx|fail)
  refine pe 4 Px _ rfl ?_;intro K hK;simp(disch:=omega)only[Ac,↓Pc,simprocAttr,kL,iT];refine⟨rfl,(show lP Tryz.prog 178 [.ptr gi 0 0,aaC i,.tree 1 (rowsOf aQ left)] (some 25) _ _ from ?_)⟩;refine rP kA ?_;rintro r uo⟨b9,id,rfl,dt⟩;refine⟨b9.len,?_⟩;have q6:=b9 _ _ c9;have Bj:=bg q6;have Bk:=fP q6;have cI:=(bm.trans b9).len;simp(disch:=omega)only[Ac,↓Pc,simprocAttr,iT];refine nM [] wV GF trivial ⟨aJ.fz dt (by rw[b8]) GF,trivial⟩ rfl GF ?_;simp(disch:=omega)only[Ac,↓Pc,simprocAttr,q6,Bj,Bk,a7,acE,cy,cM,bQ,bF];repeat'(first|with_reducible refine And.intro ?_ ?_|omega|with_reducible rfl)
  refine hK _ ?_;clear hK K;repeat(first|refine Xu ?_)
  ((try revert hK K);(repeat'(first|refine Va X0 ?_|(refine V2 X0 ?_ ?_<;>try with_reducible intro hb)|(refine Xi ?_ ?_<;>try intro ht)|refine VD ?_ ?_|exact Xx|fail))<;>try with_reducible intro K hK)
  refine an _ (i+1,uo.set ti .gone++[.arr 2 [a7 q],.arr 2 (rowsOf a7 (ps++[q]))],uo.length+1,ps++[q]) ⟨PA,((bm.trans b9).set g6).app _,vA _ _ _ _ _,PA,dP.symm⟩ PA ?_;exact Xv @a7.eq_1
 have Bl:i=m.cls.length:=GC;rw[Bl]at dN;have kg:=bm _ _ fg;have kb:=bm _ _ fb;have NW:E.length=m.ae.length:=GC;((try revert hK K);(repeat'(first|refine Va X0 ?_|(refine V2 X0 ?_ ?_<;>try with_reducible intro hb)|(refine Xi ?_ ?_<;>try intro ht)|refine VD ?_ ?_|exact Xx|fail))<;>try with_reducible intro K hK)
 refine ar _ _ rfl ?_;clear an ar Ql;repeat(first|refine Xu ?_)
 ((try revert hK K);(repeat'(first|refine Va (X3 @kg @kb @gC.eq_1) ?_|(refine V2 (X3 @kg @kb @gC.eq_1) ?_ ?_<;>try with_reducible intro hb)|(refine Xi ?_ ?_<;>try intro ht)|refine VD ?_ ?_|exact Xx|fail))<;>try with_reducible intro K hK)
 refine aM (λz:Nat×List Ob×Nat×List Nm=>(⟨aw [(0,.ptr gi 0 0),(1,.tree 1 (rowsOf aQ left)),(5,.ref z.2.2.1 2 0 z.2.2.2.length),(34,aaC m.ae.length),(35,aaC z.1)],z.2.1⟩:St))
  (λz=>z.1<=m.ae.length/\gI os z.2.1/\z.2.1[z.2.2.1]?=some (.arr 2 (rowsOf a7 z.2.2.2))/\os.length<=z.2.2.1/\z.2.2.2=(PC left S m.cls.length++PP m left T z.1).map pt)
  (λz=>m.ae.length-z.1) (0,ob,ti,ps) ⟨aI _,bm,c9,g6,by rw[dN];simp[PP]⟩ (Xv @NW) ?_
 clear bm c9 g6 dN cu Bl kg kb hi hi' ti ps;rintro⟨i,ob,ti,ps⟩⟨hi,bm,c9,g6,dN⟩Ql an ar;dsimp only at hi bm c9 g6 dN ⊢;have cu:ps.length=m.cls.length+i:=by rw[dN,dX,bQ,wP,zK]
 by_cases hi':i<m.ae.length
 ·have kA:=aaN hm (h.az bm) hg hf i hi';have dP:(PC left S m.cls.length++PP m left T (i+1)).map pt=ps++[p5 (jc (T.getD i default) (gZ m left i))]:=by
   rw[show PP m left T (i+1)=PP m left T i++[dQ (T.getD i default) (gZ m left i) (0,false)] from wL _ i,<- cM,fW,<- dN,IG];rfl
  have wV:=Jf (jc (T.getD i default) (gZ m left i)) (by have:=Fa (T.getD i default) (gZ m left i);have:=hg.tl i hi';have:=Bh (iA hm.pr _ (ay (d:=default) hi')) hm;dsimp only at *;omega);generalize jc (T.getD i default) (gZ m left i)=Bi at *;generalize p5 Bi=q at *;repeat'(first|((fail_if_success (first|refine eT 10 ?_|refine eU 10 ?_));refine Xr X0 ?_;intro K hK)|refine Xo X0 ?_|(refine hK _ ?_;clear hK K)|(refine Xg X0 ?_ ?_<;>try intro hb)|(refine Xi ?_ ?_<;>try intro ht)|refine Xy ?_|refine Xd ?_ ?_|exact Xx|fail)
  refine pe 4 Px _ rfl ?_;intro K hK;simp(disch:=omega)only[Ac,↓Pc,simprocAttr,kL,iT];refine⟨rfl,(show lP Tryz.prog 179 [.ptr gi 0 0,aaC i,.tree 1 (rowsOf aQ left)] (some 42) _ _ from ?_)⟩;refine rP kA ?_;rintro r uo⟨b9,id,rfl,dt⟩;refine⟨b9.len,?_⟩;have q6:=b9 _ _ c9;have Bj:=bg q6;have Bk:=fP q6;have cI:=(bm.trans b9).len;simp(disch:=omega)only[Ac,↓Pc,simprocAttr,iT];refine nM [] wV GF trivial ⟨aJ.fz dt (by rw[b8]) GF,trivial⟩ rfl GF ?_;simp(disch:=omega)only[Ac,↓Pc,simprocAttr,q6,Bj,Bk,a7,acE,cy,cM,bQ,bF];repeat'(first|with_reducible refine And.intro ?_ ?_|omega|with_reducible rfl)
  refine hK _ ?_;clear hK K;repeat(first|refine Xu ?_)
  ((try revert hK K);(repeat'(first|refine Va X0 ?_|(refine V2 X0 ?_ ?_<;>try with_reducible intro hb)|(refine Xi ?_ ?_<;>try intro ht)|refine VD ?_ ?_|exact Xx|fail))<;>try with_reducible intro K hK)
  refine an _ (i+1,uo.set ti .gone++[.arr 2 [a7 q],.arr 2 (rowsOf a7 (ps++[q]))],uo.length+1,ps++[q]) ⟨PA,((bm.trans b9).set g6).app _,vA _ _ _ _ _,PA,dP.symm⟩ PA ?_;exact Xv @a7.eq_1
 have Bm:i=m.ae.length:=GC;rw[Bm]at dN;have kg:=bm _ _ fg;((try revert hK K);(repeat'(first|refine Va X0 ?_|(refine V2 X0 ?_ ?_<;>try with_reducible intro hb)|(refine Xi ?_ ?_<;>try intro ht)|refine VD ?_ ?_|exact Xx|fail))<;>try with_reducible intro K hK)
 refine ar _ _ rfl ?_;clear an ar Ql;repeat(first|refine Xu ?_)
 ((try revert hK K);(repeat'(first|refine Va (X2 @kg @gC.eq_1) ?_|(refine V2 (X2 @kg @gC.eq_1) ?_ ?_<;>try with_reducible intro hb)|(refine Xi ?_ ?_<;>try intro ht)|refine VD ?_ ?_|exact Xx|fail))<;>try with_reducible intro K hK)
 refine aM (λz:Nat×List Ob×Nat×List Nm=>(⟨aw [(1,.tree 1 (rowsOf aQ left)),(5,.ref z.2.2.1 2 0 z.2.2.2.length),(51,.tree 4 (rowsOf aV m.av)),(52,aaC m.av.length),(53,aaC z.1)],z.2.1⟩:St))
  (λz=>z.1<=m.av.length/\gI os z.2.1/\z.2.1[z.2.2.1]?=some (.arr 2 (rowsOf a7 z.2.2.2))/\os.length<=z.2.2.1/\z.2.2.2=(PC left S m.cls.length++PP m left T m.ae.length++PK m left z.1).map pt)
  (λz=>m.av.length-z.1) (0,ob,ti,ps) ⟨aI _,bm,c9,g6,by rw[dN];simp[PK]⟩ (Xv X0) ?_
 clear bm c9 g6 dN cu Bm kg hi hi' ti ps;rintro⟨i,ob,ti,ps⟩⟨hi,bm,c9,g6,dN⟩Ql an ar;dsimp only at hi bm c9 g6 dN ⊢;have cu:ps.length=m.cls.length+m.ae.length+i:=by rw[dN,dX,bQ,bQ,wP,zK,CQ]
 by_cases hi':i<m.av.length
 ·exact absurd hi' (by rw[oM];exact m8 _)
 have FN:i=m.av.length:=GC;rw[FN]at dN cu;rw[show PC left S m.cls.length++PP m left T m.ae.length++PK m left m.av.length=qW m left (S,T) from rfl]at dN;have FI:(qW m left (S,T)).length=m.cls.length+m.ae.length+m.av.length:=by unfold qW;rw[bQ,bQ,wP,zK,CQ]
 have FO:∀ p∈qW m left (S,T),-jM<=p.1/\p.1<=jM:=λp hp=>by
  unfold qW at hp;rw[cH,cH]at hp;rcases hp with(hp|hp)|hp
  ·exact IT (by unfold jM;decide) hg.sb _ p hp
  ·exact IU (by unfold jM;decide) hg.tb _ p hp
  ·have:=IV hm _ p hp;unfold jM;omega
 generalize qW m left (S,T)=P at *;((try revert hK K);(repeat'(first|refine Va X0 ?_|(refine V2 X0 ?_ ?_<;>try with_reducible intro hb)|(refine Xi ?_ ?_<;>try intro ht)|refine VD ?_ ?_|exact Xx|fail))<;>try with_reducible intro K hK)
 refine ar _ _ rfl ?_;clear an ar Ql;repeat(first|refine Xu ?_)
 ((try revert hK K);(repeat'(first|refine Va @c9 ?_|(refine V2 @c9 ?_ ?_<;>try with_reducible intro hb)|(refine Xi ?_ ?_<;>try intro ht)|refine VD ?_ ?_|exact Xx|fail))<;>try with_reducible intro K hK)
 all_goals try(exfalso;omega)
 refine aM (λz:Nat×List Ob=>(⟨aw [(10,aaC (cf (P.take z.1) (0,false)).1),(65,.ref ti 2 0 ps.length),(66,aaC ps.length),(67,aaC z.1)],z.2⟩:St))
  (λz=>z.1<=P.length/\gI os z.2/\z.2[ti]?=some (.arr 2 (rowsOf a7 ps))/\(cf (P.take z.1) (0,false)).2=false)
  (λz=>P.length-z.1) (0,ob) ⟨aI _,bm,c9,rfl⟩ (Xv (X3 @kK.{0} @cf.eq_1 @List.foldl_nil.{0,0})) ?_
 clear bm c9;rintro⟨j,ob⟩⟨hj,bm,c9,yp⟩Ql an ar;dsimp only at hj bm c9 yp ⊢;have cI:=bm.len;have ajP:ps.length=P.length:=by rw[dN,dX]
 by_cases db:j<P.length
 ·have im:=eG db;have mi:=A6 (P.take j) (P.getD j default) (0,false);rw[<- im,yp,Bool.false_or]at mi;have tO:ps.getD j default=pt (P.getD j default):=by rw[dN,iR _ _ _ db]
  have jH:=yh (P.take j) (0,false) (λp hp=>FO p (List.mem_of_mem_take hp));rw[eN,pC hj]at jH;have FQ:=FO _ (ay (d:=default) db);have NX:=ay (l:=P) (d:=default) db;unfold jM at jH FQ;dsimp only at jH;generalize (cf (P.take j) (0,false)).1=s at *;generalize P.getD j default=q at *;obtain⟨v,b⟩:=q;unfold pt at tO;dsimp only at tO mi FQ;have n9:=bg c9;cases b
  ·have vx:(cf P (0,false)).2=true:=(M5 P 0).2 ⟨_,NX,rfl⟩;((try revert hK K);(repeat'(first|refine Va (X5 @c9 @n9 @tO @a7.eq_1 (X2 @cy @je)) ?_|(refine V2 (X5 @c9 @n9 @tO @a7.eq_1 (X2 @cy @je)) ?_ ?_<;>try with_reducible intro hb)|(refine Xi ?_ ?_<;>try intro ht)|refine VD ?_ ?_|exact Xx|fail))<;>try with_reducible intro K hK)
   all_goals try(exfalso;omega)
   repeat(first|refine Xu ?_|(refine bd _ _ rfl ?_;clear ba bd;try clear cJ)|(refine eV _ _ rfl ?_;clear fQ eV;try clear lB)|(refine nx _ _ rfl ?_;clear zO nx;try clear Bg))
   ((try revert hK K);(repeat'(first|refine Vb X0 ?_|(refine V2 X0 ?_ ?_<;>try with_reducible intro hb)|(refine Xi ?_ ?_<;>try intro ht)|refine VD ?_ ?_|exact Xx|fail))<;>try with_reducible intro K hK)
   unfold gu;simp only[eF,ew];simp(disch:=omega)only[Ac,↓Pc,simprocAttr];rw[if_pos vx];exact⟨_,_,⟨rfl,by rw[bQ];omega⟩,eu rfl (by rw[bQ];omega) rfl⟩
  ·((try revert hK K);(repeat'(first|refine Va (X5 @c9 @n9 @tO @a7.eq_1 (X2 @cy @gT)) ?_|(refine V2 (X5 @c9 @n9 @tO @a7.eq_1 (X2 @cy @gT)) ?_ ?_<;>try with_reducible intro hb)|(refine Xi ?_ ?_<;>try intro ht)|refine VD ?_ ?_|exact Xx|fail))<;>try with_reducible intro K hK)
   all_goals try(exfalso;omega)
   refine an _ (j+1,_) ⟨PA,bm.app [.var (a7 (v,false))],n9 _,by rw[mi];rfl⟩ PA ?_;simp only[mi];exact Xv @a7.eq_1
 ·rw[dJ GC]at yp;have NY:¬ (cf P (0,false)).2=true:=by rw[yp];simp
  ((try revert hK K);(repeat'(first|refine Va (dJ (show P.length<=j by omega)) ?_|(refine V2 (dJ (show P.length<=j by omega)) ?_ ?_<;>try with_reducible intro hb)|(refine Xi ?_ ?_<;>try intro ht)|refine VD ?_ ?_|exact Xx|fail))<;>try with_reducible intro K hK)
  refine ar _ _ rfl ?_;clear an ar Ql;repeat(first|refine Xu ?_)
  ((try revert hK K);(repeat'(first|refine Vb X0 ?_|(refine V2 X0 ?_ ?_<;>try with_reducible intro hb)|(refine Xi ?_ ?_<;>try intro ht)|refine VD ?_ ?_|exact Xx|fail))<;>try with_reducible intro K hK)
  unfold gu;simp only[eF,ew];simp(disch:=omega)only[Ac,↓Pc,simprocAttr];rw[if_neg NY];exact⟨_,ob,⟨rfl,cI⟩,eu rfl cI rfl⟩
def LG.ame{m:aj}{B C:Int}{g:Lg}(h:LG m B g)(hc:B<=C):LG m C g:=⟨h.s,h.t,h.sl,h.tl,λr hr=>(h.sb r hr).mono hc,λr hr=>(h.tb r hr).mono hc⟩
def amf(m:aj)(left:List (List Bool))(l:List Mv)(hl0:l=[])(oM:m.av=[])(hm:VM m)(hf:dD m left)(hl:l.length<9223372036854775808):ao Tryz.prog 77 [.agg (aq m),.tree 1 (rowsOf aQ left),.tree 4 (rowsOf ca l)] [] (.bJ [aaC (iC m left l).1,aaC (iC m left l).2]) []:=by
 generalize ak:iC m left l=res;unfold iC at ak;refine ao.aD 33 0 [.tmp 6,.tmp 7] Tryz.func77 ?_;have hlen:¬ 2000<l.length:=by rw[hl0];decide
 rw[if_neg hlen]at ak;repeat'(first|((fail_if_success (first|refine eT 3 ?_|refine eU 3 ?_));refine Xr X0 ?_;intro K hK)|refine Xo X0 ?_|(refine hK _ ?_;clear hK K)|(refine Xg X0 ?_ ?_<;>try intro hb)|(refine Xi ?_ ?_<;>try intro ht)|refine XY ?_|refine Xd ?_ ?_|exact Xx|fail)
 all_goals try(exfalso;omega)
 refine pe 1 Px _ rfl ?_;intro K hK;simp(disch:=omega)only[Ac,↓Pc,simprocAttr,kL,iT];refine⟨rfl,(show lP Tryz.prog 132 [.agg (aq m)] (some 15) _ _ from ?_)⟩;refine rP (aaH hm [.var (aq m)]) ?_;rintro r os⟨gi,ai,bi,D,E,rfl,gJ,bm⟩;refine⟨bm.len,?_⟩;have f0:=bm 0 _ rfl;simp(disch:=omega)only[Ac,↓Pc,simprocAttr,iT];refine hK _ ?_;clear hK K;repeat(first|refine Xu ?_)
 ((try revert hK K);(repeat'(first|refine Va X0 ?_|(refine V2 X0 ?_ ?_<;>try with_reducible intro hb)|(refine Xi ?_ ?_<;>try intro ht)|refine VD ?_ ?_|exact Xx|fail))<;>try with_reducible intro K hK)
 refine aM (λz:Nat×List Ob=>(⟨aw [(1,.tree 1 (rowsOf aQ left)),(8,.ptr gi 0 0),(16,.tree 4 (rowsOf ca l)),(17,aaC l.length),(18,aaC z.1)],z.2⟩:St))
  (λz=>z.1<=l.length/\LO a7 (GB m gi ai bi D E) D E (jd m (l.take z.1) (S0 m,T0 m)).1 (jd m (l.take z.1) (S0 m,T0 m)).2 z.2/\∀ x∈l.take z.1,jL m x=true)
  (λz=>l.length-z.1) (0,os) ⟨aI _,gJ,GF⟩ (Xv X0) ?_
 clear gJ bm f0;rintro⟨i,ob⟩⟨hi,gJ,dF⟩Ql an ar;dsimp only at hi gJ dF ⊢;have jG:=(Fh hm (l.take i) dF);rw[eN,pC hi]at jG;by_cases hi':i<l.length
 ·exact absurd hi' (by rw[hl0];exact m8 _)
 ·rw[dJ GC]at gJ jG dF;rw[if_neg (by rw[z7];exact fT.2 dF)]at ak;generalize jd m l (S0 m,T0 m)=g at *;obtain⟨g1,g2⟩:=g;dsimp only at gJ;have hval:=amd hm oM gJ (jG.ame (by unfold jM;omega)) hf;((try revert hK K);(repeat'(first|refine Va X0 ?_|(refine V2 X0 ?_ ?_<;>try with_reducible intro hb)|(refine Xi ?_ ?_<;>try intro ht)|refine VD ?_ ?_|exact Xx|fail))<;>try with_reducible intro K hK)
  refine ar _ _ rfl ?_;clear an ar Ql;repeat(first|refine Xu ?_)
  repeat'(first|((fail_if_success (first|refine eT 11 ?_|refine eU 11 ?_));refine Xr X0 ?_;intro K hK)|refine Xo X0 ?_|(refine hK _ ?_;clear hK K)|(refine Xg X0 ?_ ?_<;>try intro hb)|(refine Xi ?_ ?_<;>try intro ht)|refine Xy ?_|refine Xd ?_ ?_|exact Xx|fail)
  refine pe 2 Px _ rfl ?_;intro K hK;simp(disch:=omega)only[Ac,↓Pc,simprocAttr,kL,iT];refine⟨rfl,(show lP Tryz.prog 135 [.ptr gi 0 0,.tree 1 (rowsOf aQ left)] (some 32) _ _ from ?_)⟩;refine rP hval ?_;rintro r NZ⟨rfl,rN⟩;refine⟨rN,?_⟩;simp(disch:=omega)only[Ac,↓Pc,simprocAttr,iT];refine hK _ ?_;clear hK K;repeat(first|refine Xu ?_)
  subst ak;((try revert hK K);(repeat'(first|refine Vb X0 ?_|(refine V2 X0 ?_ ?_<;>try with_reducible intro hb)|(refine Xi ?_ ?_<;>try intro ht)|refine VD ?_ ?_|exact Xx|fail))<;>try with_reducible intro K hK)
  exact aE rfl rfl
def amg(m:aj)(P:List Nd)(h0:∀ x∈P,x.cV=[]/\x.a9=[])(oM:m.av=[])(hP:PB P)(hm:VM m)(b:Int)(s:dU)(hs:wZ m P s):
  ao Tryz.prog 75 [.agg [aaC s.1,.tree 1 (rowsOf aQ s.2.1)],.ptr 1 0 0,.ptr 0 0 0,.ptr 2 0 0] [.var (aq m),.var (aT P),.var [aaC b]] (.lit (.bool (gB m P b s).2)) [.var (aq m),.var (aT P),.var [aaC (gB m P b s).1]]:=by
 obtain⟨i,left,ab⟩:=s;have hi:i<P.length:=hs.1;have hf:dD m left:=hs.2.1;have rV:=hP.qJ;have bX:P.getD i default=nd P i:=rfl;have bO:=ay (l:=P) (i:=i) (d:=default) hi;have b2:=hP.cV _ bO;generalize ak:gB m P b (i,left,ab)=res;unfold gB at ak;rw[bX]at b2;dsimp only at ak;obtain⟨vn,pM⟩:=h0 _ bO;rw[bX]at vn pM;have w8:=amf m left (nd P i).cV vn oM hm hf b2;generalize iC m left (nd P i).cV=lt at *;generalize aS:nd P i=x at *;obtain⟨c,kids,cV,a9,cells⟩:=x;obtain⟨v,e⟩:=lt;dsimp only at *;refine ao.aD 41 3 [.tmp 5] Tryz.func75 ?_;by_cases hc:c = -1;rotate_left
 ·rw[if_pos hc]at ak;((try revert hK K);(repeat'(first|refine Vb (X3 @aT.eq_1 @bX @aG.eq_1) ?_|(refine V2 (X3 @aT.eq_1 @bX @aG.eq_1) ?_ ?_<;>try with_reducible intro hb)|(refine Xi ?_ ?_<;>try intro ht)|refine VD ?_ ?_|exact Xx|fail))<;>try with_reducible intro K hK)
  all_goals try(exfalso;omega)
  subst ak;exact Xw false [0,1,2] @aT.eq_1
 rw[if_neg GC]at ak;have hg:¬ 0<a9.length:=by rw[pM];decide
 rw[if_neg hg]at ak;((try revert hK K);(repeat'(first|refine Vd (X3 @aT.eq_1 @bX @aG.eq_1) w8 ?_|(refine V2 (X3 @aT.eq_1 @bX @aG.eq_1) ?_ ?_<;>try with_reducible intro hb)|(refine Xi ?_ ?_<;>try intro ht)|refine VD ?_ ?_|exact Xx|fail))<;>try with_reducible intro K hK)
 all_goals try(exfalso;omega)
 subst ak;exact Xw false [0,1,2] @aT.eq_1
def UJ(m:aj)(P:List Nd)(h0:∀ x∈P,x.cV=[]/\x.a9=[])(oM:m.av=[])(hm:MB m)(hP:PB P):ao Tryz.prog 40 [.agg (aq m),.agg (aT P)] [] (.bJ [aaC (jx m P).1,.lit (.bool (jx m P).2)]) []:=by
 have hw:=abJ m P hm hP (λ_=>.var (aq m)) (λ_=>.var (aT P)) (λb:Int=>.var [aaC b]) [.ptr 1 0 0,.ptr 0 0 0,.ptr 2 0 0] 75 (gB m P) (Inv:=λ_ _=>True)
  ⟨λρ h0 h1 h2 a=>⟨rfl,rfl,rfl⟩,λρ h0 h1 h2 v hv=>by
   simp only[cB,kI,or_false]at hv;rcases hv with rfl|rfl|rfl<;>simp only[bC,h0,h1,h2],λ_ _ _ _ _=>trivial,λbT a s _ hs _=>amg m P h0 oM hP bT a s hs⟩ 1099511627776 (λ_ _=>trivial)
 generalize ak:jx m P=res;unfold jx at ak;generalize q8 m P (gB m P) 1099511627776=r at *;obtain⟨b,ok⟩:=r;dsimp only at hw ak;refine ao.aD 15 0 [.tmp 4,.tmp 5] Tryz.func40 ?_;((try revert hK K);(repeat'(first|refine Vb @aT.eq_1 ?_|(refine V2 @aT.eq_1 ?_ ?_<;>try with_reducible intro hb)|(refine Xi ?_ ?_<;>try intro ht)|refine VD ?_ ?_|exact Xx|fail))<;>try with_reducible intro K hK)
 refine ig hw GF ?_;cases ok
 ·rw[if_neg GF]at ak;((try revert hK K);(repeat'(first|refine Vb @je ?_|(refine V2 @je ?_ ?_<;>try with_reducible intro hb)|(refine Xi ?_ ?_<;>try intro ht)|refine VD ?_ ?_|exact Xx|fail))<;>try with_reducible intro K hK)
  subst ak;exact aE rfl rfl
 ·rw[if_pos rfl]at ak;((try revert hK K);(repeat'(first|refine Vb @gT ?_|(refine V2 @gT ?_ ?_<;>try with_reducible intro hb)|(refine Xi ?_ ?_<;>try intro ht)|refine VD ?_ ?_|exact Xx|fail))<;>try with_reducible intro K hK)
  subst ak;exact aE rfl rfl
end T

