import Derived.Test.YtodilglobhifaaaDoorX17
set_option linter.all false
set_option maxHeartbeats 0
set_option maxRecDepth 20000
open Int renaming le_refl→qT,add_zero→Ef,zero_add→Ak
open List renaming getD_eq_getElem?_getD→an,getElem?_eq_none→gI,length_set→bm,getD_cons_succ→fJ,getD_cons_zero→gH,length_cons→b8,replicate→aw
open Nat renaming lt_or_ge→cZ,add_zero→jm,zero_add→eX
open Go Go.Am
namespace T
def LE(a b:List Int):Prop:=a.length=b.length/\∀ i,a.getD i 0<=b.getD i 0
def LE.refl(a:List Int):LE a a:=⟨rfl,λ_=>qT _⟩
def n6(l:List Int)(n i:Nat)(x:Int):(l.set n x).getD i 0=if n=i/\i<l.length then x else l.getD i 0:=by
 rw[an,List.getElem?_set,an];by_cases h:n=i
 ·subst h;by_cases h2:n<l.length
  ·rw[if_pos rfl,if_pos h2,if_pos ⟨rfl,h2⟩];rfl
  ·rw[if_pos rfl,if_neg h2,if_neg (λh=>h2 h.2),gI z8]
 ·rw[if_neg h,if_neg (λh'=>h h'.1)]
def LE.add{a b:List Int}(h:LE a b){r c d:Int}(Uk:c<=d):LE (dZ a r c) (dZ b r d):=by
 refine⟨by simp only[dZ,bm];exact h.1,λi=>?_⟩;rw[dZ,dZ,n6,n6,h.1];have:=h.2 i;have:=h.2 r.toNat;split
 ·unfold fB;omega
 ·exact h.2 i
def LE.up{R:Int}{a b:List Int}(h:LE a b)(hb:fi R b){r c:Int}(hc:0<=c):LE a (dZ b r c):=by
 refine⟨by simp only[dZ,bm];exact h.1,λi=>?_⟩;rw[dZ,n6];have h1:=h.2 i;have h2:=hb.get i;unfold bG at h2;split
 ·rename_i hh;rw[hh.1];unfold fB;omega
 ·exact h1
def KI:∀ (l:List (Int×Int)) {a b:List Int},LE a b->LE (oV l a) (oV l b)
 |[],_,_,h=>h
 |c::r,_,_,h=>KI r (h.add (qT _))
def KJ{R:Int}:∀ (l:List (Int×Int)) {a b:List Int},LE a b->fi R b->(∀ c∈l,iy c.2=true)->LE a (oV l b)
 |[],_,_,h,_,_=>h
 |c::r,_,_,h,hb,hp=>by
  have:=nP (hp c Eb);exact KJ r (h.up hb this.1) (hb.add this) λx hx=>hp x (by simp[hx])
def Up(p q:List Int):Prop:=p.length=q.length/\∀ j,p.getD j 0=q.getD j 0\/p.getD j 0<0
def Q9{m:ae}(hm:VM m)(i:Nat)(o:Int):∀ c∈((m.cls.getD i default).getD o.toNat default).ch,iy c.2=true:=by
 intro c hc;rcases cZ i m.cls.length with hi|hi
 ·have hl:=aO (d:=(default:List cD)) hi;generalize m.cls.getD i default=l at *;rcases cZ o.toNat l.length with ho|ho
  ·exact(vy (hm.rO l hl _ (aO ho)) c hc).2
  ·rw[show l.getD o.toNat default=default by rw[an,gI ho];rfl]at hc;exact absurd hc (by rw[yZ];simp)
 ·rw[show m.cls.getD i default=[] by rw[an,gI hi];rfl]at hc;exact absurd hc (by rw[List.getD_nil,yZ];simp)
def KK{m:ae}(hm:VM m):∀ (p q:List Int) (i:Nat) (a b:List Int),p.length=q.length->(∀ j,p.getD j 0=q.getD j 0\/p.getD j 0<0)->LE a b->fi m.rules b->LE (lk m i p a) (lk m i q b)
 |[],[],_,_,_,_,_,h,_=>h
 |[],_::_,_,_,_,hl,_,_,_=>by simp at hl
 |_::_,[],_,_,_,hl,_,_,_=>by simp at hl
 |o::p,o'::q,i,a,b,hl,hj,h,hb=>by
  have aT:fi m.rules (lk m i [o'] b):=y7 hm _ _ _ hb;rw[lk,lk]at aT;rw[lk,lk];refine KK hm p q (i+1) _ _ (by simpa using hl) (λj=>?_) ?_ aT
  ·have:=hj (j+1);rwa [fJ,fJ]at this
  ·have h0:=hj 0;rw[gH,gH]at h0;rcases h0 with h0|h0
   ·subst h0;split
    ·exact h
    ·exact KI _ h
   ·rw[if_pos h0];split
    ·exact h
    ·exact KJ _ h hb (Q9 hm i o')
def KL{m:ae}{p q:List Int}(hu:Up p q):∀ (l:List Pr) (a b:List Int),(∀ x∈l,eP m x=true)->LE a b->fi m.rules b->LE (nN m p l a) (nN m q l b)
 |[],_,_,_,h,_=>h
 |x::r,a,b,hp,h,hb=>by
  have he:=yH (hp x Eb) (q.getD x.fst.toNat 0) (q.getD x.snd.toNat 0);rw[nN,nN];refine KL hu r _ _ (λy hy=>hp y (by simp[hy])) ?_ ?_
  ·by_cases hc:0<=p.getD x.fst.toNat 0/\0<=p.getD x.snd.toNat 0
   ·have h1:p.getD x.fst.toNat 0=q.getD x.fst.toNat 0:=(hu.2 _).resolve_right z8;have h2:p.getD x.snd.toNat 0=q.getD x.snd.toNat 0:=(hu.2 _).resolve_right z8;rw[if_pos hc,if_pos (by rw[<- h1,<- h2];exact hc),h1,h2];exact h.add (qT _)
   ·rw[if_neg hc];split
    ·exact h.up hb he.1
    ·exact h
  ·split
   ·exact hb.add he
   ·exact hb
def KM{m:ae}{p q:List Int}(hu:Up p q):∀ (l:List Ld) (n k:Int),(∀ x∈l,gn m x.cls x.opt=true/\1<=x.wt/\x.wt<=1000)->n<=k->qc p l n<=qc q l k
 |[],_,_,_,h=>h
 |x::r,n,k,hp,h=>by
  have hx:=hp x Eb;have ho:=(nQ.1 hx.1).2.2.1;rw[qc,qc];refine KM (m:=m) hu r _ _ (λy hy=>hp y (by simp[hy])) ?_;rcases hu.2 x.cls.toNat with h1|h1
  ·rw[h1];split<;>omega
  ·rw[if_neg z8];split<;>omega
def Ra{most gd s t:Int}(hp:0<=gd)(h:s<=t):rN most gd s<=rN most gd t:=by
 unfold rN;have h1:(s-most)*gd<=(t-most)*gd:=Int.mul_le_mul_of_nonneg_right z8 hp;split
 ·split
  ·exact qT _
  ·have:0<=(t-most)*gd:=Int.mul_nonneg z8 hp;omega
 ·rw[if_neg z8];omega
def KN{m:ae}{p q:List Int}(hu:Up p q):∀ (l:List Ct) (a b:List Int),(∀ x∈l,gY m x=true)->LE a b->LE (nO p l a) (nO q l b)
 |[],_,_,_,h=>h
 |x::r,a,b,hp,h=>by
  have hx:=vB (hp x Eb);have hw:=Jr hx.2.2.2;rw[nO,nO];exact KN (m:=m) hu r _ _ (λy hy=>hp y (by simp[hy])) (h.add (Ra (nP hx.2.2.1).1 (KM (m:=m) hu _ _ _ hw (qT _))))
def Rb{m:ae}(hm:VM m){p q:List Int}(hu:Up p q):LE (oX m p) (oX m q):=by
 have h0:=fi.rep hm.qd.1;refine KN hu _ _ _ hm.ct (KL hu _ _ _ (mS hm.pr) (KK hm _ _ _ _ _ hu.1 hu.2 (LE.refl _) h0) (y7 hm _ _ _ h0))
def KO:∀ {a b:List Int},a.length=b.length->(∀ i,a.getD i 0<=b.getD i 0)->eU a<=eU b
 |[],[],_,_=>qT _
 |[],_::_,h,_=>by simp at h
 |_::_,[],h,_=>by simp at h
 |x::a,y::b,h,hi=>by
  have h0:=hi 0;rw[gH,gH]at h0;have:=KO (a:=a) (b:=b) (by simpa using h) λi=>by
   have:=hi (i+1);rwa [fJ,fJ]at this
  simp only[eU];omega
def Rd{m:ae}(hm:VM m){p q:List Int}(hu:Up p q):oW (oX m p) 0<=oW (oX m q) 0:=by
 have h:=Rb hm hu;rw[y8 (CF hm p).2 (by unfold bG;decide),y8 (CF hm q).2 (by unfold bG;decide)];have:=KO h.1 h.2;omega
def Up.set{p:List Int}{c:Nat}(o:Int)(h:p.getD c 0 = -1):Up p (p.set c o):=by
 refine⟨Eb,λj=>?_⟩;rw[n6];split
 ·rename_i hh;rw[<- hh.1,h];omega
 ·exact .inl rfl
def PM.set{m:ae}{p:List Int}(h:PM m p){c:Nat}{o:Int}(ho:o = -1\/gn m (c:Nat) o=true):PM m (p.set c o):=by
 refine⟨by rw[bm];exact h.len,λj hj=>?_⟩;rw[bm]at hj;rw[n6];split
 ·rename_i hh;rw[<- hh.1];exact ho
 ·exact h.get j hj
def CY(cg:List Bool)(r:Int):Bool:=cg.getD r.toNat false
def Cut(cg:List Bool)(a b:List Int):Prop:=b.length=a.length/\∀ i:Nat,b.getD i 0=if CY cg i=true then a.getD i 0 else 0
def Cut.add{cg:List Bool}{a b:List Int}(h:Cut cg a b){r c:Int}(hr:0<=r):Cut cg (dZ a r c) (if CY cg r=true then dZ b r c else b):=by
 have gR:((r.toNat:Nat):Int)=r:=Int.toNat_of_nonneg hr;refine⟨by split<;>simp only[dZ,bm]<;>exact h.1,λi=>?_⟩;have hi:=h.2 i;have lR:=h.2 r.toNat;rw[gR]at lR;by_cases hk:CY cg r=true
 ·rw[if_pos hk];rw[if_pos hk]at lR;rw[dZ,dZ,n6,n6,lR,h.1];by_cases gW:r.toNat=i/\i<a.length
  ·rw[if_pos gW,if_pos gW,if_pos];rw[<- gW.1,gR];exact hk
  ·rw[if_neg gW,if_neg gW];exact hi
 ·rw[if_neg hk,dZ,n6];by_cases gW:r.toNat=i/\i<a.length
  ·rw[if_pos gW];rw[<- gW.1,gR,if_neg hk]at hi;rw[<- gW.1,gR,if_neg hk];exact hi
  ·rw[if_neg gW];exact hi
def LO.cg{α:Type}{enc:α->List AV}{B:List (Nat×Ob)}{D E:List (Nat×Nat)}{S T:List (List α)}{os ob:List Ob}(h:LO enc B D E S T os)(k:dM os ob):LO enc B D E S T ob :=
 ⟨λb hb=>⟨k _ _ (h.base b hb).1,(h.base b hb).2⟩,⟨h.rD.len,λj hj=>⟨k _ _ (h.rD.row j hj).1,(h.rD.row j hj).2⟩⟩,⟨h.rE.len,λj hj=>⟨k _ _ (h.rE.row j hj).1,(h.rE.row j hj).2⟩⟩,h.nd⟩
def dM.trans{a b c:List Ob}(h:dM a b)(k:dM b c):dM a c:=λi o hi=>k i o (h i o hi)
structure Sat(R:Int)(out:List Int)(v:Int):Prop where
 ok:fi R out
 v0:0<=v
 eq:min (eU out) 1099511627776=min v 1099511627776
def KP:∀ (l:List Int) (i:Nat) (x:Int),i<l.length->eU (l.set i x)=eU l-l.getD i 0+x
 |[],i,x,h=>by simp at h
 |y::r,0,x,_=>by simp only[List.set_cons_zero,eU,gH];omega
 |y::r,i+1,x,h=>by
  have:=KP r i x (by simpa using h);simp only[List.set_cons_succ,eU,fJ];omega
def Sat.add{R:Int}{out:List Int}{v r d:Int}(h:Sat R out v)(hr:0<=r/\r<R)(hd:bG d):Sat R (dZ out r d) (v+d):=by
 have hlen:=h.ok.1;have hi:r.toNat<out.length:=z8;have hs:=CH h.ok.2 _ (aO (d:=(0:Int)) hi);have iL:=KP out r.toNat (fB (out.getD r.toNat 0) d) hi;have hg:=h.ok.get r.toNat;have he:=h.eq;have hv:=h.v0;unfold bG at hg;have gF:=hd;unfold bG at gF;refine⟨h.ok.add hd,z8,?_⟩;unfold dZ;rw[iL];unfold fB;omega
def Sat.le{R:Int}{out:List Int}{v w:Int}(h:Sat R out v)(hw:0<=w)(e:min v 1099511627776=min w 1099511627776):Sat R out w:=⟨h.ok,hw,h.eq.trans e⟩
def KQ{R:Int}:∀ (l:List (Int×Int)) (out:List Int) (v n:Int),(∀ c∈l,gX R c.1=true/\iy c.2=true)->0<=v->bG n->Sat R out (v+n)->Sat R (oV l out) (v+(l.map (·.2)).foldl fB n)
 |[],out,v,n,_,_,_,h=>h
 |c::r,out,v,n,hc,hv,mN,h=>by
  rw[oV];have h1:=hc c Eb;have hr:=h1.1;rw[gX,decide_eq_true_eq]at hr;have hp:=nP h1.2;have h2:=h.add hr hp;refine KQ r _ v (fB n c.2) (λx hx=>hc x (by simp[hx])) hv (vx mN hp) (h2.le ?_ ?_)
  ·have:=vx mN hp;unfold bG at this;omega
  ·unfold bG at hp mN;unfold fB;omega
def KR{m:ae}(hm:VM m):∀ (plan:List Int) (i:Nat) (out:List Int) (v:Int),(∀ j,j<plan.length->gn m ((i+j:Nat):Int) (plan.getD j 0)=true) ->
  Sat m.rules out v->Sat m.rules (lk m i plan out) (v+cd (λj=>vY ((m.cls.getD (i+j) default).getD (plan.getD j 0).toNat default)) plan.length)
 |[],i,out,v,_,h=>by show Sat m.rules out (v+0);rw[Ef];exact h
 |o::r,i,out,v,hg,h=>by
  rw[lk];have h0:=hg 0 Eb;rw[gH,jm]at h0;obtain⟨b1,b2,b3,b4⟩:=nQ.1 h0;rw[Int.toNat_natCast]at b4;rw[if_neg z8];have hl:=aO (l:=m.cls) (i:=i) (d:=default) z8;have ho:=aO (l:=m.cls.getD i default) (i:=o.toNat) (d:=default) z8;have Ky:=hm.rO _ hl _ ho;have h1:=KQ _ out v 0 (vy Ky) h.v0 (by unfold bG;decide) (by rw[Ef];exact h);have h2:=KR hm r (i+1) _ _ (λj hj=>by
   have:=hg (j+1) (by simpa using hj);rwa [fJ,show i+(j+1)=i+1+j by omega]at this) h1
  rw[b8,vX];simp only[gH,fJ,jm];rw[<- Int.add_assoc];rw[ma (g:=λj=>vY ((m.cls.getD (i+(j+1)) default).getD (r.getD j 0).toNat default)) r.length λj _=>by rw[show i+1+j=i+(j+1) by omega]]at h2;exact h2
def m5(m:ae)(plan:List Int)(p:Pr):Int:=l4 m p (plan.getD p.fst.toNat 0) (plan.getD p.snd.toNat 0)
def KS{m:ae}{plan:List Int}(hp:FP m plan):∀ (l:List Pr) (out:List Int) (v:Int),(∀ p∈l,eP m p=true)->Sat m.rules out v ->
  Sat m.rules (nN m plan l out) (v+cd (λi=>m5 m plan (l.getD i default)) l.length)
 |[],out,v,_,h=>by show Sat m.rules out (v+0);rw[Ef];exact h
 |p::r,out,v,hg,h=>by
  rw[nN];have m4:=hg p Eb;obtain⟨q1,q2,q3,q4,q5⟩:=vA m4;have lW:=hp.len;have g1:=hp.get p.fst.toNat z8;have g2:=hp.get p.snd.toNat z8;have a1:=nQ.1 g1;have a2:=nQ.1 g2;rw[if_pos ⟨a1.2.2.1,a2.2.2.1⟩];have h2:=KS hp r _ _ (λx hx=>hg x (by simp[hx])) (h.add q1 (yH m4 (plan.getD p.fst.toNat 0) (plan.getD p.snd.toNat 0)));rw[b8,vX];simp only[gH,fJ];rw[<- Int.add_assoc];exact h2
def sn(plan:List Int)(c:Ct):Int:=rN c.most c.gd (qc plan c.ei 0)
def KT{m:ae}{plan:List Int}:∀ (l:List Ct) (out:List Int) (v:Int),(∀ c∈l,gY m c=true)->Sat m.rules out v ->
  Sat m.rules (nO plan l out) (v+cd (λi=>sn plan (l.getD i default)) l.length)
 |[],out,v,_,h=>by show Sat m.rules out (v+0);rw[Ef];exact h
 |c::r,out,v,hg,h=>by
  rw[nO];obtain⟨q1,q2,q3,q4⟩:=vB (hg c Eb);have h2:=KT (plan:=plan) r _ _ (λx hx=>hg x (by simp[hx])) (h.add q1 (B0 (most:=c.most) (sum:=qc plan c.ei 0) (nP q3)));rw[b8,vX];simp only[gH,fJ];rw[<- Int.add_assoc];exact h2
def pt(m:ae)(plan:List Int)(j:Nat):Int:=vY ((m.cls.getD j default).getD (plan.getD j 0).toNat default)
def Re{m:ae}{plan:List Int}(hv:VM m)(hp:FP m plan):oW (oX m plan) 0 =
  min (cd (pt m plan) m.cls.length+cd (λi=>m5 m plan (m.aj.getD i default)) m.aj.length+cd (λi=>sn plan (m.cz.getD i default)) m.cz.length) 1099511627776:=by
 have h0:Sat m.rules (aw m.rules.toNat 0) 0:=by
  refine⟨fi.rep hv.qd.1,US,?_⟩;have:∀ k,eU (aw k 0)=0:=by
   intro k
   induction k with
   |zero=>rfl
   |succ k ih=>rw[List.replicate_succ,eU,ih];rfl
  rw[this]
 have h1:=KR hv plan 0 _ _ (λj hj=>by rw[eX];exact hp.get j hj) h0;have h2:=KS hp m.aj _ _ (mS hv.pr) h1;have h3:=KT (plan:=plan) m.cz _ _ hv.ct h2;have Rf:=y8 (CF hv plan).2 (n:=0) (by unfold bG;decide);have he:=h3.eq;change min (eU (oX m plan)) _=_ at he;rw[Rf,Ak,he,Ak,hp.len];simp only[eX];rfl
end T

