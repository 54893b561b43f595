import Derived.Test.YtdipcmigdbnheaaGreatX14
set_option linter.all false
set_option maxHeartbeats 0
set_option maxRecDepth 20000
open Int renaming le_refl→dy,mul_le_mul_of_nonneg_right→EI,toNat_of_nonneg→pF,add_zero→xu,toNat_natCast→gA,zero_add→vN,add_mul→Jj,one_mul→EP,lt_or_le→BD,eq_ofNat_of_zero_le→Jk
open List renaming getD_eq_getElem?_getD→aA,getElem?_set→bV,getElem?_eq_none→eE,length_set→bE,getD_cons_zero→fQ,getD_cons_succ→ep,filter_cons→qx,getElem?_map→cg,length_map→ed,replicate→b6,mem_map→bZ,length_filter_le→zh,getElem?_eq_getElem→bT,length_cons→dz,mem_cons→b8,getElem?_set_ne→bj,range→aN,map_cons→dJ,range'→lU,drop_eq_nil_of_le→cU,range'_succ→ue,drop_zero→uj
open Nat renaming lt_or_ge→eh,div_eq_of_lt→I9,mod_eq_of_lt→Bz,add_mul→eX,add_zero→jb,zero_add→eW,mul_comm→pB,mul_add_mod→I8,one_mul→pz,zero_mul→zc
open Bool renaming and_eq_true→ba,false_eq_true→jy
open Option renaming getD_some→mo,map_some→fR,some→cT
open Go Go.Am
namespace T
def LE(a b:List Int):Prop:=a.length=b.length/\∀ i,a.getD i 0<=b.getD i 0
def LE.refl(a:List Int):LE a a:=⟨rfl,λ_=>dy _⟩
def vg(l:List Int)(n i:Nat)(x:Int):(l.set n x).getD i 0=if n=i/\i<l.length then x else l.getD i 0:=by
 rw[aA,bV,aA];by_cases h:n=i
 ·subst h;by_cases h2:n<l.length
  ·rw[if_pos rfl,if_pos h2,if_pos ⟨rfl,h2⟩];rfl
  ·rw[if_pos rfl,if_neg h2,if_neg (λh=>h2 h.2),eE I6]
 ·rw[if_neg h,if_neg (λh'=>h h'.1)]
def LE.add{a b:List Int}(h:LE a b){r c d:Int}(hcd:c<=d):LE (eU a r c) (eU b r d):=by
 refine⟨by simp only[eU,bE];exact h.1,λi=>?_⟩;rw[eU,eU,vg,vg,h.1];have:=h.2 i;have:=h.2 r.toNat;split
 ·unfold dx;omega
 ·exact h.2 i
def LE.up{R:Int}{a b:List Int}(h:LE a b)(hb:iV R b){r c:Int}(hc:0<=c):LE a (eU b r c):=by
 refine⟨by simp only[eU,bE];exact h.1,λi=>?_⟩;rw[eU,vg];have h1:=h.2 i;have h2:=hb.get i;unfold bL at h2;split
 ·rename_i hh;rw[hh.1];unfold dx;omega
 ·exact h1
def Up(p q:List Int):Prop:=p.length=q.length/\∀ j,p.getD j 0=q.getD j 0\/p.getD j 0<0
def aav{most bM s t:Int}(hp:0<=bM)(h:s<=t):jP most bM s<=jP most bM t:=by
 unfold jP;have h1:(s-most)*bM<=(t-most)*bM:=EI I6 hp;split
 ·split
  ·exact dy _
  ·have:0<=(t-most)*bM:=Int.mul_nonneg I6 hp;omega
 ·rw[if_neg I6];omega
def Ri:∀ {a b:List Int},a.length=b.length->(∀ i,a.getD i 0<=b.getD i 0)->iI a<=iI b
 |[],[],_,_=>dy _
 |[],_::_,h,_=>by simp at h
 |_::_,[],h,_=>by simp at h
 |x::a,y::b,h,hi=>by
  have h0:=hi 0;rw[fQ,fQ]at h0;have:=Ri (a:=a) (b:=b) (by simpa using h) λi=>by
   have:=hi (i+1);rwa [ep,ep]at this
  simp only[iI];omega
def Up.set{p:List Int}{c:Nat}(o:Int)(h:p.getD c 0 = -1):Up p (p.set c o):=by
 refine⟨Jd,λj=>?_⟩;rw[vg];split
 ·rename_i hh;rw[<- hh.1,h];omega
 ·exact .inl rfl
def PM.set{m:aj}{p:List Int}(h:PM m p){c:Nat}{o:Int}(ho:o = -1\/gW m (c:Nat) o=true):PM m (p.set c o):=by
 refine⟨by rw[bE];exact h.len,λj hj=>?_⟩;rw[bE]at hj;rw[vg];split
 ·rename_i hh;rw[<- hh.1];exact ho
 ·exact h.get j hj
def dj(aw:List Bool)(r:Int):Bool:=aw.getD r.toNat false
def jF(aw:List Bool)(o:br):br:=⟨o.wk,o.day,o.st,o.len,o.room,o.ch.filter λc=>dj aw c.1⟩
def fX(m:aj)(aw:List Bool):aj :=
 ⟨m.cls.map λl=>l.map (jF aw),m.ae.filter λp=>dj aw p.aV,m.ar.filter λc=>dj aw c.aV,m.rules⟩
def Dq:aj:=⟨[],[],[],0⟩
def p7(m:aj)(aw:List Bool):aj×Int :=
 if eJ m≠0 then(Dq,eJ m) else if(aw.length:Int)≠m.rules then(Dq,3) else(fX m aw,0)
def Cut(aw:List Bool)(a b:List Int):Prop:=b.length=a.length/\∀ i:Nat,b.getD i 0=if dj aw i=true then a.getD i 0 else 0
def Cut.add{aw:List Bool}{a b:List Int}(h:Cut aw a b){r c:Int}(hr:0<=r):Cut aw (eU a r c) (if dj aw r=true then eU b r c else b):=by
 have cm:((r.toNat:Nat):Int)=r:=pF hr;refine⟨by split<;>simp only[eU,bE]<;>exact h.1,λi=>?_⟩;have hi:=h.2 i;have qz:=h.2 r.toNat;rw[cm]at qz;by_cases hk:dj aw r=true
 ·rw[if_pos hk];rw[if_pos hk]at qz;rw[eU,eU,vg,vg,qz,h.1];by_cases lH:r.toNat=i/\i<a.length
  ·rw[if_pos lH,if_pos lH,if_pos];rw[<- lH.1,cm];exact hk
  ·rw[if_neg lH,if_neg lH];exact hi
 ·rw[if_neg hk,eU,vg];by_cases lH:r.toNat=i/\i<a.length
  ·rw[if_pos lH];rw[<- lH.1,cm,if_neg hk]at hi;rw[<- lH.1,cm,if_neg hk];exact hi
  ·rw[if_neg lH];exact hi
def G1{aw:List Bool}:∀ (l:List (Int×Int)) {a b:List Int},Cut aw a b->(∀ c∈l,0<=c.1)->Cut aw (qb l a) (qb (l.filter λc=>dj aw c.1) b)
 |[],_,_,h,_=>h
 |c::r,a,b,h,hc=>by
  have h1:=h.add (c:=c.2) (hc c Jd);rw[qx];by_cases hk:dj aw c.1=true
  ·rw[if_pos hk]at h1 ⊢;exact G1 r h1 λx hx=>hc x (by simp[hx])
  ·rw[if_neg hk]at h1 ⊢;exact G1 r h1 λx hx=>hc x (by simp[hx])
def aaw(aw:List Bool):jF aw default=default:=rfl
def G2{α β:Type}(f:α->β)(l:List α)(i:Nat)(a:α)(b:β)(h:f a=b):(l.map f).getD i b=f (l.getD i a):=by
 rw[aA,aA,cg];cases l[i]? with
 |none=>exact h.symm
 |some x=>rfl
def G3(m:aj)(aw:List Bool)(i:Nat):(fX m aw).cls.getD i default=(m.cls.getD i default).map (jF aw):=G2 _ _ _ _ _ rfl
def aax(m:aj)(aw:List Bool)(i k:Nat):((fX m aw).cls.getD i default).getD k default=jF aw ((m.cls.getD i default).getD k default):=by
 rw[G3];exact G2 _ _ _ _ _ (aaw aw)
def aay{m:aj}(hm:VM m)(i:Nat)(k:Nat):∀ c∈((m.cls.getD i default).getD k default).ch,0<=c.1:=by
 intro c hc;rcases eh i m.cls.length with hi|hi
 ·have hl:=aC (d:=(default:List br)) hi;generalize m.cls.getD i default=l at *;rcases eh k l.length with ho|ho
  ·have:=(u9 (hm.kQ l hl _ (aC ho)) c hc).1;rw[ij,decide_eq_true_eq]at this;exact this.1
  ·rw[show l.getD k default=default by rw[aA,eE ho];rfl]at hc;exact absurd hc (by rw[Dk];simp)
 ·rw[show m.cls.getD i default=[] by rw[aA,eE hi];rfl]at hc;exact absurd hc (by rw[List.getD_nil,Dk];simp)
def Rj{m:aj}(hm:VM m){aw:List Bool}:∀ (plan:List Int) (i:Nat) {a b:List Int},Cut aw a b->Cut aw (oC m i plan a) (oC (fX m aw) i plan b)
 |[],_,_,_,h=>h
 |o::r,i,a,b,h=>by
  rw[oC,oC];refine Rj hm r (i+1) ?_;split
  ·exact h
  ·rw[aax];exact G1 _ h (aay hm i o.toNat)
def aaz(m:aj)(aw:List Bool)(p:Pr)(x y:Int):mP (fX m aw) p x y=mP m p x y:=by
 unfold mP;rw[G3,ed]
def AD{m:aj}{aw:List Bool}{plan:List Int}:∀ (l:List Pr) {a b:List Int},(∀ p∈l,0<=p.aV)->Cut aw a b->Cut aw (nM m plan l a) (nM (fX m aw) plan (l.filter λp=>dj aw p.aV) b)
 |[],_,_,_,h=>h
 |p::r,a,b,hp,h=>by
  have hr:∀ q∈r,0<=q.aV:=λq hq=>hp q (by simp[hq]);rw[qx,nM];by_cases hc:0<=plan.getD p.fst.toNat 0/\0<=plan.getD p.snd.toNat 0
  ·rw[if_pos hc];have h1:=h.add (c:=mP m p (plan.getD p.fst.toNat 0) (plan.getD p.snd.toNat 0)) (hp p Jd);by_cases hk:dj aw p.aV=true
   ·rw[if_pos hk]at h1 ⊢;rw[nM,if_pos hc,aaz];exact AD r hr h1
   ·rw[if_neg hk]at h1 ⊢;exact AD r hr h1
  ·rw[if_neg hc];split
   ·rw[nM,if_neg hc];exact AD r hr h
   ·exact AD r hr h
def G4{aw:List Bool}{plan:List Int}:∀ (l:List Ct) {a b:List Int},(∀ c∈l,0<=c.aV)->Cut aw a b->Cut aw (oD plan l a) (oD plan (l.filter λc=>dj aw c.aV) b)
 |[],_,_,_,h=>h
 |c::r,a,b,hp,h=>by
  have hr:∀ q∈r,0<=q.aV:=λq hq=>hp q (by simp[hq]);have h1:=h.add (c:=jP c.most c.bM (kv plan c.aS 0)) (hp c Jd);rw[qx,oD];by_cases hk:dj aw c.aV=true
  ·rw[if_pos hk]at h1 ⊢;rw[oD];exact G4 r hr h1
  ·rw[if_neg hk]at h1 ⊢;exact G4 r hr h1
def aaA{m:aj}(hm:VM m)(aw:List Bool)(plan:List Int):Cut aw (iC m plan) (iC (fX m aw) plan):=by
 have h0:Cut aw (b6 m.rules.toNat 0) (b6 m.rules.toNat 0):=⟨rfl,λi=>by
  have:(b6 m.rules.toNat (0:Int)).getD i 0=0:=by
   rw[aA,List.getElem?_replicate];split<;>rfl
  rw[this];split<;>rfl⟩
 exact G4 _ (λc hc=>(lp (hm.ct c hc)).1.1) (AD _ (λp hp=>(lr (jo hm.pr p hp)).1.1) (Rj hm _ _ h0))
def aaB{R:Int}{q q':Option (Int×Int)}(h:∀ y,q'=some y->∃ x,q=some x/\y.1<=x.1):∀ {l:List (Int×Int)},db R q l=true->db R q' l=true
 |[],_=>by cases q'<;>rfl
 |c::r,hl=>by
  rw[db.eq_def]at hl ⊢;simp only[ba]at hl ⊢;refine⟨⟨hl.1.1,?_⟩,hl.2⟩;cases q' with
  |none=>rfl
  |some y =>
   obtain⟨x,rfl,hx⟩:=h y rfl;have:=hl.1.2;simp only[decide_eq_true_eq]at this ⊢;omega
def Dr{R:Int}(p:Int×Int->Bool):∀ {l:List (Int×Int)} {q:Option (Int×Int)},db R q l=true->db R q (l.filter p)=true
 |[],q,h=>h
 |c::r,q,h=>by
  have h0:=h;rw[db.eq_def]at h;simp only[ba]at h;rw[qx];split
  ·rw[db.eq_def];simp only[ba];exact⟨h.1,Dr p h.2⟩
  ·refine aaB (q:=some c) (λy hy=>⟨c,rfl,?_⟩) (Dr p h.2);subst hy;have:=h.1.2;simp only[decide_eq_true_eq]at this;omega
def aaC{a b c:Pr}(h:mh a b<0)(k:mh b c<0):mh a c<0:=by
 rw[GN]at *;omega
def aaD{m:aj}{q q':Option Pr}(h:∀ y,q'=some y->∃ x,q=some x/\(∀ c,mh x c<0->mh y c<0)):∀ {l:List Pr},dW m q l=true->dW m q' l=true
 |[],_=>by cases q'<;>rfl
 |c::r,hl=>by
  rw[dW.eq_def]at hl ⊢;simp only[ba]at hl ⊢;refine⟨⟨hl.1.1,?_⟩,hl.2⟩;cases q' with
  |none=>rfl
  |some y =>
   obtain⟨x,rfl,hx⟩:=h y rfl;have:=hl.1.2;simp only[decide_eq_true_eq]at this ⊢;exact hx c this
def Ds{m:aj}(p:Pr->Bool):∀ {l:List Pr} {q:Option Pr},dW m q l=true->dW m q (l.filter p)=true
 |[],q,h=>h
 |c::r,q,h=>by
  rw[dW.eq_def]at h;simp only[ba]at h;rw[qx];split
  ·rw[dW.eq_def];simp only[ba];exact⟨h.1,Ds p h.2⟩
  ·refine aaD (q:=some c) (λy hy=>⟨c,rfl,λd hd=>?_⟩) (Ds p h.2);subst hy;have:=h.1.2;simp only[decide_eq_true_eq]at this;exact aaC this hd
def G5(m:aj)(aw:List Bool)(i:Nat):((fX m aw).cls.getD i default).length=(m.cls.getD i default).length:=by rw[G3,ed]
def AE(m:aj)(aw:List Bool):(fX m aw).cls.length=m.cls.length:=by unfold fX;simp
def G6(m:aj)(aw:List Bool)(c o:Int):gW (fX m aw) c o=gW m c o:=by
 unfold gW;rw[AE,G5]
def aaE(m:aj)(aw:List Bool)(p:Pr):eS (fX m aw) p=eS m p:=by
 unfold eS;rw[AE,G5,G5];rfl
def Rk(m:aj)(aw:List Bool):∀ (l:List Pr) (q:Option Pr),dW (fX m aw) q l=dW m q l
 |[],_=>rfl
 |x::r,q=>by rw[dW.eq_def,dW.eq_def];simp only[aaE,Rk m aw r]
def Rl(m:aj)(aw:List Bool):∀ (l:List Ld) (q:Option Ld),dm (fX m aw) q l=dm m q l
 |[],_=>rfl
 |x::r,q=>by rw[dm.eq_def,dm.eq_def];simp only[G6,Rl m aw r]
def aaF(m:aj)(aw:List Bool)(c:Ct):fN (fX m aw) c=fN m c:=by
 unfold fN;rw[Rl];rfl
def sv{m:aj}(hm:VM m)(aw:List Bool):VM (fX m aw):=by
 refine⟨by rw[AE];exact hm.cls,λl hl=>?_,?_,?_,hm.iS,λl hl o ho=>?_,?_,λc hc=>?_⟩
 ·simp only[fX,bZ]at hl;obtain⟨l',h',rfl⟩:=hl;simpa using hm.opt l' h'
 ·have:=zh (λp:Pr=>dj aw p.aV) m.ae;have:=hm.ae;simp only[fX];omega
 ·have:=zh (λp:Ct=>dj aw p.aV) m.ar;have:=hm.ar;simp only[fX];omega
 ·simp only[fX,bZ]at hl;obtain⟨l',h',rfl⟩:=hl;simp only[bZ]at ho;obtain⟨o',cL,rfl⟩:=ho;exact Dr _ (hm.kQ l' h' o' cL)
 ·rw[Rk];exact Ds _ hm.pr
 ·rw[aaF];exact hm.ct c (List.mem_filter.1 hc).1
def Cut.total{m:aj}(hm:VM m)(aw:List Bool)(plan:List Int):jO (iC (fX m aw) plan) 0<=jO (iC m plan) 0:=by
 have h:=aaA hm aw plan;have h1:=GQ hm plan;have h2:=GQ (sv hm aw) plan;rw[Dl h1.2 (by unfold bL;decide),Dl h2.2 (by unfold bL;decide)];have:=Ri (a:=iC (fX m aw) plan) (b:=iC m plan) h.1 λi=>by
  rw[h.2 i];have:=h1.get i;unfold bL at this;split<;>omega
 omega
def LO.aw{α:Type}{enc:α->List AV}{B:List (Nat×Ob)}{D E:List (Nat×Nat)}{S T:List (List α)}{os ob:List Ob}(h:LO enc B D E S T os)(k:fO os ob):LO enc B D E S T ob :=
 ⟨λb hb=>⟨k _ _ (h.base b hb).1,(h.base b hb).2⟩,⟨h.rD.len,λj hj=>⟨k _ _ (h.rD.row j hj).1,(h.rD.row j hj).2⟩⟩,⟨h.rE.len,λj hj=>⟨k _ _ (h.rE.row j hj).1,(h.rE.row j hj).2⟩⟩,h.nd⟩
def fO.trans{a b c:List Ob}(h:fO a b)(k:fO b c):fO a c:=λi o hi=>k i o (h i o hi)
def Dt(b:List Bool):∀ (a:List Bool) (n:Nat),n<a.length*b.length->(tN a b).getD n false=(a.getD (n/b.length) false&&b.getD (n%b.length) false)
 |[],n,h=>by simp at h
 |x::r,n,h=>by
  have hb:0<b.length:=by
   rcases Nat.eq_zero_or_pos b.length with h0|h0
   ·rw[h0]at h;omega
   ·exact h0
  show((b.map (x && ·))++tN r b).getD n false=_;rcases eh n b.length with hn|hn
  ·rw[I9 hn,Bz hn,fQ,aA,List.getElem?_append_left (by simpa using hn),cg,bT hn,aA,bT hn];rfl
  ·obtain⟨k,rfl⟩ :∃k,n=k+b.length:=⟨n-b.length,I6⟩;have ih:=Dt b r k (by rw[dz,eX]at h;omega);rw[aA,List.getElem?_append_right (by simpa using hn),ed,Nat.add_sub_cancel,<- aA,ih,Nat.add_div_right _ hb,Nat.add_mod_right,ep]
def vh(q:Int×Bool):Nm:=(q.1,!q.2)
def Rm(l:List Nm)(s:List Bool):qf (iW l s)=vh (fe l s (0,false)):=aaG l s
def tO(m:aj)(left:List (List Bool))(g:Lg):List (Int×Bool):=PC left g.1 m.cls.length++PP m left g.2 m.ae.length++PK m left m.ar.length
def Rn(a b:List (Int×Bool))(z:Int×Bool):cI (a++b) z=cI b (cI a z):=by unfold cI;rw[List.foldl_append]
def aaH(m:aj)(left:List (List Bool))(g:Lg):mS m left g=if(cI (tO m left g) (0,false)).2=true then 1099511627776 else min (cI (tO m left g) (0,false)).1 1099511627776:=by
 unfold mS tO;rw[Rn,Rn]
def AF:∀ (l:List (Int×Bool)) (n:Int),(cI l (n,true)).2=true
 |[],_=>rfl
 |p::r,n=>AF r _
def Ro:∀ (l:List (Int×Bool)) (n:Int),(cI l (n,false)).2=true↔∃ p∈l,p.2=false
 |[],_=>by simp[cI]
 |p::r,n=>by
  show(cI r (n+p.1,false||!p.2)).2=true↔_;cases hp:p.2 with
  |false =>
   simp only[Bool.not_false,Bool.or_true];exact⟨λ_=>⟨p,Jd,hp⟩,λ_=>AF r _⟩
  |true =>
   simp only[Bool.not_true,Bool.or_false];rw[Ro r];constructor
   ·rintro⟨q,hq,h⟩;exact⟨q,by simp[hq],h⟩
   ·rintro⟨q,hq,h⟩;rcases b8.1 hq with rfl|hq
    ·rw[hp]at h;cases h
    ·exact⟨q,hq,h⟩
def G7:∀ (l:List Nm) (s:List Bool),(iW l s).length<=l.length
 |[],s=>by cases s<;>simp[iW]
 |p::r,[]=>by simp[iW]
 |p::r,is::s=>by
  rw[iW,List.length_append,dz];have:=G7 r s;split<;>simp<;>omega
structure Sat(R:Int)(out:List Int)(v:Int):Prop where
 ok:iV R out
 v0:0<=v
 eq:min (iI out) 1099511627776=min v 1099511627776
def Rp:∀ (l:List Int) (i:Nat) (x:Int),i<l.length->iI (l.set i x)=iI l-l.getD i 0+x
 |[],i,x,h=>by simp at h
 |y::r,0,x,_=>by simp only[List.set_cons_zero,iI,fQ];omega
 |y::r,i+1,x,h=>by
  have:=Rp r i x (by simpa using h);simp only[List.set_cons_succ,iI,ep];omega
def Sat.add{R:Int}{out:List Int}{v r d:Int}(h:Sat R out v)(hr:0<=r/\r<R)(hd:bL d):Sat R (eU out r d) (v+d):=by
 have hlen:=h.ok.1;have hi:r.toNat<out.length:=I6;have hs:=GU h.ok.2 _ (aC (d:=(0:Int)) hi);have gr:=Rp out r.toNat (dx (out.getD r.toNat 0) d) hi;have hg:=h.ok.get r.toNat;have he:=h.eq;have hv:=h.v0;unfold bL at hg;have sB:=hd;unfold bL at sB;refine⟨h.ok.add hd,I6,?_⟩;unfold eU;rw[gr];unfold dx;omega
def Sat.le{R:Int}{out:List Int}{v w:Int}(h:Sat R out v)(hw:0<=w)(e:min v 1099511627776=min w 1099511627776):Sat R out w:=⟨h.ok,hw,h.eq.trans e⟩
def Rq{R:Int}:∀ (l:List (Int×Int)) (out:List Int) (v n:Int),(∀ c∈l,ij R c.1=true/\iF c.2=true)->0<=v->bL n->Sat R out (v+n)->Sat R (qb l out) (v+(l.map (·.2)).foldl dx n)
 |[],out,v,n,_,_,_,h=>h
 |c::r,out,v,n,hc,hv,e9,h=>by
  rw[qb];have h1:=hc c Jd;have hr:=h1.1;rw[ij,decide_eq_true_eq]at hr;have hp:=lN h1.2;have h2:=h.add hr hp;refine Rq r _ v (dx n c.2) (λx hx=>hc x (by simp[hx])) hv (yu e9 hp) (h2.le ?_ ?_)
  ·have:=yu e9 hp;unfold bL at this;omega
  ·unfold bL at hp e9;unfold dx;omega
def Rr{m:aj}(hm:VM m):∀ (plan:List Int) (i:Nat) (out:List Int) (v:Int),(∀ j,j<plan.length->gW m ((i+j:Nat):Int) (plan.getD j 0)=true) ->
  Sat m.rules out v->Sat m.rules (oC m i plan out) (v+bf (λj=>iU ((m.cls.getD (i+j) default).getD (plan.getD j 0).toNat default)) plan.length)
 |[],i,out,v,_,h=>by show Sat m.rules out (v+0);rw[xu];exact h
 |o::r,i,out,v,hg,h=>by
  rw[oC];have h0:=hg 0 Jd;rw[fQ,jb]at h0;obtain⟨b1,b2,b3,b4⟩:=gV.1 h0;rw[gA]at b4;rw[if_neg I6];have hl:=aC (l:=m.cls) (i:=i) (d:=default) I6;have ho:=aC (l:=m.cls.getD i default) (i:=o.toNat) (d:=default) I6;have eC:=hm.kQ _ hl _ ho;have h1:=Rq _ out v 0 (u9 eC) h.v0 (by unfold bL;decide) (by rw[xu];exact h);have h2:=Rr hm r (i+1) _ _ (λj hj=>by
   have:=hg (j+1) (by simpa using hj);rwa [ep,show i+(j+1)=i+1+j by omega]at this) h1
  rw[dz,wP];simp only[fQ,ep,jb];rw[<- Int.add_assoc];rw[ju (g:=λj=>iU ((m.cls.getD (i+(j+1)) default).getD (r.getD j 0).toNat default)) r.length λj _=>by rw[show i+1+j=i+(j+1) by omega]]at h2;exact h2
def iX(m:aj)(plan:List Int)(p:Pr):Int:=mP m p (plan.getD p.fst.toNat 0) (plan.getD p.snd.toNat 0)
def Rs{m:aj}{plan:List Int}(hp:FP m plan):∀ (l:List Pr) (out:List Int) (v:Int),(∀ p∈l,eS m p=true)->Sat m.rules out v ->
  Sat m.rules (nM m plan l out) (v+bf (λi=>iX m plan (l.getD i default)) l.length)
 |[],out,v,_,h=>by show Sat m.rules out (v+0);rw[xu];exact h
 |p::r,out,v,hg,h=>by
  rw[nM];have ef:=hg p Jd;obtain⟨q1,q2,q3,q4,q5⟩:=lr ef;have cE:=hp.len;have g1:=hp.get p.fst.toNat I6;have g2:=hp.get p.snd.toNat I6;have a1:=gV.1 g1;have a2:=gV.1 g2;rw[if_pos ⟨a1.2.2.1,a2.2.2.1⟩];have h2:=Rs hp r _ _ (λx hx=>hg x (by simp[hx])) (h.add q1 (Ax ef (plan.getD p.fst.toNat 0) (plan.getD p.snd.toNat 0)));rw[dz,wP];simp only[fQ,ep];rw[<- Int.add_assoc];exact h2
def gM(plan:List Int)(c:Ct):Int:=jP c.most c.bM (kv plan c.aS 0)
def Rt{m:aj}{plan:List Int}:∀ (l:List Ct) (out:List Int) (v:Int),(∀ c∈l,fN m c=true)->Sat m.rules out v ->
  Sat m.rules (oD plan l out) (v+bf (λi=>gM plan (l.getD i default)) l.length)
 |[],out,v,_,h=>by show Sat m.rules out (v+0);rw[xu];exact h
 |c::r,out,v,hg,h=>by
  rw[oD];obtain⟨q1,q2,q3,q4⟩:=lp (hg c Jd);have h2:=Rt (plan:=plan) r _ _ (λx hx=>hg x (by simp[hx])) (h.add q1 (Aw (most:=c.most) (sum:=kv plan c.aS 0) (lN q3)));rw[dz,wP];simp only[fQ,ep];rw[<- Int.add_assoc];exact h2
def kx(m:aj)(plan:List Int)(j:Nat):Int:=iU ((m.cls.getD j default).getD (plan.getD j 0).toNat default)
def yC{m:aj}{plan:List Int}(hv:VM m)(hp:FP m plan):jO (iC m plan) 0 =
  min (bf (kx m plan) m.cls.length+bf (λi=>iX m plan (m.ae.getD i default)) m.ae.length+bf (λi=>gM plan (m.ar.getD i default)) m.ar.length) 1099511627776:=by
 have h0:Sat m.rules (b6 m.rules.toNat 0) 0:=by
  refine⟨iV.rep hv.iS.1,aab,?_⟩;have:∀ k,iI (b6 k 0)=0:=by
   intro k
   induction k with
   |zero=>rfl
   |succ k ih=>rw[List.replicate_succ,iI,ih];rfl
  rw[this]
 have h1:=Rr hv plan 0 _ _ (λj hj=>by rw[eW];exact hp.get j hj) h0;have h2:=Rs hp m.ae _ _ (jo hv.pr) h1;have h3:=Rt (plan:=plan) m.ar _ _ hv.ct h2;have G8:=Dl (GQ hv plan).2 (n:=0) (by unfold bL;decide);have he:=h3.eq;change min (iI (iC m plan)) _=_ at he;rw[G8,vN,he,vN,hp.len];simp only[eW];rfl
def Ru(r:List Nm)(i q:Nat)(a:Int)(hi:i<r.length):(tP r i a).getD q default=if i=q then((r.getD q default).1+a,(r.getD q default).2) else r.getD q default:=by
 unfold tP;by_cases h:i=q
 ·subst h;rw[if_pos rfl];simp only[aA,bV,hi,if_true,mo]
 ·rw[if_neg h];simp only[aA,bj h]
def Rv(r:List Nm){i q:Nat}(a:Int)(h:i≠q):(tP r i a).getD q default=r.getD q default:=by
 unfold tP;simp only[aA,bj h]
def Du{f:Nat->Nat}{a:Int}{t:List Nm}{q:Nat}:∀ k:Nat,(∀ j,j<k->f j≠q)->(ri f a k t).getD q default=t.getD q default
 |0,_=>rfl
 |k+1,h=>by rw[ri,Rv _ _ (h k I6),Du k λj hj=>h j I6]
def G9{f:Nat->Nat}{a:Int}{t:List Nm}{q j0:Nat}(h0:f j0=q)(hq:q<t.length):∀ k:Nat,j0<k->(∀ j,j<k->j≠j0->f j≠q)->(ri f a k t).getD q default=((t.getD q default).1-a,(t.getD q default).2)
 |0,hk,_=>I6
 |k+1,hk,h=>by
  rw[ri];by_cases e:j0=k
  ·subst e;rw[h0,Ru _ _ _ _ (by rw[G'];exact hq),if_pos rfl,Du j0 λj hj=>h j I6 I6];congr 1
  ·rw[Rv _ _ (h k I6 I6),G9 h0 hq k I6 λj hj=>h j I6]
def Dv{a b n j k:Int}(hj:0<=j/\j<n)(hk:0<=k/\k<n)(h:a*n+j=b*n+k):a=b/\j=k:=by
 rcases Int.lt_trichotomy a b with hl|hl|hl
 ·have:(a+1)*n<=b*n:=EI I6 I6;rw[Jj,EP]at this;omega
 ·subst hl;omega
 ·have:(b+1)*n<=a*n:=EI I6 I6;rw[Jj,EP]at this;omega
def ky(plan:List Int)(g:Lg)(i:Nat):Nm:=(g.1.getD i default).getD (plan.getD i 0).toNat default
def sG(m:aj)(plan:List Int)(p:Pr):Nat:=(plan.getD p.fst.toNat 0*(m.cls.getD p.snd.toNat default).length+plan.getD p.snd.toNat 0).toNat
def kz(m:aj)(plan:List Int)(g:Lg)(i:Nat):Nm:=(g.2.getD i default).getD (sG m plan (m.ae.getD i default)) default
def Rx{α:Type}[Inhabited α](l:List α)(i j:Nat)(x:α)(hi:i<l.length):(l.set i x).getD j default=if i=j then x else l.getD j default:=by
 by_cases h:i=j
 ·subst h;rw[if_pos rfl];simp only[aA,bV,hi,if_true,mo]
 ·rw[if_neg h];simp only[aA,bj h]
structure Dw(m:aj)(x:Mv):Prop where
 p:0<=x.pair/\x.pair<m.ae.length
 s:x.side=0\/x.side=1
 c:0<=oF m x/\oF m x<m.cls.length
 o:0<=x.opt/\x.opt<(m.cls.getD (oF m x).toNat default).length
def aaI{m:aj}{x:Mv}(h:oG m x=true):Dw m x:=by
 unfold oG at h;rw[ba,decide_eq_true_eq,gV]at h;exact⟨I6,I6,I6,I6⟩
def oH{m:aj}{plan:List Int}(hp:FP m plan){j:Nat}(hj:j<m.cls.length):0<=plan.getD j 0/\plan.getD j 0<(m.cls.getD j default).length:=by
 have h:=gV.1 (hp.get j (by rw[hp.len];exact hj));rw[gA]at h;exact h.2.2
abbrev AG(m:aj)(plan:List Int)(x:Mv):Prop:=plan.getD (oF m x).toNat 0=x.opt
def aaJ{m:aj}{plan:List Int}(hp:FP m plan){B:Int}{g:Lg}(h:LG m B g){x:Mv}(hx:Dw m x)(i:Nat):
  ky plan (nR m x g) i=if i=(oF m x).toNat then(if AG m plan x then((ky plan g i).1+x.tQ,(ky plan g i).2) else ky plan g i) else ky plan g i:=by
 obtain⟨hxp,ec,qU,sH⟩:=hx;have h1:=h.s;have h2:=h.sl (oF m x).toNat I6;have h3:=oH hp (j:=(oF m x).toNat) I6;unfold ky nR AG;dsimp only;rw[Rx _ _ _ _ I6];by_cases e:i=(oF m x).toNat
 ·subst e;rw[if_pos rfl,if_pos rfl,Ru _ _ _ _ I6];by_cases e2:plan.getD (oF m x).toNat 0=x.opt
  ·rw[if_pos e2,if_pos (by rw[e2])]
  ·rw[if_neg e2,if_neg I6]
 ·rw[if_neg (Ne.symm e),if_neg e]
def aaL{m:aj}(hm:VM m){plan:List Int}(hp:FP m plan){B:Int}{g:Lg}(h:LG m B g){x:Mv}(hx:Dw m x)(i:Nat):
  kz m plan (nR m x g) i=if i=x.pair.toNat then(if AG m plan x then((kz m plan g i).1-x.tQ,(kz m plan g i).2) else kz m plan g i) else kz m plan g i:=by
 obtain⟨hxp,ec,qU,sH⟩:=hx;have h1:=h.t;have h2:=h.tl x.pair.toNat I6;unfold kz nR;dsimp only;rw[Rx _ _ _ _ I6];by_cases e:i=x.pair.toNat;rotate_left
 ·rw[if_neg (Ne.symm e),if_neg e]
 subst e;rw[if_pos rfl,if_pos rfl];have ef:=jo hm.pr _ (aC (l:=m.ae) (i:=x.pair.toNat) (d:=default) I6);unfold AG;unfold oF at *;unfold AH sG;generalize m.ae.getD x.pair.toNat default=p at *;obtain⟨q1,q2,q3,q4,q5⟩:=lr ef;have ha:=oH hp (j:=p.fst.toNat) I6;have hb:=oH hp (j:=p.snd.toNat) I6;have yD:=hm.opt _ (aC (l:=m.cls) (i:=p.fst.toNat) (d:=default) I6);have nu:=hm.opt _ (aC (l:=m.cls) (i:=p.snd.toNat) (d:=default) I6);generalize g.2.getD x.pair.toNat default=t at *;generalize yk:plan.getD p.fst.toNat 0=a at *;generalize gJ:plan.getD p.snd.toNat 0=b at *;generalize ow:(m.cls.getD p.fst.toNat default).length=na at *;generalize aaM:(m.cls.getD p.snd.toNat default).length=nb at *;have gx:=u5 (x:=a) (y:=b) (a:=na) (b:=nb) ha hb I6 I6;rcases ec with hs|hs
 ·rw[if_pos hs]at qU sH;rw[if_pos hs,if_pos hs,yk];rw[ow]at sH;dsimp only;have An:=u5 (x:=x.opt) (y:=b) (a:=na) (b:=nb) sH hb I6 I6;by_cases e2:a=x.opt
  ·rw[if_pos e2];refine G9 (j0:=b.toNat) ?_ I6 nb I6 λj hj df he=>?_
   ·rw[e2,pF hb.1]
   ·have:=Dv (a:=x.opt) (b:=a) (n:=nb) (j:=j) (k:=b) I6 I6 I6;omega
  ·rw[if_neg e2];refine Du nb λj hj he=>?_;have:=Dv (a:=x.opt) (b:=a) (n:=nb) (j:=j) (k:=b) I6 I6 I6;omega
 ·rw[if_neg I6]at qU sH;have tA:¬ x.side=0:=I6;rw[if_neg tA,if_neg tA,gJ];rw[aaM]at sH;dsimp only;by_cases e2:b=x.opt
  ·rw[if_pos e2];refine G9 (j0:=a.toNat) ?_ I6 na I6 λj hj df he=>?_
   ·rw[e2,pF ha.1]
   ·have Cw:=u5 (x:=(j:Int)) (y:=x.opt) (a:=na) (b:=nb) I6 sH I6 I6;have:=Dv (a:=(j:Int)) (b:=a) (n:=nb) (j:=x.opt) (k:=b) I6 I6 I6;omega
  ·rw[if_neg e2];refine Du na λj hj he=>?_;have Cw:=u5 (x:=(j:Int)) (y:=x.opt) (a:=na) (b:=nb) I6 sH I6 I6;have:=Dv (a:=(j:Int)) (b:=a) (n:=nb) (j:=x.opt) (k:=b) I6 I6 I6;omega
def tR(m:aj)(plan:List Int)(g:Lg):Int:=bf (λi=>(ky plan g i).1) m.cls.length+bf (λi=>(kz m plan g i).1) m.ae.length
def aaN{m:aj}(hm:VM m){plan:List Int}(hp:FP m plan){B:Int}{g:Lg}(h:LG m B g){x:Mv}(hx:Dw m x):
  tR m plan (nR m x g)=tR m plan g/\(∀ i,(ky plan (nR m x g) i).2=(ky plan g i).2)/\∀ i,(kz m plan (nR m x g) i).2=(kz m plan g i).2:=by
 have hS:=aaJ hp h hx;have hT:=aaL hm hp h hx;refine⟨?_,λi=>?_,λi=>?_⟩
 ·unfold tR;by_cases hh:AG m plan x
  ·rw[ju (g:=λi=>if i=(oF m x).toNat then(ky plan g i).1+x.tQ else(ky plan g i).1) m.cls.length λi _=>by
    rw[hS,if_pos hh];split<;>rfl,ju (g:=λi=>if i=x.pair.toNat then(kz m plan g i).1+-x.tQ else(kz m plan g i).1) m.ae.length λi _=>by
    rw[hT,if_pos hh];split<;>rfl,yw,yw,if_pos (by have:=hx.c;omega),if_pos (by have:=hx.p;omega)]
   omega
  ·rw[ju (g:=λi=>(ky plan g i).1) m.cls.length λi _=>by rw[hS,if_neg hh];simp,ju (g:=λi=>(kz m plan g i).1) m.ae.length λi _=>by rw[hT,if_neg hh];simp]
 ·rw[hS];split<;>(try split)<;>rfl
 ·rw[hT];split<;>(try split)<;>rfl
def Ry{m:aj}(hm:VM m){plan:List Int}(hp:FP m plan):∀ (l:List Mv) (B:Int) (g:Lg),0<=B->LG m B g->(∀ x∈l,oG m x=true) ->
  tR m plan (mi m l g)=tR m plan g/\(∀ i,(ky plan (mi m l g) i).2=(ky plan g i).2)/\∀ i,(kz m plan (mi m l g) i).2=(kz m plan g i).2
 |[],B,g,_,_,_=>⟨rfl,λ_=>rfl,λ_=>rfl⟩
 |x::r,B,g,hB,h,hx=>by
  have h1:=aaN hm hp h (aaI (hx x Jd));have h2:=Ry hm hp r _ (nR m x g) I6 (Rz hm hB h (hx x Jd)) (λy hy=>hx y (by simp[hy]));exact⟨h2.1.trans h1.1,λi=>(h2.2.1 i).trans (h1.2.1 i),λi=>(h2.2.2 i).trans (h1.2.2 i)⟩
def Dx:∀ (l:List Nm) (s:List Bool) (b:Int×Bool),b.2=true->(fe l s b).2=true/\(fe l s b).1<=b.1
 |[],s,b,h=>by cases s<;>exact⟨h,dy _⟩
 |p::r,[],b,h=>⟨h,dy _⟩
 |p::r,is::s,b,h=>by
  rw[fe];split
  ·rename_i hc;have h2:=Dx r s (p.1,true) rfl;have h3:p.1<b.1:=by
    rcases hc.2.2 with h4|h4
    ·rw[h]at h4;cases h4
    ·exact h4
   exact⟨h2.1,by have:=h2.2;dsimp only at this;omega⟩
  ·exact Dx r s b h
def Ha:∀ (l:List Nm) (s:List Bool) (b:Int×Bool) (i:Nat),i<l.length->s.getD i false=true->(l.getD i default).2=false->(fe l s b).2=true/\(fe l s b).1<=(l.getD i default).1
 |[],s,b,i,h,_,_=>by simp at h
 |p::r,[],b,i,_,h,_=>by simp at h
 |p::r,is::s,b,0,_,h1,h2=>by
  rw[fQ]at h1 h2 ⊢;rw[fe];split
  ·exact Dx r s (p.1,true) rfl
  ·rename_i hc;have hb:b.2=true/\b.1<=p.1:=by
    cases vj:b.2 with
    |false=>exact absurd ⟨h1,h2,.inl vj⟩ hc
    |true=>exact⟨rfl,by rcases BD p.1 b.1 with h|h;exact absurd ⟨h1,h2,.inr h⟩ hc;exact h⟩
   have:=Dx r s b hb.1;exact⟨this.1,I6⟩
 |p::r,is::s,b,i+1,h,h1,h2=>by
  rw[ep]at h1 h2 ⊢;rw[fe];exact Ha r s _ i (by simpa using h) h1 h2
def RA:∀ (l:List Nm) (s:List Bool) (b:Int×Bool),(∀ i,s.getD i false=false)->fe l s b=b
 |[],s,b,_=>by cases s<;>rfl
 |p::r,[],b,_=>rfl
 |p::r,is::s,b,h=>by
  have h0:=h 0;rw[fQ]at h0;rw[fe,if_neg (by rw[h0];simp)];exact RA r s b λi=>by have:=h (i+1);rwa [ep]at this
def Hb:∀ (l:List Nm) (s:List Bool) (b:Int×Bool) (i:Nat),i<l.length->(∀ j,s.getD j false=decide (j=i))->b.2=false ->
  fe l s b=if(l.getD i default).2=false then((l.getD i default).1,true) else b
 |[],s,b,i,h,_,_=>by simp at h
 |p::r,[],b,i,_,h,_=>by have:=h i;simp at this
 |p::r,is::s,b,0,_,h,hb=>by
  have h0:=h 0;rw[fQ,decide_eq_true rfl]at h0;rw[fQ,fe,RA r s _ λi=>by have:=h (i+1);rw[ep]at this;rw[this];simp];by_cases hp:p.2=false
  ·rw[if_pos ⟨h0,hp,.inl hb⟩,if_pos hp]
  ·rw[if_neg (λhc=>hp hc.2.1),if_neg hp]
 |p::r,is::s,b,i+1,hi,h,hb=>by
  have h0:=h 0;rw[fQ,decide_eq_false I6]at h0;rw[ep,fe,if_neg (by rw[h0];simp)];exact Hb r s b i (by simpa using hi) (λj=>by have:=h (j+1);rw[ep]at this;rw[this];simp) hb
def Dy(f:Nat->Int×Bool)(z:Int×Bool):∀ n,(cI ((aN n).map f) z).1=z.1+bf (λi=>(f i).1) n
 |0=>by simp[cI,bf]
 |n+1=>by rw[Dz,Hd,bf];dsimp only;rw[Dy f z n];omega
def wR(f:Nat->Int×Bool)(z:Int×Bool):∀ n,(cI ((aN n).map f) z).2=true↔(z.2=true\/∃ i,i<n/\(f i).2=false)
 |0=>by simp[cI]
 |n+1=>by
  rw[Dz,Hd];dsimp only;rw[Bool.or_eq_true,wR f z n,Bool.not_eq_true'];constructor
  ·rintro((h|⟨i,hi,h⟩)|h)
   ·exact .inl h
   ·exact .inr ⟨i,I6,h⟩
   ·exact .inr ⟨n,I6,h⟩
  ·rintro(h|⟨i,hi,h⟩)
   ·exact .inl (.inl h)
   ·by_cases e:i=n
    ·subst e;exact .inr h
    ·exact .inl (.inr ⟨i,I6,h⟩)
def sI(left:List (List Bool))(g:Lg)(i:Nat):Int×Bool:=fe (g.1.getD i default) (left.getD i default) (0,false)
def sJ(m:aj)(left:List (List Bool))(g:Lg)(i:Nat):Int×Bool:=fe (g.2.getD i default) (kA m left i) (0,false)
def pe(m:aj)(left:List (List Bool))(i:Nat):Int×Bool:=(nP left (m.ar.getD i default),!(decide ((m.ar.getD i default).bM=1099511627776)&&decide (0<nP left (m.ar.getD i default))))
def AI(m:aj)(left:List (List Bool))(g:Lg):Int:=bf (λi=>(sI left g i).1) m.cls.length+bf (λi=>(sJ m left g i).1) m.ae.length+bf (λi=>(pe m left i).1) m.ar.length
def He(m:aj)(left:List (List Bool))(g:Lg):Prop:=(∃ i,i<m.cls.length/\(sI left g i).2=false)\/(∃ i,i<m.ae.length/\(sJ m left g i).2=false)\/∃ i,i<m.ar.length/\(pe m left i).2=false
def aaO{m:aj}{left:List (List Bool)}{g:Lg}(h:He m left g):mS m left g=1099511627776:=by
 unfold mS;rw[if_pos];show(cI ((aN m.ar.length).map (pe m left)) (cI ((aN m.ae.length).map (sJ m left g)) (cI ((aN m.cls.length).map (sI left g)) (0,false)))).2=true;rw[wR,wR,wR];rcases h with h|h|h
 ·exact .inl (.inl (.inr h))
 ·exact .inl (.inr h)
 ·exact .inr h
def RB{m:aj}{left:List (List Bool)}{g:Lg}(h:¬ He m left g):mS m left g=min (AI m left g) 1099511627776:=by
 have h1:¬ (cI ((aN m.ar.length).map (pe m left)) (cI ((aN m.ae.length).map (sJ m left g)) (cI ((aN m.cls.length).map (sI left g)) (0,false)))).2=true:=by
  rw[wR,wR,wR];rintro(((h2|h2)|h2)|h2)
  ·cases h2
  ·exact h (.inl h2)
  ·exact h (.inr (.inl h2))
  ·exact h (.inr (.inr h2))
 have h2:(cI ((aN m.ar.length).map (pe m left)) (cI ((aN m.ae.length).map (sJ m left g)) (cI ((aN m.cls.length).map (sI left g)) (0,false)))).1=AI m left g:=by
  rw[Dy,Dy,Dy];unfold AI;dsimp only;omega
 show(if(cI ((aN m.ar.length).map (pe m left)) (cI ((aN m.ae.length).map (sJ m left g)) (cI ((aN m.cls.length).map (sI left g)) (0,false)))).2=true then(1099511627776:Int) else min (cI ((aN m.ar.length).map (pe m left)) (cI ((aN m.ae.length).map (sJ m left g)) (cI ((aN m.cls.length).map (sI left g)) (0,false)))).1 1099511627776)=_;rw[if_neg h1,h2]
def aaP(m:aj)(left:List (List Bool))(g:Lg):mS m left g<=1099511627776:=by
 unfold mS;split<;>omega
def DA:∀ (l:List Ld) (c o w:Int),(∀ y∈l,¬ (y.cls=c/\y.opt=o))->jr l c o w=w
 |[],_,_,_,_=>rfl
 |x::r,c,o,w,h=>by rw[jr,if_neg (h x Jd),DA r c o w λy hy=>h y (by simp[hy])]
def RC{m:aj}:∀ {l:List Ld} {q:Option Ld} (c o:Int),dm m q l=true->jr l c o 0=rj l c o
 |[],_,_,_,_=>rfl
 |x::r,q,c,o,h=>by
  have hr:dm m (some x) r=true:=by
   cases q<;>rw[dm]at h<;>simp only[ba]at h<;>exact h.2
  rw[jr,rj];by_cases e:x.cls=c/\x.opt=o
  ·rw[if_pos e,if_pos e];exact DA r c o _ λy hy he=>by have:=vn hr y hy;omega
  ·rw[if_neg e,if_neg e];exact RC c o hr
def RD(l:List Ld):∀ (plan:List Int) (i:Nat),qg l i plan=bf (λj=>rj l (i+j:Nat) (plan.getD j 0)) plan.length
 |[],i=>rfl
 |o::r,i=>by
  rw[qg,RD l r (i+1),dz,wP];simp only[fQ,ep,jb];rw[ju (g:=λj=>rj l (i+(j+1):Nat) (r.getD j 0)) r.length λj _=>by rw[show i+1+j=i+(j+1) by omega]]
def yE{l:List Ld}(h:∀ x∈l,1<=x.wt/\x.wt<=1000)(c:Int):∀ (row:List Bool) (o:Nat) (b:Int),0<=b->0<=jt l c o row b/\jt l c o row b<=b
 |[],_,b,hb=>⟨hb,dy _⟩
 |is::r,o,b,hb=>by
  rw[jt];have hw:=yv h c o 0 I6;split
  ·rename_i hc;have:=yE h c r (o+1) (jr l c o 0) hw.1;omega
  ·exact yE h c r (o+1) b hb
def DB{l:List Ld}(h:∀ x∈l,1<=x.wt/\x.wt<=1000)(c:Int):∀ (row:List Bool) (o:Nat) (b:Int) (i:Nat),row.getD i false=true->jt l c o row b<=jr l c (o+i:Nat) 0
 |[],_,b,i,hi=>by simp at hi
 |is::r,o,b,0,hi=>by
  rw[fQ]at hi;have hw:=yv h c o 0 I6;rw[jt];simp only[jb];split
  ·exact(yE h c r (o+1) _ hw.1).2
  ·rename_i hc;have hb:0<=b/\b<=jr l c o 0:=by
    constructor
    ·rcases BD b 0 with h2|h2
     ·exact absurd ⟨hi,.inl h2⟩ hc
     ·exact h2
    ·rcases BD (jr l c o 0) b with h2|h2
     ·exact absurd ⟨hi,.inr h2⟩ hc
     ·exact h2
   have:=yE h c r (o+1) b hb.1;omega
 |is::r,o,b,i+1,hi=>by
  rw[ep]at hi;rw[jt,show o+(i+1)=o+1+i by omega];exact DB h c r (o+1) _ i hi
def Hf(l:List Ld)(c:Int):∀ (row:List Bool) (o:Nat) (b:Int),(∀ i,row.getD i false=false)->jt l c o row b=b
 |[],_,_,_=>rfl
 |is::r,o,b,h=>by
  have h0:=h 0;rw[fQ]at h0;rw[jt,if_neg (by rw[h0];simp)];exact Hf l c r (o+1) b λi=>by have:=h (i+1);rwa [ep]at this
def RE(l:List Ld)(c:Int):∀ (row:List Bool) (o:Nat) (i:Nat),(∀ j,row.getD j false=decide (j=i))->jt l c o row (-1)=jr l c (o+i:Nat) 0
 |[],_,i,h=>by have:=h i;simp at this
 |is::r,o,0,h=>by
  have h0:=h 0;rw[fQ,decide_eq_true rfl]at h0;rw[jt,if_pos ⟨h0,.inl aab⟩,jb];exact Hf l c r (o+1) _ λj=>by have:=h (j+1);rw[ep]at this;rw[this];simp
 |is::r,o,i+1,h=>by
  have h0:=h 0;rw[fQ,decide_eq_false I6]at h0;rw[jt,if_neg (by rw[h0];simp),show o+(i+1)=o+1+i by omega];exact RE l c r (o+1) i λj=>by have:=h (j+1);rw[ep]at this;rw[this];simp
def wS{f:Nat->Int}:∀ (n:Nat),(∀ i<n,0<=f i)->0<=bf f n/\∀ i<n,f i<=bf f n
 |0,_=>⟨dy _,λi h=>I6⟩
 |n+1,h=>by
  have h1:=wS n λi hi=>h i I6;have h2:=h n I6;rw[bf];refine⟨I6,λi hi=>?_⟩;by_cases e:i=n
  ·subst e;omega
  ·have:=h1.2 i I6;omega
def AJ{f g:Nat->Int}:∀ (n:Nat),(∀ i<n,f i<=g i)->bf f n<=bf g n
 |0,_=>dy _
 |n+1,h=>by
  have:=AJ n λi hi=>h i I6;have:=h n I6;rw[bf,bf];omega
def aaQ{m:aj}{plan:List Int}(hm:VM m)(hp:FP m plan){i:Nat}(hi:i<m.cls.length):bL (kx m plan i):=by
 have h:=oH hp hi;have hl:=aC (l:=m.cls) (i:=i) (d:=default) hi;exact Ao (hm.kQ _ hl _ (aC (l:=m.cls.getD i default) (i:=(plan.getD i 0).toNat) (d:=default) I6))
def RF{m:aj}{plan:List Int}(hp:FP m plan){i:Nat}(hi:i<m.cls.length):ky plan (S0 m,T0 m) i=ga (kx m plan i):=by
 have h:=oH hp hi;unfold ky S0;dsimp only;rw[ik _ _ _ hi];unfold gN jE;rw[List.map_map,ik _ _ _ I6];rfl
def RG{m:aj}{plan:List Int}(hm:VM m)(hp:FP m plan){p:Pr}(ef:eS m p=true):sG m plan p<p.ay.length:=by
 obtain⟨q1,q2,q3,q4,q5⟩:=lr ef;have ha:=oH hp (j:=p.fst.toNat) I6;have hb:=oH hp (j:=p.snd.toNat) I6;have yD:=hm.opt _ (aC (l:=m.cls) (i:=p.fst.toNat) (d:=default) I6);have nu:=hm.opt _ (aC (l:=m.cls) (i:=p.snd.toNat) (d:=default) I6);have gx:=u5 ha hb I6 I6;unfold sG;omega
def RH{m:aj}{plan:List Int}(hm:VM m)(hp:FP m plan){i:Nat}(hi:i<m.ae.length):kz m plan (S0 m,T0 m) i=ga (iX m plan (m.ae.getD i default)):=by
 have ef:=jo hm.pr _ (aC (l:=m.ae) (i:=i) (d:=default) hi);have gx:=RG hm hp ef;unfold kz T0;dsimp only;rw[ik _ _ _ hi];unfold gN;rw[ik _ _ _ gx];unfold iX mP sG;rfl
def aaR{m:aj}{left:List (List Bool)}(hm:VM m)(hf:ej m left){i:Nat}(hi:i<m.ae.length){x y:Int}(hx:0<=x/\x<(m.cls.getD (m.ae.getD i default).fst.toNat default).length)(hy:0<=y/\y<(m.cls.getD (m.ae.getD i default).snd.toNat default).length):
  (kA m left i).getD (x*(m.cls.getD (m.ae.getD i default).snd.toNat default).length+y).toNat false=((left.getD (m.ae.getD i default).fst.toNat default).getD x.toNat false&&(left.getD (m.ae.getD i default).snd.toNat default).getD y.toNat false):=by
 have ef:=jo hm.pr _ (aC (l:=m.ae) (i:=i) (d:=default) hi);unfold kA;generalize m.ae.getD i default=p at *;obtain⟨q1,q2,q3,q4,q5⟩:=lr ef;have yD:=hm.opt _ (aC (l:=m.cls) (i:=p.fst.toNat) (d:=default) I6);have nu:=hm.opt _ (aC (l:=m.cls) (i:=p.snd.toNat) (d:=default) I6);have gx:=u5 hx hy I6 I6;have f1:=hf.2 p.fst.toNat (by have:=hf.1;omega);have f2:=hf.2 p.snd.toNat (by have:=hf.1;omega);rw[<- f1]at hx gx;rw[<- f2]at hy gx ⊢;generalize left.getD p.fst.toNat default=a at *;generalize left.getD p.snd.toNat default=b at *;obtain⟨x,rfl⟩:=Jk hx.1;obtain⟨y,rfl⟩:=Jk hy.1;have e:((x:Int)*b.length+y).toNat=x*b.length+y:=by
  rw[show((x:Int)*b.length+y)=((x*b.length+y:Nat):Int) by simp,gA]
 have e2:x*b.length+y<a.length*b.length:=by
  have:=gx.2.2;rw[show((x:Int)*b.length+y)=((x*b.length+y:Nat):Int) by simp,show(a.length:Int)*b.length=((a.length*b.length:Nat):Int) by simp]at this;omega
 have Cu:y<b.length:=I6;rw[e,Dt _ _ _ e2,gA,gA,pB x,Nat.mul_add_div I6,I9 Cu,I8,Bz Cu,jb]
def RJ{m:aj}{plan:List Int}(hp:FP m plan){c:Ct}(hc:fN m c=true):kv plan c.aS 0=bf (λj=>jr c.aS (j:Nat) (plan.getD j 0) 0) m.cls.length:=by
 obtain⟨_,_,_,q4⟩:=lp hc;rw[RK hp.len 0 q4,RD,vN,hp.len];exact ju _ λj _=>by rw[eW,RC _ _ q4]
def vo(m:aj)(left:List (List Bool))(plan:List Int):Prop:=∀ i,i<m.cls.length->(left.getD i default).getD (plan.getD i 0).toNat false=true
def yF(m:aj)(left:List (List Bool))(plan:List Int):Prop:=∀ i,i<m.cls.length->∀ j,(left.getD i default).getD j false=decide (j=(plan.getD i 0).toNat)
def yF.RL{m:aj}{left:List (List Bool)}{plan:List Int}(h:yF m left plan):vo m left plan:=λi hi=>by rw[h i hi,decide_eq_true rfl]
def least_le{m:aj}{plan:List Int}{left:List (List Bool)}(hm:VM m)(hp:FP m plan)(hf:ej m left)(dL:vo m left plan){c:Ct}(hc:fN m c=true):nP left c<=gM plan c:=by
 obtain⟨_,_,q3,q4⟩:=lp hc;have hw:∀ x∈c.aS,1<=x.wt/\x.wt<=1000:=λx hx=>(o8 q4 x hx).2;refine aav (lN q3).1 ?_;rw[yx,RJ hp hc,vN,hf.1];refine AJ _ λj hj=>?_;have hg:=oH hp hj;have h1:=DB hw (j:Nat) (left.getD j []) 0 (-1) (plan.getD j 0).toNat (dL j hj);have h2:=yv hw (j:Nat) (plan.getD j 0) 0 I6;rw[eW,pF hg.1]at h1;unfold nO;rw[eW];omega
def aaS{m:aj}{plan:List Int}{left:List (List Bool)}(hm:VM m)(hp:FP m plan)(hf:ej m left)(dL:yF m left plan){c:Ct}(hc:fN m c=true):nP left c=gM plan c:=by
 obtain⟨_,_,q3,q4⟩:=lp hc;have hw:∀ x∈c.aS,1<=x.wt/\x.wt<=1000:=λx hx=>(o8 q4 x hx).2;unfold nP gM;congr 1;rw[yx,RJ hp hc,vN,hf.1];refine ju _ λj hj=>?_;have hg:=oH hp hj;have h1:=RE c.aS (j:Nat) (left.getD j []) 0 (plan.getD j 0).toNat (dL j hj);have h2:=yv hw (j:Nat) (plan.getD j 0) 0 I6;rw[eW,pF hg.1]at h1;unfold nO;rw[eW,h1];omega
def aaT{m:aj}{plan:List Int}{c:Ct}(hc:fN m c=true):bL (gM plan c):=Aw (lN (lp hc).2.2.1)
def RM{most s:Int}(h:0<jP most 1099511627776 s):jP most 1099511627776 s=1099511627776:=by
 unfold jP at *;split at h
 ·omega
 ·rename_i h2;rw[if_neg h2];omega
def aaU{m:aj}{plan:List Int}{p:Pr}(h:eS m p=true):bL (iX m plan p):=Ax h _ _
structure aaV(m:aj)(plan:List Int)(left:List (List Bool))(g:Lg):Prop where
 aU:jO (iC m plan) 0=min (bf (kx m plan) m.cls.length+bf (λi=>iX m plan (m.ae.getD i default)) m.ae.length+bf (λi=>gM plan (m.ar.getD i default)) m.ar.length) 1099511627776
 ps:tR m plan g=bf (kx m plan) m.cls.length+bf (λi=>iX m plan (m.ae.getD i default)) m.ae.length
 sf:∀ i,i<m.cls.length->(ky plan g i).2=decide (1099511627776<=kx m plan i)
 tf:∀ i,i<m.ae.length->(kz m plan g i).2=decide (1099511627776<=iX m plan (m.ae.getD i default))
 sl:∀ i,i<m.cls.length->(plan.getD i 0).toNat<(g.1.getD i default).length
 tl:∀ i,i<m.ae.length->sG m plan (m.ae.getD i default)<(g.2.getD i default).length
 a:0<=bf (kx m plan) m.cls.length/\∀ i<m.cls.length,kx m plan i<=bf (kx m plan) m.cls.length
 b:0<=bf (λi=>iX m plan (m.ae.getD i default)) m.ae.length/\∀ i<m.ae.length,iX m plan (m.ae.getD i default)<=bf (λi=>iX m plan (m.ae.getD i default)) m.ae.length
 c:0<=bf (λi=>gM plan (m.ar.getD i default)) m.ar.length/\∀ i<m.ar.length,gM plan (m.ar.getD i default)<=bf (λi=>gM plan (m.ar.getD i default)) m.ar.length
def parts{m:aj}{plan:List Int}(hm:VM m)(hp:FP m plan)(left:List (List Bool))(l:List Mv)(hl:∀ x∈l,oG m x=true):aaV m plan left (mi m l (S0 m,T0 m)):=by
 have fy:=Ry hm hp l _ _ aab (RN hm) hl;have uY:=RO hm l hl;refine⟨yC hm hp,?_,λi hi=>?_,λi hi=>?_,λi hi=>?_,λi hi=>?_,wS _ λi hi=>(aaQ hm hp hi).1,wS _ λi hi=>(aaU (jo hm.pr _ (aC hi))).1,wS _ λi hi=>(aaT (hm.ct _ (aC hi))).1⟩
 ·rw[fy.1];unfold tR;rw[ju m.cls.length λi hi=>by rw[RF hp hi],ju m.ae.length λi hi=>by rw[RH hm hp hi]];rfl
 ·rw[fy.2.1,RF hp hi];rfl
 ·rw[fy.2.2,RH hm hp hi];rfl
 ·have:=oH hp hi;rw[uY.sl i hi];omega
 ·rw[uY.tl i hi];exact RG hm hp (jo hm.pr _ (aC hi))
def aaW{m:aj}{plan:List Int}{left:List (List Bool)}(hm:VM m)(hp:FP m plan)(hf:ej m left)(dL:vo m left plan){i:Nat}(hi:i<m.ae.length):(kA m left i).getD (sG m plan (m.ae.getD i default)) false=true:=by
 have ef:=jo hm.pr _ (aC (l:=m.ae) (i:=i) (d:=default) hi);obtain⟨q1,q2,q3,q4,q5⟩:=lr ef;unfold sG;rw[aaR hm hf hi (oH hp I6) (oH hp I6),dL _ I6,dL _ I6];rfl
def aaX{m:aj}{plan:List Int}{left:List (List Bool)}(hm:VM m)(hp:FP m plan)(hf:ej m left)(jD:yF m left plan){i:Nat}(hi:i<m.ae.length)(j:Nat):(kA m left i).getD j false=decide (j=sG m plan (m.ae.getD i default)):=by
 have ef:=jo hm.pr _ (aC (l:=m.ae) (i:=i) (d:=default) hi);obtain⟨q1,q2,q3,q4,q5⟩:=lr ef;have g1:=oH hp (j:=(m.ae.getD i default).fst.toNat) I6;have g2:=oH hp (j:=(m.ae.getD i default).snd.toNat) I6;have o1:=jD (m.ae.getD i default).fst.toNat I6;have o2:=jD (m.ae.getD i default).snd.toNat I6;have f1:=hf.2 (m.ae.getD i default).fst.toNat (by have:=hf.1;omega);have f2:=hf.2 (m.ae.getD i default).snd.toNat (by have:=hf.1;omega);unfold kA sG;generalize m.ae.getD i default=p at *;rw[<- f1]at g1;rw[<- f2]at g2 ⊢;generalize left.getD p.fst.toNat default=a at *;generalize left.getD p.snd.toNat default=b at *;generalize plan.getD p.fst.toNat 0=x at *;generalize plan.getD p.snd.toNat 0=y at *;obtain⟨x,rfl⟩:=Jk g1.1;obtain⟨y,rfl⟩:=Jk g2.1;simp only[gA]at o1 o2;have hx:x<a.length:=I6;have hy:y<b.length:=I6;have e:((x:Int)*b.length+y).toNat=x*b.length+y:=by
  rw[show((x:Int)*b.length+y)=((x*b.length+y:Nat):Int) by simp,gA]
 rw[e];by_cases hj:j<a.length*b.length
 ·rw[Dt _ _ _ hj,o1,o2,<- Bool.decide_and];have RP:=Nat.div_add_mod j b.length;have JJ:=Nat.mod_lt j (show 0<b.length by omega);refine decide_eq_decide.2 ⟨λ⟨h1,h2⟩=>?_,λh=>?_⟩
  ·rw[h1,h2,pB]at RP;exact RP.symm
  ·rw[h,pB x,Nat.mul_add_div I6,I9 hy,I8,Bz hy];exact⟨rfl,rfl⟩
 ·rw[aA,eE (by rw[Hg];omega),Option.getD_none,decide_eq_false];intro h;have h3:(x+1)*b.length<=a.length*b.length:=Nat.mul_le_mul_right _ hx;rw[eX,pz]at h3;omega
def RQ{m:aj}{plan:List Int}(hm:VM m)(hp:FP m plan)(left:List (List Bool))(hf:ej m left)(dL:vo m left plan)(l:List Mv)(hl:∀ x∈l,oG m x=true):
  mS m left (mi m l (S0 m,T0 m))<=jO (iC m plan) 0:=by
 have P:=parts hm hp left l hl;generalize mi m l (S0 m,T0 m)=g at *;rw[P.aU];have ha:=P.a;have hb:=P.b;have hc:=P.c;have fy:=P.ps;have RS:=aaP m left g;by_cases hF:1099511627776<=bf (kx m plan) m.cls.length+bf (λi=>iX m plan (m.ae.getD i default)) m.ae.length+bf (λi=>gM plan (m.ar.getD i default)) m.ar.length
 ·omega
 have e1:∀ i,i<m.cls.length->(sI left g i).2=true/\(sI left g i).1<=(ky plan g i).1:=λi hi=>by
  have:=ha.2 i hi;exact Ha _ _ _ _ (P.sl i hi) (dL i hi) (by show(ky plan g i).2=false;rw[P.sf i hi,decide_eq_false I6])
 have e2:∀ i,i<m.ae.length->(sJ m left g i).2=true/\(sJ m left g i).1<=(kz m plan g i).1:=λi hi=>by
  have:=hb.2 i hi;exact Ha _ _ _ _ (P.tl i hi) (aaW hm hp hf dL hi) (by show(kz m plan g i).2=false;rw[P.tf i hi,decide_eq_false I6])
 have e3:∀ i,i<m.ar.length->(pe m left i).2=true/\(pe m left i).1<=gM plan (m.ar.getD i default):=λi hi=>by
  have h1:=hc.2 i hi;have pd:=hm.ct _ (aC (l:=m.ar) (i:=i) (d:=default) hi);have h2:=least_le hm hp hf dL pd;refine⟨?_,h2⟩;unfold pe;dsimp only;cases hz:(decide ((m.ar.getD i default).bM=1099511627776)&&decide (0<nP left (m.ar.getD i default))) with
  |false=>rfl
  |true =>
   exfalso;rw[ba,decide_eq_true_eq,decide_eq_true_eq]at hz;have h3:gM plan (m.ar.getD i default)=1099511627776:=by
    unfold gM at h2 ⊢;rw[hz.1]at h2 ⊢;exact RM I6
   omega
 rw[RB]
 ·have s1:=AJ m.cls.length λi hi=>(e1 i hi).2;have s2:=AJ m.ae.length λi hi=>(e2 i hi).2;have s3:=AJ m.ar.length λi hi=>(e3 i hi).2;unfold AI;unfold tR at fy;omega
 ·rintro(⟨i,hi,h⟩|⟨i,hi,h⟩|⟨i,hi,h⟩)
  ·rw[(e1 i hi).1]at h;cases h
  ·rw[(e2 i hi).1]at h;cases h
  ·rw[(e3 i hi).1]at h;cases h
def aaY{m:aj}{plan:List Int}(hm:VM m)(hp:FP m plan)(left:List (List Bool))(hf:ej m left)(jD:yF m left plan)(l:List Mv)(hl:∀ x∈l,oG m x=true):
  mS m left (mi m l (S0 m,T0 m))=jO (iC m plan) 0:=by
 have P:=parts hm hp left l hl;generalize mi m l (S0 m,T0 m)=g at *;rw[P.aU];have ha:=P.a;have hb:=P.b;have hc:=P.c;have fy:=P.ps;have e1:∀ i,i<m.cls.length->sI left g i=if(ky plan g i).2=false then((ky plan g i).1,true) else(0,false):=λi hi =>
  Hb _ _ _ _ (P.sl i hi) (jD i hi) rfl
 have e2:∀ i,i<m.ae.length->sJ m left g i=if(kz m plan g i).2=false then((kz m plan g i).1,true) else(0,false):=λi hi =>
  Hb _ _ _ _ (P.tl i hi) (aaX hm hp hf jD hi) rfl
 have e3:∀ i,i<m.ar.length->nP left (m.ar.getD i default)=gM plan (m.ar.getD i default):=λi hi =>
  aaS hm hp hf jD (hm.ct _ (aC hi))
 by_cases hN:He m left g
 ·rw[aaO hN];rcases hN with⟨i,hi,h⟩|⟨i,hi,h⟩|⟨i,hi,h⟩
  ·rw[e1 i hi,P.sf i hi]at h;have:=ha.2 i hi;by_cases hx:1099511627776<=kx m plan i
   ·omega
   ·rw[decide_eq_false hx,if_pos rfl]at h;cases h
  ·rw[e2 i hi,P.tf i hi]at h;have:=hb.2 i hi;by_cases hx:1099511627776<=iX m plan (m.ae.getD i default)
   ·omega
   ·rw[decide_eq_false hx,if_pos rfl]at h;cases h
  ·have h1:=hc.2 i hi;unfold pe at h;dsimp only at h;rw[e3 i hi,Bool.not_eq_false',ba,decide_eq_true_eq,decide_eq_true_eq]at h;have h3:gM plan (m.ar.getD i default)=1099511627776:=by
    obtain⟨h4,h5⟩:=h;unfold gM at h5 ⊢;rw[h4]at h5 ⊢;exact RM h5
   omega
 ·rw[RB hN];congr 1;rw[<- fy];unfold AI tR;congr 1
  ·congr 1
   ·refine ju _ λi hi=>?_;rw[e1 i hi];split
    ·rfl
    ·rename_i h;exact absurd (.inl ⟨i,hi,by rw[e1 i hi,if_neg h]⟩) hN
   ·refine ju _ λi hi=>?_;rw[e2 i hi];split
    ·rfl
    ·rename_i h;exact absurd (.inr (.inl ⟨i,hi,by rw[e2 i hi,if_neg h]⟩)) hN
  ·exact ju _ λi hi=>e3 i hi
def iG:List Int->List Bool->Int->Int
 |x::r,b::s,n=>iG r s (if b=true then min n x else n)
 |_,_,n=>n
def q8(ay:List Int)(w i:Nat)(a:Bool):Nat->List Bool->Int->Int
 |_,[],n=>n
 |k,b::r,n=>q8 ay w i a (k+1) r (if a=true/\b=true then min n (ay.getD (i*w+k) 0) else n)
def p9(ay:List Int)(w:Nat)(rb:List Bool):Nat->List Bool->Int->Int
 |_,[],n=>n
 |i,a::r,n=>p9 ay w rb (i+1) r (q8 ay w i a 0 rb n)
def nK(m:aj)(left:List (List Bool))(p:Pr):Int:=p9 p.ay (m.cls.getD p.snd.toNat default).length (left.getD p.snd.toNat default) 0 (left.getD p.fst.toNat default) 1099511627776
def nJ:List Bool->Int->Int
 |[],n=>n
 |b::r,n=>nJ r (if b=true then n+1 else n)
def j9(c:Int)(row:List Bool):List Ld->Int×Int->Int×Int
 |[],z=>z
 |x::r,z=>j9 c row r (if x.cls=c/\row.getD x.opt.toNat false=true then(z.1-1,if z.2<0\/x.wt<z.2 then x.wt else z.2) else z)
def nI(l:List Ld)(c:Int)(row:List Bool):Int:=if 0<(j9 c row l (nJ row 0,-1)).1\/(j9 c row l (nJ row 0,-1)).2<0 then 0 else(j9 c row l (nJ row 0,-1)).2
def o9(l:List Ld)(left:List (List Bool)):Option Int->List Ld->Int->Int
 |_,[],n=>n
 |q,x::r,n=>o9 l left (some x.cls) r (if q=some x.cls then n else n+nI l x.cls (left.getD x.cls.toNat default))
def wL(n bM:Int):Int:=if 0<n/\bM=1099511627776 then 1099511627776 else min (n*bM) 1099511627776
def mN(left:List (List Bool))(c:Ct):Int:=wL (max (o9 c.aS left none c.aS (-c.most)) 0) c.bM
def lO(left:List (List Bool)):Nat->List (List br)->Int->Option Int
 |_,[],n=>some n
 |i,c::r,n=>if iG (jE c) (left.getD i default) 1099511627776=1099511627776 then none else lO left (i+1) r (n+iG (jE c) (left.getD i default) 1099511627776)
def mf(m:aj)(left:List (List Bool)):List Pr->Int->Option Int
 |[],n=>some n
 |p::r,n=>if nK m left p=1099511627776 then none else mf m left r (n+nK m left p)
def lP(left:List (List Bool)):List Ct->Int->Option Int
 |[],n=>some n
 |c::r,n=>if mN left c=1099511627776 then none else lP left r (n+mN left c)
def yG:Option Int->Int
 |none=>1099511627776
 |some n=>min n 1099511627776
def u3(m:aj)(left:List (List Bool)):Option Int->Option Int
 |none=>none
 |some n=>lP left m.ar n
def uZ(m:aj)(left:List (List Bool)):Option Int->Option Int
 |none=>none
 |some n=>mf m left m.ae n
def dI(m:aj)(left:List (List Bool)):Int:=yG (u3 m left (uZ m left (lO left 0 m.cls 0)))
def sK(q:Int×Bool):Int:=if q.2=true then q.1 else 1099511627776
def Hh:∀ (l:List Int) (s:List Bool) (b:Int×Bool),(∀ x∈l,bL x)->(b.2=true->b.1<1099511627776) ->
  sK (fe (gN l) s b)=iG l s (sK b)/\((fe (gN l) s b).2=true->(fe (gN l) s b).1<1099511627776)
 |[],s,b,_,hb=>⟨by cases s<;>rfl,hb⟩
 |x::r,[],b,_,hb=>⟨rfl,hb⟩
 |x::r,is::s,b,h,hb=>by
  have hx:=h x Jd;unfold bL at hx;rw[show gN (x::r)=ga x::gN r from rfl,fe,iG];have key:sK (if is=true/\(ga x).2=false/\(b.2=false\/(ga x).1<b.1) then((ga x).1,true) else b)=(if is=true then min (sK b) x else sK b):=by
   obtain⟨b1,b2⟩:=b;unfold ga sK;dsimp only at hb ⊢;cases is<;>cases b2<;>simp at hb ⊢<;>(repeat' split)<;>simp_all<;>omega
  have:=Hh r s (if is=true/\(ga x).2=false/\(b.2=false\/(ga x).1<b.1) then((ga x).1,true) else b) (λy hy=>h y (by simp[hy])) (by
   split
   ·rename_i hc;intro _;have:=hc.2.1;unfold ga at this ⊢;simp at this;exact this
   ·exact hb)
  rw[key]at this;exact this
def RT:∀ (l:List Int) (s t:List Bool) (n:Int),s.length<=l.length->iG l (s++t) n=iG (l.drop s.length) t (iG l s n)
 |l,[],t,n,_=>by cases l<;>rfl
 |[],b::s,t,n,h=>by simp at h
 |x::r,b::s,t,n,h=>by
  rw[List.cons_append,iG,iG,dz,List.drop_succ_cons];exact RT r s t _ (by simpa using h)
def RU(ay:List Int)(w i:Nat)(a:Bool):∀ (r:List Bool) (k:Nat) (n:Int),i*w+k+r.length<=ay.length->q8 ay w i a k r n=iG (ay.drop (i*w+k)) (r.map (a && ·)) n
 |[],k,n,_=>by cases(ay.drop (i*w+k))<;>rfl
 |b::r,k,n,h=>by
  have bq:i*w+k<ay.length:=by simp at h;omega
  have hd:ay.drop (i*w+k)=ay.getD (i*w+k) 0::ay.drop (i*w+(k+1)):=by
   rw[List.drop_eq_getElem_cons bq,aA,bT bq];rfl
  rw[q8,hd,dJ,iG,RU ay w i a r (k+1) _ (by simp at h;omega)];congr 1;cases a<;>cases b<;>simp
def GC(ay:List Int)(w:Nat)(rb:List Bool)(hw:rb.length=w):∀ (r:List Bool) (i:Nat) (n:Int),i*w+r.length*w<=ay.length->p9 ay w rb i r n=iG (ay.drop (i*w)) (tN r rb) n
 |[],i,n,_=>by show n=iG _ [] n;cases(ay.drop (i*w))<;>rfl
 |a::r,i,n,h=>by
  have h2:i*w+(r.length+1)*w<=ay.length:=h;rw[eX,pz]at h2;rw[p9,RU ay w i a rb 0 n I6,GC ay w rb hw r (i+1) _ (by rw[eX];omega)];show _=iG _ (rb.map (a && ·)++tN r rb) n;rw[RT _ _ _ _ (by rw[ed,List.length_drop];omega),List.drop_drop,ed,hw,eX,pz];simp only[jb]
def iQ:List (Int×Bool)->Int->Option Int
 |[],n=>some n
 |p::r,n=>if p.2=false then none else iQ r (n+p.1)
def DC:∀ (l:List (Int×Bool)) (n:Int),iQ l n=if(cI l (n,false)).2=true then none else some (cI l (n,false)).1
 |[],n=>rfl
 |p::r,n=>by
  rw[iQ];obtain⟨a,b⟩:=p;cases b
  ·show none=if(cI r (n+a,true)).2=true then none else _;rw[AF,if_pos rfl]
  ·exact DC r (n+a)
def RV{m:aj}(hm:VM m)(left:List (List Bool)):∀ (k i:Nat) (n:Int),i+k=m.cls.length->lO left i (m.cls.drop i) n=iQ ((lU i k).map λj=>fe ((S0 m).getD j default) (left.getD j default) (0,false)) n
 |0,i,n,h=>by rw[cU I6];rfl
 |k+1,i,n,h=>by
  have hi:i<m.cls.length:=I6;have hs:(S0 m).getD i default=gN (jE (m.cls.getD i default)):=by rw[S0,ik _ _ _ hi]
  have h2:=Hh (jE (m.cls.getD i default)) (left.getD i default) (0,false) (λx hx=>by
   obtain⟨o,ho,rfl⟩:=bZ.1 hx;exact Ao (hm.kQ _ (aC hi) o ho)) Jd
  rw[show sK (0,false)=1099511627776 from rfl]at h2;rw[cS m.cls i default hi,lO,ue,dJ,iQ,RV hm left k (i+1) _ I6,hs,<- h2.1];generalize fe (gN (jE (m.cls.getD i default))) (left.getD i default) (0,false)=q at *;obtain⟨a,b⟩:=q;unfold sK at *;cases b<;>simp at h2 ⊢;intro e;omega
def RW{m:aj}(hm:VM m){left:List (List Bool)}(hf:ej m left):∀ (k i:Nat) (n:Int),i+k=m.ae.length->mf m left (m.ae.drop i) n=iQ ((lU i k).map λj=>fe ((T0 m).getD j default) (kA m left j) (0,false)) n
 |0,i,n,h=>by rw[cU I6];rfl
 |k+1,i,n,h=>by
  have hi:i<m.ae.length:=I6;have hs:(T0 m).getD i default=gN (m.ae.getD i default).ay:=by rw[T0,ik _ _ _ hi]
  have ef:=jo hm.pr _ (aC (d:=default) hi);obtain⟨_,p1,p2,p3,p4⟩:=lr ef;have f1:=hf.2 (m.ae.getD i default).fst.toNat (by rw[hf.1];omega);have f2:=hf.2 (m.ae.getD i default).snd.toNat (by rw[hf.1];omega);have h2:=Hh (m.ae.getD i default).ay (kA m left i) (0,false) (C9 ef) Jd;rw[show sK (0,false)=1099511627776 from rfl]at h2;have h3:nK m left (m.ae.getD i default)=iG (m.ae.getD i default).ay (kA m left i) 1099511627776:=by
   unfold nK kA;rw[GC _ _ _ f2 _ 0 _ (by rw[zc,eW,f1];have:=p4;exact_mod_cast Int.le_of_eq this.symm),zc,uj]
  rw[cS m.ae i default hi,mf,ue,dJ,iQ,RW hm hf k (i+1) _ I6,hs,h3,<- h2.1];generalize fe (gN (m.ae.getD i default).ay) (kA m left i) (0,false)=q at *;obtain⟨a,b⟩:=q;unfold sK at *;cases b<;>simp at h2 ⊢;intro e;omega
def Hi(l:List Ld)(c:Int):∀ (row:List Bool) (o:Nat) (b:Int),jt l c o row b=b\/∃ i,row.getD i false=true/\jt l c o row b=jr l c (o+i:Nat) 0
 |[],_,_=>.inl rfl
 |is::r,o,b=>by
  rw[jt];split
  ·rename_i hc;rcases Hi l c r (o+1) (jr l c o 0) with h|⟨i,h1,h2⟩
   ·exact .inr ⟨0,by simpa using hc.1,by rw[h];rfl⟩
   ·exact .inr ⟨i+1,by simpa using h1,by rw[h2,show o+1+i=o+(i+1) by omega]⟩
  ·rcases Hi l c r (o+1) b with h|⟨i,h1,h2⟩
   ·exact .inl h
   ·exact .inr ⟨i+1,by simpa using h1,by rw[h2,show o+1+i=o+(i+1) by omega]⟩
def RX{l:List Ld}(h:∀ x∈l,1<=x.wt/\x.wt<=1000)(c:Int):∀ (row:List Bool) (o:Nat) (b:Int) (i:Nat),row.getD i false=true->0<=jt l c o row b
 |[],_,b,i,hi=>by simp at hi
 |is::r,o,b,0,hi=>by
  rw[fQ]at hi;have hw:=yv h c o 0 I6;rw[jt];split
  ·exact(yE h c r (o+1) _ hw.1).1
  ·rename_i hc;have hb:0<=b:=by
    rcases BD b 0 with h2|h2
    ·exact absurd ⟨hi,.inl h2⟩ hc
    ·exact h2
   exact(yE h c r (o+1) b hb).1
 |is::r,o,b,i+1,hi=>by
  rw[ep]at hi;rw[jt];exact RX h c r (o+1) _ i hi
def RY{f:Nat->Int}:∀ {n:Nat},(∀ i<n,0<=f i)->(0<=bf f n/\(0<bf f n↔∃ i,i<n/\0<f i))
 |0,_=>by simp[bf]
 |n+1,h=>by
  obtain⟨h1,h2⟩:=RY (n:=n) λi hi=>h i I6;have h3:=h n I6;rw[bf];refine⟨I6,λh4=>?_,?_⟩
  ·by_cases h5:0<bf f n
   ·obtain⟨i,hi,hf⟩:=h2.1 h5;exact⟨i,I6,hf⟩
   ·exact⟨n,I6,I6⟩
  ·rintro⟨i,hi,hf⟩;by_cases e:i=n
   ·subst e;omega
   ·have:=h2.2 ⟨i,I6,hf⟩;omega
def RZ(f g:Nat->Int):∀ n,bf f n-bf g n=bf (λi=>f i-g i) n
 |0=>rfl
 |n+1=>by rw[bf,bf,bf,<- RZ f g n];omega
def R0:∀ (row:List Bool) (n:Int),nJ row n=n+bf (λo=>if row.getD o false=true then 1 else 0) row.length
 |[],n=>by simp[nJ,bf]
 |b::r,n=>by
  rw[nJ,R0 r,dz,wP];simp only[fQ,ep];split<;>omega
def Hj{m:aj}{q:Option Ld}{x:Ld}{r:List Ld}(h:dm m q (x::r)=true):dm m (some x) r=true:=by
 cases q<;>rw[dm]at h<;>simp only[ba]at h<;>exact h.2
open Classical in
def R3{m:aj}(c:Int)(row:List Bool):∀ {l:List Ld} {q:Option Ld},dm m q l=true->∀ z:Int×Int,
  (j9 c row l z).1=z.1-bf (λo=>if row.getD o false=true/\∃ x∈l,x.cls=c/\x.opt=(o:Int) then 1 else 0) row.length
 |[],_,_,z=>by
  rw[ju (g:=λ_=>0) _ λi _=>Jd];have:∀ n,bf (λ_=>0) n=0:=λn=>by induction n with|zero=>rfl|succ n ih=>rw[bf,ih];rfl
  rw[this,j9];omega
 |x::r,q,h,z=>by
  have hr:=Hj h;have hx:=(gV.1 (o8 h x Jd).1).2.2.1;rw[j9,R3 c row hr];by_cases hc:x.cls=c/\row.getD x.opt.toNat false=true
  ·rw[if_pos hc];have hk:x.opt.toNat<row.length:=by
    rcases eh x.opt.toNat row.length with h'|h'
    ·exact h'
    ·rw[aA,eE h']at hc;simp at hc
   rw[ju (f:=λo=>if row.getD o false=true/\∃ y∈x::r,y.cls=c/\y.opt=(o:Int) then 1 else 0) (g:=λo=>if o=x.opt.toNat then(if row.getD o false=true/\∃ y∈r,y.cls=c/\y.opt=(o:Int) then 1 else 0)+1 else(if row.getD o false=true/\∃ y∈r,y.cls=c/\y.opt=(o:Int) then 1 else 0)) _ λo _=>by
    by_cases e:o=x.opt.toNat
    ·subst e;rw[if_pos ⟨hc.2,x,Jd,hc.1,I6⟩,if_pos rfl,if_neg (by rintro⟨_,y,hy,h1,h2⟩;have:=vn hr y hy;omega)];rfl
    ·rw[if_neg e];congr 1;rw[eq_iff_iff];refine and_congr_right λ_=>⟨?_,λ⟨y,hy,h1⟩=>⟨y,by simp[hy],h1⟩⟩;rintro⟨y,hy,h1,h2⟩;rcases b8.1 hy with rfl|hy
     ·omega
     ·exact⟨y,hy,h1,h2⟩,yw,if_pos hk]
   dsimp only;omega
  ·rw[if_neg hc];rw[ju (f:=λo=>if row.getD o false=true/\∃ y∈x::r,y.cls=c/\y.opt=(o:Int) then 1 else 0) (g:=λo=>if row.getD o false=true/\∃ y∈r,y.cls=c/\y.opt=(o:Int) then 1 else 0) _ λo _=>by
    congr 1;rw[eq_iff_iff];refine and_congr_right λhro=>⟨?_,λ⟨y,hy,h1⟩=>⟨y,by simp[hy],h1⟩⟩;rintro⟨y,hy,h1,h2⟩;rcases b8.1 hy with rfl|hy
    ·exact absurd ⟨h1,by rw[h2,gA];exact hro⟩ hc
    ·exact⟨y,hy,h1,h2⟩]
def R4(c:Int)(row:List Bool):∀ {l:List Ld},(∀ x∈l,1<=x.wt)->∀ z:Int×Int,
  (∀ x∈l,x.cls=c/\row.getD x.opt.toNat false=true->0<=(j9 c row l z).2/\(j9 c row l z).2<=x.wt)/\(0<=z.2->0<=(j9 c row l z).2/\(j9 c row l z).2<=z.2) /\
   ((j9 c row l z).2=z.2\/∃ x∈l,(x.cls=c/\row.getD x.opt.toNat false=true)/\(j9 c row l z).2=x.wt)
 |[],_,z=>⟨Jd,λh=>⟨h,dy _⟩,.inl rfl⟩
 |x::r,h,z=>by
  obtain⟨h1,h2,h3⟩:=R4 c row (l:=r) (λy hy=>h y (by simp[hy])) (if x.cls=c/\row.getD x.opt.toNat false=true then(z.1-1,if z.2<0\/x.wt<z.2 then x.wt else z.2) else z);have hx:=h x Jd;rw[j9];generalize j9 c row r _=w at *;by_cases hc:x.cls=c/\row.getD x.opt.toNat false=true
  ·rw[if_pos hc]at h2 h3;dsimp only at h2 h3;refine⟨λy hy wm=>?_,λhz=>?_,?_⟩
   ·rcases b8.1 hy with rfl|hy
    ·split at h2<;>omega
    ·exact h1 y hy wm
   ·split at h2<;>omega
   ·rcases h3 with h3|⟨y,hy,h3⟩
    ·split at h3
     ·exact .inr ⟨x,Jd,hc,h3⟩
     ·exact .inl h3
    ·exact .inr ⟨y,by simp[hy],h3⟩
  ·rw[if_neg hc]at h2 h3;refine⟨λy hy wm=>?_,h2,?_⟩
   ·rcases b8.1 hy with rfl|hy
    ·exact absurd wm hc
    ·exact h1 y hy wm
   ·rcases h3 with h3|⟨y,hy,h3⟩
    ·exact .inl h3
    ·exact .inr ⟨y,by simp[hy],h3⟩
def Hk{m:aj}:∀ {l:List Ld} {q:Option Ld},dm m q l=true->∀ x∈l,∀ w,jr l x.cls x.opt w=x.wt
 |[],_,_,x,hx,w=>by simp at hx
 |y::r,q,h,x,hx,w=>by
  have hr:=Hj h;rw[jr];rcases b8.1 hx with rfl|hx
  ·rw[if_pos ⟨rfl,rfl⟩];exact DA r _ _ _ λz hz he=>by have:=vn hr z hz;omega
  ·exact Hk hr x hx _
open Classical in
def aa0{m:aj}{l:List Ld}{q:Option Ld}(hl:dm m q l=true)(c:Int)(row:List Bool):nI l c row=nO l c row:=by
 have hw:∀ x∈l,1<=x.wt/\x.wt<=1000:=λx hx=>(o8 hl x hx).2;have h1:=R3 c row hl (nJ row 0,-1);obtain⟨h2,_,h3⟩:=R4 c row (λx hx=>(hw x hx).1) (nJ row 0,-1);unfold nI;generalize j9 c row l (nJ row 0,-1)=z at *;rw[R0,vN,RZ]at h1;obtain⟨h4,h5⟩:=RY (f:=λi=>(if row.getD i false=true then(1:Int) else 0)-if row.getD i false=true/\∃ x∈l,x.cls=c/\x.opt=(i:Int) then 1 else 0) (n:=row.length) λi _=>by
  (repeat' split)<;>simp_all
 rw[<- h1]at h4 h5;have hlen:∀ i,row.getD i false=true->i<row.length:=λi h'=>by
  rcases eh i row.length with h6|h6
  ·exact h6
  ·rw[aA,eE h6]at h';simp at h'
 have ve:∀ x∈l,0<=x.opt:=λx hx=>(gV.1 (o8 hl x hx).1).2.2.1;by_cases hex :∃o,row.getD o false=true/\¬∃x∈l,x.cls=c/\x.opt=(o:Int)
 ·obtain⟨o,ho,uE⟩:=hex;rw[if_pos (.inl (h5.2 ⟨o,hlen o ho,by rw[if_pos ho,if_neg (by rintro⟨_,h'⟩;exact uE h')];decide⟩))];have h6:=DB hw c row 0 (-1) o ho;rw[eW,DA l c o 0 λy hy he=>uE ⟨y,hy,he⟩]at h6;unfold nO;omega
 have jQ:∀ o,row.getD o false=true->∃ x∈l,x.cls=c/\x.opt=(o:Int):=λo ho=>Classical.byContradiction λh'=>hex ⟨o,ho,h'⟩;have hz:¬ 0<z.1:=λh'=>by
  obtain⟨i,hi,h6⟩:=h5.1 h';by_cases hr:row.getD i false=true
  ·rw[if_pos hr,if_pos ⟨hr,jQ i hr⟩]at h6;omega
  ·rw[if_neg hr,if_neg (λh7=>hr h7.1)]at h6;omega
 by_cases tL :∃o,row.getD o false=true
 ·obtain⟨o,ho⟩:=tL;obtain⟨x,hx,qU,sH⟩:=jQ o ho;obtain⟨g1,g2⟩:=h2 x hx ⟨qU,by rw[sH,gA];exact ho⟩;rw[if_neg I6];have g3:=RX hw c row 0 (-1) o ho;unfold nO;rw[Int.max_eq_left g3];refine Int.le_antisymm ?_ ?_
  ·rcases Hi l c row 0 (-1) with e|⟨i,hi,e⟩
   ·omega
   ·obtain⟨y,hy,oe,R5⟩:=jQ i hi;rw[e,eW,<- R5,<- oe,Hk hl y hy];exact(h2 y hy ⟨oe,by rw[R5,gA];exact hi⟩).2
  ·rcases h3 with e|⟨y,hy,⟨oe,Hl⟩,e⟩
   ·dsimp only at e;omega
   ·have h6:=DB hw c row 0 (-1) _ Hl;rw[eW,pF (ve y hy),<- oe,Hk hl y hy]at h6;rw[<- oe];omega
 ·have e:z.2 = -1:=by
   rcases h3 with e|⟨y,hy,⟨oe,Hl⟩,e⟩
   ·exact e
   ·exact absurd ⟨_,Hl⟩ tL
  rw[if_pos (.inr I6),nO,Hf l c row 0 (-1) λi=>by
   cases h':row.getD i false with
   |false=>rfl
   |true=>exact absurd ⟨i,h'⟩ tL]
  rfl
open Classical in
def R7{m:aj}(L:List Ld)(left:List (List Bool)){N:Nat}(hN:m.cls.length<=N):∀ {r:List Ld} {q:Option Ld},dm m q r=true->∀ n:Int,
  o9 L left (q.map (·.cls)) r n=n+bf (λj=>if(∃ x∈r,x.cls=(j:Int))/\q.map (·.cls)≠some (j:Int) then nI L j (left.getD j default) else 0) N
 |[],_,_,n=>by
  rw[ju (g:=λ_=>0) _ λi _=>Jd];have:∀ n,bf (λ_=>0) n=0:=λn=>by induction n with|zero=>rfl|succ n ih=>rw[bf,ih];rfl
  rw[this,o9];omega
 |x::r,q,h,n=>by
  have hr:=Hj h;obtain⟨hx0,hx1,_⟩:=gV.1 (o8 h x Jd).1;have h0:=R7 L left hN hr;simp only[fR]at h0;rw[o9,h0];by_cases hq:q.map (·.cls)=some x.cls
  ·rw[if_pos hq,hq];congr 1;refine ju _ λj _=>?_;congr 1;rw[eq_iff_iff];simp only[ne_eq,cT.injEq];refine and_congr_left λhj=>⟨λ⟨y,hy,e⟩=>⟨y,by simp[hy],e⟩,?_⟩;rintro⟨y,hy,e⟩;rcases b8.1 hy with rfl|hy
   ·exact absurd e hj
   ·exact⟨y,hy,e⟩
  ·rw[if_neg hq,ju (f:=λj=>if(∃ y∈x::r,y.cls=(j:Int))/\q.map (·.cls)≠some (j:Int) then nI L j (left.getD j default) else 0)
    (g:=λj=>if j=x.cls.toNat then(if(∃ y∈r,y.cls=(j:Int))/\some x.cls≠some (j:Int) then nI L j (left.getD j default) else 0)+nI L x.cls (left.getD x.cls.toNat default) else(if(∃ y∈r,y.cls=(j:Int))/\some x.cls≠some (j:Int) then nI L j (left.getD j default) else 0)) _ λj _=>by
    have DD:((x.cls.toNat:Nat):Int)=x.cls:=pF hx0;by_cases e:j=x.cls.toNat
    ·subst e;rw[if_pos ⟨⟨x,Jd,DD.symm⟩,by rw[DD];exact hq⟩,if_pos rfl,if_neg (by rw[DD];simp),DD];omega
    ·rw[if_neg e];congr 1;rw[eq_iff_iff];constructor
     ·rintro⟨⟨y,hy,Hm⟩,_⟩;rcases b8.1 hy with rfl|hy
      ·omega
      ·exact⟨⟨y,hy,Hm⟩,by simp only[ne_eq,cT.injEq];omega⟩
     ·rintro⟨⟨y,hy,Hm⟩,_⟩;refine⟨⟨y,by simp[hy],Hm⟩,λR8=>?_⟩;cases q with
      |none=>simp at R8
      |some q =>
       have h6:=vn h y (by simp[hy]);have h7:=vn h x Jd;have h8:=vn hr y hy;simp only[fR,cT.injEq]at R8 hq;omega,yw,if_pos I6]
   omega
def aa1{m:aj}(hm:VM m){left:List (List Bool)}(hf:ej m left){c:Ct}(hc:fN m c=true):
  mN left c=nP left c/\(mN left c=1099511627776↔(decide (c.bM=1099511627776)&&decide (0<nP left c))=true):=by
 obtain⟨_,q2,q3,q4⟩:=lp hc;have hw:∀ x∈c.aS,1<=x.wt/\x.wt<=1000:=λx hx=>(o8 q4 x hx).2;have hs:o9 c.aS left none c.aS (-c.most) = -c.most+rh c.aS 0 left 0:=by
  have:=R7 (m:=m) c.aS left (Nat.le_refl _) (q:=none) q4 (-c.most);rw[Option.map_none]at this;rw[this,yx,vN,hf.1];congr 1;refine ju _ λj _=>?_;rw[eW];split
  ·exact aa0 q4 _ _
  ·rename_i hn;rw[Q4 λx hx e=>hn ⟨⟨x,hx,e⟩,Jd⟩]
 have hr:=Z5 hw left;have Ar:=hm.cls;rw[hf.1]at hr;unfold mN nP;rw[hs];generalize rh c.aS 0 left 0=s at *;unfold wL jP;unfold iF at q3;rw[decide_eq_true_eq]at q3;by_cases h0:s<=c.most
 ·rw[Int.max_eq_right I6,if_neg I6,if_pos h0];simp<;>omega
 rw[Int.max_eq_left I6,if_neg h0,show -c.most+s=s-c.most by omega];rcases q3 with q3|q3
 ·rw[if_neg I6];have h1:(s-c.most)*c.bM<=24000*1048576:=Int.mul_le_mul I6 I6 I6 I6;refine⟨rfl,?_⟩;rw[decide_eq_false (by omega:¬ c.bM=1099511627776),Bool.false_and];constructor
  ·intro h;omega
  ·intro h;simp at h
 ·rw[q3,if_pos ⟨I6,rfl⟩,show min ((s-c.most)*1099511627776) 1099511627776=(1099511627776:Int) by omega];simp
def R9{m:aj}(hm:VM m){left:List (List Bool)}(hf:ej m left):∀ (k i:Nat) (n:Int),i+k=m.ar.length->lP left (m.ar.drop i) n=iQ ((lU i k).map λj=>pe m left j) n
 |0,i,n,h=>by rw[cU I6];rfl
 |k+1,i,n,h=>by
  have hi:i<m.ar.length:=I6;obtain⟨h1,h2⟩:=aa1 hm hf (hm.ct _ (aC (d:=default) hi));rw[cS m.ar i default hi,lP,ue,dJ,iQ,R9 hm hf k (i+1) _ I6];unfold pe;dsimp only;rw[h1]at h2 ⊢;by_cases h3:nP left (m.ar.getD i default)=1099511627776
  ·rw[if_pos h3,h2.1 h3];rfl
  ·rw[if_neg h3];cases hb:(decide ((m.ar.getD i default).bM=1099511627776)&&decide (0<nP left (m.ar.getD i default))) with
   |true=>exact absurd (h2.2 hb) h3
   |false=>rfl
def AK{m:aj}(hm:VM m){left:List (List Bool)}(hf:ej m left):dI m left=mS m left (S0 m,T0 m):=by
 have h1:=RV hm left m.cls.length 0 0 I6;have h2:=λn=>RW hm hf m.ae.length 0 n I6;have h3:=λn=>R9 hm hf m.ar.length 0 n I6;simp only[uj,<- List.range_eq_range']at h1 h2 h3;unfold dI mS;rw[h1];show yG (u3 m left (uZ m left (iQ (PC left (S0 m) m.cls.length) 0)))=_;have h2':∀ n,mf m left m.ae n=iQ (PP m left (T0 m) m.ae.length) n:=h2;have h3':∀ n,lP left m.ar n=iQ (PK m left m.ar.length) n:=h3;rw[DC];generalize cI (PC left (S0 m) m.cls.length) (0,false)=z;obtain⟨a,b⟩:=z;cases b
 ·simp only[uZ,h2',DC,jy,if_false];generalize cI (PP m left (T0 m) m.ae.length) (a,false)=z;obtain⟨a2,b2⟩:=z;cases b2
  ·simp only[u3,h3',DC,jy,if_false];generalize cI (PK m left m.ar.length) (a2,false)=z;obtain⟨a3,b3⟩:=z;cases b3<;>simp[yG]
  ·simp only[if_true,u3,yG,AF]
 ·simp only[if_true,uZ,u3,yG];have:∀ l n,(cI l (n,true))=((cI l (n,true)).1,true):=λl n=>Prod.ext rfl (AF l n);rw[this,this (PK m left m.ar.length)];rfl
end T

