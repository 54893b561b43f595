import Derived.Test.YtdipcmigdbnheaaGreatX13
set_option linter.all false
set_option maxHeartbeats 0
set_option maxRecDepth 20000
open Int renaming le_refl→eC,mul_le_mul_of_nonneg_right→GA,toNat_of_nonneg→sG,mul_le_mul→qj,add_zero→BL,toNat_natCast→fq,zero_add→z8,add_mul→Kf,one_mul→Kd,lt_or_le→GO,eq_ofNat_of_zero_le→BM
open List renaming getD_eq_getElem?_getD→aA,getElem?_set→cA,getElem?_eq_none→dW,length_set→bF,getD_cons_zero→iF,getD_cons_succ→fU,filter_cons→uC,getElem?_map→cj,length_map→dX,replicate→bH,mem_map→cz,length_filter_le→BH,getElem?_eq_getElem→bK,length_cons→eB,mem_cons→cB,getElem?_set_ne→bR,range→aW,map_cons→dg,range'→og,drop_eq_nil_of_le→cR,range'_succ→xg,drop_zero→yI
open Nat renaming lt_or_ge→fK,div_eq_of_lt→Pq,mod_eq_of_lt→GD,add_mul→gR,add_zero→iS,zero_add→gn,mul_comm→tA,mul_add_mod→Pp,one_mul→tx,zero_mul→Dv
open Bool renaming and_eq_true→bw,false_eq_true→jQ
open Option renaming getD_some→jB,map_some→fl,some→dI
open Go Go.Am
namespace T
def LE(a b:List Int):Prop:=a.length=b.length/\∀ i,a.getD i 0<=b.getD i 0
def LE.refl(a:List Int):LE a a:=⟨rfl,λ_=>eC _⟩
def zH(l:List Int)(n i:Nat)(x:Int):(l.set n x).getD i 0=if n=i/\i<l.length then x else l.getD i 0:=by
 rw[aA,cA,aA];by_cases h:n=i
 ·subst h;by_cases h2:n<l.length
  ·rw[if_pos rfl,if_pos h2,if_pos ⟨rfl,h2⟩];rfl
  ·rw[if_pos rfl,if_neg h2,if_neg (λh=>h2 h.2),dW GC]
 ·rw[if_neg h,if_neg (λh'=>h h'.1)]
def LE.add{a b:List Int}(h:LE a b){r c d:Int}(U6:c<=d):LE (fI a r c) (fI b r d):=by
 refine⟨by simp only[fI,bF];exact h.1,λi=>?_⟩;rw[fI,fI,zH,zH,h.1];have:=h.2 i;have:=h.2 r.toNat;split
 ·unfold ee;omega
 ·exact h.2 i
def LE.up{R:Int}{a b:List Int}(h:LE a b)(hb:jt R b){r c:Int}(hc:0<=c):LE a (fI b r c):=by
 refine⟨by simp only[fI,bF];exact h.1,λi=>?_⟩;rw[fI,zH];have h1:=h.2 i;have h2:=hb.get i;unfold b7 at h2;split
 ·rename_i hh;rw[hh.1];unfold ee;omega
 ·exact h1
def Up(p q:List Int):Prop:=p.length=q.length/\∀ j,p.getD j 0=q.getD j 0\/p.getD j 0<0
def ah7{most bM s t:Int}(hp:0<=bM)(h:s<=t):j4 most bM s<=j4 most bM t:=by
 unfold j4;have h1:(s-most)*bM<=(t-most)*bM:=GA GC hp;split
 ·split
  ·exact eC _
  ·have:0<=(t-most)*bM:=Int.mul_nonneg GC hp;omega
 ·rw[if_neg GC];omega
def Y6:∀ {a b:List Int},a.length=b.length->(∀ i,a.getD i 0<=b.getD i 0)->kj a<=kj b
 |[],[],_,_=>eC _
 |[],_::_,h,_=>by simp at h
 |_::_,[],h,_=>by simp at h
 |x::a,y::b,h,hi=>by
  have h0:=hi 0;rw[iF,iF]at h0;have:=Y6 (a:=a) (b:=b) (by simpa using h) λi=>by
   have:=hi (i+1);rwa [fU,fU]at this
  simp only[kj];omega
def Up.set{p:List Int}{c:Nat}(o:Int)(h:p.getD c 0 = -1):Up p (p.set c o):=by
 refine⟨GF,λj=>?_⟩;rw[zH];split
 ·rename_i hh;rw[<- hh.1,h];omega
 ·exact .inl rfl
def PM.set{m:aj}{p:List Int}(h:PM m p){c:Nat}{o:Int}(ho:o = -1\/eW m (c:Nat) o=true):PM m (p.set c o):=by
 refine⟨by rw[bF];exact h.len,λj hj=>?_⟩;rw[bF]at hj;rw[zH];split
 ·rename_i hh;rw[<- hh.1];exact ho
 ·exact h.get j hj
def eH(az:List Bool)(r:Int):Bool:=az.getD r.toNat false
def lA(az:List Bool)(o:bU):bU:=⟨o.wk,o.day,o.st,o.len,o.room,o.ch.filter λc=>eH az c.1⟩
def iZ(m:aj)(az:List Bool):aj :=
 ⟨m.cls.map λl=>l.map (lA az),m.ae.filter λp=>eH az p.bz,m.av.filter λc=>eH az c.bz,m.rules⟩
def Ic:aj:=⟨[],[],[],0⟩
def tW(m:aj)(az:List Bool):aj×Int :=
 if df m≠0 then(Ic,df m) else if(az.length:Int)≠m.rules then(Ic,3) else(iZ m az,0)
def Cut(az:List Bool)(a b:List Int):Prop:=b.length=a.length/\∀ i:Nat,b.getD i 0=if eH az i=true then a.getD i 0 else 0
def Cut.add{az:List Bool}{a b:List Int}(h:Cut az a b){r c:Int}(hr:0<=r):Cut az (fI a r c) (if eH az r=true then fI b r c else b):=by
 have cE:((r.toNat:Nat):Int)=r:=sG hr;refine⟨by split<;>simp only[fI,bF]<;>exact h.1,λi=>?_⟩;have hi:=h.2 i;have uF:=h.2 r.toNat;rw[cE]at uF;by_cases hk:eH az r=true
 ·rw[if_pos hk];rw[if_pos hk]at uF;rw[fI,fI,zH,zH,uF,h.1];by_cases oD:r.toNat=i/\i<a.length
  ·rw[if_pos oD,if_pos oD,if_pos];rw[<- oD.1,cE];exact hk
  ·rw[if_neg oD,if_neg oD];exact hi
 ·rw[if_neg hk,fI,zH];by_cases oD:r.toNat=i/\i<a.length
  ·rw[if_pos oD];rw[<- oD.1,cE,if_neg hk]at hi;rw[<- oD.1,cE,if_neg hk];exact hi
  ·rw[if_neg oD];exact hi
def MY{az:List Bool}:∀ (l:List (Int×Int)) {a b:List Int},Cut az a b->(∀ c∈l,0<=c.1)->Cut az (pZ l a) (pZ (l.filter λc=>eH az c.1) b)
 |[],_,_,h,_=>h
 |c::r,a,b,h,hc=>by
  have h1:=h.add (c:=c.2) (hc c GF);rw[uC];by_cases hk:eH az c.1=true
  ·rw[if_pos hk]at h1 ⊢;exact MY r h1 λx hx=>hc x (by simp[hx])
  ·rw[if_neg hk]at h1 ⊢;exact MY r h1 λx hx=>hc x (by simp[hx])
def ah8(az:List Bool):lA az default=default:=rfl
def MZ{α β:Type}(f:α->β)(l:List α)(i:Nat)(a:α)(b:β)(h:f a=b):(l.map f).getD i b=f (l.getD i a):=by
 rw[aA,aA,cj];cases l[i]? with
 |none=>exact h.symm
 |some x=>rfl
def M0(m:aj)(az:List Bool)(i:Nat):(iZ m az).cls.getD i default=(m.cls.getD i default).map (lA az):=MZ _ _ _ _ _ rfl
def ah9(m:aj)(az:List Bool)(i k:Nat):((iZ m az).cls.getD i default).getD k default=lA az ((m.cls.getD i default).getD k default):=by
 rw[M0];exact MZ _ _ _ _ _ (ah8 az)
def ah'{m:aj}(hm:VM m)(i:Nat)(k:Nat):∀ c∈((m.cls.getD i default).getD k default).ch,0<=c.1:=by
 intro c hc;rcases fK i m.cls.length with hi|hi
 ·have hl:=ay (d:=(default:List bU)) hi;generalize m.cls.getD i default=l at *;rcases fK k l.length with ho|ho
  ·have:=(xZ (hm.mA l hl _ (ay ho)) c hc).1;rw[jI,decide_eq_true_eq]at this;exact this.1
  ·rw[show l.getD k default=default by rw[aA,dW ho];rfl]at hc;exact absurd hc (by rw[Iw];simp)
 ·rw[show m.cls.getD i default=[] by rw[aA,dW hi];rfl]at hc;exact absurd hc (by rw[List.getD_nil,Iw];simp)
def Y7{m:aj}(hm:VM m){az:List Bool}:∀ (plan:List Int) (i:Nat) {a b:List Int},Cut az a b->Cut az (oP m i plan a) (oP (iZ m az) i plan b)
 |[],_,_,_,h=>h
 |o::r,i,a,b,h=>by
  rw[oP,oP];refine Y7 hm r (i+1) ?_;split
  ·exact h
  ·rw[ah9];exact MY _ h (ah' hm i o.toNat)
def aia(m:aj)(az:List Bool)(p:Pr)(x y:Int):lV (iZ m az) p x y=lV m p x y:=by
 unfold lV;rw[M0,dX]
def E8{m:aj}{az:List Bool}{plan:List Int}:∀ (l:List Pr) {a b:List Int},(∀ p∈l,0<=p.bz)->Cut az a b->Cut az (n5 m plan l a) (n5 (iZ m az) plan (l.filter λp=>eH az p.bz) b)
 |[],_,_,_,h=>h
 |p::r,a,b,hp,h=>by
  have hr:∀ q∈r,0<=q.bz:=λq hq=>hp q (by simp[hq]);rw[uC,n5];by_cases hc:0<=plan.getD p.fst.toNat 0/\0<=plan.getD p.snd.toNat 0
  ·rw[if_pos hc];have h1:=h.add (c:=lV m p (plan.getD p.fst.toNat 0) (plan.getD p.snd.toNat 0)) (hp p GF);by_cases hk:eH az p.bz=true
   ·rw[if_pos hk]at h1 ⊢;rw[n5,if_pos hc,aia];exact E8 r hr h1
   ·rw[if_neg hk]at h1 ⊢;exact E8 r hr h1
  ·rw[if_neg hc];split
   ·rw[n5,if_neg hc];exact E8 r hr h
   ·exact E8 r hr h
def M1{az:List Bool}{plan:List Int}:∀ (l:List Ct) {a b:List Int},(∀ c∈l,0<=c.bz)->Cut az a b->Cut az (oQ plan l a) (oQ plan (l.filter λc=>eH az c.bz) b)
 |[],_,_,_,h=>h
 |c::r,a,b,hp,h=>by
  have hr:∀ q∈r,0<=q.bz:=λq hq=>hp q (by simp[hq]);have h1:=h.add (c:=j4 c.most c.bM (ki plan c.aH 0)) (hp c GF);rw[uC,oQ];by_cases hk:eH az c.bz=true
  ·rw[if_pos hk]at h1 ⊢;rw[oQ];exact M1 r hr h1
  ·rw[if_neg hk]at h1 ⊢;exact M1 r hr h1
def aib{m:aj}(hm:VM m)(az:List Bool)(plan:List Int):Cut az (jr m plan) (jr (iZ m az) plan):=by
 have h0:Cut az (bH m.rules.toNat 0) (bH m.rules.toNat 0):=⟨rfl,λi=>by
  have:(bH m.rules.toNat (0:Int)).getD i 0=0:=by
   rw[aA,List.getElem?_replicate];split<;>rfl
  rw[this];split<;>rfl⟩
 exact M1 _ (λc hc=>(lS (hm.ct c hc)).1.1) (E8 _ (λp hp=>(lT (iA hm.pr p hp)).1.1) (Y7 hm _ _ h0))
def aic{R:Int}{q q':Option (Int×Int)}(h:∀ y,q'=some y->∃ x,q=some x/\y.1<=x.1):∀ {l:List (Int×Int)},eo R q l=true->eo R q' l=true
 |[],_=>by cases q'<;>rfl
 |c::r,hl=>by
  rw[eo.eq_def]at hl ⊢;simp only[bw]at hl ⊢;refine⟨⟨hl.1.1,?_⟩,hl.2⟩;cases q' with
  |none=>rfl
  |some y =>
   obtain⟨x,rfl,hx⟩:=h y rfl;have:=hl.1.2;simp only[decide_eq_true_eq]at this ⊢;omega
def ID{R:Int}(p:Int×Int->Bool):∀ {l:List (Int×Int)} {q:Option (Int×Int)},eo R q l=true->eo R q (l.filter p)=true
 |[],q,h=>h
 |c::r,q,h=>by
  have h0:=h;rw[eo.eq_def]at h;simp only[bw]at h;rw[uC];split
  ·rw[eo.eq_def];simp only[bw];exact⟨h.1,ID p h.2⟩
  ·refine aic (q:=some c) (λy hy=>⟨c,rfl,?_⟩) (ID p h.2);subst hy;have:=h.1.2;simp only[decide_eq_true_eq]at this;omega
def aid{a b c:Pr}(h:po a b<0)(k:po b c<0):po a c<0:=by
 rw[MH]at *;omega
def aie{m:aj}{q q':Option Pr}(h:∀ y,q'=some y->∃ x,q=some x/\(∀ c,po x c<0->po y c<0)):∀ {l:List Pr},fH m q l=true->fH m q' l=true
 |[],_=>by cases q'<;>rfl
 |c::r,hl=>by
  rw[fH.eq_def]at hl ⊢;simp only[bw]at hl ⊢;refine⟨⟨hl.1.1,?_⟩,hl.2⟩;cases q' with
  |none=>rfl
  |some y =>
   obtain⟨x,rfl,hx⟩:=h y rfl;have:=hl.1.2;simp only[decide_eq_true_eq]at this ⊢;exact hx c this
def IE{m:aj}(p:Pr->Bool):∀ {l:List Pr} {q:Option Pr},fH m q l=true->fH m q (l.filter p)=true
 |[],q,h=>h
 |c::r,q,h=>by
  rw[fH.eq_def]at h;simp only[bw]at h;rw[uC];split
  ·rw[fH.eq_def];simp only[bw];exact⟨h.1,IE p h.2⟩
  ·refine aie (q:=some c) (λy hy=>⟨c,rfl,λd hd=>?_⟩) (IE p h.2);subst hy;have:=h.1.2;simp only[decide_eq_true_eq]at this;exact aid this hd
def M3(m:aj)(az:List Bool)(i:Nat):((iZ m az).cls.getD i default).length=(m.cls.getD i default).length:=by rw[M0,dX]
def E9(m:aj)(az:List Bool):(iZ m az).cls.length=m.cls.length:=by unfold iZ;simp
def M4(m:aj)(az:List Bool)(c o:Int):eW (iZ m az) c o=eW m c o:=by
 unfold eW;rw[E9,M3]
def aif(m:aj)(az:List Bool)(p:Pr):gH (iZ m az) p=gH m p:=by
 unfold gH;rw[E9,M3,M3];rfl
def Y8(m:aj)(az:List Bool):∀ (l:List Pr) (q:Option Pr),fH (iZ m az) q l=fH m q l
 |[],_=>rfl
 |x::r,q=>by rw[fH.eq_def,fH.eq_def];simp only[aif,Y8 m az r]
def Y9(m:aj)(az:List Bool):∀ (l:List Ld) (q:Option Ld),eI (iZ m az) q l=eI m q l
 |[],_=>rfl
 |x::r,q=>by rw[eI.eq_def,eI.eq_def];simp only[M4,Y9 m az r]
def aih(m:aj)(az:List Bool)(c:Ct):iQ (iZ m az) c=iQ m c:=by
 unfold iQ;rw[Y9];rfl
def vd{m:aj}(hm:VM m)(az:List Bool):VM (iZ m az):=by
 refine⟨by rw[E9];exact hm.cls,λl hl=>?_,?_,?_,hm.jq,λl hl o ho=>?_,?_,λc hc=>?_⟩
 ·simp only[iZ,cz]at hl;obtain⟨l',h',rfl⟩:=hl;simpa using hm.opt l' h'
 ·have:=BH (λp:Pr=>eH az p.bz) m.ae;have:=hm.ae;simp only[iZ];omega
 ·have:=BH (λp:Ct=>eH az p.bz) m.av;have:=hm.av;simp only[iZ];omega
 ·simp only[iZ,cz]at hl;obtain⟨l',h',rfl⟩:=hl;simp only[cz]at ho;obtain⟨o',cG,rfl⟩:=ho;exact ID _ (hm.mA l' h' o' cG)
 ·rw[Y8];exact IE _ hm.pr
 ·rw[aih];exact hm.ct c (List.mem_filter.1 hc).1
def Cut.total{m:aj}(hm:VM m)(az:List Bool)(plan:List Int):jX (jr (iZ m az) plan) 0<=jX (jr m plan) 0:=by
 have h:=aib hm az plan;have h1:=Ix hm plan;have h2:=Ix (vd hm az) plan;rw[Iy h1.2 (by unfold b7;decide),Iy h2.2 (by unfold b7;decide)];have:=Y6 (a:=jr (iZ m az) plan) (b:=jr m plan) h.1 λi=>by
  rw[h.2 i];have:=h1.get i;unfold b7 at this;split<;>omega
 omega
def LO.az{α:Type}{enc:α->List AV}{B:List (Nat×Ob)}{D E:List (Nat×Nat)}{S T:List (List α)}{os ob:List Ob}(h:LO enc B D E S T os)(k:gI os ob):LO enc B D E S T ob :=
 ⟨λb hb=>⟨k _ _ (h.base b hb).1,(h.base b hb).2⟩,⟨h.rD.len,λj hj=>⟨k _ _ (h.rD.row j hj).1,(h.rD.row j hj).2⟩⟩,⟨h.rE.len,λj hj=>⟨k _ _ (h.rE.row j hj).1,(h.rE.row j hj).2⟩⟩,h.nd⟩
def gI.trans{a b c:List Ob}(h:gI a b)(k:gI b c):gI a c:=λi o hi=>k i o (h i o hi)
def IF(b:List Bool):∀ (a:List Bool) (n:Nat),n<a.length*b.length->(sk a b).getD n false=(a.getD (n/b.length) false&&b.getD (n%b.length) false)
 |[],n,h=>by simp at h
 |x::r,n,h=>by
  have hb:0<b.length:=by
   rcases Nat.eq_zero_or_pos b.length with h0|h0
   ·rw[h0]at h;omega
   ·exact h0
  show((b.map (x && ·))++sk r b).getD n false=_;rcases fK n b.length with hn|hn
  ·rw[Pq hn,GD hn,iF,aA,List.getElem?_append_left (by simpa using hn),cj,bK hn,aA,bK hn];rfl
  ·obtain⟨k,rfl⟩ :∃k,n=k+b.length:=⟨n-b.length,GC⟩;have ih:=IF b r k (by rw[eB,gR]at h;omega);rw[aA,List.getElem?_append_right (by simpa using hn),dX,Nat.add_sub_cancel,<- aA,ih,Nat.add_div_right _ hb,Nat.add_mod_right,fU]
def pt(q:Int×Bool):Nm:=(q.1,!q.2)
def IG(l:List Nm)(s:List Bool):p5 (jc l s)=pt (dQ l s (0,false)):=aii l s
def qW(m:aj)(left:List (List Bool))(g:Lg):List (Int×Bool):=PC left g.1 m.cls.length++PP m left g.2 m.ae.length++PK m left m.av.length
def Y'(a b:List (Int×Bool))(z:Int×Bool):cf (a++b) z=cf b (cf a z):=by unfold cf;rw[List.foldl_append]
def Za(m:aj)(left:List (List Bool))(g:Lg):oR m left g=if(cf (qW m left g) (0,false)).2=true then 1099511627776 else min (cf (qW m left g) (0,false)).1 1099511627776:=by
 unfold oR qW;rw[Y',Y']
def E':∀ (l:List (Int×Bool)) (n:Int),(cf l (n,true)).2=true
 |[],_=>rfl
 |p::r,n=>E' r _
def M5:∀ (l:List (Int×Bool)) (n:Int),(cf l (n,false)).2=true↔∃ p∈l,p.2=false
 |[],_=>by simp[cf]
 |p::r,n=>by
  show(cf r (n+p.1,false||!p.2)).2=true↔_;cases hp:p.2 with
  |false =>
   simp only[Bool.not_false,Bool.or_true];exact⟨λ_=>⟨p,GF,hp⟩,λ_=>E' r _⟩
  |true =>
   simp only[Bool.not_true,Bool.or_false];rw[M5 r];constructor
   ·rintro⟨q,hq,h⟩;exact⟨q,by simp[hq],h⟩
   ·rintro⟨q,hq,h⟩;rcases cB.1 hq with rfl|hq
    ·rw[hp]at h;cases h
    ·exact⟨q,hq,h⟩
def aij{m:aj}(hm:VM m){left:List (List Bool)}(hl:left.length=m.cls.length){c:Ct}(hc:c∈m.av)(hw:∀ x∈c.aH,1<=x.wt/\x.wt<=1000):decide (1099511627776<=jJ left c)=(decide (c.bM=1099511627776)&&decide (0<jJ left c)):=by
 obtain⟨_,h2,h3,_⟩:=lS (hm.ct c hc);have hs:=E5 hw left;have cm:=hm.cls;have hp:1<=c.bM/\c.bM<=1048576\/c.bM=1099511627776:=by unfold jY at h3;rw[decide_eq_true_eq]at h3;omega
 unfold jJ j4;generalize k7 c.aH 0 left 0=n at *;rw[Bool.eq_iff_iff,bw,decide_eq_true_eq,decide_eq_true_eq,decide_eq_true_eq];split
 ·omega
 ·rcases hp with hp|hp
  ·have:(n-c.most)*c.bM<=24000*1048576:=qj GC hp.2 GC GC;omega
  ·rw[hp];omega
def Fa:∀ (l:List Nm) (s:List Bool),(jc l s).length<=l.length
 |[],s=>by cases s<;>simp[jc]
 |p::r,[]=>by simp[jc]
 |p::r,is::s=>by
  rw[jc,List.length_append,eB];have:=Fa r s;split<;>simp<;>omega
structure Sat(R:Int)(out:List Int)(v:Int):Prop where
 ok:jt R out
 v0:0<=v
 eq:min (kj out) 1099511627776=min v 1099511627776
def Zb:∀ (l:List Int) (i:Nat) (x:Int),i<l.length->kj (l.set i x)=kj l-l.getD i 0+x
 |[],i,x,h=>by simp at h
 |y::r,0,x,_=>by simp only[List.set_cons_zero,kj,iF];omega
 |y::r,i+1,x,h=>by
  have:=Zb r i x (by simpa using h);simp only[List.set_cons_succ,kj,fU];omega
def Sat.add{R:Int}{out:List Int}{v r d:Int}(h:Sat R out v)(hr:0<=r/\r<R)(hd:b7 d):Sat R (fI out r d) (v+d):=by
 have hlen:=h.ok.1;have hi:r.toNat<out.length:=GC;have hs:=MO h.ok.2 _ (ay (d:=(0:Int)) hi);have iy:=Zb out r.toNat (ee (out.getD r.toNat 0) d) hi;have hg:=h.ok.get r.toNat;have he:=h.eq;have hv:=h.v0;unfold b7 at hg;have wC:=hd;unfold b7 at wC;refine⟨h.ok.add hd,GC,?_⟩;unfold fI;rw[iy];unfold ee;omega
def Sat.le{R:Int}{out:List Int}{v w:Int}(h:Sat R out v)(hw:0<=w)(e:min v 1099511627776=min w 1099511627776):Sat R out w:=⟨h.ok,hw,h.eq.trans e⟩
def Zc{R:Int}:∀ (l:List (Int×Int)) (out:List Int) (v n:Int),(∀ c∈l,jI R c.1=true/\jY c.2=true)->0<=v->b7 n->Sat R out (v+n)->Sat R (pZ l out) (v+(l.map (·.2)).foldl ee n)
 |[],out,v,n,_,_,_,h=>h
 |c::r,out,v,n,hc,hv,ef,h=>by
  rw[pZ];have h1:=hc c GF;have hr:=h1.1;rw[jI,decide_eq_true_eq]at hr;have hp:=lz h1.2;have h2:=h.add hr hp;refine Zc r _ v (ee n c.2) (λx hx=>hc x (by simp[hx])) hv (A2 ef hp) (h2.le ?_ ?_)
  ·have:=A2 ef hp;unfold b7 at this;omega
  ·unfold b7 at hp ef;unfold ee;omega
def Zd{m:aj}(hm:VM m):∀ (plan:List Int) (i:Nat) (out:List Int) (v:Int),(∀ j,j<plan.length->eW m ((i+j:Nat):Int) (plan.getD j 0)=true) ->
  Sat m.rules out v->Sat m.rules (oP m i plan out) (v+bE (λj=>jZ ((m.cls.getD (i+j) default).getD (plan.getD j 0).toNat default)) plan.length)
 |[],i,out,v,_,h=>by show Sat m.rules out (v+0);rw[BL];exact h
 |o::r,i,out,v,hg,h=>by
  rw[oP];have h0:=hg 0 GF;rw[iF,iS]at h0;obtain⟨b1,b2,b3,b4⟩:=fD.1 h0;rw[fq]at b4;rw[if_neg GC];have hl:=ay (l:=m.cls) (i:=i) (d:=default) GC;have ho:=ay (l:=m.cls.getD i default) (i:=o.toNat) (d:=default) GC;have ek:=hm.mA _ hl _ ho;have h1:=Zc _ out v 0 (xZ ek) h.v0 (by unfold b7;decide) (by rw[BL];exact h);have h2:=Zd hm r (i+1) _ _ (λj hj=>by
   have:=hg (j+1) (by simpa using hj);rwa [fU,show i+(j+1)=i+1+j by omega]at this) h1
  rw[eB,zE];simp only[iF,fU,iS];rw[<- Int.add_assoc];rw[jK (g:=λj=>jZ ((m.cls.getD (i+(j+1)) default).getD (r.getD j 0).toNat default)) r.length λj _=>by rw[show i+1+j=i+(j+1) by omega]]at h2;exact h2
def kB(m:aj)(plan:List Int)(p:Pr):Int:=lV m p (plan.getD p.fst.toNat 0) (plan.getD p.snd.toNat 0)
def Ze{m:aj}{plan:List Int}(hp:FP m plan):∀ (l:List Pr) (out:List Int) (v:Int),(∀ p∈l,gH m p=true)->Sat m.rules out v ->
  Sat m.rules (n5 m plan l out) (v+bE (λi=>kB m plan (l.getD i default)) l.length)
 |[],out,v,_,h=>by show Sat m.rules out (v+0);rw[BL];exact h
 |p::r,out,v,hg,h=>by
  rw[n5];have dE:=hg p GF;obtain⟨q1,q2,q3,q4,q5⟩:=lT dE;have cu:=hp.len;have g1:=hp.get p.fst.toNat GC;have g2:=hp.get p.snd.toNat GC;have a1:=fD.1 g1;have a2:=fD.1 g2;rw[if_pos ⟨a1.2.2.1,a2.2.2.1⟩];have h2:=Ze hp r _ _ (λx hx=>hg x (by simp[hx])) (h.add q1 (CG dE (plan.getD p.fst.toNat 0) (plan.getD p.snd.toNat 0)));rw[eB,zE];simp only[iF,fU];rw[<- Int.add_assoc];exact h2
def jz(plan:List Int)(c:Ct):Int:=j4 c.most c.bM (ki plan c.aH 0)
def Zg{m:aj}{plan:List Int}:∀ (l:List Ct) (out:List Int) (v:Int),(∀ c∈l,iQ m c=true)->Sat m.rules out v ->
  Sat m.rules (oQ plan l out) (v+bE (λi=>jz plan (l.getD i default)) l.length)
 |[],out,v,_,h=>by show Sat m.rules out (v+0);rw[BL];exact h
 |c::r,out,v,hg,h=>by
  rw[oQ];obtain⟨q1,q2,q3,q4⟩:=lS (hg c GF);have h2:=Zg (plan:=plan) r _ _ (λx hx=>hg x (by simp[hx])) (h.add q1 (CF (most:=c.most) (sum:=ki plan c.aH 0) (lz q3)));rw[eB,zE];simp only[iF,fU];rw[<- Int.add_assoc];exact h2
def mX(m:aj)(plan:List Int)(j:Nat):Int:=jZ ((m.cls.getD j default).getD (plan.getD j 0).toNat default)
def CK{m:aj}{plan:List Int}(hv:VM m)(hp:FP m plan):jX (jr m plan) 0 =
  min (bE (mX m plan) m.cls.length+bE (λi=>kB m plan (m.ae.getD i default)) m.ae.length+bE (λi=>jz plan (m.av.getD i default)) m.av.length) 1099511627776:=by
 have h0:Sat m.rules (bH m.rules.toNat 0) 0:=by
  refine⟨jt.rep hv.jq.1,Px,?_⟩;have:∀ k,kj (bH k 0)=0:=by
   intro k
   induction k with
   |zero=>rfl
   |succ k ih=>rw[List.replicate_succ,kj,ih];rfl
  rw[this]
 have h1:=Zd hv plan 0 _ _ (λj hj=>by rw[gn];exact hp.get j hj) h0;have h2:=Ze hp m.ae _ _ (iA hv.pr) h1;have h3:=Zg (plan:=plan) m.av _ _ hv.ct h2;have Fb:=Iy (Ix hv plan).2 (n:=0) (by unfold b7;decide);have he:=h3.eq;change min (kj (jr m plan)) _=_ at he;rw[Fb,z8,he,z8,hp.len];simp only[gn];rfl
def Zh(r:List Nm)(i q:Nat)(a:Int)(hi:i<r.length):(kl r i a).getD q default=if i=q then((r.getD q default).1+a,(r.getD q default).2) else r.getD q default:=by
 unfold kl;by_cases h:i=q
 ·subst h;rw[if_pos rfl];simp only[aA,cA,hi,if_true,jB]
 ·rw[if_neg h];simp only[aA,bR h]
def Zi(r:List Nm){i q:Nat}(a:Int)(h:i≠q):(kl r i a).getD q default=r.getD q default:=by
 unfold kl;simp only[aA,bR h]
def IH{f:Nat->Nat}{a:Int}{t:List Nm}{q:Nat}:∀ k:Nat,(∀ j,j<k->f j≠q)->(iB f a k t).getD q default=t.getD q default
 |0,_=>rfl
 |k+1,h=>by rw[iB,Zi _ _ (h k GC),IH k λj hj=>h j GC]
def M6{f:Nat->Nat}{a:Int}{t:List Nm}{q j0:Nat}(h0:f j0=q)(hq:q<t.length):∀ k:Nat,j0<k->(∀ j,j<k->j≠j0->f j≠q)->(iB f a k t).getD q default=((t.getD q default).1-a,(t.getD q default).2)
 |0,hk,_=>GC
 |k+1,hk,h=>by
  rw[iB];by_cases e:j0=k
  ·subst e;rw[h0,Zh _ _ _ _ (by rw[A5];exact hq),if_pos rfl,IH j0 λj hj=>h j GC GC];congr 1
  ·rw[Zi _ _ (h k GC GC),M6 h0 hq k GC λj hj=>h j GC]
def II{a b n j k:Int}(hj:0<=j/\j<n)(hk:0<=k/\k<n)(h:a*n+j=b*n+k):a=b/\j=k:=by
 rcases Int.lt_trichotomy a b with hl|hl|hl
 ·have:(a+1)*n<=b*n:=GA GC GC;rw[Kf,Kd]at this;omega
 ·subst hl;omega
 ·have:(b+1)*n<=a*n:=GA GC GC;rw[Kf,Kd]at this;omega
def mY(plan:List Int)(g:Lg)(i:Nat):Nm:=(g.1.getD i default).getD (plan.getD i 0).toNat default
def wJ(m:aj)(plan:List Int)(p:Pr):Nat:=(plan.getD p.fst.toNat 0*(m.cls.getD p.snd.toNat default).length+plan.getD p.snd.toNat 0).toNat
def mZ(m:aj)(plan:List Int)(g:Lg)(i:Nat):Nm:=(g.2.getD i default).getD (wJ m plan (m.ae.getD i default)) default
def Zj{α:Type}[Inhabited α](l:List α)(i j:Nat)(x:α)(hi:i<l.length):(l.set i x).getD j default=if i=j then x else l.getD j default:=by
 by_cases h:i=j
 ·subst h;rw[if_pos rfl];simp only[aA,cA,hi,if_true,jB]
 ·rw[if_neg h];simp only[aA,bR h]
structure IJ(m:aj)(x:Mv):Prop where
 p:0<=x.pair/\x.pair<m.ae.length
 s:x.side=0\/x.side=1
 c:0<=fR m x/\fR m x<m.cls.length
 o:0<=x.opt/\x.opt<(m.cls.getD (fR m x).toNat default).length
def aik{m:aj}{x:Mv}(h:jL m x=true):IJ m x:=by
 unfold jL at h;rw[bw,decide_eq_true_eq,fD]at h;exact⟨GC,GC,GC,GC⟩
def sm{m:aj}{plan:List Int}(hp:FP m plan){j:Nat}(hj:j<m.cls.length):0<=plan.getD j 0/\plan.getD j 0<(m.cls.getD j default).length:=by
 have h:=fD.1 (hp.get j (by rw[hp.len];exact hj));rw[fq]at h;exact h.2.2
abbrev Fe(m:aj)(plan:List Int)(x:Mv):Prop:=plan.getD (fR m x).toNat 0=x.opt
def ail{m:aj}{plan:List Int}(hp:FP m plan){B:Int}{g:Lg}(h:LG m B g){x:Mv}(hx:IJ m x)(i:Nat):
  mY plan (kC m x g) i=if i=(fR m x).toNat then(if Fe m plan x then((mY plan g i).1+x.dR,(mY plan g i).2) else mY plan g i) else mY plan g i:=by
 obtain⟨hxp,dy,u6,wK⟩:=hx;have h1:=h.s;have h2:=h.sl (fR m x).toNat GC;have h3:=sm hp (j:=(fR m x).toNat) GC;unfold mY kC Fe;dsimp only;rw[Zj _ _ _ _ GC];by_cases e:i=(fR m x).toNat
 ·subst e;rw[if_pos rfl,if_pos rfl,Zh _ _ _ _ GC];by_cases e2:plan.getD (fR m x).toNat 0=x.opt
  ·rw[if_pos e2,if_pos (by rw[e2])]
  ·rw[if_neg e2,if_neg GC]
 ·rw[if_neg (Ne.symm e),if_neg e]
def ain{m:aj}(hm:VM m){plan:List Int}(hp:FP m plan){B:Int}{g:Lg}(h:LG m B g){x:Mv}(hx:IJ m x)(i:Nat):
  mZ m plan (kC m x g) i=if i=x.pair.toNat then(if Fe m plan x then((mZ m plan g i).1-x.dR,(mZ m plan g i).2) else mZ m plan g i) else mZ m plan g i:=by
 obtain⟨hxp,dy,u6,wK⟩:=hx;have h1:=h.t;have h2:=h.tl x.pair.toNat GC;unfold mZ kC;dsimp only;rw[Zj _ _ _ _ GC];by_cases e:i=x.pair.toNat;rotate_left
 ·rw[if_neg (Ne.symm e),if_neg e]
 subst e;rw[if_pos rfl,if_pos rfl];have dE:=iA hm.pr _ (ay (l:=m.ae) (i:=x.pair.toNat) (d:=default) GC);unfold Fe;unfold fR at *;unfold pw wJ;generalize m.ae.getD x.pair.toNat default=p at *;obtain⟨q1,q2,q3,q4,q5⟩:=lT dE;have ha:=sm hp (j:=p.fst.toNat) GC;have hb:=sm hp (j:=p.snd.toNat) GC;have xU:=hm.opt _ (ay (l:=m.cls) (i:=p.fst.toNat) (d:=default) GC);have mj:=hm.opt _ (ay (l:=m.cls) (i:=p.snd.toNat) (d:=default) GC);generalize g.2.getD x.pair.toNat default=t at *;generalize Cs:plan.getD p.fst.toNat 0=a at *;generalize fY:plan.getD p.snd.toNat 0=b at *;generalize rW:(m.cls.getD p.fst.toNat default).length=na at *;generalize aio:(m.cls.getD p.snd.toNat default).length=nb at *;have eh:=vr (x:=a) (y:=b) (a:=na) (b:=nb) ha hb GC GC;rcases dy with hs|hs
 ·rw[if_pos hs]at u6 wK;rw[if_pos hs,if_pos hs,Cs];rw[rW]at wK;dsimp only;have EN:=vr (x:=x.opt) (y:=b) (a:=na) (b:=nb) wK hb GC GC;by_cases e2:a=x.opt
  ·rw[if_pos e2];refine M6 (j0:=b.toNat) ?_ GC nb GC λj hj dO he=>?_
   ·rw[e2,sG hb.1]
   ·have:=II (a:=x.opt) (b:=a) (n:=nb) (j:=j) (k:=b) GC GC GC;omega
  ·rw[if_neg e2];refine IH nb λj hj he=>?_;have:=II (a:=x.opt) (b:=a) (n:=nb) (j:=j) (k:=b) GC GC GC;omega
 ·rw[if_neg GC]at u6 wK;have xO:¬ x.side=0:=GC;rw[if_neg xO,if_neg xO,fY];rw[aio]at wK;dsimp only;by_cases e2:b=x.opt
  ·rw[if_pos e2];refine M6 (j0:=a.toNat) ?_ GC na GC λj hj dO he=>?_
   ·rw[e2,sG ha.1]
   ·have El:=vr (x:=(j:Int)) (y:=x.opt) (a:=na) (b:=nb) GC wK GC GC;have:=II (a:=(j:Int)) (b:=a) (n:=nb) (j:=x.opt) (k:=b) GC GC GC;omega
  ·rw[if_neg e2];refine IH na λj hj he=>?_;have El:=vr (x:=(j:Int)) (y:=x.opt) (a:=na) (b:=nb) GC wK GC GC;have:=II (a:=(j:Int)) (b:=a) (n:=nb) (j:=x.opt) (k:=b) GC GC GC;omega
def yf(m:aj)(plan:List Int)(g:Lg):Int:=bE (λi=>(mY plan g i).1) m.cls.length+bE (λi=>(mZ m plan g i).1) m.ae.length
def aip{m:aj}(hm:VM m){plan:List Int}(hp:FP m plan){B:Int}{g:Lg}(h:LG m B g){x:Mv}(hx:IJ m x):
  yf m plan (kC m x g)=yf m plan g/\(∀ i,(mY plan (kC m x g) i).2=(mY plan g i).2)/\∀ i,(mZ m plan (kC m x g) i).2=(mZ m plan g i).2:=by
 have hS:=ail hp h hx;have hT:=ain hm hp h hx;refine⟨?_,λi=>?_,λi=>?_⟩
 ·unfold yf;by_cases hh:Fe m plan x
  ·rw[jK (g:=λi=>if i=(fR m x).toNat then(mY plan g i).1+x.dR else(mY plan g i).1) m.cls.length λi _=>by
    rw[hS,if_pos hh];split<;>rfl,jK (g:=λi=>if i=x.pair.toNat then(mZ m plan g i).1+-x.dR else(mZ m plan g i).1) m.ae.length λi _=>by
    rw[hT,if_pos hh];split<;>rfl,zD,zD,if_pos (by have:=hx.c;omega),if_pos (by have:=hx.p;omega)]
   omega
  ·rw[jK (g:=λi=>(mY plan g i).1) m.cls.length λi _=>by rw[hS,if_neg hh];simp,jK (g:=λi=>(mZ m plan g i).1) m.ae.length λi _=>by rw[hT,if_neg hh];simp]
 ·rw[hS];split<;>(try split)<;>rfl
 ·rw[hT];split<;>(try split)<;>rfl
def Zk{m:aj}(hm:VM m){plan:List Int}(hp:FP m plan):∀ (l:List Mv) (B:Int) (g:Lg),0<=B->LG m B g->(∀ x∈l,jL m x=true) ->
  yf m plan (jd m l g)=yf m plan g/\(∀ i,(mY plan (jd m l g) i).2=(mY plan g i).2)/\∀ i,(mZ m plan (jd m l g) i).2=(mZ m plan g i).2
 |[],B,g,_,_,_=>⟨rfl,λ_=>rfl,λ_=>rfl⟩
 |x::r,B,g,hB,h,hx=>by
  have h1:=aip hm hp h (aik (hx x GF));have h2:=Zk hm hp r _ (kC m x g) GC (Zl hm hB h (hx x GF)) (λy hy=>hx y (by simp[hy]));exact⟨h2.1.trans h1.1,λi=>(h2.2.1 i).trans (h1.2.1 i),λi=>(h2.2.2 i).trans (h1.2.2 i)⟩
def IK:∀ (l:List Nm) (s:List Bool) (b:Int×Bool),b.2=true->(dQ l s b).2=true/\(dQ l s b).1<=b.1
 |[],s,b,h=>by cases s<;>exact⟨h,eC _⟩
 |p::r,[],b,h=>⟨h,eC _⟩
 |p::r,is::s,b,h=>by
  rw[dQ];split
  ·rename_i hc;have h2:=IK r s (p.1,true) rfl;have h3:p.1<b.1:=by
    rcases hc.2.2 with h4|h4
    ·rw[h]at h4;cases h4
    ·exact h4
   exact⟨h2.1,by have:=h2.2;dsimp only at this;omega⟩
  ·exact IK r s b h
def M7:∀ (l:List Nm) (s:List Bool) (b:Int×Bool) (i:Nat),i<l.length->s.getD i false=true->(l.getD i default).2=false->(dQ l s b).2=true/\(dQ l s b).1<=(l.getD i default).1
 |[],s,b,i,h,_,_=>by simp at h
 |p::r,[],b,i,_,h,_=>by simp at h
 |p::r,is::s,b,0,_,h1,h2=>by
  rw[iF]at h1 h2 ⊢;rw[dQ];split
  ·exact IK r s (p.1,true) rfl
  ·rename_i hc;have hb:b.2=true/\b.1<=p.1:=by
    cases uf:b.2 with
    |false=>exact absurd ⟨h1,h2,.inl uf⟩ hc
    |true=>exact⟨rfl,by rcases GO p.1 b.1 with h|h;exact absurd ⟨h1,h2,.inr h⟩ hc;exact h⟩
   have:=IK r s b hb.1;exact⟨this.1,GC⟩
 |p::r,is::s,b,i+1,h,h1,h2=>by
  rw[fU]at h1 h2 ⊢;rw[dQ];exact M7 r s _ i (by simpa using h) h1 h2
def Zm:∀ (l:List Nm) (s:List Bool) (b:Int×Bool),(∀ i,s.getD i false=false)->dQ l s b=b
 |[],s,b,_=>by cases s<;>rfl
 |p::r,[],b,_=>rfl
 |p::r,is::s,b,h=>by
  have h0:=h 0;rw[iF]at h0;rw[dQ,if_neg (by rw[h0];simp)];exact Zm r s b λi=>by have:=h (i+1);rwa [fU]at this
def M8:∀ (l:List Nm) (s:List Bool) (b:Int×Bool) (i:Nat),i<l.length->(∀ j,s.getD j false=decide (j=i))->b.2=false ->
  dQ l s b=if(l.getD i default).2=false then((l.getD i default).1,true) else b
 |[],s,b,i,h,_,_=>by simp at h
 |p::r,[],b,i,_,h,_=>by have:=h i;simp at this
 |p::r,is::s,b,0,_,h,hb=>by
  have h0:=h 0;rw[iF,decide_eq_true rfl]at h0;rw[iF,dQ,Zm r s _ λi=>by have:=h (i+1);rw[fU]at this;rw[this];simp];by_cases hp:p.2=false
  ·rw[if_pos ⟨h0,hp,.inl hb⟩,if_pos hp]
  ·rw[if_neg (λhc=>hp hc.2.1),if_neg hp]
 |p::r,is::s,b,i+1,hi,h,hb=>by
  have h0:=h 0;rw[iF,decide_eq_false GC]at h0;rw[fU,dQ,if_neg (by rw[h0];simp)];exact M8 r s b i (by simpa using hi) (λj=>by have:=h (j+1);rw[fU]at this;rw[this];simp) hb
def IL(f:Nat->Int×Bool)(z:Int×Bool):∀ n,(cf ((aW n).map f) z).1=z.1+bE (λi=>(f i).1) n
 |0=>by simp[cf,bE]
 |n+1=>by rw[wL,A6,bE];dsimp only;rw[IL f z n];omega
def A7(f:Nat->Int×Bool)(z:Int×Bool):∀ n,(cf ((aW n).map f) z).2=true↔(z.2=true\/∃ i,i<n/\(f i).2=false)
 |0=>by simp[cf]
 |n+1=>by
  rw[wL,A6];dsimp only;rw[Bool.or_eq_true,A7 f z n,Bool.not_eq_true'];constructor
  ·rintro((h|⟨i,hi,h⟩)|h)
   ·exact .inl h
   ·exact .inr ⟨i,GC,h⟩
   ·exact .inr ⟨n,GC,h⟩
  ·rintro(h|⟨i,hi,h⟩)
   ·exact .inl (.inl h)
   ·by_cases e:i=n
    ·subst e;exact .inr h
    ·exact .inl (.inr ⟨i,GC,h⟩)
def wM(left:List (List Bool))(g:Lg)(i:Nat):Int×Bool:=dQ (g.1.getD i default) (left.getD i default) (0,false)
def wN(m:aj)(left:List (List Bool))(g:Lg)(i:Nat):Int×Bool:=dQ (g.2.getD i default) (gZ m left i) (0,false)
def s7(m:aj)(left:List (List Bool))(i:Nat):Int×Bool:=(jJ left (m.av.getD i default),!(decide ((m.av.getD i default).bM=1099511627776)&&decide (0<jJ left (m.av.getD i default))))
def Ff(m:aj)(left:List (List Bool))(g:Lg):Int:=bE (λi=>(wM left g i).1) m.cls.length+bE (λi=>(wN m left g i).1) m.ae.length+bE (λi=>(s7 m left i).1) m.av.length
def M9(m:aj)(left:List (List Bool))(g:Lg):Prop:=(∃ i,i<m.cls.length/\(wM left g i).2=false)\/(∃ i,i<m.ae.length/\(wN m left g i).2=false)\/∃ i,i<m.av.length/\(s7 m left i).2=false
def aiq{m:aj}{left:List (List Bool)}{g:Lg}(h:M9 m left g):oR m left g=1099511627776:=by
 unfold oR;rw[if_pos];show(cf ((aW m.av.length).map (s7 m left)) (cf ((aW m.ae.length).map (wN m left g)) (cf ((aW m.cls.length).map (wM left g)) (0,false)))).2=true;rw[A7,A7,A7];rcases h with h|h|h
 ·exact .inl (.inl (.inr h))
 ·exact .inl (.inr h)
 ·exact .inr h
def Zn{m:aj}{left:List (List Bool)}{g:Lg}(h:¬ M9 m left g):oR m left g=min (Ff m left g) 1099511627776:=by
 have h1:¬ (cf ((aW m.av.length).map (s7 m left)) (cf ((aW m.ae.length).map (wN m left g)) (cf ((aW m.cls.length).map (wM left g)) (0,false)))).2=true:=by
  rw[A7,A7,A7];rintro(((h2|h2)|h2)|h2)
  ·cases h2
  ·exact h (.inl h2)
  ·exact h (.inr (.inl h2))
  ·exact h (.inr (.inr h2))
 have h2:(cf ((aW m.av.length).map (s7 m left)) (cf ((aW m.ae.length).map (wN m left g)) (cf ((aW m.cls.length).map (wM left g)) (0,false)))).1=Ff m left g:=by
  rw[IL,IL,IL];unfold Ff;dsimp only;omega
 show(if(cf ((aW m.av.length).map (s7 m left)) (cf ((aW m.ae.length).map (wN m left g)) (cf ((aW m.cls.length).map (wM left g)) (0,false)))).2=true then(1099511627776:Int) else min (cf ((aW m.av.length).map (s7 m left)) (cf ((aW m.ae.length).map (wN m left g)) (cf ((aW m.cls.length).map (wM left g)) (0,false)))).1 1099511627776)=_;rw[if_neg h1,h2]
def air(m:aj)(left:List (List Bool))(g:Lg):oR m left g<=1099511627776:=by
 unfold oR;split<;>omega
def IM:∀ (l:List Ld) (c o w:Int),(∀ y∈l,¬ (y.cls=c/\y.opt=o))->gP l c o w=w
 |[],_,_,_,_=>rfl
 |x::r,c,o,w,h=>by rw[gP,if_neg (h x GF),IM r c o w λy hy=>h y (by simp[hy])]
def Zo{m:aj}:∀ {l:List Ld} {q:Option Ld} (c o:Int),eI m q l=true->gP l c o 0=vy l c o
 |[],_,_,_,_=>rfl
 |x::r,q,c,o,h=>by
  have hr:eI m (some x) r=true:=by
   cases q<;>rw[eI]at h<;>simp only[bw]at h<;>exact h.2
  rw[gP,vy];by_cases e:x.cls=c/\x.opt=o
  ·rw[if_pos e,if_pos e];exact IM r c o _ λy hy he=>by have:=zI hr y hy;omega
  ·rw[if_neg e,if_neg e];exact Zo c o hr
def Zp(l:List Ld):∀ (plan:List Int) (i:Nat),ug l i plan=bE (λj=>vy l (i+j:Nat) (plan.getD j 0)) plan.length
 |[],i=>rfl
 |o::r,i=>by
  rw[ug,Zp l r (i+1),eB,zE];simp only[iF,fU,iS];rw[jK (g:=λj=>vy l (i+(j+1):Nat) (r.getD j 0)) r.length λj _=>by rw[show i+1+j=i+(j+1) by omega]]
def CL{l:List Ld}(h:∀ x∈l,1<=x.wt/\x.wt<=1000)(c:Int):∀ (row:List Bool) (o:Nat) (b:Int),0<=b->0<=eM l c o row b/\eM l c o row b<=b
 |[],_,b,hb=>⟨hb,eC _⟩
 |is::r,o,b,hb=>by
  rw[eM];have hw:=zC h c o 0 GC;split
  ·rename_i hc;have:=CL h c r (o+1) (gP l c o 0) hw.1;omega
  ·exact CL h c r (o+1) b hb
def IN{l:List Ld}(h:∀ x∈l,1<=x.wt/\x.wt<=1000)(c:Int):∀ (row:List Bool) (o:Nat) (b:Int) (i:Nat),row.getD i false=true->eM l c o row b<=gP l c (o+i:Nat) 0
 |[],_,b,i,hi=>by simp at hi
 |is::r,o,b,0,hi=>by
  rw[iF]at hi;have hw:=zC h c o 0 GC;rw[eM];simp only[iS];split
  ·exact(CL h c r (o+1) _ hw.1).2
  ·rename_i hc;have hb:0<=b/\b<=gP l c o 0:=by
    constructor
    ·rcases GO b 0 with h2|h2
     ·exact absurd ⟨hi,.inl h2⟩ hc
     ·exact h2
    ·rcases GO (gP l c o 0) b with h2|h2
     ·exact absurd ⟨hi,.inr h2⟩ hc
     ·exact h2
   have:=CL h c r (o+1) b hb.1;omega
 |is::r,o,b,i+1,hi=>by
  rw[fU]at hi;rw[eM,show o+(i+1)=o+1+i by omega];exact IN h c r (o+1) _ i hi
def M'(l:List Ld)(c:Int):∀ (row:List Bool) (o:Nat) (b:Int),(∀ i,row.getD i false=false)->eM l c o row b=b
 |[],_,_,_=>rfl
 |is::r,o,b,h=>by
  have h0:=h 0;rw[iF]at h0;rw[eM,if_neg (by rw[h0];simp)];exact M' l c r (o+1) b λi=>by have:=h (i+1);rwa [fU]at this
def Zq(l:List Ld)(c:Int):∀ (row:List Bool) (o:Nat) (i:Nat),(∀ j,row.getD j false=decide (j=i))->eM l c o row (-1)=gP l c (o+i:Nat) 0
 |[],_,i,h=>by have:=h i;simp at this
 |is::r,o,0,h=>by
  have h0:=h 0;rw[iF,decide_eq_true rfl]at h0;rw[eM,if_pos ⟨h0,.inl Px⟩,iS];exact M' l c r (o+1) _ λj=>by have:=h (j+1);rw[fU]at this;rw[this];simp
 |is::r,o,i+1,h=>by
  have h0:=h 0;rw[iF,decide_eq_false GC]at h0;rw[eM,if_neg (by rw[h0];simp),show o+(i+1)=o+1+i by omega];exact Zq l c r (o+1) i λj=>by have:=h (j+1);rw[fU]at this;rw[this];simp
def A8{f:Nat->Int}:∀ (n:Nat),(∀ i<n,0<=f i)->0<=bE f n/\∀ i<n,f i<=bE f n
 |0,_=>⟨eC _,λi h=>GC⟩
 |n+1,h=>by
  have h1:=A8 n λi hi=>h i GC;have h2:=h n GC;rw[bE];refine⟨GC,λi hi=>?_⟩;by_cases e:i=n
  ·subst e;omega
  ·have:=h1.2 i GC;omega
def Fg{f g:Nat->Int}:∀ (n:Nat),(∀ i<n,f i<=g i)->bE f n<=bE g n
 |0,_=>eC _
 |n+1,h=>by
  have:=Fg n λi hi=>h i GC;have:=h n GC;rw[bE,bE];omega
def ais{m:aj}{plan:List Int}(hm:VM m)(hp:FP m plan){i:Nat}(hi:i<m.cls.length):b7 (mX m plan i):=by
 have h:=sm hp hi;have hl:=ay (l:=m.cls) (i:=i) (d:=default) hi;exact EO (hm.mA _ hl _ (ay (l:=m.cls.getD i default) (i:=(plan.getD i 0).toNat) (d:=default) GC))
def Zr{m:aj}{plan:List Int}(hp:FP m plan){i:Nat}(hi:i<m.cls.length):mY plan (S0 m,T0 m) i=fJ (mX m plan i):=by
 have h:=sm hp hi;unfold mY S0;dsimp only;rw[iR _ _ _ hi];unfold ep gG;rw[List.map_map,iR _ _ _ GC];rfl
def Zs{m:aj}{plan:List Int}(hm:VM m)(hp:FP m plan){p:Pr}(dE:gH m p=true):wJ m plan p<p.aB.length:=by
 obtain⟨q1,q2,q3,q4,q5⟩:=lT dE;have ha:=sm hp (j:=p.fst.toNat) GC;have hb:=sm hp (j:=p.snd.toNat) GC;have xU:=hm.opt _ (ay (l:=m.cls) (i:=p.fst.toNat) (d:=default) GC);have mj:=hm.opt _ (ay (l:=m.cls) (i:=p.snd.toNat) (d:=default) GC);have eh:=vr ha hb GC GC;unfold wJ;omega
def Zt{m:aj}{plan:List Int}(hm:VM m)(hp:FP m plan){i:Nat}(hi:i<m.ae.length):mZ m plan (S0 m,T0 m) i=fJ (kB m plan (m.ae.getD i default)):=by
 have dE:=iA hm.pr _ (ay (l:=m.ae) (i:=i) (d:=default) hi);have eh:=Zs hm hp dE;unfold mZ T0;dsimp only;rw[iR _ _ _ hi];unfold ep;rw[iR _ _ _ eh];unfold kB lV wJ;rfl
def ait{m:aj}{left:List (List Bool)}(hm:VM m)(hf:dD m left){i:Nat}(hi:i<m.ae.length){x y:Int}(hx:0<=x/\x<(m.cls.getD (m.ae.getD i default).fst.toNat default).length)(hy:0<=y/\y<(m.cls.getD (m.ae.getD i default).snd.toNat default).length):
  (gZ m left i).getD (x*(m.cls.getD (m.ae.getD i default).snd.toNat default).length+y).toNat false=((left.getD (m.ae.getD i default).fst.toNat default).getD x.toNat false&&(left.getD (m.ae.getD i default).snd.toNat default).getD y.toNat false):=by
 have dE:=iA hm.pr _ (ay (l:=m.ae) (i:=i) (d:=default) hi);unfold gZ;generalize m.ae.getD i default=p at *;obtain⟨q1,q2,q3,q4,q5⟩:=lT dE;have xU:=hm.opt _ (ay (l:=m.cls) (i:=p.fst.toNat) (d:=default) GC);have mj:=hm.opt _ (ay (l:=m.cls) (i:=p.snd.toNat) (d:=default) GC);have eh:=vr hx hy GC GC;have f1:=hf.2 p.fst.toNat (by have:=hf.1;omega);have f2:=hf.2 p.snd.toNat (by have:=hf.1;omega);rw[<- f1]at hx eh;rw[<- f2]at hy eh ⊢;generalize left.getD p.fst.toNat default=a at *;generalize left.getD p.snd.toNat default=b at *;obtain⟨x,rfl⟩:=BM hx.1;obtain⟨y,rfl⟩:=BM hy.1;have e:((x:Int)*b.length+y).toNat=x*b.length+y:=by
  rw[show((x:Int)*b.length+y)=((x*b.length+y:Nat):Int) by simp,fq]
 have e2:x*b.length+y<a.length*b.length:=by
  have:=eh.2.2;rw[show((x:Int)*b.length+y)=((x*b.length+y:Nat):Int) by simp,show(a.length:Int)*b.length=((a.length*b.length:Nat):Int) by simp]at this;omega
 have HC:y<b.length:=GC;rw[e,IF _ _ _ e2,fq,fq,tA x,Nat.mul_add_div GC,Pq HC,Pp,GD HC,iS]
def Zu{m:aj}{plan:List Int}(hp:FP m plan){c:Ct}(hc:iQ m c=true):ki plan c.aH 0=bE (λj=>gP c.aH (j:Nat) (plan.getD j 0) 0) m.cls.length:=by
 obtain⟨_,_,_,q4⟩:=lS hc;rw[Zv hp.len 0 q4,Zp,z8,hp.len];exact jK _ λj _=>by rw[gn,Zo _ _ q4]
def zJ(m:aj)(left:List (List Bool))(plan:List Int):Prop:=∀ i,i<m.cls.length->(left.getD i default).getD (plan.getD i 0).toNat false=true
def CM(m:aj)(left:List (List Bool))(plan:List Int):Prop:=∀ i,i<m.cls.length->∀ j,(left.getD i default).getD j false=decide (j=(plan.getD i 0).toNat)
def CM.Zw{m:aj}{left:List (List Bool)}{plan:List Int}(h:CM m left plan):zJ m left plan:=λi hi=>by rw[h i hi,decide_eq_true rfl]
def least_le{m:aj}{plan:List Int}{left:List (List Bool)}(hm:VM m)(hp:FP m plan)(hf:dD m left)(ez:zJ m left plan){c:Ct}(hc:iQ m c=true):jJ left c<=jz plan c:=by
 obtain⟨_,_,q3,q4⟩:=lS hc;have hw:∀ x∈c.aH,1<=x.wt/\x.wt<=1000:=λx hx=>(pV q4 x hx).2;refine ah7 (lz q3).1 ?_;rw[CH,Zu hp hc,z8,hf.1];refine Fg _ λj hj=>?_;have hg:=sm hp hj;have h1:=IN hw (j:Nat) (left.getD j []) 0 (-1) (plan.getD j 0).toNat (ez j hj);have h2:=zC hw (j:Nat) (plan.getD j 0) 0 GC;rw[gn,sG hg.1]at h1;unfold ny;rw[gn];omega
def aiu{m:aj}{plan:List Int}{left:List (List Bool)}(hm:VM m)(hp:FP m plan)(hf:dD m left)(ez:CM m left plan){c:Ct}(hc:iQ m c=true):jJ left c=jz plan c:=by
 obtain⟨_,_,q3,q4⟩:=lS hc;have hw:∀ x∈c.aH,1<=x.wt/\x.wt<=1000:=λx hx=>(pV q4 x hx).2;unfold jJ jz;congr 1;rw[CH,Zu hp hc,z8,hf.1];refine jK _ λj hj=>?_;have hg:=sm hp hj;have h1:=Zq c.aH (j:Nat) (left.getD j []) 0 (plan.getD j 0).toNat (ez j hj);have h2:=zC hw (j:Nat) (plan.getD j 0) 0 GC;rw[gn,sG hg.1]at h1;unfold ny;rw[gn,h1];omega
def aiv{m:aj}{plan:List Int}{c:Ct}(hc:iQ m c=true):b7 (jz plan c):=CF (lz (lS hc).2.2.1)
def Zx{most s:Int}(h:0<j4 most 1099511627776 s):j4 most 1099511627776 s=1099511627776:=by
 unfold j4 at *;split at h
 ·omega
 ·rename_i h2;rw[if_neg h2];omega
def aiw{m:aj}{plan:List Int}{p:Pr}(h:gH m p=true):b7 (kB m plan p):=CG h _ _
structure aix(m:aj)(plan:List Int)(left:List (List Bool))(g:Lg):Prop where
 bA:jX (jr m plan) 0=min (bE (mX m plan) m.cls.length+bE (λi=>kB m plan (m.ae.getD i default)) m.ae.length+bE (λi=>jz plan (m.av.getD i default)) m.av.length) 1099511627776
 ps:yf m plan g=bE (mX m plan) m.cls.length+bE (λi=>kB m plan (m.ae.getD i default)) m.ae.length
 sf:∀ i,i<m.cls.length->(mY plan g i).2=decide (1099511627776<=mX m plan i)
 tf:∀ i,i<m.ae.length->(mZ m plan g i).2=decide (1099511627776<=kB m plan (m.ae.getD i default))
 sl:∀ i,i<m.cls.length->(plan.getD i 0).toNat<(g.1.getD i default).length
 tl:∀ i,i<m.ae.length->wJ m plan (m.ae.getD i default)<(g.2.getD i default).length
 a:0<=bE (mX m plan) m.cls.length/\∀ i<m.cls.length,mX m plan i<=bE (mX m plan) m.cls.length
 b:0<=bE (λi=>kB m plan (m.ae.getD i default)) m.ae.length/\∀ i<m.ae.length,kB m plan (m.ae.getD i default)<=bE (λi=>kB m plan (m.ae.getD i default)) m.ae.length
 c:0<=bE (λi=>jz plan (m.av.getD i default)) m.av.length/\∀ i<m.av.length,jz plan (m.av.getD i default)<=bE (λi=>jz plan (m.av.getD i default)) m.av.length
def parts{m:aj}{plan:List Int}(hm:VM m)(hp:FP m plan)(left:List (List Bool))(l:List Mv)(hl:∀ x∈l,jL m x=true):aix m plan left (jd m l (S0 m,T0 m)):=by
 have dN:=Zk hm hp l _ _ Px (Zy hm) hl;have jG:=Fh hm l hl;refine⟨CK hm hp,?_,λi hi=>?_,λi hi=>?_,λi hi=>?_,λi hi=>?_,A8 _ λi hi=>(ais hm hp hi).1,A8 _ λi hi=>(aiw (iA hm.pr _ (ay hi))).1,A8 _ λi hi=>(aiv (hm.ct _ (ay hi))).1⟩
 ·rw[dN.1];unfold yf;rw[jK m.cls.length λi hi=>by rw[Zr hp hi],jK m.ae.length λi hi=>by rw[Zt hm hp hi]];rfl
 ·rw[dN.2.1,Zr hp hi];rfl
 ·rw[dN.2.2,Zt hm hp hi];rfl
 ·have:=sm hp hi;rw[jG.sl i hi];omega
 ·rw[jG.tl i hi];exact Zs hm hp (iA hm.pr _ (ay hi))
def aiy{m:aj}{plan:List Int}{left:List (List Bool)}(hm:VM m)(hp:FP m plan)(hf:dD m left)(ez:zJ m left plan){i:Nat}(hi:i<m.ae.length):(gZ m left i).getD (wJ m plan (m.ae.getD i default)) false=true:=by
 have dE:=iA hm.pr _ (ay (l:=m.ae) (i:=i) (d:=default) hi);obtain⟨q1,q2,q3,q4,q5⟩:=lT dE;unfold wJ;rw[ait hm hf hi (sm hp GC) (sm hp GC),ez _ GC,ez _ GC];rfl
def aiz{m:aj}{plan:List Int}{left:List (List Bool)}(hm:VM m)(hp:FP m plan)(hf:dD m left)(jV:CM m left plan){i:Nat}(hi:i<m.ae.length)(j:Nat):(gZ m left i).getD j false=decide (j=wJ m plan (m.ae.getD i default)):=by
 have dE:=iA hm.pr _ (ay (l:=m.ae) (i:=i) (d:=default) hi);obtain⟨q1,q2,q3,q4,q5⟩:=lT dE;have g1:=sm hp (j:=(m.ae.getD i default).fst.toNat) GC;have g2:=sm hp (j:=(m.ae.getD i default).snd.toNat) GC;have o1:=jV (m.ae.getD i default).fst.toNat GC;have o2:=jV (m.ae.getD i default).snd.toNat GC;have f1:=hf.2 (m.ae.getD i default).fst.toNat (by have:=hf.1;omega);have f2:=hf.2 (m.ae.getD i default).snd.toNat (by have:=hf.1;omega);unfold gZ wJ;generalize m.ae.getD i default=p at *;rw[<- f1]at g1;rw[<- f2]at g2 ⊢;generalize left.getD p.fst.toNat default=a at *;generalize left.getD p.snd.toNat default=b at *;generalize plan.getD p.fst.toNat 0=x at *;generalize plan.getD p.snd.toNat 0=y at *;obtain⟨x,rfl⟩:=BM g1.1;obtain⟨y,rfl⟩:=BM g2.1;simp only[fq]at o1 o2;have hx:x<a.length:=GC;have hy:y<b.length:=GC;have e:((x:Int)*b.length+y).toNat=x*b.length+y:=by
  rw[show((x:Int)*b.length+y)=((x*b.length+y:Nat):Int) by simp,fq]
 rw[e];by_cases hj:j<a.length*b.length
 ·rw[IF _ _ _ hj,o1,o2,<- Bool.decide_and];have Zz:=Nat.div_add_mod j b.length;have G7:=Nat.mod_lt j (show 0<b.length by omega);refine decide_eq_decide.2 ⟨λ⟨h1,h2⟩=>?_,λh=>?_⟩
  ·rw[h1,h2,tA]at Zz;exact Zz.symm
  ·rw[h,tA x,Nat.mul_add_div GC,Pq hy,Pp,GD hy];exact⟨rfl,rfl⟩
 ·rw[aA,dW (by rw[Fi];omega),Option.getD_none,decide_eq_false];intro h;have h3:(x+1)*b.length<=a.length*b.length:=Nat.mul_le_mul_right _ hx;rw[gR,tx]at h3;omega
def ZA{m:aj}{plan:List Int}(hm:VM m)(hp:FP m plan)(left:List (List Bool))(hf:dD m left)(ez:zJ m left plan)(l:List Mv)(hl:∀ x∈l,jL m x=true):
  oR m left (jd m l (S0 m,T0 m))<=jX (jr m plan) 0:=by
 have P:=parts hm hp left l hl;generalize jd m l (S0 m,T0 m)=g at *;rw[P.bA];have ha:=P.a;have hb:=P.b;have hc:=P.c;have dN:=P.ps;have ZB:=air m left g;by_cases hF:1099511627776<=bE (mX m plan) m.cls.length+bE (λi=>kB m plan (m.ae.getD i default)) m.ae.length+bE (λi=>jz plan (m.av.getD i default)) m.av.length
 ·omega
 have e1:∀ i,i<m.cls.length->(wM left g i).2=true/\(wM left g i).1<=(mY plan g i).1:=λi hi=>by
  have:=ha.2 i hi;exact M7 _ _ _ _ (P.sl i hi) (ez i hi) (by show(mY plan g i).2=false;rw[P.sf i hi,decide_eq_false GC])
 have e2:∀ i,i<m.ae.length->(wN m left g i).2=true/\(wN m left g i).1<=(mZ m plan g i).1:=λi hi=>by
  have:=hb.2 i hi;exact M7 _ _ _ _ (P.tl i hi) (aiy hm hp hf ez hi) (by show(mZ m plan g i).2=false;rw[P.tf i hi,decide_eq_false GC])
 have e3:∀ i,i<m.av.length->(s7 m left i).2=true/\(s7 m left i).1<=jz plan (m.av.getD i default):=λi hi=>by
  have h1:=hc.2 i hi;have oM:=hm.ct _ (ay (l:=m.av) (i:=i) (d:=default) hi);have h2:=least_le hm hp hf ez oM;refine⟨?_,h2⟩;unfold s7;dsimp only;cases hz:(decide ((m.av.getD i default).bM=1099511627776)&&decide (0<jJ left (m.av.getD i default))) with
  |false=>rfl
  |true =>
   exfalso;rw[bw,decide_eq_true_eq,decide_eq_true_eq]at hz;have h3:jz plan (m.av.getD i default)=1099511627776:=by
    unfold jz at h2 ⊢;rw[hz.1]at h2 ⊢;exact Zx GC
   omega
 rw[Zn]
 ·have s1:=Fg m.cls.length λi hi=>(e1 i hi).2;have s2:=Fg m.ae.length λi hi=>(e2 i hi).2;have s3:=Fg m.av.length λi hi=>(e3 i hi).2;unfold Ff;unfold yf at dN;omega
 ·rintro(⟨i,hi,h⟩|⟨i,hi,h⟩|⟨i,hi,h⟩)
  ·rw[(e1 i hi).1]at h;cases h
  ·rw[(e2 i hi).1]at h;cases h
  ·rw[(e3 i hi).1]at h;cases h
def aiA{m:aj}{plan:List Int}(hm:VM m)(hp:FP m plan)(left:List (List Bool))(hf:dD m left)(jV:CM m left plan)(l:List Mv)(hl:∀ x∈l,jL m x=true):
  oR m left (jd m l (S0 m,T0 m))=jX (jr m plan) 0:=by
 have P:=parts hm hp left l hl;generalize jd m l (S0 m,T0 m)=g at *;rw[P.bA];have ha:=P.a;have hb:=P.b;have hc:=P.c;have dN:=P.ps;have e1:∀ i,i<m.cls.length->wM left g i=if(mY plan g i).2=false then((mY plan g i).1,true) else(0,false):=λi hi =>
  M8 _ _ _ _ (P.sl i hi) (jV i hi) rfl
 have e2:∀ i,i<m.ae.length->wN m left g i=if(mZ m plan g i).2=false then((mZ m plan g i).1,true) else(0,false):=λi hi =>
  M8 _ _ _ _ (P.tl i hi) (aiz hm hp hf jV hi) rfl
 have e3:∀ i,i<m.av.length->jJ left (m.av.getD i default)=jz plan (m.av.getD i default):=λi hi =>
  aiu hm hp hf jV (hm.ct _ (ay hi))
 by_cases hN:M9 m left g
 ·rw[aiq hN];rcases hN with⟨i,hi,h⟩|⟨i,hi,h⟩|⟨i,hi,h⟩
  ·rw[e1 i hi,P.sf i hi]at h;have:=ha.2 i hi;by_cases hx:1099511627776<=mX m plan i
   ·omega
   ·rw[decide_eq_false hx,if_pos rfl]at h;cases h
  ·rw[e2 i hi,P.tf i hi]at h;have:=hb.2 i hi;by_cases hx:1099511627776<=kB m plan (m.ae.getD i default)
   ·omega
   ·rw[decide_eq_false hx,if_pos rfl]at h;cases h
  ·have h1:=hc.2 i hi;unfold s7 at h;dsimp only at h;rw[e3 i hi,Bool.not_eq_false',bw,decide_eq_true_eq,decide_eq_true_eq]at h;have h3:jz plan (m.av.getD i default)=1099511627776:=by
    obtain⟨h4,h5⟩:=h;unfold jz at h5 ⊢;rw[h4]at h5 ⊢;exact Zx h5
   omega
 ·rw[Zn hN];congr 1;rw[<- dN];unfold Ff yf;congr 1
  ·congr 1
   ·refine jK _ λi hi=>?_;rw[e1 i hi];split
    ·rfl
    ·rename_i h;exact absurd (.inl ⟨i,hi,by rw[e1 i hi,if_neg h]⟩) hN
   ·refine jK _ λi hi=>?_;rw[e2 i hi];split
    ·rfl
    ·rename_i h;exact absurd (.inr (.inl ⟨i,hi,by rw[e2 i hi,if_neg h]⟩)) hN
  ·exact jK _ λi hi=>e3 i hi
def ke:List Int->List Bool->Int->Int
 |x::r,b::s,n=>ke r s (if b=true then min n x else n)
 |_,_,n=>n
def vt(aB:List Int)(w i:Nat)(a:Bool):Nat->List Bool->Int->Int
 |_,[],n=>n
 |k,b::r,n=>vt aB w i a (k+1) r (if a=true/\b=true then min n (aB.getD (i*w+k) 0) else n)
def ud(aB:List Int)(w:Nat)(rb:List Bool):Nat->List Bool->Int->Int
 |_,[],n=>n
 |i,a::r,n=>ud aB w rb (i+1) r (vt aB w i a 0 rb n)
def qO(m:aj)(left:List (List Bool))(p:Pr):Int:=ud p.aB (m.cls.getD p.snd.toNat default).length (left.getD p.snd.toNat default) 0 (left.getD p.fst.toNat default) 1099511627776
def qM:List Bool->Int->Int
 |[],n=>n
 |b::r,n=>qM r (if b=true then n+1 else n)
def mz(c:Int)(row:List Bool):List Ld->Int×Int->Int×Int
 |[],z=>z
 |x::r,z=>mz c row r (if x.cls=c/\row.getD x.opt.toNat false=true then(z.1-1,if z.2<0\/x.wt<z.2 then x.wt else z.2) else z)
def qL(l:List Ld)(c:Int)(row:List Bool):Int:=if 0<(mz c row l (qM row 0,-1)).1\/(mz c row l (qM row 0,-1)).2<0 then 0 else(mz c row l (qM row 0,-1)).2
def s0(l:List Ld)(left:List (List Bool)):Option Int->List Ld->Int->Int
 |_,[],n=>n
 |q,x::r,n=>s0 l left (some x.cls) r (if q=some x.cls then n else n+qL l x.cls (left.getD x.cls.toNat default))
def AR(n bM:Int):Int:=if 0<n/\bM=1099511627776 then 1099511627776 else min (n*bM) 1099511627776
def pU(left:List (List Bool))(c:Ct):Int:=AR (max (s0 c.aH left none c.aH (-c.most)) 0) c.bM
def oK(left:List (List Bool)):Nat->List (List bU)->Int->Option Int
 |_,[],n=>some n
 |i,c::r,n=>if ke (gG c) (left.getD i default) 1099511627776=1099511627776 then none else oK left (i+1) r (n+ke (gG c) (left.getD i default) 1099511627776)
def pk(m:aj)(left:List (List Bool)):List Pr->Int->Option Int
 |[],n=>some n
 |p::r,n=>if qO m left p=1099511627776 then none else pk m left r (n+qO m left p)
def oL(left:List (List Bool)):List Ct->Int->Option Int
 |[],n=>some n
 |c::r,n=>if pU left c=1099511627776 then none else oL left r (n+pU left c)
def CN:Option Int->Int
 |none=>1099511627776
 |some n=>min n 1099511627776
def zw(m:aj)(left:List (List Bool)):Option Int->Option Int
 |none=>none
 |some n=>oL left m.av n
def zu(m:aj)(left:List (List Bool)):Option Int->Option Int
 |none=>none
 |some n=>pk m left m.ae n
def fc(m:aj)(left:List (List Bool)):Int:=CN (zw m left (zu m left (oK left 0 m.cls 0)))
def wO(q:Int×Bool):Int:=if q.2=true then q.1 else 1099511627776
def Na:∀ (l:List Int) (s:List Bool) (b:Int×Bool),(∀ x∈l,b7 x)->(b.2=true->b.1<1099511627776) ->
  wO (dQ (ep l) s b)=ke l s (wO b)/\((dQ (ep l) s b).2=true->(dQ (ep l) s b).1<1099511627776)
 |[],s,b,_,hb=>⟨by cases s<;>rfl,hb⟩
 |x::r,[],b,_,hb=>⟨rfl,hb⟩
 |x::r,is::s,b,h,hb=>by
  have hx:=h x GF;unfold b7 at hx;rw[show ep (x::r)=fJ x::ep r from rfl,dQ,ke];have key:wO (if is=true/\(fJ x).2=false/\(b.2=false\/(fJ x).1<b.1) then((fJ x).1,true) else b)=(if is=true then min (wO b) x else wO b):=by
   obtain⟨b1,b2⟩:=b;unfold fJ wO;dsimp only at hb ⊢;cases is<;>cases b2<;>simp at hb ⊢<;>(repeat' split)<;>simp_all<;>omega
  have:=Na r s (if is=true/\(fJ x).2=false/\(b.2=false\/(fJ x).1<b.1) then((fJ x).1,true) else b) (λy hy=>h y (by simp[hy])) (by
   split
   ·rename_i hc;intro _;have:=hc.2.1;unfold fJ at this ⊢;simp at this;exact this
   ·exact hb)
  rw[key]at this;exact this
def ZC:∀ (l:List Int) (s t:List Bool) (n:Int),s.length<=l.length->ke l (s++t) n=ke (l.drop s.length) t (ke l s n)
 |l,[],t,n,_=>by cases l<;>rfl
 |[],b::s,t,n,h=>by simp at h
 |x::r,b::s,t,n,h=>by
  rw[List.cons_append,ke,ke,eB,List.drop_succ_cons];exact ZC r s t _ (by simpa using h)
def ZD(aB:List Int)(w i:Nat)(a:Bool):∀ (r:List Bool) (k:Nat) (n:Int),i*w+k+r.length<=aB.length->vt aB w i a k r n=ke (aB.drop (i*w+k)) (r.map (a && ·)) n
 |[],k,n,_=>by cases(aB.drop (i*w+k))<;>rfl
 |b::r,k,n,h=>by
  have br:i*w+k<aB.length:=by simp at h;omega
  have hd:aB.drop (i*w+k)=aB.getD (i*w+k) 0::aB.drop (i*w+(k+1)):=by
   rw[List.drop_eq_getElem_cons br,aA,bK br];rfl
  rw[vt,hd,dg,ke,ZD aB w i a r (k+1) _ (by simp at h;omega)];congr 1;cases a<;>cases b<;>simp
def Mu(aB:List Int)(w:Nat)(rb:List Bool)(hw:rb.length=w):∀ (r:List Bool) (i:Nat) (n:Int),i*w+r.length*w<=aB.length->ud aB w rb i r n=ke (aB.drop (i*w)) (sk r rb) n
 |[],i,n,_=>by show n=ke _ [] n;cases(aB.drop (i*w))<;>rfl
 |a::r,i,n,h=>by
  have h2:i*w+(r.length+1)*w<=aB.length:=h;rw[gR,tx]at h2;rw[ud,ZD aB w i a rb 0 n GC,Mu aB w rb hw r (i+1) _ (by rw[gR];omega)];show _=ke _ (rb.map (a && ·)++sk r rb) n;rw[ZC _ _ _ _ (by rw[dX,List.length_drop];omega),List.drop_drop,dX,hw,gR,tx];simp only[iS]
def kx:List (Int×Bool)->Int->Option Int
 |[],n=>some n
 |p::r,n=>if p.2=false then none else kx r (n+p.1)
def IP:∀ (l:List (Int×Bool)) (n:Int),kx l n=if(cf l (n,false)).2=true then none else some (cf l (n,false)).1
 |[],n=>rfl
 |p::r,n=>by
  rw[kx];obtain⟨a,b⟩:=p;cases b
  ·show none=if(cf r (n+a,true)).2=true then none else _;rw[E',if_pos rfl]
  ·exact IP r (n+a)
def ZE{m:aj}(hm:VM m)(left:List (List Bool)):∀ (k i:Nat) (n:Int),i+k=m.cls.length->oK left i (m.cls.drop i) n=kx ((og i k).map λj=>dQ ((S0 m).getD j default) (left.getD j default) (0,false)) n
 |0,i,n,h=>by rw[cR GC];rfl
 |k+1,i,n,h=>by
  have hi:i<m.cls.length:=GC;have hs:(S0 m).getD i default=ep (gG (m.cls.getD i default)):=by rw[S0,iR _ _ _ hi]
  have h2:=Na (gG (m.cls.getD i default)) (left.getD i default) (0,false) (λx hx=>by
   obtain⟨o,ho,rfl⟩:=cz.1 hx;exact EO (hm.mA _ (ay hi) o ho)) GF
  rw[show wO (0,false)=1099511627776 from rfl]at h2;rw[cP m.cls i default hi,oK,xg,dg,kx,ZE hm left k (i+1) _ GC,hs,<- h2.1];generalize dQ (ep (gG (m.cls.getD i default))) (left.getD i default) (0,false)=q at *;obtain⟨a,b⟩:=q;unfold wO at *;cases b<;>simp at h2 ⊢;intro e;omega
def ZF{m:aj}(hm:VM m){left:List (List Bool)}(hf:dD m left):∀ (k i:Nat) (n:Int),i+k=m.ae.length->pk m left (m.ae.drop i) n=kx ((og i k).map λj=>dQ ((T0 m).getD j default) (gZ m left j) (0,false)) n
 |0,i,n,h=>by rw[cR GC];rfl
 |k+1,i,n,h=>by
  have hi:i<m.ae.length:=GC;have hs:(T0 m).getD i default=ep (m.ae.getD i default).aB:=by rw[T0,iR _ _ _ hi]
  have dE:=iA hm.pr _ (ay (d:=default) hi);obtain⟨_,p1,p2,p3,p4⟩:=lT dE;have f1:=hf.2 (m.ae.getD i default).fst.toNat (by rw[hf.1];omega);have f2:=hf.2 (m.ae.getD i default).snd.toNat (by rw[hf.1];omega);have h2:=Na (m.ae.getD i default).aB (gZ m left i) (0,false) (Im dE) GF;rw[show wO (0,false)=1099511627776 from rfl]at h2;have h3:qO m left (m.ae.getD i default)=ke (m.ae.getD i default).aB (gZ m left i) 1099511627776:=by
   unfold qO gZ;rw[Mu _ _ _ f2 _ 0 _ (by rw[Dv,gn,f1];have:=p4;exact_mod_cast Int.le_of_eq this.symm),Dv,yI]
  rw[cP m.ae i default hi,pk,xg,dg,kx,ZF hm hf k (i+1) _ GC,hs,h3,<- h2.1];generalize dQ (ep (m.ae.getD i default).aB) (gZ m left i) (0,false)=q at *;obtain⟨a,b⟩:=q;unfold wO at *;cases b<;>simp at h2 ⊢;intro e;omega
def Nb(l:List Ld)(c:Int):∀ (row:List Bool) (o:Nat) (b:Int),eM l c o row b=b\/∃ i,row.getD i false=true/\eM l c o row b=gP l c (o+i:Nat) 0
 |[],_,_=>.inl rfl
 |is::r,o,b=>by
  rw[eM];split
  ·rename_i hc;rcases Nb l c r (o+1) (gP l c o 0) with h|⟨i,h1,h2⟩
   ·exact .inr ⟨0,by simpa using hc.1,by rw[h];rfl⟩
   ·exact .inr ⟨i+1,by simpa using h1,by rw[h2,show o+1+i=o+(i+1) by omega]⟩
  ·rcases Nb l c r (o+1) b with h|⟨i,h1,h2⟩
   ·exact .inl h
   ·exact .inr ⟨i+1,by simpa using h1,by rw[h2,show o+1+i=o+(i+1) by omega]⟩
def ZG{l:List Ld}(h:∀ x∈l,1<=x.wt/\x.wt<=1000)(c:Int):∀ (row:List Bool) (o:Nat) (b:Int) (i:Nat),row.getD i false=true->0<=eM l c o row b
 |[],_,b,i,hi=>by simp at hi
 |is::r,o,b,0,hi=>by
  rw[iF]at hi;have hw:=zC h c o 0 GC;rw[eM];split
  ·exact(CL h c r (o+1) _ hw.1).1
  ·rename_i hc;have hb:0<=b:=by
    rcases GO b 0 with h2|h2
    ·exact absurd ⟨hi,.inl h2⟩ hc
    ·exact h2
   exact(CL h c r (o+1) b hb).1
 |is::r,o,b,i+1,hi=>by
  rw[fU]at hi;rw[eM];exact ZG h c r (o+1) _ i hi
def ZH{f:Nat->Int}:∀ {n:Nat},(∀ i<n,0<=f i)->(0<=bE f n/\(0<bE f n↔∃ i,i<n/\0<f i))
 |0,_=>by simp[bE]
 |n+1,h=>by
  obtain⟨h1,h2⟩:=ZH (n:=n) λi hi=>h i GC;have h3:=h n GC;rw[bE];refine⟨GC,λh4=>?_,?_⟩
  ·by_cases h5:0<bE f n
   ·obtain⟨i,hi,hf⟩:=h2.1 h5;exact⟨i,GC,hf⟩
   ·exact⟨n,GC,GC⟩
  ·rintro⟨i,hi,hf⟩;by_cases e:i=n
   ·subst e;omega
   ·have:=h2.2 ⟨i,GC,hf⟩;omega
def ZI(f g:Nat->Int):∀ n,bE f n-bE g n=bE (λi=>f i-g i) n
 |0=>rfl
 |n+1=>by rw[bE,bE,bE,<- ZI f g n];omega
def ZJ:∀ (row:List Bool) (n:Int),qM row n=n+bE (λo=>if row.getD o false=true then 1 else 0) row.length
 |[],n=>by simp[qM,bE]
 |b::r,n=>by
  rw[qM,ZJ r,eB,zE];simp only[iF,fU];split<;>omega
def Nc{m:aj}{q:Option Ld}{x:Ld}{r:List Ld}(h:eI m q (x::r)=true):eI m (some x) r=true:=by
 cases q<;>rw[eI]at h<;>simp only[bw]at h<;>exact h.2
open Classical in
def ZK{m:aj}(c:Int)(row:List Bool):∀ {l:List Ld} {q:Option Ld},eI m q l=true->∀ z:Int×Int,
  (mz c row l z).1=z.1-bE (λo=>if row.getD o false=true/\∃ x∈l,x.cls=c/\x.opt=(o:Int) then 1 else 0) row.length
 |[],_,_,z=>by
  rw[jK (g:=λ_=>0) _ λi _=>GF];have:∀ n,bE (λ_=>0) n=0:=λn=>by induction n with|zero=>rfl|succ n ih=>rw[bE,ih];rfl
  rw[this,mz];omega
 |x::r,q,h,z=>by
  have hr:=Nc h;have hx:=(fD.1 (pV h x GF).1).2.2.1;rw[mz,ZK c row hr];by_cases hc:x.cls=c/\row.getD x.opt.toNat false=true
  ·rw[if_pos hc];have hk:x.opt.toNat<row.length:=by
    rcases fK x.opt.toNat row.length with h'|h'
    ·exact h'
    ·rw[aA,dW h']at hc;simp at hc
   rw[jK (f:=λo=>if row.getD o false=true/\∃ y∈x::r,y.cls=c/\y.opt=(o:Int) then 1 else 0) (g:=λo=>if o=x.opt.toNat then(if row.getD o false=true/\∃ y∈r,y.cls=c/\y.opt=(o:Int) then 1 else 0)+1 else(if row.getD o false=true/\∃ y∈r,y.cls=c/\y.opt=(o:Int) then 1 else 0)) _ λo _=>by
    by_cases e:o=x.opt.toNat
    ·subst e;rw[if_pos ⟨hc.2,x,GF,hc.1,GC⟩,if_pos rfl,if_neg (by rintro⟨_,y,hy,h1,h2⟩;have:=zI hr y hy;omega)];rfl
    ·rw[if_neg e];congr 1;rw[eq_iff_iff];refine and_congr_right λ_=>⟨?_,λ⟨y,hy,h1⟩=>⟨y,by simp[hy],h1⟩⟩;rintro⟨y,hy,h1,h2⟩;rcases cB.1 hy with rfl|hy
     ·omega
     ·exact⟨y,hy,h1,h2⟩,zD,if_pos hk]
   dsimp only;omega
  ·rw[if_neg hc];rw[jK (f:=λo=>if row.getD o false=true/\∃ y∈x::r,y.cls=c/\y.opt=(o:Int) then 1 else 0) (g:=λo=>if row.getD o false=true/\∃ y∈r,y.cls=c/\y.opt=(o:Int) then 1 else 0) _ λo _=>by
    congr 1;rw[eq_iff_iff];refine and_congr_right λCO=>⟨?_,λ⟨y,hy,h1⟩=>⟨y,by simp[hy],h1⟩⟩;rintro⟨y,hy,h1,h2⟩;rcases cB.1 hy with rfl|hy
    ·exact absurd ⟨h1,by rw[h2,fq];exact CO⟩ hc
    ·exact⟨y,hy,h1,h2⟩]
def ZL(c:Int)(row:List Bool):∀ {l:List Ld},(∀ x∈l,1<=x.wt)->∀ z:Int×Int,
  (∀ x∈l,x.cls=c/\row.getD x.opt.toNat false=true->0<=(mz c row l z).2/\(mz c row l z).2<=x.wt)/\(0<=z.2->0<=(mz c row l z).2/\(mz c row l z).2<=z.2) /\
   ((mz c row l z).2=z.2\/∃ x∈l,(x.cls=c/\row.getD x.opt.toNat false=true)/\(mz c row l z).2=x.wt)
 |[],_,z=>⟨GF,λh=>⟨h,eC _⟩,.inl rfl⟩
 |x::r,h,z=>by
  obtain⟨h1,h2,h3⟩:=ZL c row (l:=r) (λy hy=>h y (by simp[hy])) (if x.cls=c/\row.getD x.opt.toNat false=true then(z.1-1,if z.2<0\/x.wt<z.2 then x.wt else z.2) else z);have hx:=h x GF;rw[mz];generalize mz c row r _=w at *;by_cases hc:x.cls=c/\row.getD x.opt.toNat false=true
  ·rw[if_pos hc]at h2 h3;dsimp only at h2 h3;refine⟨λy hy Ax=>?_,λhz=>?_,?_⟩
   ·rcases cB.1 hy with rfl|hy
    ·split at h2<;>omega
    ·exact h1 y hy Ax
   ·split at h2<;>omega
   ·rcases h3 with h3|⟨y,hy,h3⟩
    ·split at h3
     ·exact .inr ⟨x,GF,hc,h3⟩
     ·exact .inl h3
    ·exact .inr ⟨y,by simp[hy],h3⟩
  ·rw[if_neg hc]at h2 h3;refine⟨λy hy Ax=>?_,h2,?_⟩
   ·rcases cB.1 hy with rfl|hy
    ·exact absurd Ax hc
    ·exact h1 y hy Ax
   ·rcases h3 with h3|⟨y,hy,h3⟩
    ·exact .inl h3
    ·exact .inr ⟨y,by simp[hy],h3⟩
def Nf{m:aj}:∀ {l:List Ld} {q:Option Ld},eI m q l=true->∀ x∈l,∀ w,gP l x.cls x.opt w=x.wt
 |[],_,_,x,hx,w=>by simp at hx
 |y::r,q,h,x,hx,w=>by
  have hr:=Nc h;rw[gP];rcases cB.1 hx with rfl|hx
  ·rw[if_pos ⟨rfl,rfl⟩];exact IM r _ _ _ λz hz he=>by have:=zI hr z hz;omega
  ·exact Nf hr x hx _
open Classical in
def aiB{m:aj}{l:List Ld}{q:Option Ld}(hl:eI m q l=true)(c:Int)(row:List Bool):qL l c row=ny l c row:=by
 have hw:∀ x∈l,1<=x.wt/\x.wt<=1000:=λx hx=>(pV hl x hx).2;have h1:=ZK c row hl (qM row 0,-1);obtain⟨h2,_,h3⟩:=ZL c row (λx hx=>(hw x hx).1) (qM row 0,-1);unfold qL;generalize mz c row l (qM row 0,-1)=z at *;rw[ZJ,z8,ZI]at h1;obtain⟨h4,h5⟩:=ZH (f:=λi=>(if row.getD i false=true then(1:Int) else 0)-if row.getD i false=true/\∃ x∈l,x.cls=c/\x.opt=(i:Int) then 1 else 0) (n:=row.length) λi _=>by
  (repeat' split)<;>simp_all
 rw[<- h1]at h4 h5;have hlen:∀ i,row.getD i false=true->i<row.length:=λi h'=>by
  rcases fK i row.length with h6|h6
  ·exact h6
  ·rw[aA,dW h6]at h';simp at h'
 have kA:∀ x∈l,0<=x.opt:=λx hx=>(fD.1 (pV hl x hx).1).2.2.1;by_cases hex :∃o,row.getD o false=true/\¬∃x∈l,x.cls=c/\x.opt=(o:Int)
 ·obtain⟨o,ho,nS⟩:=hex;rw[if_pos (.inl (h5.2 ⟨o,hlen o ho,by rw[if_pos ho,if_neg (by rintro⟨_,h'⟩;exact nS h')];decide⟩))];have h6:=IN hw c row 0 (-1) o ho;rw[gn,IM l c o 0 λy hy he=>nS ⟨y,hy,he⟩]at h6;unfold ny;omega
 have dF:∀ o,row.getD o false=true->∃ x∈l,x.cls=c/\x.opt=(o:Int):=λo ho=>Classical.byContradiction λh'=>hex ⟨o,ho,h'⟩;have hz:¬ 0<z.1:=λh'=>by
  obtain⟨i,hi,h6⟩:=h5.1 h';by_cases hr:row.getD i false=true
  ·rw[if_pos hr,if_pos ⟨hr,dF i hr⟩]at h6;omega
  ·rw[if_neg hr,if_neg (λh7=>hr h7.1)]at h6;omega
 by_cases vx :∃o,row.getD o false=true
 ·obtain⟨o,ho⟩:=vx;obtain⟨x,hx,u6,wK⟩:=dF o ho;obtain⟨g1,g2⟩:=h2 x hx ⟨u6,by rw[wK,fq];exact ho⟩;rw[if_neg GC];have g3:=ZG hw c row 0 (-1) o ho;unfold ny;rw[Int.max_eq_left g3];refine Int.le_antisymm ?_ ?_
  ·rcases Nb l c row 0 (-1) with e|⟨i,hi,e⟩
   ·omega
   ·obtain⟨y,hy,rM,ZM⟩:=dF i hi;rw[e,gn,<- ZM,<- rM,Nf hl y hy];exact(h2 y hy ⟨rM,by rw[ZM,fq];exact hi⟩).2
  ·rcases h3 with e|⟨y,hy,⟨rM,Ng⟩,e⟩
   ·dsimp only at e;omega
   ·have h6:=IN hw c row 0 (-1) _ Ng;rw[gn,sG (kA y hy),<- rM,Nf hl y hy]at h6;rw[<- rM];omega
 ·have e:z.2 = -1:=by
   rcases h3 with e|⟨y,hy,⟨rM,Ng⟩,e⟩
   ·exact e
   ·exact absurd ⟨_,Ng⟩ vx
  rw[if_pos (.inr GC),ny,M' l c row 0 (-1) λi=>by
   cases h':row.getD i false with
   |false=>rfl
   |true=>exact absurd ⟨i,h'⟩ vx]
  rfl
open Classical in
def ZN{m:aj}(L:List Ld)(left:List (List Bool)){N:Nat}(hN:m.cls.length<=N):∀ {r:List Ld} {q:Option Ld},eI m q r=true->∀ n:Int,
  s0 L left (q.map (·.cls)) r n=n+bE (λj=>if(∃ x∈r,x.cls=(j:Int))/\q.map (·.cls)≠some (j:Int) then qL L j (left.getD j default) else 0) N
 |[],_,_,n=>by
  rw[jK (g:=λ_=>0) _ λi _=>GF];have:∀ n,bE (λ_=>0) n=0:=λn=>by induction n with|zero=>rfl|succ n ih=>rw[bE,ih];rfl
  rw[this,s0];omega
 |x::r,q,h,n=>by
  have hr:=Nc h;obtain⟨hx0,hx1,_⟩:=fD.1 (pV h x GF).1;have h0:=ZN L left hN hr;simp only[fl]at h0;rw[s0,h0];by_cases hq:q.map (·.cls)=some x.cls
  ·rw[if_pos hq,hq];congr 1;refine jK _ λj _=>?_;congr 1;rw[eq_iff_iff];simp only[ne_eq,dI.injEq];refine and_congr_left λhj=>⟨λ⟨y,hy,e⟩=>⟨y,by simp[hy],e⟩,?_⟩;rintro⟨y,hy,e⟩;rcases cB.1 hy with rfl|hy
   ·exact absurd e hj
   ·exact⟨y,hy,e⟩
  ·rw[if_neg hq,jK (f:=λj=>if(∃ y∈x::r,y.cls=(j:Int))/\q.map (·.cls)≠some (j:Int) then qL L j (left.getD j default) else 0)
    (g:=λj=>if j=x.cls.toNat then(if(∃ y∈r,y.cls=(j:Int))/\some x.cls≠some (j:Int) then qL L j (left.getD j default) else 0)+qL L x.cls (left.getD x.cls.toNat default) else(if(∃ y∈r,y.cls=(j:Int))/\some x.cls≠some (j:Int) then qL L j (left.getD j default) else 0)) _ λj _=>by
    have IQ:((x.cls.toNat:Nat):Int)=x.cls:=sG hx0;by_cases e:j=x.cls.toNat
    ·subst e;rw[if_pos ⟨⟨x,GF,IQ.symm⟩,by rw[IQ];exact hq⟩,if_pos rfl,if_neg (by rw[IQ];simp),IQ];omega
    ·rw[if_neg e];congr 1;rw[eq_iff_iff];constructor
     ·rintro⟨⟨y,hy,Nh⟩,_⟩;rcases cB.1 hy with rfl|hy
      ·omega
      ·exact⟨⟨y,hy,Nh⟩,by simp only[ne_eq,dI.injEq];omega⟩
     ·rintro⟨⟨y,hy,Nh⟩,_⟩;refine⟨⟨y,by simp[hy],Nh⟩,λZO=>?_⟩;cases q with
      |none=>simp at ZO
      |some q =>
       have h6:=zI h y (by simp[hy]);have h7:=zI h x GF;have h8:=zI hr y hy;simp only[fl,dI.injEq]at ZO hq;omega,zD,if_pos GC]
   omega
def aiC{m:aj}(hm:VM m){left:List (List Bool)}(hf:dD m left){c:Ct}(hc:iQ m c=true):
  pU left c=jJ left c/\(pU left c=1099511627776↔(decide (c.bM=1099511627776)&&decide (0<jJ left c))=true):=by
 obtain⟨_,q2,q3,q4⟩:=lS hc;have hw:∀ x∈c.aH,1<=x.wt/\x.wt<=1000:=λx hx=>(pV q4 x hx).2;have hs:s0 c.aH left none c.aH (-c.most) = -c.most+k7 c.aH 0 left 0:=by
  have:=ZN (m:=m) c.aH left (Nat.le_refl _) (q:=none) q4 (-c.most);rw[Option.map_none]at this;rw[this,CH,z8,hf.1];congr 1;refine jK _ λj _=>?_;rw[gn];split
  ·exact aiB q4 _ _
  ·rename_i hn;rw[YP λx hx e=>hn ⟨⟨x,hx,e⟩,GF⟩]
 have hr:=E5 hw left;have zx:=hm.cls;rw[hf.1]at hr;unfold pU jJ;rw[hs];generalize k7 c.aH 0 left 0=s at *;unfold AR j4;unfold jY at q3;rw[decide_eq_true_eq]at q3;by_cases h0:s<=c.most
 ·rw[Int.max_eq_right GC,if_neg GC,if_pos h0];simp<;>omega
 rw[Int.max_eq_left GC,if_neg h0,show -c.most+s=s-c.most by omega];rcases q3 with q3|q3
 ·rw[if_neg GC];have h1:(s-c.most)*c.bM<=24000*1048576:=qj GC GC GC GC;refine⟨rfl,?_⟩;rw[decide_eq_false (by omega:¬ c.bM=1099511627776),Bool.false_and];constructor
  ·intro h;omega
  ·intro h;simp at h
 ·rw[q3,if_pos ⟨GC,rfl⟩,show min ((s-c.most)*1099511627776) 1099511627776=(1099511627776:Int) by omega];simp
def ZP{m:aj}(hm:VM m){left:List (List Bool)}(hf:dD m left):∀ (k i:Nat) (n:Int),i+k=m.av.length->oL left (m.av.drop i) n=kx ((og i k).map λj=>s7 m left j) n
 |0,i,n,h=>by rw[cR GC];rfl
 |k+1,i,n,h=>by
  have hi:i<m.av.length:=GC;obtain⟨h1,h2⟩:=aiC hm hf (hm.ct _ (ay (d:=default) hi));rw[cP m.av i default hi,oL,xg,dg,kx,ZP hm hf k (i+1) _ GC];unfold s7;dsimp only;rw[h1]at h2 ⊢;by_cases h3:jJ left (m.av.getD i default)=1099511627776
  ·rw[if_pos h3,h2.1 h3];rfl
  ·rw[if_neg h3];cases hb:(decide ((m.av.getD i default).bM=1099511627776)&&decide (0<jJ left (m.av.getD i default))) with
   |true=>exact absurd (h2.2 hb) h3
   |false=>rfl
def Fj{m:aj}(hm:VM m){left:List (List Bool)}(hf:dD m left):fc m left=oR m left (S0 m,T0 m):=by
 have h1:=ZE hm left m.cls.length 0 0 GC;have h2:=λn=>ZF hm hf m.ae.length 0 n GC;have h3:=λn=>ZP hm hf m.av.length 0 n GC;simp only[yI,<- List.range_eq_range']at h1 h2 h3;unfold fc oR;rw[h1];show CN (zw m left (zu m left (kx (PC left (S0 m) m.cls.length) 0)))=_;have h2':∀ n,pk m left m.ae n=kx (PP m left (T0 m) m.ae.length) n:=h2;have h3':∀ n,oL left m.av n=kx (PK m left m.av.length) n:=h3;rw[IP];generalize cf (PC left (S0 m) m.cls.length) (0,false)=z;obtain⟨a,b⟩:=z;cases b
 ·simp only[zu,h2',IP,jQ,if_false];generalize cf (PP m left (T0 m) m.ae.length) (a,false)=z;obtain⟨a2,b2⟩:=z;cases b2
  ·simp only[zw,h3',IP,jQ,if_false];generalize cf (PK m left m.av.length) (a2,false)=z;obtain⟨a3,b3⟩:=z;cases b3<;>simp[CN]
  ·simp only[if_true,zw,CN,E']
 ·simp only[if_true,zu,zw,CN];have:∀ l n,(cf l (n,true))=((cf l (n,true)).1,true):=λl n=>Prod.ext rfl (E' l n);rw[this,this (PK m left m.av.length)];rfl
end T

