import Derived.Test.YtfoopmojjjpapaaGreatX10
set_option linter.all false
set_option maxHeartbeats 0
set_option maxRecDepth 20000
open List renaming getD_cons_zero→gA,length_cons→cV,getD_cons_succ→eS,getD_eq_getElem?_getD→az,getElem?_eq_getElem→bS,getElem?_set_ne→fN,length_set→bH,mem_singleton→dI,mem_append→da
open Bool renaming and_eq_true→a7
open Go Go.Am
namespace T
abbrev SC:=Int×Int
def Eu(s:SC)(cost times:Int):SC:=if cost=1099511627776 then(s.1+times,s.2) else(s.1,s.2+cost*times)
structure FP(m:aj)(an:List Int):Prop where
 len:an.length=m.cls.length
 get:∀ j,j<an.length->jy m (j:Nat) (an.getD j 0)=true
def SB(s:SC)(n:Nat):Prop:=0<=s.1/\s.1<=1048576*n/\0<=s.2/\s.2<=1099511627776*n
def SB.zero:SB (0,0) 0:=by unfold SB;decide
def SB.mono{s:SC}{n k:Nat}(h:SB s n)(hk:n<=k):SB s k:=by unfold SB at *;omega
def aiU(c:Int):Prop:=0<=c/\c<=1048576\/c=1099511627776
def aiV{c t:Int}(hc:0<=c/\c<=1048576)(ht:0<=t/\t<=1048576):0<=c*t/\c*t<=1099511627776 :=
 ⟨Int.mul_nonneg hc.1 ht.1,Int.le_trans (Int.mul_le_mul hc.2 ht.2 ht.1 CZ) Fs⟩
def SB.add{s:SC}{n:Nat}(h:SB s n){c t:Int}(hc:aiU c)(ht:0<=t/\t<=1048576):SB (Eu s c t) (n+1):=by
 unfold SB Eu at *;split
 ·dsimp only;omega
 ·have:=aiV (hc.resolve_right (by assumption)) ht;dsimp only;omega
def uI:List Ld->Int->Int->Int
 |[],_,_=>0
 |x::r,i,o=>if x.cls=i/\x.opt=o then x.wt else uI r i o
def tu(l:List Ld):Nat->List Int->Int
 |_,[]=>0
 |i,o::r=>uI l i o+tu l (i+1) r
def XR:∀ (an:List Int) (i:Nat),tu [] i an=0
 |[],_=>rfl
 |o::r,i=>by rw[tu,uI,XR r];rfl
def XS(x:Ld)(l:List Ld):∀ (an:List Int) (i:Nat),tu (x::l) i an=tu l i an+if(i:Int)<=x.cls/\x.cls<i+an.length/\an.getD (x.cls-i).toNat 0=x.opt then x.wt-uI l x.cls x.opt else 0
 |[],i=>by rw[tu,tu,if_neg Jo];rfl
 |o::r,i=>by
  rw[tu,tu,XS x l r (i+1),uI];by_cases h:x.cls=i
  ·rw[if_neg (c:=((i+1:Nat):Int)<=x.cls/\_) CZ];rw[show(x.cls-i).toNat=0 by omega,gA,cV];by_cases ho:x.opt=o
   ·rw[if_pos ⟨h,ho⟩,if_pos ⟨CZ,CZ,ho.symm⟩,h,ho];omega
   ·rw[if_neg (λh'=>ho h'.2),if_neg (λh'=>ho h'.2.2.symm)];omega
  ·rw[if_neg (c:=x.cls=i/\x.opt=o) (λh'=>h h'.1)];have e:((i+1:Nat):Int)<=x.cls/\x.cls<(i+1:Nat)+r.length/\r.getD (x.cls-(i+1:Nat)).toNat 0=x.opt↔(i:Int)<=x.cls/\x.cls<i+(o::r).length/\(o::r).getD (x.cls-i).toNat 0=x.opt:=by
    rw[cV];by_cases ba:(i:Int)<x.cls
    ·rw[show(x.cls-i).toNat=(x.cls-(i+1:Nat)).toNat+1 by omega,eS];constructor
     ·rintro⟨a,b,c⟩;exact⟨CZ,CZ,c⟩
     ·rintro⟨a,b,c⟩;exact⟨CZ,CZ,c⟩
    ·constructor
     ·rintro⟨a,b,c⟩;omega
     ·rintro⟨a,b,c⟩;omega
   simp only[e];omega
def XT:∀ (l:List Ld) (i o:Int),(∀ y∈l,¬ (y.cls=i/\y.opt=o))->uI l i o=0
 |[],_,_,_=>rfl
 |x::r,i,o,h=>by rw[uI,if_neg (h x Fl),XT r i o λy hy=>h y (by simp[hy])]
def yL{m:aj}:∀ {l:List Ld} {q:Ld},e7 m (some q) l=true->∀ y∈l,q.cls<y.cls\/(q.cls=y.cls/\q.opt<y.opt)
 |[],_,_,y,hy=>by simp at hy
 |x::r,q,h,y,hy=>by
  rw[e7]at h;simp only[a7,decide_eq_true_eq]at h;have h1:=HO.1 h.1.2;rcases List.mem_cons.1 hy with rfl|hy
  ·exact h1
  ·have:=yL h.2 y hy;omega
def XU{m:aj}{an:List Int}(hp:an.length=m.cls.length):∀ {l:List Ld} {q:Option Ld} (n:Int),e7 m q l=true->yH an l n=n+tu l 0 an
 |[],_,n,_=>by rw[yH,XR];omega
 |x::r,q,n,h=>by
  have hr:e7 m (some x) r=true:=by
   rw[e7.eq_def]at h;simp only[a7]at h;exact h.2
  have hx:=(vW h x Fl).1;obtain⟨a,b,c,d⟩:=jK.1 hx;rw[yH,XU hp _ hr,XS,XT r x.cls x.opt (λy hy he=>by have:=yL hr y hy;omega)];rw[show(x.cls-((0:Nat):Int)).toNat=x.cls.toNat by simp];by_cases e:an.getD x.cls.toNat 0=x.opt
  ·rw[if_pos e,if_pos ⟨CZ,CZ,e⟩];omega
  ·rw[if_neg e,if_neg (λh'=>e h'.2.2)];omega
def XV:∀ (l:List Int) (i:Nat) (x:Int),i<l.length->kj (l.set i x)=kj l-l.getD i 0+x
 |[],i,x,h=>by simp at h
 |y::r,0,x,_=>by simp only[List.set_cons_zero,kj,gA];omega
 |y::r,i+1,x,h=>by
  have:=XV r i x (by simpa using h);simp only[List.set_cons_succ,kj,eS];omega
structure Rel(R:Int)(out:List Int)(s:SC)(n:Nat):Prop where
 ok:lD R out
 b0:0<=s.1
 c0:0<=s.2/\s.2<=1048576*n
 eq:s.1=0->kj out=s.2
 ff:0<s.1->1099511627776∈out
def Rel.mono{R:Int}{out:List Int}{s:SC}{n k:Nat}(h:Rel R out s n)(hk:n<=k):Rel R out s k :=
 ⟨h.ok,h.b0,by have:=h.c0;omega,h.eq,h.ff⟩
def Rel.add{R:Int}{out:List Int}{s:SC}{n k:Nat}(h:Rel R out s n){r d c t:Int}(hr:0<=r/\r<R)(ht:0<=t)(hc:(c=1099511627776/\d=if 0<t then 1099511627776 else 0)\/(c≠1099511627776/\d=c*t/\0<=d/\d<=1048576*k))(hb:n+k<1048576):
  Rel R (iF out r d) (Eu s c t) (n+k):=by
 have dP:bQ d:=by
  unfold bQ;rcases hc with⟨_,h⟩|⟨_,_,h1,h2⟩
  ·rw[h];split<;>omega
  ·omega
 have hlen:=h.ok.1;have hi:r.toNat<out.length:=CZ;have hg:=h.ok.get r.toNat;have cD:=aF (d:=(0:Int)) hi;have hs:=Mq h.ok.2 _ cD;have iT:=XV out r.toNat (dK (out.getD r.toNat 0) d) hi;have qn:=h.c0;have pA:=h.b0;have MG:dK (out.getD r.toNat 0) d∈iF out r d:=by
  unfold iF;have:(out.set r.toNat (dK (out.getD r.toNat 0) d)).getD r.toNat 0=dK (out.getD r.toNat 0) d:=by
   rw[az,List.getElem?_set_self hi];rfl
  have qQ:=aF (l:=out.set r.toNat (dK (out.getD r.toNat 0) d)) (i:=r.toNat) (d:=0) (by simpa using hi);rwa [this]at qQ
 have XW:1099511627776∈out->1099511627776∈iF out r d:=by
  intro hm;obtain⟨j,hj,XX⟩:=List.mem_iff_getElem.1 hm;by_cases XZ:r.toNat=j
  ·subst XZ;have:out.getD r.toNat 0=1099511627776:=by rw[az,bS hj];exact XX
   rw[this]at MG;have e:dK 1099511627776 d=1099511627776:=by unfold bQ at dP;unfold dK;omega
   rwa [e]at MG
  ·have:(iF out r d).getD j 0=1099511627776:=by
    unfold iF;rw[az,fN XZ,bS hj];exact XX
   have qQ:=aF (l:=iF out r d) (i:=j) (d:=0) (by unfold iF;simpa using hj);rwa [this]at qQ
 unfold bQ at hg dP;rcases hc with⟨MH,hd⟩|⟨MH,hd,hd0,hdk⟩
 ·unfold Eu;rw[if_pos MH];refine⟨h.ok.add (by unfold bQ;exact dP),Ji,Ji,λhz=>?_,λhz=>?_⟩
  ·dsimp only at hz ⊢;have:d=0:=by rw[hd,if_neg CZ]
   rw[<- h.eq CZ];unfold iF;rw[iT];unfold dK;omega
  ·dsimp only at hz;by_cases htz:0<t
   ·have:dK (out.getD r.toNat 0) d=1099511627776:=by rw[hd,if_pos htz];unfold dK;omega
    rwa [this]at MG
   ·exact XW (h.ff CZ)
 ·unfold Eu;rw[if_neg MH,<- hd];refine⟨h.ok.add (by unfold bQ;exact dP),Ji,Ji,λhz=>?_,λhz=>?_⟩
  ·dsimp only at hz ⊢;have he:=h.eq hz;unfold iF;rw[iT];unfold dK;omega
  ·exact XW (h.ff hz)
def xw(m:aj)(a x b y:Int)(p:Pr):Bool:=decide (p.fst=a/\p.snd=b/\yG m p x y=1099511627776)
def HU(m:aj)(a x b y:Int):Bool:=if b<a then m.ae.any (xw m b y a x) else m.ae.any (xw m a x b y)
structure CI(m:aj)(an out mv:List Int):Prop where
 fp:FP m out
 nd:mv.Nodup
 rg:∀ x∈mv,0<=x/\x<out.length
 un:∀ y:Nat,y<out.length->¬ (y:Int)∈mv->out.getD y 0=an.getD y 0
def MI:∀ {n:Nat} {l:List Int},l.Nodup->(∀ x∈l,0<=x/\x<n)->l.length<=n
 |0,l,h,hr=>by
  cases l with
  |nil=>simp
  |cons x r=>have:=hr x Fl;omega
 |n+1,l,h,hr=>by
  by_cases hm:(n:Int)∈l
  ·have h1:=List.length_erase_of_mem hm;have h2:=MI (n:=n) (h.erase (n:Int)) λx hx=>by
    have h3:=(List.Nodup.mem_erase_iff h).1 hx;have:=hr x h3.2;omega
   omega
  ·have:=MI (n:=n) h λx hx=>by
    have:=hr x hx;have:x≠n:=λe=>hm (e▸hx);omega
   omega
def CI.len{m:aj}{an out mv:List Int}(h:CI m an out mv):mv.length<=out.length:=MI h.nd h.rg
def CI.step{m:aj}{an out mv:List Int}(h:CI m an out mv){y:Nat}(hy:y<out.length)(hm:¬ (y:Int)∈mv){o:Int}(ho:jy m (y:Nat) o=true):CI m an (out.set y o) (mv++[(y:Int)]):=by
 refine⟨?_,?_,?_,?_⟩
 ·refine⟨by rw[bH];exact h.fp.len,λj hj=>?_⟩;rw[bH]at hj;by_cases e:y=j
  ·subst e;rw[az,List.getElem?_set_self hj];exact ho
  ·rw[az,fN e,<- az];exact h.fp.get j hj
 ·rw[List.nodup_append];refine⟨h.nd,Fl,λa ha b hb=>?_⟩;rw[dI]at hb;subst hb;intro e;subst e;exact hm ha
 ·intro x hx;rw[bH];rcases da.1 hx with hx|hx
  ·exact h.rg x hx
  ·rw[dI.1 hx];omega
 ·intro j hj hn;rw[bH]at hj;rw[da,not_or,dI]at hn;rw[az,fN CZ,<- az];exact h.un j hj hn.1
def CI.start{m:aj}{an:List Int}(hp:FP m an){c:Nat}{o:Int}(ho:jy m (c:Nat) o=true):CI m an (an.set c o) [(c:Int)]:=by
 have hc:c<an.length:=by have:=jK.1 ho;have:=hp.len;omega
 have h0:CI m an an []:=⟨hp,Fl,Fl,λ_ _ _=>rfl⟩;exact h0.step hc Fl ho
end T

