import Derived.Test.YtfoopmojjjpapaaGreatX15
set_option linter.all false
set_option maxHeartbeats 0
set_option maxRecDepth 20000
open List renaming nil_append→ec,cons_append→dh,mem_append→cC,mem_singleton→cU,getD_eq_getElem?_getD→aB,getElem?_eq_none→gj,length_cons→dt,mem_cons→bj,length_set→bK
open Bool renaming and_eq_true→aZ
open Option renaming some→cm
open Int renaming mul_le_mul→pT,mul_nonneg→rZ,le_refl→nt
open Nat renaming lt_or_ge→dE
open Go Go.Am
namespace T
def WV{R:Int}{c:Int×Int}:∀ {l:List (Int×Int)} {q:Option (Int×Int)},eh R q l=true->jA R c.1=true->jk c.2=true->(∀ x∈l,x.1<c.1)->(∀ y,q=some y->y.1<c.1)->eh R q (l++[c])=true
 |[],q,_,h1,h2,_,h3=>by
  rw[ec,eh.eq_def];cases q with
  |none=>simp[h1,h2,eh]
  |some y=>simp[h1,h2,eh,h3 y rfl]
 |x::r,q,h,h1,h2,h3,h4=>by
  rw[eh.eq_def]at h;simp only[aZ]at h;rw[dh,eh.eq_def];simp only[aZ];exact⟨h.1,WV h.2 h1 h2 (λy hy=>h3 y (by simp[hy])) (λy hy=>by simp only[cm.injEq]at hy;subst hy;exact h3 _ Iy)⟩
def WW{m:ah}{c:Pr}:∀ {l:List Pr} {q:Option Pr},fj m q l=true->gB m c=true->(∀ x∈l,mX x c<0)->(∀ y,q=some y->mX y c<0)->fj m q (l++[c])=true
 |[],q,_,h1,_,h3=>by
  rw[ec,fj.eq_def];cases q with
  |none=>simp[h1,fj]
  |some y=>simp[h1,fj,h3 y rfl]
 |x::r,q,h,h1,h3,h4=>by
  rw[fj.eq_def]at h;simp only[aZ]at h;rw[dh,fj.eq_def];simp only[aZ];exact⟨h.1,WW h.2 h1 (λy hy=>h3 y (by simp[hy])) (λy hy=>by simp only[cm.injEq]at hy;subst hy;exact h3 _ Iy)⟩
def WX{m:ah}{c:Ld}:∀ {l:List Ld} {q:Option Ld},er m q l=true->jl m c.cls c.opt=true->(1<=c.wt/\c.wt<=1000)->(∀ x∈l,um x c<0)->(∀ y,q=some y->um y c<0)->er m q (l++[c])=true
 |[],q,_,h1,h2,_,h3=>by
  rw[ec,er.eq_def];cases q with
  |none=>simp[h1,h2,er]
  |some y=>simp[h1,h2,er,h3 y rfl]
 |x::r,q,h,h1,h2,h3,h4=>by
  rw[er.eq_def]at h;simp only[aZ]at h;rw[dh,er.eq_def];simp only[aZ];exact⟨h.1,WX h.2 h1 h2 (λy hy=>h3 y (by simp[hy])) (λy hy=>by simp only[cm.injEq]at hy;subst hy;exact h3 _ Iy)⟩
def WY{cls:List (List cg)}{R:Int}{a b:List Pr}{c d:List Ct}:∀ (l:List Pr) (q:Option Pr),fj ⟨cls,a,c,R⟩ q l=fj ⟨cls,b,d,R⟩ q l
 |[],_=>rfl
 |x::r,q=>by
  have:=WY (cls:=cls) (R:=R) (a:=a) (b:=b) (c:=c) (d:=d) r (some x);cases q<;>simp only[fj,this]<;>rfl
def WZ{cls:List (List cg)}{R:Int}{a b:List Pr}{c d:List Ct}:∀ (l:List Ld) (q:Option Ld),er ⟨cls,a,c,R⟩ q l=er ⟨cls,b,d,R⟩ q l
 |[],_=>rfl
 |x::r,q=>by
  have:=WZ (cls:=cls) (R:=R) (a:=a) (b:=b) (c:=c) (d:=d) r (some x);cases q<;>simp only[er,this]<;>rfl
def afX{cls:List (List cg)}{R:Int}{a b:List Pr}{c d:List Ct}(x:Ct):iV ⟨cls,a,c,R⟩ x=iV ⟨cls,b,d,R⟩ x:=by
 unfold iV;rw[WZ (a:=a) (b:=b) (c:=c) (d:=d)]
def KM(L:List Int)(k:Nat):0<=py L k/\py L k<=1099511627776/\(0<py L k->jk (py L k)=true):=by
 have h6:=jB (L:=L) (k:=k) (n:=6) Ix;have h20:=jB (L:=L) (k:=cj L k) (n:=20) Ix;unfold py;split
 ·exact⟨Ix,Ix,Ix⟩
 ·split
  ·exact⟨Ix,Ix,λ_=>NI⟩
  ·refine⟨Ix,Ix,λ_=>?_⟩;rw[jk,decide_eq_true_eq];omega
def KO{L:List Int}{k:Nat}(h:k<=L.length):vz L k<=L.length:=by
 unfold vz;split
 ·exact eQ h
 ·exact eQ (eQ h)
structure MM(m:ah)(pC options:Nat):Prop where
 vm:VM m
 pD:m.cls.length<=pC
 some:∀ l∈m.cls,1<=l.length/\l.length<=options
 uA:1<=m.rules/\m.rules<=4
 aC:m.aC.length<=2
 wk:∀ l∈m.cls,∀ o∈l,o.wk<=3
def VM.mb{m:ah}(h:VM m):MB m:=by
 refine⟨by have:=h.cls;omega,λl hl=>by have:=h.opt l hl;omega,λl hl o ho=>?_,by have:=h.ae;omega,λp hp=>?_,by have:=h.aC;omega,λc hc=>?_⟩
 ·have:=V7 h.uA.1 (h.rz l hl o ho);have:=h.uA;omega
 ·obtain⟨_,h1,h2,h3,h4⟩:=qA (jP h.pr p hp);have a:=h.opt _ (aG (l:=m.cls) (i:=p.fst.toNat) (d:=default) Ix);have b:=h.opt _ (aG (l:=m.cls) (i:=p.snd.toNat) (d:=default) Ix);have:((m.cls.getD p.fst.toNat default).length:Int)*(m.cls.getD p.snd.toNat default).length<=24*24:=pT Ix Ix Ix Ix;omega
 ·have:=V' h (sY (h.ct c hc)).2.2.2;omega
def cM(L:List Int)(k:Nat)(cls:List (List cg))(ae:List Pr)(aC:List Ct)(R:Int):List Ob :=
 [.var [.tree 1 (ints L),N0 k],.var [.lit (.slice none 0 0),.lit (.slice none 0 0),.lit (.slice none 0 0),N0 0],
  .var [.ref 3 1 0 cls.length,.ref 4 4 0 ae.length,.ref 5 4 0 aC.length,N0 R],.arr 1 (rowsOf aQ cls),.arr 4 (rowsOf aH ae),.arr 4 (rowsOf db aC)]
def W2(R:Int)(l:List cg):Prop:=∀ o∈l,eh R none o.ch=true/\o.wk<=3
def DC(p:Pr)(u i k:Nat):Prop:=p.dL<u\/(p.dL=u/\(p.fst<i\/(p.fst=i/\p.snd<k)))
structure xe(cls:List (List cg))(R:Int)(ae:List Pr)(u i k:Nat):Prop where
 ok:fj ⟨cls,[],[],R⟩ none ae=true
 lt:∀ p∈ae,DC p u i k
 len:ae.length<=576*u+24*i+k
def xe.mono{cls:List (List cg)}{R:Int}{ae:List Pr}{u i k u' i' k':Nat}(h:xe cls R ae u i k)(hl:u<u'\/(u=u'/\(i<i'\/(i=i'/\k<=k'))))(hs:576*u+24*i+k<=576*u'+24*i'+k'):xe cls R ae u' i' k' :=
 ⟨h.ok,λp hp=>by have:=h.lt p hp;unfold DC at *;omega,by have:=h.len;omega⟩
def xe.app{cls:List (List cg)}{R:Int}{ae:List Pr}{u i k:Nat}(h:xe cls R ae u i k){ax:List Int}(hp:gB ⟨cls,[],[],R⟩ ⟨i,k,u,ax⟩=true):xe cls R (ae++[⟨i,k,u,ax⟩]) u i (k+1):=by
 refine⟨WW h.ok hp (λx hx=>?_) Iy,λp hp=>?_,by have:=h.len;simp;omega⟩
 ·have:=h.lt x hx;rw[Kt];unfold DC at this;dsimp only;omega
 ·rcases cC.1 hp with hp|hp
  ·have:=h.lt p hp;unfold DC at *;omega
  ·simp only[cU]at hp;subst hp;unfold DC;dsimp only;omega
def afY{cls:List (List cg)}{R:Int}{ax:List Int}{i k u:Nat}(hu:(u:Int)<R)(hik:i<k)(hk:k<cls.length)(ht:ax.length=(cls.getD i default).length*(cls.getD k default).length)(hc:∀ x∈ax,0<=x/\(0<x->jk x=true)):
  gB ⟨cls,[],[],R⟩ ⟨i,k,u,ax⟩=true:=by
 unfold gB jA;simp only[aZ,decide_eq_true_eq,Bool.not_eq_true',Int.toNat_natCast,List.any_eq_false];refine⟨⟨⟨Ix,hu⟩,Ix,Ix,Ix,?_⟩,λx hx=>?_⟩
 ·rw[ht];simp
 ·unfold oB;have:=hc x hx;by_cases h0:x=0
  ·subst h0;decide
  ·rw[this.2 Ix];simp
structure yy(cls:List (List cg))(R:Int)(l:List Ld)(i k:Nat):Prop where
 ok:er ⟨cls,[],[],R⟩ none l=true
 lt:∀ x∈l,x.cls<i\/(x.cls=i/\x.opt<k)
 len:l.length<=24*i+k
def yy.mono{cls:List (List cg)}{R:Int}{l:List Ld}{i k i' k':Nat}(h:yy cls R l i k)(hl:i<i'\/(i=i'/\k<=k'))(hs:24*i+k<=24*i'+k'):yy cls R l i' k' :=
 ⟨h.ok,λp hp=>by have:=h.lt p hp;omega,by have:=h.len;omega⟩
def yy.app{cls:List (List cg)}{R:Int}{l:List Ld}{i k:Nat}(h:yy cls R l i k){w:Int}(hi:i<cls.length)(hk:k<(cls.getD i default).length)(hw:1<=w/\w<=1000):yy cls R (l++[⟨i,k,w⟩]) i (k+1):=by
 refine⟨WX h.ok (kR.2 ⟨NQ,NQ,NQ,by simp;exact hk⟩) hw (λx hx=>?_) Iy,λp hp=>?_,by have:=h.len;simp;omega⟩
 ·have:=h.lt x hx;rw[Gy];dsimp only;omega
 ·rcases cC.1 hp with hp|hp
  ·have:=h.lt p hp;omega
  ·simp only[cU]at hp;subst hp;dsimp only;omega
def W3:(default:cg).ch=[]:=rfl
def W4{m:ah}(hm:VM m):∀ (plan:List Int) (i:Nat) (out:List Int),ln m.rules out->ln m.rules (Bz m i plan out)
 |[],_,_,h=>h
 |o::r,i,out,h=>by
  rw[Bz];refine W4 hm r (i+1) _ ?_;split
  ·exact h
  ·refine Wa h λc hc=>?_;rcases dE i m.cls.length with hi|hi
   ·have hl:=aG (d:=(default:List cg)) hi;generalize m.cls.getD i default=l at *;rcases dE o.toNat l.length with ho|ho
    ·exact(Gx (hm.rz l hl _ (aG ho)) c hc).2
    ·rw[show l.getD o.toNat default=default by rw[aB,gj ho];rfl]at hc;exact absurd hc (by rw[W3];simp)
   ·rw[show m.cls.getD i default=[] by rw[aB,gj hi];rfl]at hc;exact absurd hc (by rw[List.getD_nil,W3];simp)
def W5{m:ah}{plan:List Int}:∀ (l:List Pr) (out:List Int),(∀ p∈l,gB m p=true)->ln m.rules out->ln m.rules (BA m plan l out)
 |[],_,_,h=>h
 |p::r,out,hp,h=>by
  rw[BA];refine W5 r _ (λq hq=>hp q (by simp[hq])) ?_;split
  ·exact h.add (Kv (hp p Iy) _ _)
  ·exact h
def W6{m:ah}{plan:List Int}:∀ (l:List Ct) (out:List Int),(∀ c∈l,iV m c=true)->ln m.rules out->ln m.rules (BC plan l out)
 |[],_,_,h=>h
 |c::r,out,hp,h=>by
  rw[BC];exact W6 r _ (λq hq=>hp q (by simp[hq])) (h.add (Ku (uz (sY (hp c Iy)).2.2.1)))
def afW{m:ah}(hm:VM m)(plan:List Int):ln m.rules (yo m plan) :=
 W6 _ _ hm.ct (W5 _ _ (jP hm.pr) (W4 hm _ _ _ (ln.rep hm.uA.1)))
def j8:List Int->Int
 |[]=>0
 |x::r=>x+j8 r
def KP:∀ {l:List Int},(∀ x∈l,bM x)->0<=j8 l/\j8 l<=1099511627776*l.length
 |[],_=>by simp[j8]
 |x::r,h=>by
  have:=KP λy hy=>h y (List.mem_cons_of_mem x hy);have:=h x Iy;unfold bM at this;simp only[j8,dt];omega
def WU:∀ {l:List Int} {n:Int},(∀ x∈l,bM x)->bM n->vG l n=min (n+j8 l) 1099511627776
 |[],n,_,hn=>by unfold bM at hn;simp only[vG,j8];omega
 |x::r,n,h,hn=>by
  have hx:=h x Iy;have hr:∀ y∈r,bM y:=λy hy=>h y (by simp[hy]);rw[vG,WU hr (Dm hn hx)];have:=KP hr;unfold bM at hx hn;simp only[dZ,j8];omega
def Kz:∀ {l:List Int},(∀ x∈l,bM x)->∀ x∈l,x<=j8 l
 |[],_,x,hx=>by simp at hx
 |y::r,h,x,hx=>by
  have hr:∀ z∈r,bM z:=λz hz=>h z (by simp[hz]);have:=(KP hr).1;have hy:=h y Iy;unfold bM at hy;rcases bj.1 hx with rfl|hx
  ·simp only[j8];omega
  ·have:=Kz hr x hx;simp only[j8];omega
abbrev SC:=Int×Int
def Dq(s:SC)(cost times:Int):SC:=if cost=1099511627776 then(s.1+times,s.2) else(s.1,s.2+cost*times)
structure FP(m:ah)(plan:List Int):Prop where
 len:plan.length=m.cls.length
 get:∀ j,j<plan.length->jl m (j:Nat) (plan.getD j 0)=true
def SB(s:SC)(n:Nat):Prop:=0<=s.1/\s.1<=1048576*n/\0<=s.2/\s.2<=1099511627776*n
def SB.zero:SB (0,0) 0:=by unfold SB;decide
def SB.mono{s:SC}{n k:Nat}(h:SB s n)(hk:n<=k):SB s k:=by unfold SB at *;omega
def afZ(c:Int):Prop:=0<=c/\c<=1048576\/c=1099511627776
def af0{c t:Int}(hc:0<=c/\c<=1048576)(ht:0<=t/\t<=1048576):0<=c*t/\c*t<=1099511627776 :=
 ⟨rZ hc.1 ht.1,Int.le_trans (pT hc.2 ht.2 ht.1 Ix) NI⟩
def SB.add{s:SC}{n:Nat}(h:SB s n){c t:Int}(hc:afZ c)(ht:0<=t/\t<=1048576):SB (Dq s c t) (n+1):=by
 unfold SB Dq at *;split
 ·dsimp only;omega
 ·have:=af0 (hc.resolve_right (by assumption)) ht;dsimp only;omega
def uG:List Ld->Int->Int->Int
 |[],_,_=>0
 |x::r,i,o=>if x.cls=i/\x.opt=o then x.wt else uG r i o
def s8(l:List Ld):Nat->List Int->Int
 |_,[]=>0
 |i,o::r=>uG l i o+s8 l (i+1) r
def W7:∀ (plan:List Int) (i:Nat),s8 [] i plan=0
 |[],_=>rfl
 |o::r,i=>by rw[s8,uG,W7 r];rfl
def W8(x:Ld)(l:List Ld):∀ (plan:List Int) (i:Nat),s8 (x::l) i plan=s8 l i plan+if(i:Int)<=x.cls/\x.cls<i+plan.length/\plan.getD (x.cls-i).toNat 0=x.opt then x.wt-uG l x.cls x.opt else 0
 |[],i=>by rw[s8,s8,if_neg NS];rfl
 |o::r,i=>by
  rw[s8,s8,W8 x l r (i+1),uG];by_cases h:x.cls=i
  ·rw[if_neg (c:=((i+1:Nat):Int)<=x.cls/\_) Ix];rw[show(x.cls-i).toNat=0 by omega,List.getD_cons_zero,dt];by_cases ho:x.opt=o
   ·rw[if_pos ⟨h,ho⟩,if_pos ⟨Ix,Ix,ho.symm⟩,h,ho];omega
   ·rw[if_neg (λh'=>ho h'.2),if_neg (λh'=>ho h'.2.2.symm)];omega
  ·rw[if_neg (c:=x.cls=i/\x.opt=o) (λh'=>h h'.1)];have e:((i+1:Nat):Int)<=x.cls/\x.cls<(i+1:Nat)+r.length/\r.getD (x.cls-(i+1:Nat)).toNat 0=x.opt↔(i:Int)<=x.cls/\x.cls<i+(o::r).length/\(o::r).getD (x.cls-i).toNat 0=x.opt:=by
    rw[dt];by_cases a6:(i:Int)<x.cls
    ·rw[show(x.cls-i).toNat=(x.cls-(i+1:Nat)).toNat+1 by omega,List.getD_cons_succ];constructor
     ·rintro⟨a,b,c⟩;exact⟨Ix,Ix,c⟩
     ·rintro⟨a,b,c⟩;exact⟨Ix,Ix,c⟩
    ·constructor
     ·rintro⟨a,b,c⟩;omega
     ·rintro⟨a,b,c⟩;omega
   simp only[e];omega
def W9:∀ (l:List Ld) (i o:Int),(∀ y∈l,¬ (y.cls=i/\y.opt=o))->uG l i o=0
 |[],_,_,_=>rfl
 |x::r,i,o,h=>by rw[uG,if_neg (h x Iy),W9 r i o λy hy=>h y (by simp[hy])]
def yz{m:ah}:∀ {l:List Ld} {q:Ld},er m (some q) l=true->∀ y∈l,q.cls<y.cls\/(q.cls=y.cls/\q.opt<y.opt)
 |[],_,_,y,hy=>by simp at hy
 |x::r,q,h,y,hy=>by
  rw[er]at h;simp only[aZ,decide_eq_true_eq]at h;have h1:=Gy.1 h.1.2;rcases bj.1 hy with rfl|hy
  ·exact h1
  ·have:=yz h.2 y hy;omega
def Xa{m:ah}{plan:List Int}(hp:plan.length=m.cls.length):∀ {l:List Ld} {q:Option Ld} (n:Int),er m q l=true->yn plan l n=n+s8 l 0 plan
 |[],_,n,_=>by rw[yn,W7];omega
 |x::r,q,n,h=>by
  have hr:er m (some x) r=true:=by
   rw[er.eq_def]at h;simp only[aZ]at h;exact h.2
  have hx:=(vH h x Iy).1;obtain⟨a,b,c,d⟩:=kR.1 hx;rw[yn,Xa hp _ hr,W8,W9 r x.cls x.opt (λy hy he=>by have:=yz hr y hy;omega)];rw[show(x.cls-((0:Nat):Int)).toNat=x.cls.toNat by simp];by_cases e:plan.getD x.cls.toNat 0=x.opt
  ·rw[if_pos e,if_pos ⟨Ix,Ix,e⟩];omega
  ·rw[if_neg e,if_neg (λh'=>e h'.2.2)];omega
def LE(a b:List Int):Prop:=a.length=b.length/\∀ i,a.getD i 0<=b.getD i 0
def LE.refl(a:List Int):LE a a:=⟨rfl,λ_=>nt _⟩
def yA(l:List Int)(n i:Nat)(x:Int):(l.set n x).getD i 0=if n=i/\i<l.length then x else l.getD i 0:=by
 rw[aB,List.getElem?_set,aB];by_cases h:n=i
 ·subst h;by_cases h2:n<l.length
  ·rw[if_pos rfl,if_pos h2,if_pos ⟨rfl,h2⟩];rfl
  ·rw[if_pos rfl,if_neg h2,if_neg (λh=>h2 h.2),gj Ix]
 ·rw[if_neg h,if_neg (λh'=>h h'.1)]
def LE.add{a b:List Int}(h:LE a b){r c d:Int}(hcd:c<=d):LE (ij a r c) (ij b r d):=by
 refine⟨by simp only[ij,bK];exact h.1,λi=>?_⟩;rw[ij,ij,yA,yA,h.1];have:=h.2 i;have:=h.2 r.toNat;split
 ·unfold dZ;omega
 ·exact h.2 i
def LE.up{R:Int}{a b:List Int}(h:LE a b)(hb:ln R b){r c:Int}(hc:0<=c):LE a (ij b r c):=by
 refine⟨by simp only[ij,bK];exact h.1,λi=>?_⟩;rw[ij,yA];have h1:=h.2 i;have h2:=hb.get i;unfold bM at h2;split
 ·rename_i hh;rw[hh.1];unfold dZ;omega
 ·exact h1
def Up(p q:List Int):Prop:=p.length=q.length/\∀ j,p.getD j 0=q.getD j 0\/p.getD j 0<0
def af1{most bX s t:Int}(hp:0<=bX)(h:s<=t):kQ most bX s<=kQ most bX t:=by
 unfold kQ;have h1:(s-most)*bX<=(t-most)*bX:=Int.mul_le_mul_of_nonneg_right Ix hp;split
 ·split
  ·exact nt _
  ·have:0<=(t-most)*bX:=rZ Ix hp;omega
 ·rw[if_neg Ix];omega
def Up.set{p:List Int}{c:Nat}(o:Int)(h:p.getD c 0 = -1):Up p (p.set c o):=by
 refine⟨Iy,λj=>?_⟩;rw[yA];split
 ·rename_i hh;rw[<- hh.1,h];omega
 ·exact .inl rfl
def PM.set{m:ah}{p:List Int}(h:PM m p){c:Nat}{o:Int}(ho:o = -1\/jl m (c:Nat) o=true):PM m (p.set c o):=by
 refine⟨by rw[bK];exact h.len,λj hj=>?_⟩;rw[bK]at hj;rw[yA];split
 ·rename_i hh;rw[<- hh.1];exact ho
 ·exact h.get j hj
def DD(dV:List Bool)(r:Int):Bool:=dV.getD r.toNat false
def Cut(dV:List Bool)(a b:List Int):Prop:=b.length=a.length/\∀ i:Nat,b.getD i 0=if DD dV i=true then a.getD i 0 else 0
def Cut.add{dV:List Bool}{a b:List Int}(h:Cut dV a b){r c:Int}(hr:0<=r):Cut dV (ij a r c) (if DD dV r=true then ij b r c else b):=by
 have gq:((r.toNat:Nat):Int)=r:=Int.toNat_of_nonneg hr;refine⟨by split<;>simp only[ij,bK]<;>exact h.1,λi=>?_⟩;have hi:=h.2 i;have vb:=h.2 r.toNat;rw[gq]at vb;by_cases hk:DD dV r=true
 ·rw[if_pos hk];rw[if_pos hk]at vb;rw[ij,ij,yA,yA,vb,h.1];by_cases ph:r.toNat=i/\i<a.length
  ·rw[if_pos ph,if_pos ph,if_pos];rw[<- ph.1,gq];exact hk
  ·rw[if_neg ph,if_neg ph];exact hi
 ·rw[if_neg hk,ij,yA];by_cases ph:r.toNat=i/\i<a.length
  ·rw[if_pos ph];rw[<- ph.1,gq,if_neg hk]at hi;rw[<- ph.1,gq,if_neg hk];exact hi
  ·rw[if_neg ph];exact hi
def af2{a b c:Pr}(h:mX a b<0)(k:mX b c<0):mX a c<0:=by
 rw[Kt]at *;omega
def af3{m:ah}{q q':Option Pr}(h:∀ y,q'=some y->∃ x,q=some x/\(∀ c,mX x c<0->mX y c<0)):∀ {l:List Pr},fj m q l=true->fj m q' l=true
 |[],_=>by cases q'<;>rfl
 |c::r,hl=>by
  rw[fj.eq_def]at hl ⊢;simp only[aZ]at hl ⊢;refine⟨⟨hl.1.1,?_⟩,hl.2⟩;cases q' with
  |none=>rfl
  |some y =>
   obtain⟨x,rfl,hx⟩:=h y rfl;have:=hl.1.2;simp only[decide_eq_true_eq]at this ⊢;exact hx c this
def KQ{m:ah}(p:Pr->Bool):∀ {l:List Pr} {q:Option Pr},fj m q l=true->fj m q (l.filter p)=true
 |[],q,h=>h
 |c::r,q,h=>by
  rw[fj.eq_def]at h;simp only[aZ]at h;rw[List.filter_cons];split
  ·rw[fj.eq_def];simp only[aZ];exact⟨h.1,KQ p h.2⟩
  ·refine af3 (q:=some c) (λy hy=>⟨c,rfl,λd hd=>?_⟩) (KQ p h.2);subst hy;have:=h.1.2;simp only[decide_eq_true_eq]at this;exact af2 this hd
end T

