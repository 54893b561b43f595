import Derived.Test.YtfoopmojjjpapaaGreatX11
set_option linter.all false
set_option maxHeartbeats 0
set_option maxRecDepth 20000
open List renaming getD_cons_zero→jc,length_cons→du,getD_cons_succ→gB,getD_eq_getElem?_getD→ay,getElem?_eq_getElem→bx,getElem?_set_ne→gT,length_set→bJ,mem_singleton→cS,mem_append→cG
open Bool renaming and_eq_true→bc
open Go Go.Am
namespace T
abbrev SC:=Int×Int
def FO(s:SC)(cost times:Int):SC:=if cost=1099511627776 then(s.1+times,s.2) else(s.1,s.2+cost*times)
structure FP(m:ah)(plan:List Int):Prop where
 len:plan.length=m.cls.length
 get:∀ j,j<plan.length->iD m (j:Nat) (plan.getD j 0)=true
def SB(s:SC)(n:Nat):Prop:=0<=s.1/\s.1<=1048576*n/\0<=s.2/\s.2<=1099511627776*n
def SB.zero:SB (0,0) 0:=by unfold SB;decide
def SB.mono{s:SC}{n k:Nat}(h:SB s n)(hk:n<=k):SB s k:=by unfold SB at *;omega
def ajk(c:Int):Prop:=0<=c/\c<=1048576\/c=1099511627776
def ajl{c t:Int}(hc:0<=c/\c<=1048576)(ht:0<=t/\t<=1048576):0<=c*t/\c*t<=1099511627776 :=
 ⟨Int.mul_nonneg hc.1 ht.1,Int.le_trans (Int.mul_le_mul hc.2 ht.2 ht.1 Ey) Hg⟩
def SB.add{s:SC}{n:Nat}(h:SB s n){c t:Int}(hc:ajk c)(ht:0<=t/\t<=1048576):SB (FO s c t) (n+1):=by
 unfold SB FO at *;split
 ·dsimp only;omega
 ·have:=ajl (hc.resolve_right (by assumption)) ht;dsimp only;omega
def wF:List Ld->Int->Int->Int
 |[],_,_=>0
 |x::r,i,o=>if x.cls=i/\x.opt=o then x.wt else wF r i o
def vd(l:List Ld):Nat->List Int->Int
 |_,[]=>0
 |i,o::r=>wF l i o+vd l (i+1) r
def aaC:∀ (plan:List Int) (i:Nat),vd [] i plan=0
 |[],_=>rfl
 |o::r,i=>by rw[vd,wF,aaC r];rfl
def aaD(x:Ld)(l:List Ld):∀ (plan:List Int) (i:Nat),vd (x::l) i plan=vd l i plan+if(i:Int)<=x.cls/\x.cls<i+plan.length/\plan.getD (x.cls-i).toNat 0=x.opt then x.wt-wF l x.cls x.opt else 0
 |[],i=>by rw[vd,vd,if_neg Hj];rfl
 |o::r,i=>by
  rw[vd,vd,aaD x l r (i+1),wF];by_cases h:x.cls=i
  ·rw[if_neg (c:=((i+1:Nat):Int)<=x.cls/\_) Ey];rw[show(x.cls-i).toNat=0 by omega,jc,du];by_cases ho:x.opt=o
   ·rw[if_pos ⟨h,ho⟩,if_pos ⟨Ey,Ey,ho.symm⟩,h,ho];omega
   ·rw[if_neg (λh'=>ho h'.2),if_neg (λh'=>ho h'.2.2.symm)];omega
  ·rw[if_neg (c:=x.cls=i/\x.opt=o) (λh'=>h h'.1)];have e:((i+1:Nat):Int)<=x.cls/\x.cls<(i+1:Nat)+r.length/\r.getD (x.cls-(i+1:Nat)).toNat 0=x.opt↔(i:Int)<=x.cls/\x.cls<i+(o::r).length/\(o::r).getD (x.cls-i).toNat 0=x.opt:=by
    rw[du];by_cases aX:(i:Int)<x.cls
    ·rw[show(x.cls-i).toNat=(x.cls-(i+1:Nat)).toNat+1 by omega,gB];constructor
     ·rintro⟨a,b,c⟩;exact⟨Ey,Ey,c⟩
     ·rintro⟨a,b,c⟩;exact⟨Ey,Ey,c⟩
    ·constructor
     ·rintro⟨a,b,c⟩;omega
     ·rintro⟨a,b,c⟩;omega
   simp only[e];omega
def aaE:∀ (l:List Ld) (i o:Int),(∀ y∈l,¬ (y.cls=i/\y.opt=o))->wF l i o=0
 |[],_,_,_=>rfl
 |x::r,i,o,h=>by rw[wF,if_neg (h x G9),aaE r i o λy hy=>h y (by simp[hy])]
def An{m:ah}:∀ {l:List Ld} {q:Ld},eZ m (some q) l=true->∀ y∈l,q.cls<y.cls\/(q.cls=y.cls/\q.opt<y.opt)
 |[],_,_,y,hy=>by simp at hy
 |x::r,q,h,y,hy=>by
  rw[eZ]at h;simp only[bc,decide_eq_true_eq]at h;have h1:=Iw.1 h.1.2;rcases List.mem_cons.1 hy with rfl|hy
  ·exact h1
  ·have:=An h.2 y hy;omega
def aaF{m:ah}{plan:List Int}(hp:plan.length=m.cls.length):∀ {l:List Ld} {q:Option Ld} (n:Int),eZ m q l=true->Ae plan l n=n+vd l 0 plan
 |[],_,n,_=>by rw[Ae,aaC];omega
 |x::r,q,n,h=>by
  have hr:eZ m (some x) r=true:=by
   rw[eZ.eq_def]at h;simp only[bc]at h;exact h.2
  have hx:=(xQ h x G9).1;obtain⟨a,b,c,d⟩:=k0.1 hx;rw[Ae,aaF hp _ hr,aaD,aaE r x.cls x.opt (λy hy he=>by have:=An hr y hy;omega)];rw[show(x.cls-((0:Nat):Int)).toNat=x.cls.toNat by simp];by_cases e:plan.getD x.cls.toNat 0=x.opt
  ·rw[if_pos e,if_pos ⟨Ey,Ey,e⟩];omega
  ·rw[if_neg e,if_neg (λh'=>e h'.2.2)];omega
def aaG:∀ (l:List Int) (i:Nat) (x:Int),i<l.length->k8 (l.set i x)=k8 l-l.getD i 0+x
 |[],i,x,h=>by simp at h
 |y::r,0,x,_=>by simp only[List.set_cons_zero,k8,jc];omega
 |y::r,i+1,x,h=>by
  have:=aaG r i x (by simpa using h);simp only[List.set_cons_succ,k8,gB];omega
structure Rel(R:Int)(out:List Int)(s:SC)(n:Nat):Prop where
 ok:mK R out
 b0:0<=s.1
 c0:0<=s.2/\s.2<=1048576*n
 eq:s.1=0->k8 out=s.2
 ff:0<s.1->1099511627776∈out
def Rel.mono{R:Int}{out:List Int}{s:SC}{n k:Nat}(h:Rel R out s n)(hk:n<=k):Rel R out s k :=
 ⟨h.ok,h.b0,by have:=h.c0;omega,h.eq,h.ff⟩
def Rel.add{R:Int}{out:List Int}{s:SC}{n k:Nat}(h:Rel R out s n){r d c t:Int}(hr:0<=r/\r<R)(ht:0<=t)(hc:(c=1099511627776/\d=if 0<t then 1099511627776 else 0)\/(c≠1099511627776/\d=c*t/\0<=d/\d<=1048576*k))(hb:n+k<1048576):
  Rel R (ja out r d) (FO s c t) (n+k):=by
 have da:bX d:=by
  unfold bX;rcases hc with⟨_,h⟩|⟨_,_,h1,h2⟩
  ·rw[h];split<;>omega
  ·omega
 have hlen:=h.ok.1;have hi:r.toNat<out.length:=Ey;have hg:=h.ok.get r.toNat;have bR:=aF (d:=(0:Int)) hi;have hs:=NC h.ok.2 _ bR;have iP:=aaG out r.toNat (eM (out.getD r.toNat 0) d) hi;have mD:=h.c0;have l9:=h.b0;have NP:eM (out.getD r.toNat 0) d∈ja out r d:=by
  unfold ja;have:(out.set r.toNat (eM (out.getD r.toNat 0) d)).getD r.toNat 0=eM (out.getD r.toNat 0) d:=by
   rw[ay,List.getElem?_set_self hi];rfl
  have sF:=aF (l:=out.set r.toNat (eM (out.getD r.toNat 0) d)) (i:=r.toNat) (d:=0) (by simpa using hi);rwa [this]at sF
 have aaH:1099511627776∈out->1099511627776∈ja out r d:=by
  intro hm;obtain⟨j,hj,hje⟩:=List.mem_iff_getElem.1 hm;by_cases hjr:r.toNat=j
  ·subst hjr;have:out.getD r.toNat 0=1099511627776:=by rw[ay,bx hj];exact hje
   rw[this]at NP;have e:eM 1099511627776 d=1099511627776:=by unfold bX at da;unfold eM;omega
   rwa [e]at NP
  ·have:(ja out r d).getD j 0=1099511627776:=by
    unfold ja;rw[ay,gT hjr,bx hj];exact hje
   have sF:=aF (l:=ja out r d) (i:=j) (d:=0) (by unfold ja;simpa using hj);rwa [this]at sF
 unfold bX at hg da;rcases hc with⟨NQ,hd⟩|⟨NQ,hd,hd0,hdk⟩
 ·unfold FO;rw[if_pos NQ];refine⟨h.ok.add (by unfold bX;exact da),Hi,Hi,λhz=>?_,λhz=>?_⟩
  ·dsimp only at hz ⊢;have:d=0:=by rw[hd,if_neg Ey]
   rw[<- h.eq Ey];unfold ja;rw[iP];unfold eM;omega
  ·dsimp only at hz;by_cases htz:0<t
   ·have:eM (out.getD r.toNat 0) d=1099511627776:=by rw[hd,if_pos htz];unfold eM;omega
    rwa [this]at NP
   ·exact aaH (h.ff Ey)
 ·unfold FO;rw[if_neg NQ,<- hd];refine⟨h.ok.add (by unfold bX;exact da),Hi,Hi,λhz=>?_,λhz=>?_⟩
  ·dsimp only at hz ⊢;have he:=h.eq hz;unfold ja;rw[iP];unfold eM;omega
  ·exact aaH (h.ff hz)
def px(m:ah)(a x b y:Int)(p:Pr):Bool:=decide (p.fst=a/\p.snd=b/\yR m p x y=1099511627776)
def tH(m:ah)(a x b y:Int):Bool:=if b<a then m.ae.any (px m b y a x) else m.ae.any (px m a x b y)
def ajn{m:ah}{a x b y:Int}(h:a≠b):tH m a x b y=tH m b y a x:=by
 unfold tH;by_cases h1:b<a
 ·rw[if_pos h1,if_neg Ey]
 ·rw[if_neg h1,if_pos Ey]
structure CI(m:ah)(plan out mv:List Int):Prop where
 fp:FP m out
 nd:mv.Nodup
 rg:∀ x∈mv,0<=x/\x<out.length
 un:∀ y:Nat,y<out.length->¬ (y:Int)∈mv->out.getD y 0=plan.getD y 0
def NR:∀ {n:Nat} {l:List Int},l.Nodup->(∀ x∈l,0<=x/\x<n)->l.length<=n
 |0,l,h,hr=>by
  cases l with
  |nil=>simp
  |cons x r=>have:=hr x G9;omega
 |n+1,l,h,hr=>by
  by_cases hm:(n:Int)∈l
  ·have h1:=List.length_erase_of_mem hm;have h2:=NR (n:=n) (h.erase (n:Int)) λx hx=>by
    have h3:=(List.Nodup.mem_erase_iff h).1 hx;have:=hr x h3.2;omega
   omega
  ·have:=NR (n:=n) h λx hx=>by
    have:=hr x hx;have:x≠n:=λe=>hm (e▸hx);omega
   omega
def CI.len{m:ah}{plan out mv:List Int}(h:CI m plan out mv):mv.length<=out.length:=NR h.nd h.rg
def CI.step{m:ah}{plan out mv:List Int}(h:CI m plan out mv){y:Nat}(hy:y<out.length)(hm:¬ (y:Int)∈mv){o:Int}(ho:iD m (y:Nat) o=true):CI m plan (out.set y o) (mv++[(y:Int)]):=by
 refine⟨?_,?_,?_,?_⟩
 ·refine⟨by rw[bJ];exact h.fp.len,λj hj=>?_⟩;rw[bJ]at hj;by_cases e:y=j
  ·subst e;rw[ay,List.getElem?_set_self hj];exact ho
  ·rw[ay,gT e,<- ay];exact h.fp.get j hj
 ·rw[List.nodup_append];refine⟨h.nd,G9,λa ha b hb=>?_⟩;rw[cS]at hb;subst hb;intro e;subst e;exact hm ha
 ·intro x hx;rw[bJ];rcases cG.1 hx with hx|hx
  ·exact h.rg x hx
  ·rw[cS.1 hx];omega
 ·intro j hj hn;rw[bJ]at hj;rw[cG,not_or,cS]at hn;rw[ay,gT Ey,<- ay];exact h.un j hj hn.1
def CI.start{m:ah}{plan:List Int}(hp:FP m plan){c:Nat}{o:Int}(ho:iD m (c:Nat) o=true):CI m plan (plan.set c o) [(c:Int)]:=by
 have hc:c<plan.length:=by have:=k0.1 ho;have:=hp.len;omega
 have h0:CI m plan plan []:=⟨hp,G9,G9,λ_ _ _=>rfl⟩;exact h0.step hc G9 ho
end T

