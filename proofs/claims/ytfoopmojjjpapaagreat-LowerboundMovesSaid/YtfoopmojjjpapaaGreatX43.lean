import Derived.Test.YtfoopmojjjpapaaGreatX42
set_option linter.all false
set_option maxHeartbeats 0
set_option maxRecDepth 20000
open List renaming getD_cons_zero→im,getD_cons_succ→fM,getD_eq_getElem?_getD→aB,getElem?_eq_none→gj,mem_cons→bj
open Nat renaming lt_or_ge→dE,zero_add→gm
open Int renaming toNat_natCast→ep,zero_add→yX,toNat_of_nonneg→u7
open Option renaming map_some→gY,some→cm
open Bool renaming false_eq_true→iS
open Go Go.Am
namespace T
def MW(l:List Ld)(c:Int):∀ (row:List Bool) (o:Nat) (b:Int),dG l c o row b=b\/∃ i,row.getD i false=true/\dG l c o row b=fH l c (o+i:Nat) 0
 |[],_,_=>.inl rfl
 |is::r,o,b=>by
  rw[dG];split
  ·rename_i hc;rcases MW l c r (o+1) (fH l c o 0) with h|⟨i,h1,h2⟩
   ·exact .inr ⟨0,by simpa using hc.1,by rw[h];rfl⟩
   ·exact .inr ⟨i+1,by simpa using h1,by rw[h2,show o+1+i=o+(i+1) by omega]⟩
  ·rcases MW l c r (o+1) b with h|⟨i,h1,h2⟩
   ·exact .inl h
   ·exact .inr ⟨i+1,by simpa using h1,by rw[h2,show o+1+i=o+(i+1) by omega]⟩
def aaP{l:List Ld}(h:∀ x∈l,1<=x.wt/\x.wt<=1000)(c:Int):∀ (row:List Bool) (o:Nat) (b:Int) (i:Nat),row.getD i false=true->0<=dG l c o row b
 |[],_,b,i,hi=>by simp at hi
 |is::r,o,b,0,hi=>by
  rw[im]at hi;have hw:=yg h c o 0 Ix;rw[dG];split
  ·exact(Ce h c r (o+1) _ hw.1).1
  ·rename_i hc;have hb:0<=b:=by
    rcases Int.lt_or_le b 0 with h2|h2
    ·exact absurd ⟨hi,.inl h2⟩ hc
    ·exact h2
   exact(Ce h c r (o+1) b hb).1
 |is::r,o,b,i+1,hi=>by
  rw[fM]at hi;rw[dG];exact aaP h c r (o+1) _ i hi
def aaQ{f:Nat->Int}:∀ {n:Nat},(∀ i<n,0<=f i)->(0<=bD f n/\(0<bD f n↔∃ i,i<n/\0<f i))
 |0,_=>by simp[bD]
 |n+1,h=>by
  obtain⟨h1,h2⟩:=aaQ (n:=n) λi hi=>h i Ix;have h3:=h n Ix;rw[bD];refine⟨Ix,λh4=>?_,?_⟩
  ·by_cases h5:0<bD f n
   ·obtain⟨i,hi,hf⟩:=h2.1 h5;exact⟨i,Ix,hf⟩
   ·exact⟨n,Ix,Ix⟩
  ·rintro⟨i,hi,hf⟩;by_cases e:i=n
   ·subst e;omega
   ·have:=h2.2 ⟨i,Ix,hf⟩;omega
def aaR(f g:Nat->Int):∀ n,bD f n-bD g n=bD (λi=>f i-g i) n
 |0=>rfl
 |n+1=>by rw[bD,bD,bD,<- aaR f g n];omega
def aaS:∀ (row:List Bool) (n:Int),wg row n=n+bD (λo=>if row.getD o false=true then 1 else 0) row.length
 |[],n=>by simp[wg,bD]
 |b::r,n=>by
  rw[wg,aaS r,List.length_cons,yr];simp only[im,fM];split<;>omega
def MX{m:ah}{q:Option Ld}{x:Ld}{r:List Ld}(h:er m q (x::r)=true):er m (some x) r=true:=by
 cases q<;>rw[er]at h<;>simp only[Bool.and_eq_true]at h<;>exact h.2
open Classical in
def aaT{m:ah}(c:Int)(row:List Bool):∀ {l:List Ld} {q:Option Ld},er m q l=true->∀ z:Int×Int,
  (oS c row l z).1=z.1-bD (λo=>if row.getD o false=true/\∃ x∈l,x.cls=c/\x.opt=(o:Int) then 1 else 0) row.length
 |[],_,_,z=>by
  rw[iN (g:=λ_=>0) _ λi _=>Iy];have:∀ n,bD (λ_=>0) n=0:=λn=>by induction n with|zero=>rfl|succ n ih=>rw[bD,ih];rfl
  rw[this,oS];omega
 |x::r,q,h,z=>by
  have hr:=MX h;have hx:=(kR.1 (vH h x Iy).1).2.2.1;rw[oS,aaT c row hr];by_cases hc:x.cls=c/\row.getD x.opt.toNat false=true
  ·rw[if_pos hc];have hk:x.opt.toNat<row.length:=by
    rcases dE x.opt.toNat row.length with h'|h'
    ·exact h'
    ·rw[aB,gj h']at hc;simp at hc
   rw[iN (f:=λo=>if row.getD o false=true/\∃ y∈x::r,y.cls=c/\y.opt=(o:Int) then 1 else 0) (g:=λo=>if o=x.opt.toNat then(if row.getD o false=true/\∃ y∈r,y.cls=c/\y.opt=(o:Int) then 1 else 0)+1 else(if row.getD o false=true/\∃ y∈r,y.cls=c/\y.opt=(o:Int) then 1 else 0)) _ λo _=>by
    by_cases e:o=x.opt.toNat
    ·subst e;rw[if_pos ⟨hc.2,x,Iy,hc.1,Ix⟩,if_pos rfl,if_neg (by rintro⟨_,y,hy,h1,h2⟩;have:=yz hr y hy;omega)];rfl
    ·rw[if_neg e];congr 1;rw[eq_iff_iff];refine and_congr_right λ_=>⟨?_,λ⟨y,hy,h1⟩=>⟨y,by simp[hy],h1⟩⟩;rintro⟨y,hy,h1,h2⟩;rcases bj.1 hy with rfl|hy
     ·omega
     ·exact⟨y,hy,h1,h2⟩,yq,if_pos hk]
   dsimp only;omega
  ·rw[if_neg hc];rw[iN (f:=λo=>if row.getD o false=true/\∃ y∈x::r,y.cls=c/\y.opt=(o:Int) then 1 else 0) (g:=λo=>if row.getD o false=true/\∃ y∈r,y.cls=c/\y.opt=(o:Int) then 1 else 0) _ λo _=>by
    congr 1;rw[eq_iff_iff];refine and_congr_right λBr=>⟨?_,λ⟨y,hy,h1⟩=>⟨y,by simp[hy],h1⟩⟩;rintro⟨y,hy,h1,h2⟩;rcases bj.1 hy with rfl|hy
    ·exact absurd ⟨h1,by rw[h2,ep];exact Br⟩ hc
    ·exact⟨y,hy,h1,h2⟩]
def aaU(c:Int)(row:List Bool):∀ {l:List Ld},(∀ x∈l,1<=x.wt)->∀ z:Int×Int,
  (∀ x∈l,x.cls=c/\row.getD x.opt.toNat false=true->0<=(oS c row l z).2/\(oS c row l z).2<=x.wt)/\(0<=z.2->0<=(oS c row l z).2/\(oS c row l z).2<=z.2) /\
   ((oS c row l z).2=z.2\/∃ x∈l,(x.cls=c/\row.getD x.opt.toNat false=true)/\(oS c row l z).2=x.wt)
 |[],_,z=>⟨Iy,λh=>⟨h,Int.le_refl _⟩,.inl rfl⟩
 |x::r,h,z=>by
  obtain⟨h1,h2,h3⟩:=aaU c row (l:=r) (λy hy=>h y (by simp[hy])) (if x.cls=c/\row.getD x.opt.toNat false=true then(z.1-1,if z.2<0\/x.wt<z.2 then x.wt else z.2) else z);have hx:=h x Iy;rw[oS];generalize oS c row r _=w at *;by_cases hc:x.cls=c/\row.getD x.opt.toNat false=true
  ·rw[if_pos hc]at h2 h3;dsimp only at h2 h3;refine⟨λy hy zo=>?_,λhz=>?_,?_⟩
   ·rcases bj.1 hy with rfl|hy
    ·split at h2<;>omega
    ·exact h1 y hy zo
   ·split at h2<;>omega
   ·rcases h3 with h3|⟨y,hy,h3⟩
    ·split at h3
     ·exact .inr ⟨x,Iy,hc,h3⟩
     ·exact .inl h3
    ·exact .inr ⟨y,by simp[hy],h3⟩
  ·rw[if_neg hc]at h2 h3;refine⟨λy hy zo=>?_,h2,?_⟩
   ·rcases bj.1 hy with rfl|hy
    ·exact absurd zo hc
    ·exact h1 y hy zo
   ·rcases h3 with h3|⟨y,hy,h3⟩
    ·exact .inl h3
    ·exact .inr ⟨y,by simp[hy],h3⟩
def MY{m:ah}:∀ {l:List Ld} {q:Option Ld},er m q l=true->∀ x∈l,∀ w,fH l x.cls x.opt w=x.wt
 |[],_,_,x,hx,w=>by simp at hx
 |y::r,q,h,x,hx,w=>by
  have hr:=MX h;rw[fH];rcases bj.1 hx with rfl|hx
  ·rw[if_pos ⟨rfl,rfl⟩];exact H0 r _ _ _ λz hz he=>by have:=yz hr z hz;omega
  ·exact MY hr x hx _
open Classical in
def akw{m:ah}{l:List Ld}{q:Option Ld}(hl:er m q l=true)(c:Int)(row:List Bool):yR l c row=lX l c row:=by
 have hw:∀ x∈l,1<=x.wt/\x.wt<=1000:=λx hx=>(vH hl x hx).2;have h1:=aaT c row hl (wg row 0,-1);obtain⟨h2,_,h3⟩:=aaU c row (λx hx=>(hw x hx).1) (wg row 0,-1);unfold yR;generalize oS c row l (wg row 0,-1)=z at *;rw[aaS,yX,aaR]at h1;obtain⟨h4,h5⟩:=aaQ (f:=λi=>(if row.getD i false=true then(1:Int) else 0)-if row.getD i false=true/\∃ x∈l,x.cls=c/\x.opt=(i:Int) then 1 else 0) (n:=row.length) λi _=>by
  (repeat' split)<;>simp_all
 rw[<- h1]at h4 h5;have hlen:∀ i,row.getD i false=true->i<row.length:=λi h'=>by
  rcases dE i row.length with h6|h6
  ·exact h6
  ·rw[aB,gj h6]at h';simp at h'
 have l':∀ x∈l,0<=x.opt:=λx hx=>(kR.1 (vH hl x hx).1).2.2.1;by_cases hex :∃o,row.getD o false=true/\¬∃x∈l,x.cls=c/\x.opt=(o:Int)
 ·obtain⟨o,ho,qf⟩:=hex;rw[if_pos (.inl (h5.2 ⟨o,hlen o ho,by rw[if_pos ho,if_neg (by rintro⟨_,h'⟩;exact qf h')];decide⟩))];have h6:=H2 hw c row 0 (-1) o ho;rw[gm,H0 l c o 0 λy hy he=>qf ⟨y,hy,he⟩]at h6;unfold lX;omega
 have gf:∀ o,row.getD o false=true->∃ x∈l,x.cls=c/\x.opt=(o:Int):=λo ho=>Classical.byContradiction λh'=>hex ⟨o,ho,h'⟩;have hz:¬ 0<z.1:=λh'=>by
  obtain⟨i,hi,h6⟩:=h5.1 h';by_cases hr:row.getD i false=true
  ·rw[if_pos hr,if_pos ⟨hr,gf i hr⟩]at h6;omega
  ·rw[if_neg hr,if_neg (λh7=>hr h7.1)]at h6;omega
 by_cases xl :∃o,row.getD o false=true
 ·obtain⟨o,ho⟩:=xl;obtain⟨x,hx,ui,wa⟩:=gf o ho;obtain⟨g1,g2⟩:=h2 x hx ⟨ui,by rw[wa,ep];exact ho⟩;rw[if_neg Ix];have g3:=aaP hw c row 0 (-1) o ho;unfold lX;rw[Int.max_eq_left g3];refine Int.le_antisymm ?_ ?_
  ·rcases MW l c row 0 (-1) with e|⟨i,hi,e⟩
   ·omega
   ·obtain⟨y,hy,qo,hyo⟩:=gf i hi;rw[e,gm,<- hyo,<- qo,MY hl y hy];exact(h2 y hy ⟨qo,by rw[hyo,ep];exact hi⟩).2
  ·rcases h3 with e|⟨y,hy,⟨qo,Cg⟩,e⟩
   ·dsimp only at e;omega
   ·have h6:=H2 hw c row 0 (-1) _ Cg;rw[gm,u7 (l' y hy),<- qo,MY hl y hy]at h6;rw[<- qo];omega
 ·have e:z.2 = -1:=by
   rcases h3 with e|⟨y,hy,⟨qo,Cg⟩,e⟩
   ·exact e
   ·exact absurd ⟨_,Cg⟩ xl
  rw[if_pos (.inr Ix),lX,MU l c row 0 (-1) λi=>by
   cases h':row.getD i false with
   |false=>rfl
   |true=>exact absurd ⟨i,h'⟩ xl]
  rfl
open Classical in
def aaW{m:ah}(L:List Ld)(left:List (List Bool)){N:Nat}(hN:m.cls.length<=N):∀ {r:List Ld} {q:Option Ld},er m q r=true->∀ n:Int,
  Cf L left (q.map (·.cls)) r n=n+bD (λj=>if(∃ x∈r,x.cls=(j:Int))/\q.map (·.cls)≠some (j:Int) then yR L j (left.getD j default) else 0) N
 |[],_,_,n=>by
  rw[iN (g:=λ_=>0) _ λi _=>Iy];have:∀ n,bD (λ_=>0) n=0:=λn=>by induction n with|zero=>rfl|succ n ih=>rw[bD,ih];rfl
  rw[this,Cf];omega
 |x::r,q,h,n=>by
  have hr:=MX h;obtain⟨hx0,hx1,_⟩:=kR.1 (vH h x Iy).1;have h0:=aaW L left hN hr;simp only[gY]at h0;rw[Cf,h0];by_cases hq:q.map (·.cls)=some x.cls
  ·rw[if_pos hq,hq];congr 1;refine iN _ λj _=>?_;congr 1;rw[eq_iff_iff];simp only[ne_eq,cm.injEq];refine and_congr_left λhj=>⟨λ⟨y,hy,e⟩=>⟨y,by simp[hy],e⟩,?_⟩;rintro⟨y,hy,e⟩;rcases bj.1 hy with rfl|hy
   ·exact absurd e hj
   ·exact⟨y,hy,e⟩
  ·rw[if_neg hq,iN (f:=λj=>if(∃ y∈x::r,y.cls=(j:Int))/\q.map (·.cls)≠some (j:Int) then yR L j (left.getD j default) else 0)
    (g:=λj=>if j=x.cls.toNat then(if(∃ y∈r,y.cls=(j:Int))/\some x.cls≠some (j:Int) then yR L j (left.getD j default) else 0)+yR L x.cls (left.getD x.cls.toNat default) else(if(∃ y∈r,y.cls=(j:Int))/\some x.cls≠some (j:Int) then yR L j (left.getD j default) else 0)) _ λj _=>by
    have H':((x.cls.toNat:Nat):Int)=x.cls:=u7 hx0;by_cases e:j=x.cls.toNat
    ·subst e;rw[if_pos ⟨⟨x,Iy,H'.symm⟩,by rw[H'];exact hq⟩,if_pos rfl,if_neg (by rw[H'];simp),H'];omega
    ·rw[if_neg e];congr 1;rw[eq_iff_iff];constructor
     ·rintro⟨⟨y,hy,MZ⟩,_⟩;rcases bj.1 hy with rfl|hy
      ·omega
      ·exact⟨⟨y,hy,MZ⟩,by simp only[ne_eq,cm.injEq];omega⟩
     ·rintro⟨⟨y,hy,MZ⟩,_⟩;refine⟨⟨y,by simp[hy],MZ⟩,λhqj=>?_⟩;cases q with
      |none=>simp at hqj
      |some q =>
       have h6:=yz h y (by simp[hy]);have h7:=yz h x Iy;have h8:=yz hr y hy;simp only[gY,cm.injEq]at hqj hq;omega,yq,if_pos Ix]
   omega
def akx{m:ah}(hm:VM m){left:List (List Bool)}(hf:df m left){c:Ct}(hc:iV m c=true):
  Ey left c=iM left c/\(Ey left c=1099511627776↔(decide (c.bX=1099511627776)&&decide (0<iM left c))=true):=by
 obtain⟨_,q2,q3,q4⟩:=sY hc;have hw:∀ x∈c.aY,1<=x.wt/\x.wt<=1000:=λx hx=>(vH q4 x hx).2;have hs:Cf c.aY left none c.aY (-c.most) = -c.most+jN c.aY 0 left 0:=by
  have:=aaW (m:=m) c.aY left (Nat.le_refl _) (q:=none) q4 (-c.most);rw[Option.map_none]at this;rw[this,BD,yX,hf.1];congr 1;refine iN _ λj _=>?_;rw[gm];split
  ·exact akw q4 _ _
  ·rename_i hn;rw[Wq λx hx e=>hn ⟨⟨x,hx,e⟩,Iy⟩]
 have hr:=C6 hw left;have Mz:=hm.cls;rw[hf.1]at hr;unfold Ey iM;rw[hs];generalize jN c.aY 0 left 0=s at *;unfold aaJ kQ;unfold jk at q3;rw[decide_eq_true_eq]at q3;by_cases h0:s<=c.most
 ·rw[Int.max_eq_right Ix,if_neg Ix,if_pos h0];simp<;>omega
 rw[Int.max_eq_left Ix,if_neg h0,show -c.most+s=s-c.most by omega];rcases q3 with q3|q3
 ·rw[if_neg Ix];have h1:(s-c.most)*c.bX<=24000*1048576:=Int.mul_le_mul Ix Ix Ix Ix;refine⟨rfl,?_⟩;rw[decide_eq_false (by omega:¬ c.bX=1099511627776),Bool.false_and];constructor
  ·intro h;omega
  ·intro h;simp at h
 ·rw[q3,if_pos ⟨Ix,rfl⟩,show min ((s-c.most)*1099511627776) 1099511627776=(1099511627776:Int) by omega];simp
def aaY{m:ah}(hm:VM m){left:List (List Bool)}(hf:df m left):∀ (k i:Nat) (n:Int),i+k=m.aC.length->EA left (m.aC.drop i) n=jy ((List.range' i k).map λj=>rS m left j) n
 |0,i,n,h=>by rw[List.drop_eq_nil_of_le Ix];rfl
 |k+1,i,n,h=>by
  have hi:i<m.aC.length:=Ix;obtain⟨h1,h2⟩:=akx hm hf (hm.ct _ (aG (d:=default) hi));rw[j2 m.aC i default hi,EA,List.range'_succ,List.map_cons,jy,aaY hm hf k (i+1) _ Ix];unfold rS;dsimp only;rw[h1]at h2 ⊢;by_cases h3:iM left (m.aC.getD i default)=1099511627776
  ·rw[if_pos h3,h2.1 h3];rfl
  ·rw[if_neg h3];cases hb:(decide ((m.aC.getD i default).bX=1099511627776)&&decide (0<iM left (m.aC.getD i default))) with
   |true=>exact absurd (h2.2 hb) h3
   |false=>rfl
def XN{m:ah}(hm:VM m){left:List (List Bool)}(hf:df m left):BO m left=lq m left (S0 m,T0 m):=by
 have h1:=aaN hm left m.cls.length 0 0 Ix;have h2:=λn=>aaO hm hf m.ae.length 0 n Ix;have h3:=λn=>aaY hm hf m.aC.length 0 n Ix;simp only[List.drop_zero,<- List.range_eq_range']at h1 h2 h3;unfold BO lq;rw[h1];show EB (EC m left (H8 m left (jy (PC left (S0 m) m.cls.length) 0)))=_;have h2':∀ n,Ez m left m.ae n=jy (PP m left (T0 m) m.ae.length) n:=h2;have M0:∀ n,EA left m.aC n=jy (PK m left m.aC.length) n:=h3;rw[H9];generalize bJ (PC left (S0 m) m.cls.length) (0,false)=z;obtain⟨a,b⟩:=z;cases b
 ·simp only[H8,h2',H9,iS,if_false];generalize bJ (PP m left (T0 m) m.ae.length) (a,false)=z;obtain⟨a2,b2⟩:=z;cases b2
  ·simp only[EC,M0,H9,iS,if_false];generalize bJ (PK m left m.aC.length) (a2,false)=z;obtain⟨a3,b3⟩:=z;cases b3<;>simp[EB]
  ·simp only[if_true,EC,EB,DB]
 ·simp only[if_true,H8,EC,EB];have:∀ l n,(bJ l (n,true))=((bJ l (n,true)).1,true):=λl n=>Prod.ext rfl (DB l n);rw[this,this (PK m left m.aC.length)];rfl
end T

