import Derived.Test.YtfoopmojjjpapaaGreatX35
set_option linter.all false
set_option maxHeartbeats 0
set_option maxRecDepth 20000
open List renaming getD_cons_zero→ik,getD_cons_succ→e7,getD_eq_getElem?_getD→az,getElem?_eq_none→dK,mem_cons→bw
open Nat renaming lt_or_ge→dP,zero_add→gJ
open Int renaming toNat_natCast→c7,zero_add→Ax,toNat_of_nonneg→wF
open Option renaming map_some→eH,some→cA
open Bool renaming false_eq_true→jo
open Go Go.Am
namespace T
def Ml(l:List Ld)(c:Int):∀ (row:List Bool) (o:Nat) (b:Int),dX l c o row b=b\/∃ i,row.getD i false=true/\dX l c o row b=gj l c (o+i:Nat) 0
 |[],_,_=>.inl rfl
 |is::r,o,b=>by
  rw[dX];split
  ·rename_i hc;rcases Ml l c r (o+1) (gj l c o 0) with h|⟨i,h1,h2⟩
   ·exact .inr ⟨0,by simpa using hc.1,by rw[h];rfl⟩
   ·exact .inr ⟨i+1,by simpa using h1,by rw[h2,show o+1+i=o+(i+1) by omega]⟩
  ·rcases Ml l c r (o+1) b with h|⟨i,h1,h2⟩
   ·exact .inl h
   ·exact .inr ⟨i+1,by simpa using h1,by rw[h2,show o+1+i=o+(i+1) by omega]⟩
def TA{l:List Ld}(h:∀ x∈l,1<=x.wt/\x.wt<=1000)(c:Int):∀ (row:List Bool) (o:Nat) (b:Int) (i:Nat),row.getD i false=true->0<=dX l c o row b
 |[],_,b,i,hi=>by simp at hi
 |is::r,o,b,0,hi=>by
  rw[ik]at hi;have hw:=zG h c o 0 GK;rw[dX];split
  ·exact(CY h c r (o+1) _ hw.1).1
  ·rename_i hc;have hb:0<=b:=by
    rcases Int.lt_or_le b 0 with h2|h2
    ·exact absurd ⟨hi,.inl h2⟩ hc
    ·exact h2
   exact(CY h c r (o+1) b hb).1
 |is::r,o,b,i+1,hi=>by
  rw[e7]at hi;rw[dX];exact TA h c r (o+1) _ i hi
def TB{f:Nat->Int}:∀ {n:Nat},(∀ i<n,0<=f i)->(0<=bN f n/\(0<bN f n↔∃ i,i<n/\0<f i))
 |0,_=>by simp[bN]
 |n+1,h=>by
  obtain⟨h1,h2⟩:=TB (n:=n) λi hi=>h i GK;have h3:=h n GK;rw[bN];refine⟨GK,λh4=>?_,?_⟩
  ·by_cases h5:0<bN f n
   ·obtain⟨i,hi,hf⟩:=h2.1 h5;exact⟨i,GK,hf⟩
   ·exact⟨n,GK,GK⟩
  ·rintro⟨i,hi,hf⟩;by_cases e:i=n
   ·subst e;omega
   ·have:=h2.2 ⟨i,GK,hf⟩;omega
def TC(f g:Nat->Int):∀ n,bN f n-bN g n=bN (λi=>f i-g i) n
 |0=>rfl
 |n+1=>by rw[bN,bN,bN,<- TC f g n];omega
def TD:∀ (row:List Bool) (n:Int),w0 row n=n+bN (λo=>if row.getD o false=true then 1 else 0) row.length
 |[],n=>by simp[w0,bN]
 |b::r,n=>by
  rw[w0,TD r,List.length_cons,zH];simp only[ik,e7];split<;>omega
def Mm{m:ah}{q:Option Ld}{x:Ld}{r:List Ld}(h:eO m q (x::r)=true):eO m (some x) r=true:=by
 cases q<;>rw[eO]at h<;>simp only[Bool.and_eq_true]at h<;>exact h.2
open Classical in
def TE{m:ah}(c:Int)(row:List Bool):∀ {l:List Ld} {q:Option Ld},eO m q l=true->∀ z:Int×Int,
  (pH c row l z).1=z.1-bN (λo=>if row.getD o false=true/\∃ x∈l,x.cls=c/\x.opt=(o:Int) then 1 else 0) row.length
 |[],_,_,z=>by
  rw[jf (g:=λ_=>0) _ λi _=>GM];have:∀ n,bN (λ_=>0) n=0:=λn=>by induction n with|zero=>rfl|succ n ih=>rw[bN,ih];rfl
  rw[this,pH];omega
 |x::r,q,h,z=>by
  have hr:=Mm h;have hx:=(jN.1 (w5 h x GM).1).2.2.1;rw[pH,TE c row hr];by_cases hc:x.cls=c/\row.getD x.opt.toNat false=true
  ·rw[if_pos hc];have hk:x.opt.toNat<row.length:=by
    rcases dP x.opt.toNat row.length with h'|h'
    ·exact h'
    ·rw[az,dK h']at hc;simp at hc
   rw[jf (f:=λo=>if row.getD o false=true/\∃ y∈x::r,y.cls=c/\y.opt=(o:Int) then 1 else 0) (g:=λo=>if o=x.opt.toNat then(if row.getD o false=true/\∃ y∈r,y.cls=c/\y.opt=(o:Int) then 1 else 0)+1 else(if row.getD o false=true/\∃ y∈r,y.cls=c/\y.opt=(o:Int) then 1 else 0)) _ λo _=>by
    by_cases e:o=x.opt.toNat
    ·subst e;rw[if_pos ⟨hc.2,x,GM,hc.1,GK⟩,if_pos rfl,if_neg (by rintro⟨_,y,hy,h1,h2⟩;have:=zI hr y hy;omega)];rfl
    ·rw[if_neg e];congr 1;rw[eq_iff_iff];refine and_congr_right λ_=>⟨?_,λ⟨y,hy,h1⟩=>⟨y,by simp[hy],h1⟩⟩;rintro⟨y,hy,h1,h2⟩;rcases bw.1 hy with rfl|hy
     ·omega
     ·exact⟨y,hy,h1,h2⟩,zJ,if_pos hk]
   dsimp only;omega
  ·rw[if_neg hc];rw[jf (f:=λo=>if row.getD o false=true/\∃ y∈x::r,y.cls=c/\y.opt=(o:Int) then 1 else 0) (g:=λo=>if row.getD o false=true/\∃ y∈r,y.cls=c/\y.opt=(o:Int) then 1 else 0) _ λo _=>by
    congr 1;rw[eq_iff_iff];refine and_congr_right λCZ=>⟨?_,λ⟨y,hy,h1⟩=>⟨y,by simp[hy],h1⟩⟩;rintro⟨y,hy,h1,h2⟩;rcases bw.1 hy with rfl|hy
    ·exact absurd ⟨h1,by rw[h2,c7];exact CZ⟩ hc
    ·exact⟨y,hy,h1,h2⟩]
def TF(c:Int)(row:List Bool):∀ {l:List Ld},(∀ x∈l,1<=x.wt)->∀ z:Int×Int,
  (∀ x∈l,x.cls=c/\row.getD x.opt.toNat false=true->0<=(pH c row l z).2/\(pH c row l z).2<=x.wt)/\(0<=z.2->0<=(pH c row l z).2/\(pH c row l z).2<=z.2) /\
   ((pH c row l z).2=z.2\/∃ x∈l,(x.cls=c/\row.getD x.opt.toNat false=true)/\(pH c row l z).2=x.wt)
 |[],_,z=>⟨GM,λh=>⟨h,Int.le_refl _⟩,.inl rfl⟩
 |x::r,h,z=>by
  obtain⟨h1,h2,h3⟩:=TF c row (l:=r) (λy hy=>h y (by simp[hy])) (if x.cls=c/\row.getD x.opt.toNat false=true then(z.1-1,if z.2<0\/x.wt<z.2 then x.wt else z.2) else z);have hx:=h x GM;rw[pH];generalize pH c row r _=w at *;by_cases hc:x.cls=c/\row.getD x.opt.toNat false=true
  ·rw[if_pos hc]at h2 h3;dsimp only at h2 h3;refine⟨λy hy AX=>?_,λhz=>?_,?_⟩
   ·rcases bw.1 hy with rfl|hy
    ·split at h2<;>omega
    ·exact h1 y hy AX
   ·split at h2<;>omega
   ·rcases h3 with h3|⟨y,hy,h3⟩
    ·split at h3
     ·exact .inr ⟨x,GM,hc,h3⟩
     ·exact .inl h3
    ·exact .inr ⟨y,by simp[hy],h3⟩
  ·rw[if_neg hc]at h2 h3;refine⟨λy hy AX=>?_,h2,?_⟩
   ·rcases bw.1 hy with rfl|hy
    ·exact absurd AX hc
    ·exact h1 y hy AX
   ·rcases h3 with h3|⟨y,hy,h3⟩
    ·exact .inl h3
    ·exact .inr ⟨y,by simp[hy],h3⟩
def Mn{m:ah}:∀ {l:List Ld} {q:Option Ld},eO m q l=true->∀ x∈l,∀ w,gj l x.cls x.opt w=x.wt
 |[],_,_,x,hx,w=>by simp at hx
 |y::r,q,h,x,hx,w=>by
  have hr:=Mm h;rw[gj];rcases bw.1 hx with rfl|hx
  ·rw[if_pos ⟨rfl,rfl⟩];exact HY r _ _ _ λz hz he=>by have:=zI hr z hz;omega
  ·exact Mn hr x hx _
open Classical in
def agW{m:ah}{l:List Ld}{q:Option Ld}(hl:eO m q l=true)(c:Int)(row:List Bool):zK l c row=mP l c row:=by
 have hw:∀ x∈l,1<=x.wt/\x.wt<=1000:=λx hx=>(w5 hl x hx).2;have h1:=TE c row hl (w0 row 0,-1);obtain⟨h2,_,h3⟩:=TF c row (λx hx=>(hw x hx).1) (w0 row 0,-1);unfold zK;generalize pH c row l (w0 row 0,-1)=z at *;rw[TD,Ax,TC]at h1;obtain⟨h4,h5⟩:=TB (f:=λi=>(if row.getD i false=true then(1:Int) else 0)-if row.getD i false=true/\∃ x∈l,x.cls=c/\x.opt=(i:Int) then 1 else 0) (n:=row.length) λi _=>by
  (repeat' split)<;>simp_all
 rw[<- h1]at h4 h5;have hlen:∀ i,row.getD i false=true->i<row.length:=λi h'=>by
  rcases dP i row.length with h6|h6
  ·exact h6
  ·rw[az,dK h6]at h';simp at h'
 have mQ:∀ x∈l,0<=x.opt:=λx hx=>(jN.1 (w5 hl x hx).1).2.2.1;by_cases hex :∃o,row.getD o false=true/\¬∃x∈l,x.cls=c/\x.opt=(o:Int)
 ·obtain⟨o,ho,kE⟩:=hex;rw[if_pos (.inl (h5.2 ⟨o,hlen o ho,by rw[if_pos ho,if_neg (by rintro⟨_,h'⟩;exact kE h')];decide⟩))];have h6:=HZ hw c row 0 (-1) o ho;rw[gJ,HY l c o 0 λy hy he=>kE ⟨y,hy,he⟩]at h6;unfold mP;omega
 have dY:∀ o,row.getD o false=true->∃ x∈l,x.cls=c/\x.opt=(o:Int):=λo ho=>Classical.byContradiction λh'=>hex ⟨o,ho,h'⟩;have hz:¬ 0<z.1:=λh'=>by
  obtain⟨i,hi,h6⟩:=h5.1 h';by_cases hr:row.getD i false=true
  ·rw[if_pos hr,if_pos ⟨hr,dY i hr⟩]at h6;omega
  ·rw[if_neg hr,if_neg (λh7=>hr h7.1)]at h6;omega
 by_cases ym :∃o,row.getD o false=true
 ·obtain⟨o,ho⟩:=ym;obtain⟨x,hx,vw,w6⟩:=dY o ho;obtain⟨g1,g2⟩:=h2 x hx ⟨vw,by rw[w6,c7];exact ho⟩;rw[if_neg GK];have g3:=TA hw c row 0 (-1) o ho;unfold mP;rw[Int.max_eq_left g3];refine Int.le_antisymm ?_ ?_
  ·rcases Ml l c row 0 (-1) with e|⟨i,hi,e⟩
   ·omega
   ·obtain⟨y,hy,rp,TG⟩:=dY i hi;rw[e,gJ,<- TG,<- rp,Mn hl y hy];exact(h2 y hy ⟨rp,by rw[TG,c7];exact hi⟩).2
  ·rcases h3 with e|⟨y,hy,⟨rp,C0⟩,e⟩
   ·dsimp only at e;omega
   ·have h6:=HZ hw c row 0 (-1) _ C0;rw[gJ,wF (mQ y hy),<- rp,Mn hl y hy]at h6;rw[<- rp];omega
 ·have e:z.2 = -1:=by
   rcases h3 with e|⟨y,hy,⟨rp,C0⟩,e⟩
   ·exact e
   ·exact absurd ⟨_,C0⟩ ym
  rw[if_pos (.inr GK),mP,Mo l c row 0 (-1) λi=>by
   cases h':row.getD i false with
   |false=>rfl
   |true=>exact absurd ⟨i,h'⟩ ym]
  rfl
open Classical in
def TH{m:ah}(L:List Ld)(left:List (List Bool)){N:Nat}(hN:m.cls.length<=N):∀ {r:List Ld} {q:Option Ld},eO m q r=true->∀ n:Int,
  C1 L left (q.map (·.cls)) r n=n+bN (λj=>if(∃ x∈r,x.cls=(j:Int))/\q.map (·.cls)≠some (j:Int) then zK L j (left.getD j default) else 0) N
 |[],_,_,n=>by
  rw[jf (g:=λ_=>0) _ λi _=>GM];have:∀ n,bN (λ_=>0) n=0:=λn=>by induction n with|zero=>rfl|succ n ih=>rw[bN,ih];rfl
  rw[this,C1];omega
 |x::r,q,h,n=>by
  have hr:=Mm h;obtain⟨hx0,C2,_⟩:=jN.1 (w5 h x GM).1;have h0:=TH L left hN hr;simp only[eH]at h0;rw[C1,h0];by_cases hq:q.map (·.cls)=some x.cls
  ·rw[if_pos hq,hq];congr 1;refine jf _ λj _=>?_;congr 1;rw[eq_iff_iff];simp only[ne_eq,cA.injEq];refine and_congr_left λhj=>⟨λ⟨y,hy,e⟩=>⟨y,by simp[hy],e⟩,?_⟩;rintro⟨y,hy,e⟩;rcases bw.1 hy with rfl|hy
   ·exact absurd e hj
   ·exact⟨y,hy,e⟩
  ·rw[if_neg hq,jf (f:=λj=>if(∃ y∈x::r,y.cls=(j:Int))/\q.map (·.cls)≠some (j:Int) then zK L j (left.getD j default) else 0)
    (g:=λj=>if j=x.cls.toNat then(if(∃ y∈r,y.cls=(j:Int))/\some x.cls≠some (j:Int) then zK L j (left.getD j default) else 0)+zK L x.cls (left.getD x.cls.toNat default) else(if(∃ y∈r,y.cls=(j:Int))/\some x.cls≠some (j:Int) then zK L j (left.getD j default) else 0)) _ λj _=>by
    have H0:((x.cls.toNat:Nat):Int)=x.cls:=wF hx0;by_cases e:j=x.cls.toNat
    ·subst e;rw[if_pos ⟨⟨x,GM,H0.symm⟩,by rw[H0];exact hq⟩,if_pos rfl,if_neg (by rw[H0];simp),H0];omega
    ·rw[if_neg e];congr 1;rw[eq_iff_iff];constructor
     ·rintro⟨⟨y,hy,Mp⟩,_⟩;rcases bw.1 hy with rfl|hy
      ·omega
      ·exact⟨⟨y,hy,Mp⟩,by simp only[ne_eq,cA.injEq];omega⟩
     ·rintro⟨⟨y,hy,Mp⟩,_⟩;refine⟨⟨y,by simp[hy],Mp⟩,λTI=>?_⟩;cases q with
      |none=>simp at TI
      |some q =>
       have h6:=zI h y (by simp[hy]);have h7:=zI h x GM;have h8:=zI hr y hy;simp only[eH,cA.injEq]at TI hq;omega,zJ,if_pos GK]
   omega
def agX{m:ah}(hm:VM m){left:List (List Bool)}(hf:dh m left){c:Ct}(hc:jv m c=true):
  EJ left c=jg left c/\(EJ left c=1099511627776↔(decide (c.cf=1099511627776)&&decide (0<jg left c))=true):=by
 obtain⟨_,q2,q3,q4⟩:=ux hc;have hw:∀ x∈c.bh,1<=x.wt/\x.wt<=1000:=λx hx=>(w5 q4 x hx).2;have hs:C1 c.bh left none c.bh (-c.most) = -c.most+kk c.bh 0 left 0:=by
  have:=TH (m:=m) c.bh left (Nat.le_refl _) (q:=none) q4 (-c.most);rw[Option.map_none]at this;rw[this,C3,Ax,hf.1];congr 1;refine jf _ λj _=>?_;rw[gJ];split
  ·exact agW q4 _ _
  ·rename_i hn;rw[TJ λx hx e=>hn ⟨⟨x,hx,e⟩,GM⟩]
 have hr:=EK hw left;have Mq:=hm.cls;rw[hf.1]at hr;unfold EJ jg;rw[hs];generalize kk c.bh 0 left 0=s at *;unfold TK lK;unfold jO at q3;rw[decide_eq_true_eq]at q3;by_cases h0:s<=c.most
 ·rw[Int.max_eq_right GK,if_neg GK,if_pos h0];simp<;>omega
 rw[Int.max_eq_left GK,if_neg h0,show -c.most+s=s-c.most by omega];rcases q3 with q3|q3
 ·rw[if_neg GK];have h1:(s-c.most)*c.cf<=24000*1048576:=Int.mul_le_mul GK GK GK GK;refine⟨rfl,?_⟩;rw[decide_eq_false (by omega:¬ c.cf=1099511627776),Bool.false_and];constructor
  ·intro h;omega
  ·intro h;simp at h
 ·rw[q3,if_pos ⟨GK,rfl⟩,show min ((s-c.most)*1099511627776) 1099511627776=(1099511627776:Int) by omega];simp
def TL{m:ah}(hm:VM m){left:List (List Bool)}(hf:dh m left):∀ (k i:Nat) (n:Int),i+k=m.aD.length->EL left (m.aD.drop i) n=jX ((List.range' i k).map λj=>sV m left j) n
 |0,i,n,h=>by rw[List.drop_eq_nil_of_le GK];rfl
 |k+1,i,n,h=>by
  have hi:i<m.aD.length:=GK;obtain⟨h1,h2⟩:=agX hm hf (hm.ct _ (aF (d:=default) hi));rw[kd m.aD i default hi,EL,List.range'_succ,List.map_cons,jX,TL hm hf k (i+1) _ GK];unfold sV;dsimp only;rw[h1]at h2 ⊢;by_cases h3:jg left (m.aD.getD i default)=1099511627776
  ·rw[if_pos h3,h2.1 h3];rfl
  ·rw[if_neg h3];cases hb:(decide ((m.aD.getD i default).cf=1099511627776)&&decide (0<jg left (m.aD.getD i default))) with
   |true=>exact absurd (h2.2 hb) h3
   |false=>rfl
def Tz{m:ah}(hm:VM m){left:List (List Bool)}(hf:dh m left):CX m left=l8 m left (S0 m,T0 m):=by
 have h1:=TM hm left m.cls.length 0 0 GK;have h2:=λn=>TN hm hf m.ae.length 0 n GK;have h3:=λn=>TL hm hf m.aD.length 0 n GK;simp only[List.drop_zero,<- List.range_eq_range']at h1 h2 h3;unfold CX l8;rw[h1];show EM (EO m left (H2 m left (jX (PC left (S0 m) m.cls.length) 0)))=_;have h2':∀ n,EP m left m.ae n=jX (PP m left (T0 m) m.ae.length) n:=h2;have Mr:∀ n,EL left m.aD n=jX (PK m left m.aD.length) n:=h3;rw[H3];generalize bQ (PC left (S0 m) m.cls.length) (0,false)=z;obtain⟨a,b⟩:=z;cases b
 ·simp only[H2,h2',H3,jo,if_false];generalize bQ (PP m left (T0 m) m.ae.length) (a,false)=z;obtain⟨a2,b2⟩:=z;cases b2
  ·simp only[EO,Mr,H3,jo,if_false];generalize bQ (PK m left m.aD.length) (a2,false)=z;obtain⟨a3,b3⟩:=z;cases b3<;>simp[EM]
  ·simp only[if_true,EO,EM,ER]
 ·simp only[if_true,H2,EO,EM];have:∀ l n,(bQ l (n,true))=((bQ l (n,true)).1,true):=λl n=>Prod.ext rfl (ER l n);rw[this,this (PK m left m.aD.length)];rfl
def agZ{m:ah}{P:List Nd}(hm:VM m)(hs:jh m P=true)(h:∀ s∈vs P (root m),s.2.2.contains (nd P s.1).cls=false/\((nd P s.1).cls = -1->(nd P s.1).a7.length=0/\(gH m s.2.1 (nd P s.1).c9).2=0)):
  ∃ n,nA m P=(n,true)/\∀ a,a<=1099511627776->(∀ s∈vs P (root m),(nd P s.1).cls = -1->a<=(gH m s.2.1 (nd P s.1).c9).1)->a<=n:=by
 have key:∀ (L:List dF) (b:Int),(∀ s∈L,s.2.2.contains (nd P s.1).cls=false/\((nd P s.1).cls = -1->(nd P s.1).a7.length=0/\(gH m s.2.1 (nd P s.1).c9).2=0)) ->
   (jP P (gy m P) L b).2=true/\∀ a,a<=b->(∀ s∈L,(nd P s.1).cls = -1->a<=(gH m s.2.1 (nd P s.1).c9).1)->a<=(jP P (gy m P) L b).1:=by
  intro L
  induction L with
  |nil=>intro b _;exact⟨rfl,λa h _=>h⟩
  |cons s L ih =>
   intro b h;obtain⟨h1,h2⟩:=h s GM;have yn:(gy m P b s).2=true:=by
    unfold gy;by_cases hc:(nd P s.1).cls = -1
    ·rw[if_neg GK,if_neg (by have:=(h2 hc).1;omega)];simp[(h2 hc).2]
    ·rw[if_pos hc]
   rw[jP,h1,if_neg GM,if_pos yn];obtain⟨i1,i2⟩:=ih (gy m P b s).1 λt ht=>h t (by simp[ht]);refine⟨i1,λa ha hl=>i2 a ?_ λt ht=>hl t (by simp[ht])⟩;unfold gy;by_cases hc:(nd P s.1).cls = -1
   ·rw[if_neg GK,if_neg (by have:=(h2 hc).1;omega)];have:=hl s GM hc;show a<=min _ _;omega
   ·rw[if_pos hc];exact ha
 obtain⟨k1,k2⟩:=key (vs P (root m)) 1099511627776 h;refine⟨(jP P (gy m P) (vs P (root m)) 1099511627776).1,?_,k2⟩;have hw:pI m P (gy m P) 1099511627776=jP P (gy m P) (vs P (root m)) 1099511627776:=if_pos ⟨nu.2 hm,hs⟩;unfold nA;rw[hw,if_pos k1]
def Mi(l:List Mv):Nd:=⟨-1,[],l,[],[]⟩
def Mj{P:List Nd}(hd:Down P){s:dF}(hs:s.1<P.length)(hk:(nd P s.1).kids=[]):vs P s=[s]:=by
 rw[EH hd hs];unfold qz je;rw[hk];rfl
def Tw{m:ah}(left:List (List Bool)):gH m left []=(l8 m left (S0 m,T0 m),0):=rfl
end T

