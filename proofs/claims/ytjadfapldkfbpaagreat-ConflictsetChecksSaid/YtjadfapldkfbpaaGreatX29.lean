import Derived.Test.YtjadfapldkfbpaaGreatX28
import Derived.Test.YtjadfapldkfbpaaGreatX22
import Derived.Test.YtjadfapldkfbpaaGreatX24
set_option linter.all false
set_option maxHeartbeats 0
set_option maxRecDepth 20000
open List renaming length_cons→eu,getD_eq_getElem?_getD→aG,map_cons→dK,length_map→eO,range'→n5,drop_eq_nil_of_le→cM,mem_map→cC,range'_succ→xn,drop_zero→BQ,getD_cons_zero→jh,getD_cons_succ→gN,getElem?_eq_none→ei,mem_cons→cu
open Nat renaming add_mul→gj,one_mul→tu,zero_mul→DJ,zero_add→gf,lt_or_ge→fN,zero_le→aF
open Int renaming toNat_natCast→ig,le_refl→iO,zero_add→BX,toNat_of_nonneg→vV,mul_le_mul→rp,mul_nonneg→xz
open Option renaming map_some→fE,some→dD
open Bool renaming false_eq_true→ju
open Go Go.Am Go.Proofs
namespace T
def l8:List Int->List Bool->Int->Int
 |x::r,b::s,n=>l8 r s (if b=true then min n x else n)
 |_,_,n=>n
def By(aD:List Int)(w i:Nat)(a:Bool):Nat->List Bool->Int->Int
 |_,[],n=>n
 |k,b::r,n=>By aD w i a (k+1) r (if a=true/\b=true then min n (aD.getD (i*w+k) 0) else n)
def zN(aD:List Int)(w:Nat)(rb:List Bool):Nat->List Bool->Int->Int
 |_,[],n=>n
 |i,a::r,n=>zN aD w rb (i+1) r (By aD w i a 0 rb n)
def vG(m:ah)(left:List (List Bool))(p:Pr):Int:=zN p.aD (m.cls.getD p.snd.toNat default).length (left.getD p.snd.toNat default) 0 (left.getD p.fst.toNat default) 1099511627776
def qY:List Bool->Int->Int
 |[],n=>n
 |b::r,n=>qY r (if b=true then n+1 else n)
def l9(c:Int)(row:List Bool):List Ld->Int×Int->Int×Int
 |[],z=>z
 |x::r,z=>l9 c row r (if x.cls=c/\row.getD x.opt.toNat false=true then(z.1-1,if z.2<0\/x.wt<z.2 then x.wt else z.2) else z)
def qZ(l:List Ld)(c:Int)(row:List Bool):Int:=if 0<(l9 c row l (qY row 0,-1)).1\/(l9 c row l (qY row 0,-1)).2<0 then 0 else(l9 c row l (qY row 0,-1)).2
def uy(l:List Ld)(left:List (List Bool)):Option Int->List Ld->Int->Int
 |_,[],n=>n
 |q,x::r,n=>uy l left (some x.cls) r (if q=some x.cls then n else n+qZ l x.cls (left.getD x.cls.toNat default))
def Dq(n b8:Int):Int:=if 0<n/\b8=1099511627776 then 1099511627776 else min (n*b8) 1099511627776
def uz(left:List (List Bool))(c:Ct):Int:=Dq (max (uy c.aJ left none c.aJ (-c.most)) 0) c.b8
def zO(left:List (List Bool)):Nat->List (List bV)->Int->Option Int
 |_,[],n=>some n
 |i,c::r,n=>if l8 (iy c) (left.getD i default) 1099511627776=1099511627776 then none else zO left (i+1) r (n+l8 (iy c) (left.getD i default) 1099511627776)
def yy(m:ah)(left:List (List Bool)):List Pr->Int->Option Int
 |[],n=>some n
 |p::r,n=>if vG m left p=1099511627776 then none else yy m left r (n+vG m left p)
def yz(left:List (List Bool)):List Ct->Int->Option Int
 |[],n=>some n
 |c::r,n=>if uz left c=1099511627776 then none else yz left r (n+uz left c)
def Gq:Option Int->Int
 |none=>1099511627776
 |some n=>min n 1099511627776
def Dr(m:ah)(left:List (List Bool)):Option Int->Option Int
 |none=>none
 |some n=>yz left m.ax n
def Gr(m:ah)(left:List (List Bool)):Option Int->Option Int
 |none=>none
 |some n=>yy m left m.ae n
def iA(m:ah)(left:List (List Bool)):Int:=Gq (Dr m left (Gr m left (zO left 0 m.cls 0)))
def xe(q:Int×Bool):Int:=if q.2=true then q.1 else 1099511627776
def Oz:∀ (l:List Int) (s:List Bool) (b:Int×Bool),(∀ x∈l,bZ x)->(b.2=true->b.1<1099511627776) ->
  xe (eV (ep l) s b)=l8 l s (xe b)/\((eV (ep l) s b).2=true->(eV (ep l) s b).1<1099511627776)
 |[],s,b,_,hb=>⟨by cases s<;>rfl,hb⟩
 |x::r,[],b,_,hb=>⟨rfl,hb⟩
 |x::r,is::s,b,h,hb=>by
  have hx:=h x G9;unfold bZ at hx;rw[show ep (x::r)=fL x::ep r from rfl,eV,l8];have key:xe (if is=true/\(fL x).2=false/\(b.2=false\/(fL x).1<b.1) then((fL x).1,true) else b)=(if is=true then min (xe b) x else xe b):=by
   obtain⟨b1,b2⟩:=b;unfold fL xe;dsimp only at hb ⊢;cases is<;>cases b2<;>simp at hb ⊢<;>(repeat' split)<;>simp_all<;>omega
  have:=Oz r s (if is=true/\(fL x).2=false/\(b.2=false\/(fL x).1<b.1) then((fL x).1,true) else b) (λy hy=>h y (by simp[hy])) (by
   split
   ·rename_i hc;intro _;have:=hc.2.1;unfold fL at this ⊢;simp at this;exact this
   ·exact hb)
  rw[key]at this;exact this
def aa':∀ (l:List Int) (s t:List Bool) (n:Int),s.length<=l.length->l8 l (s++t) n=l8 (l.drop s.length) t (l8 l s n)
 |l,[],t,n,_=>by cases l<;>rfl
 |[],b::s,t,n,h=>by simp at h
 |x::r,b::s,t,n,h=>by
  rw[List.cons_append,l8,l8,eu,List.drop_succ_cons];exact aa' r s t _ (by simpa using h)
def aba(aD:List Int)(w i:Nat)(a:Bool):∀ (r:List Bool) (k:Nat) (n:Int),i*w+k+r.length<=aD.length->By aD w i a k r n=l8 (aD.drop (i*w+k)) (r.map (a && ·)) n
 |[],k,n,_=>by cases(aD.drop (i*w+k))<;>rfl
 |b::r,k,n,h=>by
  have bx:i*w+k<aD.length:=by simp at h;omega
  have hd:aD.drop (i*w+k)=aD.getD (i*w+k) 0::aD.drop (i*w+(k+1)):=by
   rw[List.drop_eq_getElem_cons bx,aG,List.getElem?_eq_getElem bx];rfl
  rw[By,hd,dK,l8,aba aD w i a r (k+1) _ (by simp at h;omega)];congr 1;cases a<;>cases b<;>simp
def OA(aD:List Int)(w:Nat)(rb:List Bool)(hw:rb.length=w):∀ (r:List Bool) (i:Nat) (n:Int),i*w+r.length*w<=aD.length->zN aD w rb i r n=l8 (aD.drop (i*w)) (rZ r rb) n
 |[],i,n,_=>by show n=l8 _ [] n;cases(aD.drop (i*w))<;>rfl
 |a::r,i,n,h=>by
  have h2:i*w+(r.length+1)*w<=aD.length:=h;rw[gj,tu]at h2;rw[zN,aba aD w i a rb 0 n G3,OA aD w rb hw r (i+1) _ (by rw[gj];omega)];show _=l8 _ (rb.map (a && ·)++rZ r rb) n;rw[aa' _ _ _ _ (by rw[eO,List.length_drop];omega),List.drop_drop,eO,hw,gj,tu];simp only[Nat.add_zero]
def kc:List (Int×Bool)->Int->Option Int
 |[],n=>some n
 |p::r,n=>if p.2=false then none else kc r (n+p.1)
def JR:∀ (l:List (Int×Bool)) (n:Int),kc l n=if(ca l (n,false)).2=true then none else some (ca l (n,false)).1
 |[],n=>rfl
 |p::r,n=>by
  rw[kc];obtain⟨a,b⟩:=p;cases b
  ·show none=if(ca r (n+a,true)).2=true then none else _;rw[Ft,if_pos rfl]
  ·exact JR r (n+a)
def abb{m:ah}(hm:VM m)(left:List (List Bool)):∀ (k i:Nat) (n:Int),i+k=m.cls.length->zO left i (m.cls.drop i) n=kc ((n5 i k).map λj=>eV ((S0 m).getD j default) (left.getD j default) (0,false)) n
 |0,i,n,h=>by rw[cM G3];rfl
 |k+1,i,n,h=>by
  have hi:i<m.cls.length:=G3;have hs:(S0 m).getD i default=ep (iy (m.cls.getD i default)):=by rw[S0,kU _ _ _ hi]
  have h2:=Oz (iy (m.cls.getD i default)) (left.getD i default) (0,false) (λx hx=>by
   obtain⟨o,ho,rfl⟩:=cC.1 hx;exact IV (hm.oB _ (aB hi) o ho)) G9
  rw[show xe (0,false)=1099511627776 from rfl]at h2;rw[cN m.cls i default hi,zO,xn,dK,kc,abb hm left k (i+1) _ G3,hs,<- h2.1];generalize eV (ep (iy (m.cls.getD i default))) (left.getD i default) (0,false)=q at *;obtain⟨a,b⟩:=q;unfold xe at *;cases b<;>simp at h2 ⊢;intro e;omega
def abc{m:ah}(hm:VM m){left:List (List Bool)}(hf:fD m left):∀ (k i:Nat) (n:Int),i+k=m.ae.length->yy m left (m.ae.drop i) n=kc ((n5 i k).map λj=>eV ((T0 m).getD j default) (jK m left j) (0,false)) n
 |0,i,n,h=>by rw[cM G3];rfl
 |k+1,i,n,h=>by
  have hi:i<m.ae.length:=G3;have hs:(T0 m).getD i default=ep (m.ae.getD i default).aD:=by rw[T0,kU _ _ _ hi]
  have dJ:=jy hm.pr _ (aB (d:=default) hi);obtain⟨_,p1,p2,p3,p4⟩:=m4 dJ;have f1:=hf.2 (m.ae.getD i default).fst.toNat (by rw[hf.1];omega);have f2:=hf.2 (m.ae.getD i default).snd.toNat (by rw[hf.1];omega);have h2:=Oz (m.ae.getD i default).aD (jK m left i) (0,false) (I1 dJ) G9;rw[show xe (0,false)=1099511627776 from rfl]at h2;have h3:vG m left (m.ae.getD i default)=l8 (m.ae.getD i default).aD (jK m left i) 1099511627776:=by
   unfold vG jK;rw[OA _ _ _ f2 _ 0 _ (by rw[DJ,gf,f1];have:=p4;exact_mod_cast Int.le_of_eq this.symm),DJ,BQ]
  rw[cN m.ae i default hi,yy,xn,dK,kc,abc hm hf k (i+1) _ G3,hs,h3,<- h2.1];generalize eV (ep (m.ae.getD i default).aD) (jK m left i) (0,false)=q at *;obtain⟨a,b⟩:=q;unfold xe at *;cases b<;>simp at h2 ⊢;intro e;omega
def OB(l:List Ld)(c:Int):∀ (row:List Bool) (o:Nat) (b:Int),eI l c o row b=b\/∃ i,row.getD i false=true/\eI l c o row b=gT l c (o+i:Nat) 0
 |[],_,_=>.inl rfl
 |is::r,o,b=>by
  rw[eI];split
  ·rename_i hc;rcases OB l c r (o+1) (gT l c o 0) with h|⟨i,h1,h2⟩
   ·exact .inr ⟨0,by simpa using hc.1,by rw[h];rfl⟩
   ·exact .inr ⟨i+1,by simpa using h1,by rw[h2,show o+1+i=o+(i+1) by omega]⟩
  ·rcases OB l c r (o+1) b with h|⟨i,h1,h2⟩
   ·exact .inl h
   ·exact .inr ⟨i+1,by simpa using h1,by rw[h2,show o+1+i=o+(i+1) by omega]⟩
def abd{l:List Ld}(h:∀ x∈l,1<=x.wt/\x.wt<=1000)(c:Int):∀ (row:List Bool) (o:Nat) (b:Int) (i:Nat),row.getD i false=true->0<=eI l c o row b
 |[],_,b,i,hi=>by simp at hi
 |is::r,o,b,0,hi=>by
  rw[jh]at hi;have hw:=AX h c o 0 G3;rw[eI];split
  ·exact(Dp h c r (o+1) _ hw.1).1
  ·rename_i hc;have hb:0<=b:=by
    rcases Int.lt_or_le b 0 with h2|h2
    ·exact absurd ⟨hi,.inl h2⟩ hc
    ·exact h2
   exact(Dp h c r (o+1) b hb).1
 |is::r,o,b,i+1,hi=>by
  rw[gN]at hi;rw[eI];exact abd h c r (o+1) _ i hi
def abe{f:Nat->Int}:∀ {n:Nat},(∀ i<n,0<=f i)->(0<=cd f n/\(0<cd f n↔∃ i,i<n/\0<f i))
 |0,_=>by simp[cd]
 |n+1,h=>by
  obtain⟨h1,h2⟩:=abe (n:=n) λi hi=>h i G3;have h3:=h n G3;rw[cd];refine⟨G3,λh4=>?_,?_⟩
  ·by_cases h5:0<cd f n
   ·obtain⟨i,hi,hf⟩:=h2.1 h5;exact⟨i,G3,hf⟩
   ·exact⟨n,G3,G3⟩
  ·rintro⟨i,hi,hf⟩;by_cases e:i=n
   ·subst e;omega
   ·have:=h2.2 ⟨i,G3,hf⟩;omega
def abf(f g:Nat->Int):∀ n,cd f n-cd g n=cd (λi=>f i-g i) n
 |0=>rfl
 |n+1=>by rw[cd,cd,cd,<- abf f g n];omega
def abg:∀ (row:List Bool) (n:Int),qY row n=n+cd (λo=>if row.getD o false=true then 1 else 0) row.length
 |[],n=>by simp[qY,cd]
 |b::r,n=>by
  rw[qY,abg r,eu,zu];simp only[jh,gN];split<;>omega
def OC{m:ah}{q:Option Ld}{x:Ld}{r:List Ld}(h:eE m q (x::r)=true):eE m (some x) r=true:=by
 cases q<;>rw[eE]at h<;>simp only[Bool.and_eq_true]at h<;>exact h.2
open Classical in
def abh{m:ah}(c:Int)(row:List Bool):∀ {l:List Ld} {q:Option Ld},eE m q l=true->∀ z:Int×Int,
  (l9 c row l z).1=z.1-cd (λo=>if row.getD o false=true/\∃ x∈l,x.cls=c/\x.opt=(o:Int) then 1 else 0) row.length
 |[],_,_,z=>by
  rw[jA (g:=λ_=>0) _ λi _=>G9];have:∀ n,cd (λ_=>0) n=0:=λn=>by induction n with|zero=>rfl|succ n ih=>rw[cd,ih];rfl
  rw[this,l9];omega
 |x::r,q,h,z=>by
  have hr:=OC h;have hx:=(iv.1 (rS h x G9).1).2.2.1;rw[l9,abh c row hr];by_cases hc:x.cls=c/\row.getD x.opt.toNat false=true
  ·rw[if_pos hc];have hk:x.opt.toNat<row.length:=by
    rcases fN x.opt.toNat row.length with h'|h'
    ·exact h'
    ·rw[aG,ei h']at hc;simp at hc
   rw[jA (f:=λo=>if row.getD o false=true/\∃ y∈x::r,y.cls=c/\y.opt=(o:Int) then 1 else 0) (g:=λo=>if o=x.opt.toNat then(if row.getD o false=true/\∃ y∈r,y.cls=c/\y.opt=(o:Int) then 1 else 0)+1 else(if row.getD o false=true/\∃ y∈r,y.cls=c/\y.opt=(o:Int) then 1 else 0)) _ λo _=>by
    by_cases e:o=x.opt.toNat
    ·subst e;rw[if_pos ⟨hc.2,x,G9,hc.1,G3⟩,if_pos rfl,if_neg (by rintro⟨_,y,hy,h1,h2⟩;have:=zi hr y hy;omega)];rfl
    ·rw[if_neg e];congr 1;rw[eq_iff_iff];refine and_congr_right λ_=>⟨?_,λ⟨y,hy,h1⟩=>⟨y,by simp[hy],h1⟩⟩;rintro⟨y,hy,h1,h2⟩;rcases cu.1 hy with rfl|hy
     ·omega
     ·exact⟨y,hy,h1,h2⟩,zt,if_pos hk]
   dsimp only;omega
  ·rw[if_neg hc];rw[jA (f:=λo=>if row.getD o false=true/\∃ y∈x::r,y.cls=c/\y.opt=(o:Int) then 1 else 0) (g:=λo=>if row.getD o false=true/\∃ y∈r,y.cls=c/\y.opt=(o:Int) then 1 else 0) _ λo _=>by
    congr 1;rw[eq_iff_iff];refine and_congr_right λzq=>⟨?_,λ⟨y,hy,h1⟩=>⟨y,by simp[hy],h1⟩⟩;rintro⟨y,hy,h1,h2⟩;rcases cu.1 hy with rfl|hy
    ·exact absurd ⟨h1,by rw[h2,ig];exact zq⟩ hc
    ·exact⟨y,hy,h1,h2⟩]
def abi(c:Int)(row:List Bool):∀ {l:List Ld},(∀ x∈l,1<=x.wt)->∀ z:Int×Int,
  (∀ x∈l,x.cls=c/\row.getD x.opt.toNat false=true->0<=(l9 c row l z).2/\(l9 c row l z).2<=x.wt)/\(0<=z.2->0<=(l9 c row l z).2/\(l9 c row l z).2<=z.2) /\
   ((l9 c row l z).2=z.2\/∃ x∈l,(x.cls=c/\row.getD x.opt.toNat false=true)/\(l9 c row l z).2=x.wt)
 |[],_,z=>⟨G9,λh=>⟨h,iO _⟩,.inl rfl⟩
 |x::r,h,z=>by
  obtain⟨h1,h2,h3⟩:=abi c row (l:=r) (λy hy=>h y (by simp[hy])) (if x.cls=c/\row.getD x.opt.toNat false=true then(z.1-1,if z.2<0\/x.wt<z.2 then x.wt else z.2) else z);have hx:=h x G9;rw[l9];generalize l9 c row r _=w at *;by_cases hc:x.cls=c/\row.getD x.opt.toNat false=true
  ·rw[if_pos hc]at h2 h3;dsimp only at h2 h3;refine⟨λy hy Az=>?_,λhz=>?_,?_⟩
   ·rcases cu.1 hy with rfl|hy
    ·split at h2<;>omega
    ·exact h1 y hy Az
   ·split at h2<;>omega
   ·rcases h3 with h3|⟨y,hy,h3⟩
    ·split at h3
     ·exact .inr ⟨x,G9,hc,h3⟩
     ·exact .inl h3
    ·exact .inr ⟨y,by simp[hy],h3⟩
  ·rw[if_neg hc]at h2 h3;refine⟨λy hy Az=>?_,h2,?_⟩
   ·rcases cu.1 hy with rfl|hy
    ·exact absurd Az hc
    ·exact h1 y hy Az
   ·rcases h3 with h3|⟨y,hy,h3⟩
    ·exact .inl h3
    ·exact .inr ⟨y,by simp[hy],h3⟩
def OD{m:ah}:∀ {l:List Ld} {q:Option Ld},eE m q l=true->∀ x∈l,∀ w,gT l x.cls x.opt w=x.wt
 |[],_,_,x,hx,w=>by simp at hx
 |y::r,q,h,x,hx,w=>by
  have hr:=OC h;rw[gT];rcases cu.1 hx with rfl|hx
  ·rw[if_pos ⟨rfl,rfl⟩];exact JP r _ _ _ λz hz he=>by have:=zi hr z hz;omega
  ·exact OD hr x hx _
open Classical in
def akz{m:ah}{l:List Ld}{q:Option Ld}(hl:eE m q l=true)(c:Int)(row:List Bool):qZ l c row=nK l c row:=by
 have hw:∀ x∈l,1<=x.wt/\x.wt<=1000:=λx hx=>(rS hl x hx).2;have h1:=abh c row hl (qY row 0,-1);obtain⟨h2,_,h3⟩:=abi c row (λx hx=>(hw x hx).1) (qY row 0,-1);unfold qZ;generalize l9 c row l (qY row 0,-1)=z at *;rw[abg,BX,abf]at h1;obtain⟨h4,h5⟩:=abe (f:=λi=>(if row.getD i false=true then(1:Int) else 0)-if row.getD i false=true/\∃ x∈l,x.cls=c/\x.opt=(i:Int) then 1 else 0) (n:=row.length) λi _=>by
  (repeat' split)<;>simp_all
 rw[<- h1]at h4 h5;have hlen:∀ i,row.getD i false=true->i<row.length:=λi h'=>by
  rcases fN i row.length with h6|h6
  ·exact h6
  ·rw[aG,ei h6]at h';simp at h'
 have l5:∀ x∈l,0<=x.opt:=λx hx=>(iv.1 (rS hl x hx).1).2.2.1;by_cases hex :∃o,row.getD o false=true/\¬∃x∈l,x.cls=c/\x.opt=(o:Int)
 ·obtain⟨o,ho,nD⟩:=hex;rw[if_pos (.inl (h5.2 ⟨o,hlen o ho,by rw[if_pos ho,if_neg (by rintro⟨_,h'⟩;exact nD h')];decide⟩))];have h6:=Ox hw c row 0 (-1) o ho;rw[gf,JP l c o 0 λy hy he=>nD ⟨y,hy,he⟩]at h6;unfold nK;omega
 have eB:∀ o,row.getD o false=true->∃ x∈l,x.cls=c/\x.opt=(o:Int):=λo ho=>Classical.byContradiction λh'=>hex ⟨o,ho,h'⟩;have hz:¬ 0<z.1:=λh'=>by
  obtain⟨i,hi,h6⟩:=h5.1 h';by_cases hr:row.getD i false=true
  ·rw[if_pos hr,if_pos ⟨hr,eB i hr⟩]at h6;omega
  ·rw[if_neg hr,if_neg (λh7=>hr h7.1)]at h6;omega
 by_cases yq :∃o,row.getD o false=true
 ·obtain⟨o,ho⟩:=yq;obtain⟨x,hx,u7,oI⟩:=eB o ho;obtain⟨g1,g2⟩:=h2 x hx ⟨u7,by rw[oI,ig];exact ho⟩;rw[if_neg G3];have g3:=abd hw c row 0 (-1) o ho;unfold nK;rw[Int.max_eq_left g3];refine Int.le_antisymm ?_ ?_
  ·rcases OB l c row 0 (-1) with e|⟨i,hi,e⟩
   ·omega
   ·obtain⟨y,hy,o6,hyo⟩:=eB i hi;rw[e,gf,<- hyo,<- o6,OD hl y hy];exact(h2 y hy ⟨o6,by rw[hyo,ig];exact hi⟩).2
  ·rcases h3 with e|⟨y,hy,⟨o6,OE⟩,e⟩
   ·dsimp only at e;omega
   ·have h6:=Ox hw c row 0 (-1) _ OE;rw[gf,vV (l5 y hy),<- o6,OD hl y hy]at h6;rw[<- o6];omega
 ·have e:z.2 = -1:=by
   rcases h3 with e|⟨y,hy,⟨o6,OE⟩,e⟩
   ·exact e
   ·exact absurd ⟨_,OE⟩ yq
  rw[if_pos (.inr G3),nK,Oy l c row 0 (-1) λi=>by
   cases h':row.getD i false with
   |false=>rfl
   |true=>exact absurd ⟨i,h'⟩ yq]
  rfl
open Classical in
def abk{m:ah}(L:List Ld)(left:List (List Bool)){N:Nat}(hN:m.cls.length<=N):∀ {r:List Ld} {q:Option Ld},eE m q r=true->∀ n:Int,
  uy L left (q.map (·.cls)) r n=n+cd (λj=>if(∃ x∈r,x.cls=(j:Int))/\q.map (·.cls)≠some (j:Int) then qZ L j (left.getD j default) else 0) N
 |[],_,_,n=>by
  rw[jA (g:=λ_=>0) _ λi _=>G9];have:∀ n,cd (λ_=>0) n=0:=λn=>by induction n with|zero=>rfl|succ n ih=>rw[cd,ih];rfl
  rw[this,uy];omega
 |x::r,q,h,n=>by
  have hr:=OC h;obtain⟨hx0,hx1,_⟩:=iv.1 (rS h x G9).1;have h0:=abk L left hN hr;simp only[fE]at h0;rw[uy,h0];by_cases hq:q.map (·.cls)=some x.cls
  ·rw[if_pos hq,hq];congr 1;refine jA _ λj _=>?_;congr 1;rw[eq_iff_iff];simp only[ne_eq,dD.injEq];refine and_congr_left λhj=>⟨λ⟨y,hy,e⟩=>⟨y,by simp[hy],e⟩,?_⟩;rintro⟨y,hy,e⟩;rcases cu.1 hy with rfl|hy
   ·exact absurd e hj
   ·exact⟨y,hy,e⟩
  ·rw[if_neg hq,jA (f:=λj=>if(∃ y∈x::r,y.cls=(j:Int))/\q.map (·.cls)≠some (j:Int) then qZ L j (left.getD j default) else 0)
    (g:=λj=>if j=x.cls.toNat then(if(∃ y∈r,y.cls=(j:Int))/\some x.cls≠some (j:Int) then qZ L j (left.getD j default) else 0)+qZ L x.cls (left.getD x.cls.toNat default) else(if(∃ y∈r,y.cls=(j:Int))/\some x.cls≠some (j:Int) then qZ L j (left.getD j default) else 0)) _ λj _=>by
    have JS:((x.cls.toNat:Nat):Int)=x.cls:=vV hx0;by_cases e:j=x.cls.toNat
    ·subst e;rw[if_pos ⟨⟨x,G9,JS.symm⟩,by rw[JS];exact hq⟩,if_pos rfl,if_neg (by rw[JS];simp),JS];omega
    ·rw[if_neg e];congr 1;rw[eq_iff_iff];constructor
     ·rintro⟨⟨y,hy,OF⟩,_⟩;rcases cu.1 hy with rfl|hy
      ·omega
      ·exact⟨⟨y,hy,OF⟩,by simp only[ne_eq,dD.injEq];omega⟩
     ·rintro⟨⟨y,hy,OF⟩,_⟩;refine⟨⟨y,by simp[hy],OF⟩,λhqj=>?_⟩;cases q with
      |none=>simp at hqj
      |some q =>
       have h6:=zi h y (by simp[hy]);have h7:=zi h x G9;have h8:=zi hr y hy;simp only[fE,dD.injEq]at hqj hq;omega,zt,if_pos G3]
   omega
def akA{m:ah}(hm:VM m){left:List (List Bool)}(hf:fD m left){c:Ct}(hc:iW m c=true):
  uz left c=jZ left c/\(uz left c=1099511627776↔(decide (c.b8=1099511627776)&&decide (0<jZ left c))=true):=by
 obtain⟨_,q2,q3,q4⟩:=nG hc;have hw:∀ x∈c.aJ,1<=x.wt/\x.wt<=1000:=λx hx=>(rS q4 x hx).2;have hs:uy c.aJ left none c.aJ (-c.most) = -c.most+kT c.aJ 0 left 0:=by
  have:=abk (m:=m) c.aJ left (Nat.le_refl _) (q:=none) q4 (-c.most);rw[Option.map_none]at this;rw[this,Fl,BX,hf.1];congr 1;refine jA _ λj _=>?_;rw[gf];split
  ·exact akz q4 _ _
  ·rename_i hn;rw[YI λx hx e=>hn ⟨⟨x,hx,e⟩,G9⟩]
 have hr:=Fa hw left;have zG:=hm.cls;rw[hf.1]at hr;unfold uz jZ;rw[hs];generalize kT c.aJ 0 left 0=s at *;unfold Dq mz;unfold jH at q3;rw[decide_eq_true_eq]at q3;by_cases h0:s<=c.most
 ·rw[Int.max_eq_right G3,if_neg G3,if_pos h0];simp<;>omega
 rw[Int.max_eq_left G3,if_neg h0,show -c.most+s=s-c.most by omega];rcases q3 with q3|q3
 ·rw[if_neg G3];have h1:(s-c.most)*c.b8<=24000*1048576:=rp G3 G3 G3 G3;refine⟨rfl,?_⟩;rw[decide_eq_false (by omega:¬ c.b8=1099511627776),Bool.false_and];constructor
  ·intro h;omega
  ·intro h;simp at h
 ·rw[q3,if_pos ⟨G3,rfl⟩,show min ((s-c.most)*1099511627776) 1099511627776=(1099511627776:Int) by omega];simp
def abm{m:ah}(hm:VM m){left:List (List Bool)}(hf:fD m left):∀ (k i:Nat) (n:Int),i+k=m.ax.length->yz left (m.ax.drop i) n=kc ((n5 i k).map λj=>xd m left j) n
 |0,i,n,h=>by rw[cM G3];rfl
 |k+1,i,n,h=>by
  have hi:i<m.ax.length:=G3;obtain⟨h1,h2⟩:=akA hm hf (hm.ct _ (aB (d:=default) hi));rw[cN m.ax i default hi,yz,xn,dK,kc,abm hm hf k (i+1) _ G3];unfold xd;dsimp only;rw[h1]at h2 ⊢;by_cases h3:jZ left (m.ax.getD i default)=1099511627776
  ·rw[if_pos h3,h2.1 h3];rfl
  ·rw[if_neg h3];cases hb:(decide ((m.ax.getD i default).b8=1099511627776)&&decide (0<jZ left (m.ax.getD i default))) with
   |true=>exact absurd (h2.2 hb) h3
   |false=>rfl
def ZJ{m:ah}(hm:VM m){left:List (List Bool)}(hf:fD m left):iA m left=r8 m left (S0 m,T0 m):=by
 have h1:=abb hm left m.cls.length 0 0 G3;have h2:=λn=>abc hm hf m.ae.length 0 n G3;have h3:=λn=>abm hm hf m.ax.length 0 n G3;simp only[BQ,<- List.range_eq_range']at h1 h2 h3;unfold iA r8;rw[h1];show Gq (Dr m left (Gr m left (kc (PC left (S0 m) m.cls.length) 0)))=_;have h2':∀ n,yy m left m.ae n=kc (PP m left (T0 m) m.ae.length) n:=h2;have h3':∀ n,yz left m.ax n=kc (PK m left m.ax.length) n:=h3;rw[JR];generalize ca (PC left (S0 m) m.cls.length) (0,false)=z;obtain⟨a,b⟩:=z;cases b
 ·simp only[Gr,h2',JR,ju,if_false];generalize ca (PP m left (T0 m) m.ae.length) (a,false)=z;obtain⟨a2,b2⟩:=z;cases b2
  ·simp only[Dr,h3',JR,ju,if_false];generalize ca (PK m left m.ax.length) (a2,false)=z;obtain⟨a3,b3⟩:=z;cases b3<;>simp[Gq]
  ·simp only[if_true,Dr,Gq,Ft]
 ·simp only[if_true,Gr,Dr,Gq];have:∀ l n,(ca l (n,true))=((ca l (n,true)).1,true):=λl n=>Prod.ext rfl (Ft l n);rw[this,this (PK m left m.ax.length)];rfl
def OG:∀ (l:List Int) (s:List Bool) (n:Int),(∀ x∈l,0<=x)->0<=n->0<=l8 l s n/\l8 l s n<=n
 |[],s,n,_,hn=>by cases s<;>exact⟨hn,iO _⟩
 |x::r,[],n,_,hn=>⟨hn,iO _⟩
 |x::r,b::s,n,h,hn=>by
  have hx:=h x G9;obtain⟨h1,h2⟩:=OG r s (if b=true then min n x else n) (λy hy=>h y (by simp[hy])) (by split<;>omega);rw[l8];refine⟨h1,Int.le_trans h2 ?_⟩;split<;>omega
def akD{m:ah}{p:Pr}{left:List (List Bool)}(hm:VM m)(dJ:gL m p=true)(hf:fD m left):0<=vG m left p/\vG m left p<=1099511627776:=by
 obtain⟨q1,q2,q3,q4,q5⟩:=m4 dJ;have h1:=hf.1;have a1:=hf.2 p.fst.toNat G3;have a2:=hf.2 p.snd.toNat G3;unfold vG;rw[OA _ _ _ a2 _ 0 _ (by rw[DJ,gf,a1];exact_mod_cast Int.le_of_eq q5.symm),DJ,BQ];exact OG _ _ _ (λx hx=>(I1 dJ x hx).1) G3
def OH(n:Int):an Tryz.prog 156 [aaa n] [] (aaa (min n 1099511627776)) []:=by
 refine an.aC 5 0 [.tmp 2] Tryz.func156 ?_;refine Vb X0 ?_;exact aE rfl rfl
def akE(n b8:Int)(hn:0<=n/\n<=1048576)(hp:jH b8=true):an Tryz.prog 163 [aaa n,aaa b8] [] (aaa (Dq n b8)) []:=by
 have Jd:=mD hp;unfold jH at hp;unfold bZ at Jd;rw[decide_eq_true_eq]at hp;generalize aj:Dq n b8=res;unfold Dq at aj;have hmul:¬(0<n/\b8=1099511627776)->0<=n*b8/\n*b8<=1099511627776:=λh=>by
  rcases Int.lt_or_eq_of_le hn.1 with h0|h0
  ·have:n*b8<=1048576*1048576:=rp hn.2 G3 G3 G3;have:=xz hn.1 Jd.1;omega
  ·rw[<- h0];simp
 generalize hnp:n*b8=np at *;have su:=OH np;refine an.aC 15 0 [.tmp 4] Tryz.func163 ?_;by_cases h:0<n/\b8=1099511627776
 ·rw[if_pos h]at aj;((repeat'(first|refine Vb X0 ?_|(refine V2 X0 ?_ ?_<;>try with_reducible intro hb)|(refine Xi ?_ ?_<;>try intro ht)|exact Xx|fail)))
  all_goals exact aE rfl (by rw[aj])
 ·rw[if_neg h]at aj;have hmul:=hmul h;((repeat'(first|refine Vd @hnp su ?_|(refine V2 @hnp ?_ ?_<;>try with_reducible intro hb)|(refine Xi ?_ ?_<;>try intro ht)|exact Xx|fail)))
  all_goals exact aE rfl (by rw[aj])
def akF(o:bV)(hc:∀ c∈o.ch,bZ c.2)(hl:o.ch.length<=100):an Tryz.prog 153 [.agg (cK o)] [] (aaa (sY o)) []:=by
 refine an.aC 20 0 [.tmp 2] Tryz.func153 ?_;refine Vb @cK.eq_1 ?_;refine aO (λk:Nat=>(⟨au [(3,aaa (((o.ch.take k).map (·.2)).foldl fl 0)),(7,.tree 2 (rowsOf aK o.ch)),(8,aaa o.ch.length),(9,aaa k)],[]⟩:St)) (λk=>k<=o.ch.length) (λk=>o.ch.length-k) 0 (aF _) (Xs false [] (X3 @List.take_zero.{0} @List.map_nil.{0,0} @List.foldl_nil.{0,0})) ?_;rintro k hk Ql ak ar;have hs:=Fm ((o.ch.take k).map (·.2)) 0 (λx hx=>by
  obtain⟨c,iR,rfl⟩:=cC.1 hx;exact hc c (List.mem_of_mem_take iR)) (by unfold bZ;decide)
 by_cases aL:k<o.ch.length
 ·have aM:=hc _ (aB (d:=default) aL);have dX:=M0 o.ch k aL;generalize ((o.ch.take k).map (·.2)).foldl fl 0=s at *;generalize aS:o.ch.getD k default=x at *;have nU:=OH (s+x.2);rw[show min (s+x.2) 1099511627776=fl s x.2 from rfl]at nU;unfold bZ at hs aM;((repeat'(first|refine Vc (X2 @aS @aK.eq_1) nU ?_|(refine Xi ?_ ?_<;>try intro ht)|exact Xx|fail)))
  exact ak _ (k+1) G3 G3 (by simp only[dX];exact Xs false [] X0)
 ·have kh:((o.ch.take k).map (·.2)).foldl fl 0=sY o:=by rw[List.take_of_length_le G3];rfl
  rw[kh]at hs ⊢;((repeat'(first|refine Va X0 ?_|(refine Xi ?_ ?_<;>try intro ht)|exact Xx|fail)))
  refine ar _ _ rfl ?_;clear ak ar Ql;repeat(refine Xu ?_)
  refine Vb X0 ?_;exact aE rfl rfl
def akG(m:ah)(p:Pr)(x y:Int)(dJ:gL m p=true)(zG:∀ l∈m.cls,l.length<=24)(hx:0<=x/\x<(m.cls.getD p.fst.toNat default).length)(hy:0<=y/\y<(m.cls.getD p.snd.toNat default).length):
  an Tryz.prog 161 [.agg (ao m),.agg (aQ p),aaa x,aaa y] [] (aaa (o9 m p x y)) []:=by
 obtain⟨q1,q2,q3,q4,q5⟩:=m4 dJ;have Bt:=zG _ (aB (l:=m.cls) (i:=p.fst.toNat) (d:=default) G3);have vA:=zG _ (aB (l:=m.cls) (i:=p.snd.toNat) (d:=default) G3);have Jx:=wz (x:=x) (y:=y) (a:=(m.cls.getD p.fst.toNat default).length) (b:=(m.cls.getD p.snd.toNat default).length) hx hy G3 G3;unfold o9;rw[<- q5]at Jx;generalize fW:m.cls.getD p.snd.toNat default=lb at *;generalize sq:x*(lb.length:Int)=xm at *;refine an.aC 24 0 [.tmp 8] Tryz.func161 ?_;refine Vb (X2 @fW @sq) ?_;exact aE rfl rfl
def akH(m:ah)(p:Pr)(left:List (List Bool))(hm:VM m)(dJ:gL m p=true)(hf:fD m left):
  an Tryz.prog 154 [.agg (ao m),.agg (aQ p),.tree 1 (rowsOf aT left)] [] (aaa (vG m left p)) []:=by
 obtain⟨q1,q2,q3,q4,q5⟩:=m4 dJ;have fK:=hf.1;have bY:=hm.cls;have ha:=hf.2 p.fst.toNat G3;have hb:=hf.2 p.snd.toNat G3;have Bt:=hm.opt _ (aB (l:=m.cls) (i:=p.fst.toNat) (d:=default) G3);have vA:=hm.opt _ (aB (l:=m.cls) (i:=p.snd.toNat) (d:=default) G3);have yr:=λx y=>akG m p x y dJ hm.opt;generalize aj:vG m left p=res;unfold vG at aj;unfold o9 at yr;generalize hra:left.getD p.fst.toNat default=ra at *;generalize E7:left.getD p.snd.toNat default=rb at *;generalize m.cls.getD p.fst.toNat default=la at *;generalize m.cls.getD p.snd.toNat default=lb at *;refine an.aC 48 0 [.tmp 6] Tryz.func154 ?_;refine Vb (X3 @hra @aT.eq_1 @aQ.eq_1) ?_;refine aO (λz:Nat×Int=>(⟨au [(2,.tree 1 (rowsOf aT left)),(3,.ptr 0 0 0),(4,.ptr 1 0 0),(7,aaa z.2),(16,.tree 1 (aX ra)),(17,aaa ra.length),(18,aaa z.1)],[.var (ao m),.var (aQ p)]⟩:St))
  (λz=>z.1<=ra.length/\zN p.aD lb.length rb z.1 (ra.drop z.1) z.2=res) (λz=>ra.length-z.1) (0,1099511627776) ⟨aF _,aj⟩ (Xv @aQ.eq_1) ?_
 rintro⟨i,n⟩⟨hi,hr⟩Ql ak ar;dsimp only at hi hr ⊢;by_cases hi':i<ra.length
 ·have hd:=cN ra i false hi';generalize Dm:ra.getD i false=a at *;rw[hd,zN]at hr;((repeat'(first|refine Va (X4 @Dm @E7 @aT.eq_1 @aQ.eq_1) ?_|(refine Xi ?_ ?_<;>try intro ht)|exact Xx|fail)))
  refine aO (λz:Nat×Int=>(⟨au [(2,.tree 1 (rowsOf aT left)),(3,.ptr 0 0 0),(4,.ptr 1 0 0),(7,aaa z.2),(8,aaa i),(9,.lit (.bool a)),(16,.tree 1 (aX ra)),(17,aaa ra.length),(18,aaa i),(27,.tree 1 (aX rb)),(28,aaa rb.length),(29,aaa z.1)],[.var (ao m),.var (aQ p)]⟩:St))
   (λz=>z.1<=rb.length/\zN p.aD lb.length rb (i+1) (ra.drop (i+1)) (By p.aD lb.length i a z.1 (rb.drop z.1) z.2)=res) (λz=>rb.length-z.1) (0,n) ⟨aF _,hr⟩ (Xv @aQ.eq_1) ?_
  rintro⟨k,x⟩⟨hk,fB⟩cL a7 ba;dsimp only at hk fB ⊢;by_cases aL:k<rb.length
  ·have wI:=cN rb k false aL;generalize fW:rb.getD k false=b at *;rw[wI,By]at fB;have he:=yr i k G3 G3;rw[show((i:Int)*(lb.length:Int)+(k:Int)).toNat=i*lb.length+k by rw[<- Int.natCast_mul,<- Int.natCast_add,ig]]at he;generalize p.aD.getD (i*lb.length+k) 0=e at *;cases a<;>cases b
   ·rw[if_neg G9]at fB;((repeat'(first|refine Va @fW ?_|(refine Xi ?_ ?_<;>try intro ht)|exact Xx|fail)))
    all_goals exact a7 _ (k+1,x) ⟨Kw,fB⟩ Kw (Xv X0)
   ·rw[if_neg G9]at fB;((repeat'(first|refine Va @fW ?_|(refine Xi ?_ ?_<;>try intro ht)|exact Xx|fail)))
    all_goals exact a7 _ (k+1,x) ⟨Kw,fB⟩ Kw (Xv X0)
   ·rw[if_neg G9]at fB;((repeat'(first|refine Va @fW ?_|(refine Xi ?_ ?_<;>try intro ht)|exact Xx|fail)))
    all_goals exact a7 _ (k+1,x) ⟨Kw,fB⟩ Kw (Xv X0)
   ·rw[if_pos ⟨rfl,rfl⟩]at fB;((repeat'(first|refine Vc @fW he ?_|(refine Xi ?_ ?_<;>try intro ht)|exact Xx|fail)))
    all_goals exact a7 _ (k+1,min x e) ⟨Kw,fB⟩ Kw (Xv X0)
  ·((repeat'(first|refine Va X0 ?_|(refine V2 X0 ?_ ?_<;>try with_reducible intro hb)|(refine Xi ?_ ?_<;>try intro ht)|exact Xx|fail)))
   rw[show rb.drop k=[] from cM G3,By]at fB;refine ba _ _ rfl ?_;clear a7 ba;repeat(refine Xu ?_)
   refine Va X0 ?_;exact ak _ (i+1,x) ⟨Kw,fB⟩ Kw (Xv X0)
 ·((repeat'(first|refine Va X0 ?_|(refine Xi ?_ ?_<;>try intro ht)|exact Xx|fail)))
  rw[cM G3,zN]at hr;refine ar _ _ rfl ?_;clear ak ar Ql;repeat(refine Xu ?_)
  refine Vb X0 ?_;exact aE rfl (by rw[hr])
def akJ{l:List Ld}(hw:∀ x∈l,1<=x.wt/\x.wt<=1000)(c:Int)(row:List Bool):0<=qZ l c row/\qZ l c row<=1000:=by
 have h:∀ (l:List Ld) (z:Int×Int),(∀ x∈l,1<=x.wt/\x.wt<=1000)->z.2<=1000->(l9 c row l z).2<=1000:=by
  intro l
  induction l with
  |nil=>intro z _ h;exact h
  |cons x r ih =>
   intro z h1 h2;rw[l9];refine ih _ (λy hy=>h1 y (by simp[hy])) ?_;have:=h1 x G9;split
   ·dsimp only;split<;>omega
   ·exact h2
 have:=h l (qY row 0,-1) hw Kw;unfold qZ;split<;>omega
def akK(c:Ct)(k:Int)(row:List Bool)(Dk:row.length<=24)(xR:∀ x∈c.aJ,x.cls=k->0<=x.opt/\x.opt<row.length)(hl:c.aJ.length<=576):
  an Tryz.prog 162 [.agg (aV c),aaa k,.tree 1 (aX row)] [] (aaa (qZ c.aJ k row)) []:=by
 generalize aj:qZ c.aJ k row=res;unfold qZ at aj;refine an.aC 61 0 [.tmp 6] Tryz.func162 ?_;refine Vb @aV.eq_1 ?_;generalize hM:qY row 0=M at *;refine aO (λz:Nat×Int=>(⟨au [(1,aaa k),(2,.tree 1 (aX row)),(3,.ptr 0 0 0),(7,aaa z.2),(8,aaa (-1)),(13,.tree 1 (aX row)),(14,aaa row.length),(15,aaa z.1)],[.var (aV c)]⟩:St))
  (λz=>z.1<=row.length/\0<=z.2/\z.2<=z.1/\qY (row.drop z.1) z.2=M) (λz=>row.length-z.1) (0,0) ⟨aF _,iO _,iO _,hM⟩ (Xv @aV.eq_1) ?_
 rintro⟨i,n⟩⟨hi,eA,eF,hr⟩Ql ak ar;dsimp only at hi eA eF hr ⊢;by_cases hi':i<row.length
 ·have hd:=cN row i false hi';generalize Dm:row.getD i false=a at *;rw[hd,qY]at hr;cases a
  ·rw[if_neg G9]at hr;((repeat'(first|refine Va @Dm ?_|(refine Xi ?_ ?_<;>try intro ht)|exact Xx|fail)))
   all_goals exact ak _ (i+1,n) ⟨Kw,eA,Kw,hr⟩ Kw (Xv X0)
  ·rw[if_pos rfl]at hr;((repeat'(first|refine Va @Dm ?_|(refine Xi ?_ ?_<;>try intro ht)|exact Xx|fail)))
   all_goals exact ak _ (i+1,n+1) ⟨Kw,Kw,Kw,hr⟩ Kw (Xv X0)
 rw[cM G3,qY]at hr;subst hr;((repeat'(first|refine Va X0 ?_|(refine Xi ?_ ?_<;>try intro ht)|exact Xx|fail)))
 refine ar _ _ rfl ?_;clear ak ar Ql;repeat(refine Xu ?_)
 refine Va @aV.eq_1 ?_;generalize hZ:l9 k row c.aJ (n,-1)=Z at *;refine aO (λz:Nat×Int×Int=>(⟨au [(1,aaa k),(2,.tree 1 (aX row)),(7,aaa z.2.1),(8,aaa z.2.2),(24,.tree 3 (rowsOf iH c.aJ)),(25,aaa c.aJ.length),(26,aaa z.1)],[]⟩:St))
  (λz=>z.1<=c.aJ.length/\-(z.1:Int)<=z.2.1/\z.2.1<=24/\l9 k row (c.aJ.drop z.1) z.2=Z) (λz=>c.aJ.length-z.1) (0,n,-1) ⟨aF _,Kw,Kw,hZ⟩ (Xs false [] X0) ?_
 rintro⟨j,y,w⟩⟨hj,hy0,OI,hr⟩Ql ak ar;dsimp only at hj hy0 OI hr ⊢;by_cases dx:j<c.aJ.length
 ·have hd:=cN c.aJ j default dx;have hm:=xR _ (aB (d:=default) dx);generalize aS:c.aJ.getD j default=x at *;rw[hd,l9]at hr;by_cases hc:x.cls=k
  ·have hm:=hm hc;generalize fW:row.getD x.opt.toNat false=b at *;cases b
   ·rw[if_neg G9]at hr;((repeat'(first|refine Va (X3 @aS @iH.eq_1 @fW) ?_|(refine V2 (X3 @aS @iH.eq_1 @fW) ?_ ?_<;>try with_reducible intro hb)|(refine Xi ?_ ?_<;>try intro ht)|exact Xx|fail)))
    all_goals exact ak _ (j+1,y,w) ⟨Kw,Kw,OI,hr⟩ Kw (Xs false [] X0)
   ·rw[if_pos ⟨hc,rfl⟩]at hr;by_cases hw:w<0\/x.wt<w
    ·rw[if_pos hw]at hr;((repeat'(first|refine Va (X3 @aS @iH.eq_1 @fW) ?_|(refine V2 (X3 @aS @iH.eq_1 @fW) ?_ ?_<;>try with_reducible intro hb)|(refine Xi ?_ ?_<;>try intro ht)|exact Xx|fail)))
     all_goals exact ak _ (j+1,y-1,x.wt) ⟨Kw,Kw,Kw,hr⟩ Kw (Xs false [] X0)
    ·rw[if_neg hw]at hr;((repeat'(first|refine Va (X3 @aS @iH.eq_1 @fW) ?_|(refine V2 (X3 @aS @iH.eq_1 @fW) ?_ ?_<;>try with_reducible intro hb)|(refine Xi ?_ ?_<;>try intro ht)|exact Xx|fail)))
     all_goals exact ak _ (j+1,y-1,w) ⟨Kw,Kw,Kw,hr⟩ Kw (Xs false [] X0)
  ·rw[if_neg (λh=>hc h.1)]at hr;((repeat'(first|refine Va (X2 @aS @iH.eq_1) ?_|(refine V2 (X2 @aS @iH.eq_1) ?_ ?_<;>try with_reducible intro hb)|(refine Xi ?_ ?_<;>try intro ht)|exact Xx|fail)))
   all_goals exact ak _ (j+1,y,w) ⟨Kw,Kw,OI,hr⟩ Kw (Xs false [] X0)
 rw[cM G3,l9]at hr;rw[<- hr]at aj;dsimp only at aj;by_cases he:0<y\/w<0
 ·rw[if_pos he]at aj;((repeat'(first|refine Va X0 ?_|(refine V2 X0 ?_ ?_<;>try with_reducible intro hb)|(refine Xi ?_ ?_<;>try intro ht)|exact Xx|fail)))
  refine ar _ _ rfl ?_;clear ak ar Ql;repeat(refine Xu ?_)
  ((repeat'(first|refine Vb X0 ?_|(refine V2 X0 ?_ ?_<;>try with_reducible intro hb)|(refine Xi ?_ ?_<;>try intro ht)|exact Xx|fail)))
  all_goals exact aE rfl (by rw[aj])
 ·rw[if_neg he]at aj;((repeat'(first|refine Va X0 ?_|(refine V2 X0 ?_ ?_<;>try with_reducible intro hb)|(refine Xi ?_ ?_<;>try intro ht)|exact Xx|fail)))
  refine ar _ _ rfl ?_;clear ak ar Ql;repeat(refine Xu ?_)
  ((repeat'(first|refine Vb X0 ?_|(refine V2 X0 ?_ ?_<;>try with_reducible intro hb)|(refine Xi ?_ ?_<;>try intro ht)|exact Xx|fail)))
  all_goals exact aE rfl (by rw[aj])
def akM(m:ah)(c:Ct)(left:List (List Bool))(hm:VM m)(hc:iW m c=true)(hf:fD m left):
  an Tryz.prog 155 [.agg (aV c),.tree 1 (rowsOf aT left)] [] (aaa (uz left c)) []:=by
 obtain⟨q1,q2,q3,q4⟩:=nG hc;have hl:=AQ hm q4;have bJ:=rS q4;have fK:=hf.1;have bY:=hm.cls;have hw:∀ x∈c.aJ,1<=x.wt/\x.wt<=1000:=λx hx=>(bJ x hx).2;have jO:=λk row=>akJ hw k row;generalize aj:uz left c=res;unfold uz at aj;generalize hG:uy c.aJ left none c.aJ (-c.most)=G at *;refine an.aC 50 0 [.tmp 4] Tryz.func155 ?_;refine Vb @aV.eq_1 ?_;refine aO (λz:Nat×Int=>(⟨au [(1,.tree 1 (rowsOf aT left)),(2,.ptr 0 0 0),(5,aaa z.2),(12,.tree 3 (rowsOf iH c.aJ)),(13,aaa c.aJ.length),(14,aaa z.1)],[.var (aV c)]⟩:St))
  (λz=>z.1<=c.aJ.length/\-1048576<=z.2/\z.2<=1000*(z.1:Int)/\uy c.aJ left ((mA c.aJ z.1).map (·.cls)) (c.aJ.drop z.1) z.2=G) (λz=>c.aJ.length-z.1) (0,-c.most) ⟨aF _,Kw,Kw,hG⟩ (Xv @aV.eq_1) ?_
 rintro⟨i,n⟩⟨hi,eA,eF,hr⟩Ql ak ar;dsimp only at hi eA eF hr ⊢;by_cases hi':i<c.aJ.length
 ·have hd:=cN c.aJ i default hi';have hx:=bJ _ (aB (d:=default) hi');have F8:=iv.1 hx.1;have OJ:(mA c.aJ (i+1)).map (·.cls)=some (c.aJ.getD i default).cls:=by rw[wy];rfl
  have OK:0<i->(mA c.aJ i).map (·.cls)=some (c.aJ.getD (i-1) default).cls:=λh=>by unfold mA;rw[if_neg G3];rfl
  have x7:i=0->(mA c.aJ i).map (·.cls)=none:=λh=>by unfold mA;rw[if_pos h];rfl
  rw[hd,uy]at hr;have cZ:=hf.2 (c.aJ.getD i default).cls.toNat G3;have Dk:=hm.opt _ (aB (l:=m.cls) (i:=(c.aJ.getD i default).cls.toNat) (d:=default) G3);have bx:=akK c (c.aJ.getD i default).cls (left.getD (c.aJ.getD i default).cls.toNat default) G3 (λy hy e=>by
   have:=iv.1 (bJ y hy).1;rw[e]at this;omega) hl
  have vC:=jO (c.aJ.getD i default).cls (left.getD (c.aJ.getD i default).cls.toNat default);have eM:0<i->((i:Int)-1).toNat=i-1:=λh=>G3;generalize bL:(mA c.aJ i).map (·.cls)=pq at *;generalize aS:c.aJ.getD i default=x at *;generalize gA:c.aJ.getD (i-1) default=y at *;generalize bj:left.getD x.cls.toNat default=row at *;generalize qZ c.aJ x.cls row=g at *;rcases Nat.eq_zero_or_pos i with h0|h0
  ·rw[x7 h0,if_neg G9]at hr;subst h0;((repeat'(first|refine Vc (X5 @aS @iH.eq_1 @bj @aT.eq_1 @aV.eq_1) bx ?_|(refine Xi ?_ ?_<;>try intro ht)|exact Xx|fail)))
   all_goals exact ak _ (0+1,n+g) ⟨Kw,Kw,Kw,by dsimp only;rw[OJ];exact hr⟩ Kw (Xs false [0] @aV.eq_1)
  ·rw[OK h0]at hr;have eM:=eM h0;by_cases he:y.cls=x.cls
   ·rw[if_pos (by rw[he])]at hr;((repeat'(first|refine Vc (X5 @aS @gA @eM @iH.eq_1 (X3 @bj @aT.eq_1 @aV.eq_1)) bx ?_|(refine V2 (X5 @aS @gA @eM @iH.eq_1 (X3 @bj @aT.eq_1 @aV.eq_1)) ?_ ?_<;>try with_reducible intro hb)|(refine Xi ?_ ?_<;>try intro ht)|exact Xx|fail)))
    all_goals exact ak _ (i+1,n) ⟨Kw,eA,Kw,by dsimp only;rw[OJ];exact hr⟩ Kw (Xs false [0] @aV.eq_1)
   ·rw[if_neg (λe=>he (by injection e))]at hr;((repeat'(first|refine Vc (X5 @aS @gA @eM @iH.eq_1 (X3 @bj @aT.eq_1 @aV.eq_1)) bx ?_|(refine V2 (X5 @aS @gA @eM @iH.eq_1 (X3 @bj @aT.eq_1 @aV.eq_1)) ?_ ?_<;>try with_reducible intro hb)|(refine Xi ?_ ?_<;>try intro ht)|exact Xx|fail)))
    all_goals exact ak _ (i+1,n+g) ⟨Kw,Kw,Kw,by dsimp only;rw[OJ];exact hr⟩ Kw (Xs false [0] @aV.eq_1)
 ·rw[cM G3,uy]at hr;subst hr;have yQ:=akE (max n 0) c.b8 G3 q3;rw[aj]at yQ;((repeat'(first|refine Va X0 ?_|(refine V2 X0 ?_ ?_<;>try with_reducible intro hb)|(refine Xi ?_ ?_<;>try intro ht)|exact Xx|fail)))
  refine ar _ _ rfl ?_;clear ak ar Ql;repeat(refine Xu ?_)
  refine Vd @aV.eq_1 yQ ?_;all_goals exact aE rfl rfl
def akN(left:List (List Bool)){c:Ct}(hp:jH c.b8=true):0<=uz left c/\uz left c<=1099511627776:=by
 have:=mD hp;unfold bZ at this;unfold uz Dq;have h:0<=max (uy c.aJ left none c.aJ (-c.most)) 0:=G3;generalize max (uy c.aJ left none c.aJ (-c.most)) 0=n at *;have:=xz h this.1;split<;>omega
def akO(m:ah)(left:List (List Bool))(hm:VM m)(hf:fD m left):an Tryz.prog 136 [.agg (ao m),.tree 1 (rowsOf aT left)] [] (aaa (iA m left)) []:=by
 have fK:=hf.1;have nL:=hm.cls;have s7:=hm.ae;have Es:=hm.ax;generalize aj:iA m left=res;unfold iA at aj;generalize hA:zO left 0 m.cls 0=A at *;refine an.aC 85 0 [.tmp 4] Tryz.func136 ?_;refine Vb X0 ?_;refine aO (λz:Nat×Int=>(⟨au [(1,.tree 1 (rowsOf aT left)),(2,.ptr 0 0 0),(5,aaa z.2),(18,.tree 1 (rowsOf a9 m.cls)),(19,aaa m.cls.length),(20,aaa z.1)],[.var (ao m)]⟩:St))
  (λz=>z.1<=m.cls.length/\0<=z.2/\z.2<=1099511627776*(z.1:Int)/\zO left z.1 (m.cls.drop z.1) z.2=A) (λz=>m.cls.length-z.1) (0,0) ⟨aF _,iO _,Kw,hA⟩ (Xv X0) ?_
 rintro⟨i,n⟩⟨hi,eA,eF,hr⟩Ql ak ar;dsimp only at hi eA eF hr ⊢;by_cases hi':i<m.cls.length
 ·have hd:=cN m.cls i default hi';have hc:=hm.opt _ (aB (d:=default) hi');have fC:=hm.oB _ (aB (d:=default) hi');have cZ:=hf.2 i G3;have akP:=hm.iI;generalize aM:m.cls.getD i default=c at *;generalize bj:left.getD i default=row at *;rw[hd,zO,bj]at hr;have hmr:=OG (iy c) row 1099511627776 (λx hx=>by
   obtain⟨o,ho,rfl⟩:=cC.1 hx;exact(IV (fC o ho)).1) G3
  generalize hX:l8 (iy c) row 1099511627776=X at *;((repeat'(first|refine Va (X2 @aM @a9.eq_1) ?_|(refine Xi ?_ ?_<;>try intro ht)|exact Xx|fail)))
  refine aO (λz:Nat×Int=>(⟨au [(1,.tree 1 (rowsOf aT left)),(2,.ptr 0 0 0),(5,aaa n),(6,aaa i),(8,aaa z.2),(18,.tree 1 (rowsOf a9 m.cls)),(19,aaa m.cls.length),(20,aaa i),(25,.tree 6 (rowsOf cK c)),(26,aaa c.length),(27,aaa z.1)],[.var (ao m)]⟩:St))
   (λz=>z.1<=c.length/\l8 (iy (c.drop z.1)) (row.drop z.1) z.2=X) (λz=>c.length-z.1) (0,1099511627776) ⟨aF _,hX⟩ (Xv X0) ?_
  rintro⟨k,x⟩⟨hk,fB⟩cL a7 ba;dsimp only at hk fB ⊢;by_cases aL:k<c.length
  ·have wI:=cN c k default aL;have qV:=cN row k false G3;have ho:=aB (l:=c) (d:=default) aL;have how:=akF (c.getD k default) (IU (fC _ ho)) (by have:=ET akP.1 (fC _ ho);omega);generalize kY:c.getD k default=o at *;generalize fW:row.getD k false=b at *;rw[wI,qV,show iy (o::c.drop (k+1))=sY o::iy (c.drop (k+1)) from rfl,l8]at fB;cases b
   ·rw[if_neg G9]at fB;((repeat'(first|refine Va (X4 @kY @bj @fW @aT.eq_1) ?_|(refine Xi ?_ ?_<;>try intro ht)|exact Xx|fail)))
    all_goals exact a7 _ (k+1,x) ⟨Kw,fB⟩ Kw (Xs false [0] X0)
   ·rw[if_pos rfl]at fB;((repeat'(first|refine Vc (X4 @kY @bj @fW @aT.eq_1) how ?_|(refine Xi ?_ ?_<;>try intro ht)|exact Xx|fail)))
    all_goals exact a7 _ (k+1,min x (sY o)) ⟨Kw,fB⟩ Kw (Xs false [0] X0)
  ·rw[show c.drop k=[] from cM G3]at fB;have hxX:x=X:=by rw[<- fB];cases row.drop k<;>rfl
   clear fB;subst hxX;by_cases hF:x=1099511627776
   ·rw[if_pos hF]at hr;((repeat'(first|refine Va X0 ?_|(refine Xi ?_ ?_<;>try intro ht)|exact Xx|fail)))
    refine ba _ _ rfl ?_;clear a7 ba;repeat(refine Xu ?_)
    ((repeat'(first|refine Va X0 ?_|(refine Xi ?_ ?_<;>try intro ht)|exact Xx|fail)))
    all_goals
     repeat(refine Xu ?_)
     rw[<- hr]at aj;refine Vb X0 ?_;exact aE rfl (by rw[<- aj];rfl)
   ·rw[if_neg hF]at hr;((repeat'(first|refine Va X0 ?_|(refine Xi ?_ ?_<;>try intro ht)|exact Xx|fail)))
    refine ba _ _ rfl ?_;clear a7 ba;repeat(refine Xu ?_)
    ((repeat'(first|refine Va X0 ?_|(refine Xi ?_ ?_<;>try intro ht)|exact Xx|fail)))
    all_goals exact ak _ (i+1,n+x) ⟨Kw,Kw,Kw,hr⟩ Kw (Xv X0)
 rw[show m.cls.drop i=[] from cM G3,zO]at hr;subst hr;have nE:n<=1099511627776*24:=G3;clear eF;rw[Gr]at aj;generalize hB:yy m left m.ae n=B at *;((repeat'(first|refine Va X0 ?_|(refine Xi ?_ ?_<;>try intro ht)|exact Xx|fail)))
 refine ar _ _ rfl ?_;clear ak ar Ql;repeat(refine Xu ?_)
 refine Va X0 ?_;refine aO (λz:Nat×Int=>(⟨au [(1,.tree 1 (rowsOf aT left)),(2,.ptr 0 0 0),(5,aaa z.2),(51,.tree 4 (rowsOf aQ m.ae)),(52,aaa m.ae.length),(53,aaa z.1)],[.var (ao m)]⟩:St))
  (λz=>z.1<=m.ae.length/\0<=z.2/\z.2<=1099511627776*24+1099511627776*(z.1:Int)/\yy m left (m.ae.drop z.1) z.2=B) (λz=>m.ae.length-z.1) (0,n) ⟨aF _,eA,Kw,hB⟩ (Xv X0) ?_
 (try clear eA;clear hi nE hB i)
 rintro⟨i,n⟩⟨hi,eA,eF,hr⟩Ql ak ar;dsimp only at hi eA eF hr ⊢;by_cases hi':i<m.ae.length
 ·have hd:=cN m.ae i default hi';have dJ:=jy hm.pr _ (aB (d:=default) hi');have Gs:=akH m _ left hm dJ hf;have jN:=akD hm dJ hf;generalize bL:m.ae.getD i default=p at *;rw[hd,yy]at hr;generalize vG m left p=x at *;by_cases hF:x=1099511627776
  ·rw[if_pos hF]at hr;((repeat'(first|refine Vc (X2 @bL @aQ.eq_1) Gs ?_|(refine Xi ?_ ?_<;>try intro ht)|exact Xx|fail)))
   all_goals
    repeat(refine Xu ?_)
    rw[<- hr]at aj;refine Vb X0 ?_;exact aE rfl (by rw[<- aj];rfl)
  ·rw[if_neg hF]at hr;((repeat'(first|refine Vc (X2 @bL @aQ.eq_1) Gs ?_|(refine Xi ?_ ?_<;>try intro ht)|exact Xx|fail)))
   all_goals exact ak _ (i+1,n+x) ⟨Kw,Kw,Kw,hr⟩ Kw (Xs false [0] X0)
 rw[show m.ae.drop i=[] from cM G3,yy]at hr;subst hr;have nE:n<=1099511627776*5000:=G3;clear eF;rw[Dr]at aj;generalize hB:yz left m.ax n=B at *;((repeat'(first|refine Va X0 ?_|(refine Xi ?_ ?_<;>try intro ht)|exact Xx|fail)))
 refine ar _ _ rfl ?_;clear ak ar Ql;repeat(refine Xu ?_)
 refine Va X0 ?_;refine aO (λz:Nat×Int=>(⟨au [(1,.tree 1 (rowsOf aT left)),(2,.ptr 0 0 0),(5,aaa z.2),(68,.tree 4 (rowsOf aV m.ax)),(69,aaa m.ax.length),(70,aaa z.1)],[.var (ao m)]⟩:St))
  (λz=>z.1<=m.ax.length/\0<=z.2/\z.2<=1099511627776*5000+1099511627776*(z.1:Int)/\yz left (m.ax.drop z.1) z.2=B) (λz=>m.ax.length-z.1) (0,n) ⟨aF _,eA,Kw,hB⟩ (Xv X0) ?_
 (try clear eA;clear hi nE hB i)
 rintro⟨i,n⟩⟨hi,eA,eF,hr⟩Ql ak ar;dsimp only at hi eA eF hr ⊢;by_cases hi':i<m.ax.length
 ·have hd:=cN m.ax i default hi';have jr:=hm.ct _ (aB (d:=default) hi');have Gs:=akM m _ left hm jr hf;have jN:=akN left (nG jr).2.2.1;generalize bL:m.ax.getD i default=p at *;rw[hd,yz]at hr;generalize uz left p=x at *;by_cases hF:x=1099511627776
  ·rw[if_pos hF]at hr;((repeat'(first|refine Vc (X2 @bL @aV.eq_1) Gs ?_|(refine Xi ?_ ?_<;>try intro ht)|exact Xx|fail)))
   all_goals
    repeat(refine Xu ?_)
    rw[<- hr]at aj;refine Vb X0 ?_;exact aE rfl (by rw[<- aj];rfl)
  ·rw[if_neg hF]at hr;((repeat'(first|refine Vc (X2 @bL @aV.eq_1) Gs ?_|(refine Xi ?_ ?_<;>try intro ht)|exact Xx|fail)))
   all_goals exact ak _ (i+1,n+x) ⟨Kw,Kw,Kw,hr⟩ Kw (Xs false [0] X0)
 rw[show m.ax.drop i=[] from cM G3,yz]at hr;rw[<- hr]at aj;have su:=OH n;rw[show min n 1099511627776=res from aj]at su;((repeat'(first|refine Va X0 ?_|(refine Xi ?_ ?_<;>try intro ht)|exact Xx|fail)))
 refine ar _ _ rfl ?_;clear ak ar Ql;repeat(refine Xu ?_)
 refine Vd X0 su ?_;exact aE rfl rfl
end T

