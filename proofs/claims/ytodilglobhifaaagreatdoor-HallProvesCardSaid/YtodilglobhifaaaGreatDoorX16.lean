import Derived.Test.YtodilglobhifaaaGreatDoorX15
import Derived.Test.YtodilglobhifaaaGreatDoorX11
set_option linter.all false
set_option maxHeartbeats 0
set_option maxRecDepth 20000
open Int renaming natCast_add→yQ,cast_ofNat_Int→wZ,zero_add→BF,toNat_of_nonneg→oW
open List renaming length_cons→cf,getD_cons_zero→je,getD_cons_succ→gY,mem_cons→cI,mem_append→bE,mem_singleton→bK,map_append→iJ,nodup_append→sH,mem_map→cF,map_cons→lg,map_nil→sB,map_map→JH,map_congr_left→qX,mem_iff_getElem→n6,getD_eq_getElem?_getD→ax,getElem?_eq_getElem→aT,not_mem_nil→lf,foldl_append→BG,foldl_nil→JI,getElem?_append_right→dy,getElem?_append_left→cG,getElem?_eq_some_iff→aN,getElem?_set_ne→dz,getElem?_set→bT,getElem?_eq_none→fO,length_set→bm,range→bp,mem_or_eq_of_mem_set→ue
open Option renaming getD_some→dE
open Nat renaming lt_or_ge→dr
open Bool renaming and_eq_true→bb,not_eq_true'→jd
open Go Go.Am
namespace T
def lX:List Ld->Int->Int->Int->Int
 |[],_,_,w=>w
 |x::r,c,o,w=>lX r c o (if x.cls=c/\x.opt=o then x.wt else w)
def jk(l:List Ld)(c:Int):Nat->List Bool->Int->Int
 |_,[],b=>b
 |o,is::r,b=>jk l c (o+1) r (if is=true/\(b<0\/lX l c o 0<b) then lX l c o 0 else b)
def oY(l:List Ld)(c:Int)(row:List Bool):Int:=max (jk l c 0 row (-1)) 0
def pV(l:List Ld):Nat->List (List Bool)->Int->Int
 |_,[],n=>n
 |i,row::r,n=>pV l (i+1) r (n+oY l i row)
def oX(left:List (List Bool))(c:Ct):Int:=mN c.most c.bW (pV c.bQ 0 left 0)
def Y'(l:List Ld)(x:Ld)(c o:Int):∀ w,lX (l++[x]) c o w=if x.cls=c/\x.opt=o then x.wt else lX l c o w:=by
 induction l with
 |nil=>intro w;rfl
 |cons y r ih=>intro w;exact ih _
def G7:∀ {l:List Ld} {c:Int} (o w:Int),(∀ x∈l,x.cls≠c)->lX l c o w=w
 |[],_,_,_,_=>rfl
 |x::r,c,o,w,h=>by
  rw[lX,if_neg (λe=>h x Jy e.1)];exact G7 o w λy hy=>h y (by simp[hy])
def J0{l:List Ld}(h:∀ x∈l,1<=x.wt/\x.wt<=1000)(c o:Int):∀ w,0<=w/\w<=1000->0<=lX l c o w/\lX l c o w<=1000:=by
 induction l with
 |nil=>intro w hw;exact hw
 |cons x r ih =>
  intro w hw;rw[lX];refine ih (λy hy=>h y (by simp[hy])) _ ?_;have:=h x Jy;split<;>omega
def Ra{l:List Ld}{c:Int}(h:∀ x∈l,x.cls≠c):∀ (row:List Bool) (o:Nat) (b:Int),-1<=b/\b<=0->-1<=jk l c o row b/\jk l c o row b<=0
 |[],_,b,hb=>hb
 |is::r,o,b,hb=>by
  rw[jk];refine Ra h r (o+1) _ ?_;rw[G7 _ _ h];split<;>omega
def Za{l:List Ld}{c:Int}(h:∀ x∈l,x.cls≠c)(row:List Bool):oY l c row=0:=by
 have:=Ra h row 0 (-1) Bv;unfold oY;omega
def Fb{l:List Ld}(h:∀ x∈l,1<=x.wt/\x.wt<=1000)(c:Int):∀ (row:List Bool) (o:Nat) (b:Int),-1<=b/\b<=1000->-1<=jk l c o row b/\jk l c o row b<=1000
 |[],_,b,hb=>hb
 |is::r,o,b,hb=>by
  rw[jk];refine Fb h c r (o+1) _ ?_;have:=J0 h c o 0 Bv;split<;>omega
def JT{l:List Ld}(h:∀ x∈l,1<=x.wt/\x.wt<=1000)(c:Int)(row:List Bool):0<=oY l c row/\oY l c row<=1000:=by
 have:=Fb h c row 0 (-1) Bv;unfold oY;omega
def cM(f:Nat->Int):Nat->Int
 |0=>0
 |n+1=>cM f n+f n
def mo{f g:Nat->Int}:∀ (n:Nat),(∀ i<n,f i=g i)->cM f n=cM g n
 |0,_=>rfl
 |n+1,h=>by rw[cM,cM,mo n λi hi=>h i Bv,h n Bv]
def Ae{f:Nat->Int}{B:Int}:∀ (n:Nat),(∀ i<n,0<=f i/\f i<=B)->0<=cM f n/\cM f n<=B*n
 |0,_=>by simp[cM]
 |n+1,h=>by
  have h1:=Ae n λi hi=>h i Bv;have h2:=h n Bv;rw[cM,yQ,Int.mul_add];simp only[wZ,Int.mul_one];omega
def xU(f:Nat->Int)(k:Nat)(v:Int):∀ (n:Nat),cM (λi=>if i=k then f i+v else f i) n=cM f n+if k<n then v else 0
 |0=>by simp[cM]
 |n+1=>by
  rw[cM,cM,xU f k v n];by_cases h:n=k
  ·subst h;rw[if_pos rfl,if_neg Bv,if_pos Bv];omega
  ·rw[if_neg h];by_cases h2:k<n
   ·rw[if_pos h2,if_pos Bv];omega
   ·rw[if_neg h2,if_neg Bv];omega
def xV(f:Nat->Int):∀ n,cM f (n+1)=f 0+cM (λi=>f (i+1)) n
 |0=>by simp[cM]
 |n+1=>by rw[cM,xV f n,cM];omega
def G8(l:List Ld):∀ (left:List (List Bool)) (i:Nat) (n:Int),pV l i left n=n+cM (λj=>oY l (i+j:Nat) (left.getD j [])) left.length
 |[],i,n=>by simp[pV,cM]
 |row::r,i,n=>by
  rw[pV,G8 l r (i+1),cf,xV];simp only[je,gY,Nat.add_zero];rw[mo (g:=λj=>oY l (i+(j+1):Nat) (r.getD j [])) r.length λj _=>by rw[show i+1+j=i+(j+1) by omega]];omega
def JS{l:List Ld}(h:∀ x∈l,1<=x.wt/\x.wt<=1000)(left:List (List Bool)):0<=pV l 0 left 0/\pV l 0 left 0<=1000*left.length:=by
 rw[G8,BF];exact Ae _ λi _=>JT h _ _
abbrev ku:=Int×Nat×List (Int×Int)
def vE(es:List (Int×Int)):List (Int×Value):=es.map λp=>(p.1,.int .i64 p.2)
def gE(A:List ku):List (Int×Value):=A.map λe=>(e.1,.map (some e.2.1))
def v8(o w:Int):List (Int×Int)->List (Int×Int)
 |[]=>[(o,w)]
 |p::r=>if p.1=o then(o,w)::r else p::v8 o w r
def rR(o:Int):List (Int×Int)->Int
 |[]=>0
 |p::r=>if p.1=o then p.2 else rR o r
def Rb(o w:Int):∀ es,iN o (.int .i64 w) (vE es)=vE (v8 o w es)
 |[]=>rfl
 |p::r=>by
  show iN o _ ((p.1,Value.int .i64 p.2)::vE r)=_;rw[iN,v8];by_cases h:p.1=o
  ·rw[if_pos h,if_pos h];rfl
  ·rw[if_neg h,if_neg h,Rb o w r];rfl
def J1(o:Int):∀ es,(kI o (vE es)).getD (.int .i64 0)=.int .i64 (rR o es)
 |[]=>rfl
 |p::r=>by
  show(kI o ((p.1,Value.int .i64 p.2)::vE r)).getD _=_;rw[kI,rR];by_cases h:p.1=o
  ·rw[if_pos h,if_pos h];rfl
  ·rw[if_neg h,if_neg h,J1 o r]
def Rd(o w x:Int):∀ es,rR x (v8 o w es)=if o=x then w else rR x es
 |[]=>rfl
 |p::r=>by
  rw[v8];by_cases h:p.1=o
  ·rw[if_pos h,rR,rR];by_cases h2:o=x
   ·rw[if_pos h2,if_pos h2]
   ·rw[if_neg h2,if_neg h2,if_neg Bv]
  ·rw[if_neg h,rR,rR,Rd o w x r];by_cases h2:p.1=x
   ·rw[if_pos h2,if_neg Bv,if_pos h2]
   ·rw[if_neg h2,if_neg h2]
def E9(c:Int):∀ A:List ku,(kI c (gE A)=none/\∀ e∈A,e.1≠c)\/∃ e∈A,e.1=c/\kI c (gE A)=some (.map (some e.2.1))
 |[]=>.inl ⟨rfl,Jy⟩
 |e::r=>by
  show(kI c ((e.1,Value.map (some e.2.1))::gE r)=none/\_)\/_;by_cases h:e.1=c
  ·right;refine⟨e,Jy,h,?_⟩;show kI c ((e.1,Value.map (some e.2.1))::gE r)=_;rw[kI,if_pos h]
  ·rcases E9 c r with⟨h1,h2⟩|⟨e',h1,h2,h3⟩
   ·left;refine⟨by rw[kI,if_neg h];exact h1,λx hx=>?_⟩;rcases cI.1 hx with rfl|hx
    ·exact h
    ·exact h2 x hx
   ·right;refine⟨e',by simp[h1],h2,?_⟩;show kI c ((e.1,Value.map (some e.2.1))::gE r)=_;rw[kI,if_neg h];exact h3
def Re(c:Int)(b:Nat):∀ A:List ku,(∀ e∈A,e.1≠c)->iN c (.map (some b)) (gE A)=gE (A++[(c,b,[])])
 |[],_=>rfl
 |e::r,h=>by
  show iN c _ ((e.1,Value.map (some e.2.1))::gE r)=_;rw[iN,if_neg (h e Jy),Re c b r λx hx=>h x (by simp[hx])];rfl
structure GI(R:Nat)(dn:List Ld)(A:List ku)(b0:Nat)(μ:Mem):Prop where
 top:μ b0=some (.map (iE (gE A)))
 sub:∀ e∈A,μ e.2.1=some (.map (iE (vE e.2.2)))
 xW:∀ e∈A,e.2.1≠b0
 inj:∀ e∈A,∀ e'∈A,e.2.1=e'.2.1->e=e'
 keys:(A.map (·.1)).Nodup
 val:∀ e∈A,∀ o,rR o e.2.2=lX dn e.1 o 0
 has:∀ x∈dn,∃ e∈A,e.1=x.cls
 iz:∀ e∈A,0<=e.1/\e.1<R
def GI.nil{R b0:Nat}{μ:Mem}(h:μ b0=some (.map [])):GI R [] [] b0 μ:=⟨h,Jy,Jy,Jy,Jy,Jy,Jy,Jy⟩
def GI.new{R:Nat}{dn:List Ld}{A:List ku}{b0:Nat}{μ:Mem}(h:GI R dn A b0 μ){c:Int}(Zb:0<=c/\c<R)(hc:∀ e∈A,e.1≠c){b:Nat}(hb:μ b=none):GI R dn (A++[(c,b,[])]) b0 (jh (jh μ b (.map [])) b0 (.map (iE (iN c (.map (some b)) (gE A))))):=by
 have sK:b≠b0:=λe=>by rw[e,h.top]at hb;cases hb
 have ov:∀ e∈A,e.2.1≠b:=λe he e2=>by have:=h.sub e he;rw[e2,hb]at this;cases this
 refine⟨by rw[uh,Re c b A hc],λe he=>?_,λe he=>?_,λe he e' nN hh=>?_,?_,λe he o=>?_,λx hx=>?_,λe he=>?_⟩
 ·rcases bE.1 he with he|he
  ·rw[q9 _ _ (h.xW e he),q9 _ _ (ov e he)];exact h.sub e he
  ·simp only[bK]at he;subst he;rw[q9 _ _ sK,uh];rfl
 ·rcases bE.1 he with he|he
  ·exact h.xW e he
  ·simp only[bK]at he;subst he;exact sK
 ·rcases bE.1 he with he|he<;>rcases bE.1 nN with nN|nN
  ·exact h.inj e he e' nN hh
  ·simp only[bK]at nN;subst nN;exact absurd hh (ov e he)
  ·simp only[bK]at he;subst he;exact absurd hh.symm (ov e' nN)
  ·simp only[bK]at he nN;rw[he,nN]
 ·rw[iJ,sH];refine⟨h.keys,Jy,λa ha b' bO=>?_⟩;obtain⟨e,he,rfl⟩:=cF.1 ha;simp only[lg,sB,bK]at bO;rw[bO];exact hc e he
 ·rcases bE.1 he with he|he
  ·exact h.val e he o
  ·simp only[bK]at he;subst he;rw[G7]
   ·rfl
   ·intro x hx px;obtain⟨e,he,tq⟩:=h.has x hx;exact hc e he (tq.trans px)
 ·obtain⟨e,he,tq⟩:=h.has x hx;exact⟨e,List.mem_append_left _ he,tq⟩
 ·rcases bE.1 he with he|he
  ·exact h.iz e he
  ·simp only[bK]at he;subst he;exact Zb
def cS(c o w:Int)(A:List ku):List ku:=A.map λe=>if e.1=c then(e.1,e.2.1,v8 o w e.2.2) else e
def Zc(c o w:Int)(A:List ku):gE (cS c o w A)=gE A:=by
 unfold gE cS;rw[JH];refine qX λe _=>?_;simp only[Function.comp];split<;>rfl
def GI.put{R:Nat}{dn:List Ld}{A:List ku}{b0:Nat}{μ:Mem}(h:GI R dn A b0 μ){x:Ld}{e0:ku}(lA:e0∈A)(hc:e0.1=x.cls):GI R (dn++[x]) (cS x.cls x.opt x.wt A) b0 (jh μ e0.2.1 (.map (iE (iN x.opt (.int .i64 x.wt) (vE e0.2.2))))):=by
 have uniq:∀ e∈A,e.1=x.cls->e=e0:=λe he hh=>by
  have hk:=h.keys;obtain⟨i,hi,rfl⟩:=n6.1 he;obtain⟨j,hj,rfl⟩:=n6.1 lA;have:i=j:=(List.getElem_inj (h₀:=by simpa using hi) (h₁:=by simpa using hj) hk).1 (by simp only[List.getElem_map];rw[hh,hc]);subst this;rfl
 have one:∀ e∈cS x.cls x.opt x.wt A,(e=(e0.1,e0.2.1,v8 x.opt x.wt e0.2.2))\/(e∈A/\e.1≠x.cls):=λe he=>by
  obtain⟨e',nN,rfl⟩:=cF.1 he;by_cases hh:e'.1=x.cls
  ·left;rw[if_pos hh,uniq e' nN hh]
  ·right;rw[if_neg hh];exact⟨nN,hh⟩
 have ov:∀ e∈A,e.1≠x.cls->e.2.1≠e0.2.1:=λe he hh e2=>hh (by rw[h.inj e he e0 lA e2,hc]);refine⟨by rw[q9 _ _ (h.xW e0 lA).symm,Zc];exact h.top,λe he=>?_,λe he=>?_,λe he e' nN hh=>?_,?_,λe he o=>?_,λy hy=>?_,λe he=>?_⟩
 ·rcases one e he with rfl|⟨h1,h2⟩
  ·rw[uh,Rb]
  ·rw[q9 _ _ (ov e h1 h2)];exact h.sub e h1
 ·rcases one e he with rfl|⟨h1,h2⟩
  ·exact h.xW e0 lA
  ·exact h.xW e h1
 ·rcases one e he with rfl|⟨h1,h2⟩<;>rcases one e' nN with rfl|⟨h3,h4⟩
  ·rfl
  ·exact absurd hh.symm (ov e' h3 h4)
  ·exact absurd hh (ov e h1 h2)
  ·exact h.inj e h1 e' h3 hh
 ·have:(cS x.cls x.opt x.wt A).map (·.1)=A.map (·.1):=by
   unfold cS;rw[JH];refine qX λe _=>?_;simp only[Function.comp];split<;>rfl
  rw[this];exact h.keys
 ·rw[Y'];rcases one e he with rfl|⟨h1,h2⟩
  ·dsimp only;rw[Rd,h.val e0 lA o];by_cases ho:x.opt=o
   ·rw[if_pos ho,if_pos ⟨hc.symm,ho⟩]
   ·rw[if_neg ho,if_neg (λe=>ho e.2)]
  ·rw[if_neg (λe=>h2 e.1.symm)];exact h.val e h1 o
 ·have mem:∀ e∈A,∃ e'∈cS x.cls x.opt x.wt A,e'.1=e.1:=λe he=>⟨_,List.mem_map_of_mem he,by split<;>rfl⟩;rcases bE.1 hy with hy|hy
  ·obtain⟨e,he,tq⟩:=h.has y hy;obtain⟨e',k1,k2⟩:=mem e he;exact⟨e',k1,k2.trans tq⟩
  ·simp only[bK]at hy;subst hy;obtain⟨e',k1,k2⟩:=mem e0 lA;exact⟨e',k1,k2.trans hc⟩
 ·rcases one e he with rfl|⟨h1,h2⟩
  ·exact h.iz e0 lA
  ·exact h.iz e h1
def uM(f:Int->Int):List ku->Int
 |[]=>0
 |e::r=>f e.1+uM f r
def G9(f:Int->Int)(n:Nat):∀ A:List ku,(A.map (·.1)).Nodup->(∀ e∈A,0<=e.1/\e.1<n)->uM f A=cM (λi=>if∃e∈A,e.1=(i:Int) then f i else 0) n
 |[],_,_=>by
  rw[mo (g:=λ_=>0) n (λi _=>Jy)];have:∀ n,cM (λ_=>0) n=0:=λn=>by induction n with|zero=>rfl|succ n ih=>rw[cM,ih];rfl
  rw[this];rfl
 |e::r,hn,hr=>by
  rw[lg,List.nodup_cons]at hn;rw[uM,G9 f n r hn.2 λx hx=>hr x (by simp[hx])];have h0:=hr e Jy;have Zd:¬∃x∈r,x.1=((e.1.toNat:Nat):Int):=by
   rintro⟨x,hx,hh⟩;rw[oW h0.1]at hh;exact hn.1 (cF.2 ⟨x,hx,hh⟩)
  have:=xU (λi=>if∃x∈r,x.1=(i:Int) then f i else 0) e.1.toNat (f e.1) n;rw[if_pos Bv]at this;rw[Int.add_comm,<- this];refine mo n λi hi=>?_;by_cases h:i=e.1.toNat
  ·subst h;rw[if_pos rfl,if_neg Zd,if_pos ⟨e,Jy,Bv⟩,oW h0.1];omega
  ·rw[if_neg h];have:(∃ x∈e::r,x.1=(i:Int))↔∃ x∈r,x.1=(i:Int):=by
    constructor
    ·rintro⟨x,hx,hh⟩;rcases cI.1 hx with rfl|hx
     ·omega
     ·exact⟨x,hx,hh⟩
    ·rintro⟨x,hx,hh⟩;exact⟨x,by simp[hx],hh⟩
   simp only[this]
def Rf:∀ A:List ku,uM (λ_=>1) A=A.length
 |[]=>rfl
 |e::r=>by rw[uM,Rf r,cf];omega
def GI.len{R:Nat}{dn:List Ld}{A:List ku}{b0:Nat}{μ:Mem}(h:GI R dn A b0 μ):A.length<=R:=by
 have h1:=G9 (λ_=>1) R A h.keys h.iz;rw[Rf]at h1;have h2:=Ae (f:=λi=>if∃e∈A,e.1=(i:Int) then(1:Int) else 0) (B:=1) R λi _=>by split<;>omega
 omega
def GI.sum{dn:List Ld}{A:List ku}{b0:Nat}{μ:Mem}{left:List (List Bool)}(h:GI left.length dn A b0 μ):uM (λc=>oY dn c (left.getD c.toNat [])) A=pV dn 0 left 0:=by
 rw[G9 _ left.length A h.keys h.iz,G8,BF];refine mo _ λi _=>?_;simp only[Nat.zero_add,Int.toNat_natCast];by_cases hh :∃e∈A,e.1=(i:Int)
 ·rw[if_pos hh]
 ·rw[if_neg hh,Za];intro x hx px;obtain⟨e,he,tq⟩:=h.has x hx;exact hh ⟨e,he,tq.trans px⟩
def q'(f:Nat->Int)(seen:List Nat)(n:Nat):Int:=cM (λi=>if i∈seen then f i else 0) n
def BQ(seen:List Nat)(n:Nat):Nat:=(cM (λi=>if i∈seen then 0 else 1) n).toNat
def Vo{f:Nat->Int}{seen:List Nat}{n j:Nat}(hj:j<n)(hs:j ∉ seen):q' f (seen++[j]) n=q' f seen n+f j:=by
 unfold q';have:=xU (λi=>if i∈seen then f i else 0) j (f j) n;rw[if_pos hj]at this;rw[<- this];refine mo n λi _=>?_;by_cases h:i=j
 ·subst h;rw[if_pos Jy,if_pos rfl,if_neg hs];omega
 ·rw[if_neg h];simp[h]
def Vp{seen:List Nat}{n j:Nat}(hj:j<n)(hs:j ∉ seen):BQ (seen++[j]) n<BQ seen n:=by
 unfold BQ;have h1:=xU (λi=>if i∈seen then(0:Int) else 1) j (-1) n;rw[if_pos hj]at h1;have h2:cM (λi=>if i∈seen++[j] then(0:Int) else 1) n=cM (λi=>if i=j then(if i∈seen then 0 else 1)+-1 else if i∈seen then 0 else 1) n:=by
  refine mo n λi _=>?_;by_cases h:i=j
  ·subst h;rw[if_pos Jy,if_pos rfl,if_neg hs];rfl
  ·rw[if_neg h];simp[h]
 have h3:=(Ae (f:=λi=>if i∈seen++[j] then(0:Int) else 1) (B:=1) n λi _=>by split<;>omega).1;omega
def Vk{f:Nat->Int}{seen:List Nat}{n:Nat}(h:∀ j<n,j∈seen):q' f seen n=cM f n:=mo n λi hi=>if_pos (h i hi)
def Vi(f:Nat->Int)(n:Nat):q' f [] n=0:=by
 unfold q';rw[mo (g:=λ_=>0) n (λi _=>Jy)]
 induction n with|zero=>rfl|succ n ih=>rw[cM,ih];rfl
def JU(f:Int->Int):∀ A:List ku,cM (λj=>f (A.getD j (0,0,[])).1) A.length=uM f A
 |[]=>rfl
 |e::r=>by
  rw[cf,xV,uM];simp only[je,gY];rw[JU f r]
def Vn{f:Nat->Int}{B:Int}{seen:List Nat}{n:Nat}(hB:0<=B)(h:∀ i<n,0<=f i/\f i<=B):0<=q' f seen n/\q' f seen n<=B*n :=
 Ae n λi hi=>by have:=h i hi;split<;>omega
def JV(L:List (Int×Value))(j:Nat):(iE L)[j]?=L[j]?.map λp=>(.int .i64 p.1,p.2):=by simp[iE]
def JW(A:List ku)(j:Nat):(gE A)[j]?=A[j]?.map λe=>(e.1,.map (some e.2.1)):=by simp[gE]
def BR(A:List ku):(iE (gE A)).length=A.length:=by simp[gE,iE]
def GI.other{R:Nat}{dn:List Ld}{A:List ku}{b0:Nat}{μ:Mem}(h:GI R dn A b0 μ){r:Nat}(g:Gh)(hr:∀ l,μ r≠some (.map l)):GI R dn A b0 (jh μ r g) :=
 ⟨by rw[q9 _ _ (λe=>hr _ (e▸h.top))];exact h.top,λe he=>by rw[q9 _ _ (λe2=>hr _ (e2▸h.sub e he))];exact h.sub e he,h.xW,h.inj,h.keys,h.val,h.has,h.iz⟩
def JZ(l:List Ld)(c:Int)(is:Bool):∀ (row:List Bool) (i:Nat) (b:Int),jk l c i (row++[is]) b =
  if is=true/\(jk l c i row b<0\/lX l c (i+row.length:Nat) 0<jk l c i row b) then lX l c (i+row.length:Nat) 0 else jk l c i row b
 |[],i,b=>rfl
 |x::r,i,b=>by
  show jk l c (i+1) (r++[is]) _=_;rw[JZ l c is r (i+1),jk,cf,show i+1+r.length=i+(r.length+1) by omega]
def iP(m:ah)(left:List (List Bool)):Prop:=left.length=m.cls.length/\∀ i,i<left.length->(left.getD i default).length=(m.cls.getD i default).length
instance (m:ah)(left:List (List Bool)):Decidable (iP m left):=by unfold iP;infer_instance
def iP.row{m:ah}{left:List (List Bool)}(hm:VM m)(h:iP m left):∀ r∈left,r.length<=24:=λr hr=>by
 obtain⟨i,hi,rfl⟩:=n6.1 hr;have:=h.2 i hi;rw[ax,aT hi]at this;simp only[dE]at this;rw[this];exact hm.opt _ (aF (by have:=h.1;omega))
def jb{α:Type}[Inhabited α]{l:List α}{k:Nat}(h:k<l.length):l.take (k+1)=l.take k++[l.getD k default]:=by
 rw[List.take_succ_eq_append_getElem h,ax,aT h];rfl
abbrev Nm:=Int×Bool
def fT(x:Int):Nm:=(x,decide (1099511627776<=x))
def aP(p:Nm):List AV:=[aam p.1,.lit (.bool p.2)]
def Rg(p:Nm):List AV:=[.lit (.bool p.2),aam p.1]
instance:Row aP 2:=⟨λ_=>rfl,λp v hv=>by
 simp only[aP,cI,lf,or_false]at hv;rcases hv with rfl|rfl<;>exact .inl ⟨_,rfl,rfl⟩⟩
instance:Row Rg 2:=⟨λ_=>rfl,λp v hv=>by
 simp only[Rg,cI,lf,or_false]at hv;rcases hv with rfl|rfl<;>exact .inl ⟨_,rfl,rfl⟩⟩
def v9(o:bF):Int:=(o.ch.map (·.2)).foldl eO 0
def rS(l:List bF):List Int:=l.map v9
def jG(l:List Int):List Nm:=l.map fT
def nO:List Nm->List Bool->Int×Bool->Int×Bool
 |p::r,is::s,b=>nO r s (if is=true/\p.2=false/\(b.2=false\/p.1<b.1) then(p.1,true) else b)
 |_,_,b=>b
def Rh{R:Int}{l:List (Int×Int)}(h:du R none l=true):∀ c∈l,bL c.2:=λc hc=>pC (z9 h c hc).2
def G':∀ (l:List Int) (n:Int),(∀ x∈l,bL x)->bL n->bL (l.foldl eO n)
 |[],_,_,h=>h
 |x::r,n,hl,h=>G' r _ (λy hy=>hl y (by simp[hy])) (xQ h (hl x Jy))
def Ri{R:Int}{o:bF}(h:du R none o.ch=true):bL (v9 o):=G' _ _ (λx hx=>by
 obtain⟨c,hc,rfl⟩:=cF.1 hx;exact Rh h c hc) (by unfold bL;decide)
structure Mv where
 pair:Int
 side:Int
 opt:Int
 eY:Int
 deriving Inhabited
def cu(x:Mv):List AV:=[aam x.pair,aam x.side,aam x.opt,aam x.eY]
instance:Row cu 4:=⟨λ_=>rfl,λx v hv=>by
 simp only[cu,cI,lf,or_false]at hv;rcases hv with rfl|rfl|rfl|rfl<;>exact .inl ⟨_,rfl,rfl⟩⟩
def fj(m:ah)(x:Mv):Int:=if x.side=0 then(m.aj.getD x.pair.toNat default).fst else(m.aj.getD x.pair.toNat default).snd
def lF(m:ah)(x:Mv):Bool:=decide (0<=x.pair/\x.pair<m.aj.length/\0<=x.side/\x.side<=1/\-268435456<=x.eY/\x.eY<=268435456)&&fH m (fj m x) x.opt
def Ze(l:List (Int×Int))(k:Nat)(h:k<l.length):(((l.take (k+1)).map (·.2)).foldl eO 0)=eO (((l.take k).map (·.2)).foldl eO 0) (l.getD k default).2:=by
 rw[jb h,iJ,BG];rfl
def iq:List Nm->List Bool->List Nm
 |p::r,is::s=>(if is=true then [p] else [])++iq r s
 |_,_=>[]
def xX(b a:Nm):Nm:=if a.2=false/\(b.2=true\/a.1<b.1) then a else b
def pE(l:List Nm):Nm:=l.foldl xX (0,true)
def Zf(l:List Nm)(a:Nm):pE (l++[a])=xX (pE l) a:=by unfold pE;rw[BG];rfl
def Ha(p:Nm)(is:Bool):∀ (l:List Nm) (s:List Bool),l.length=s.length->iq (l++[p]) (s++[is])=iq l s++(if is=true then [p] else [])
 |[],[],_=>by simp[iq]
 |x::r,y::s,h=>by
  show(if y=true then [x] else [])++iq (r++[p]) (s++[is])=_;rw[Ha p is r s (by simpa using h),iq,List.append_assoc]
def Hb:∀ (l:List Nm) (s:List Bool) (b:Int×Bool),(iq l s).foldl xX (b.1,!b.2)=((nO l s b).1,!(nO l s b).2)
 |[],s,b=>by cases s<;>rfl
 |p::r,[],b=>rfl
 |p::r,is::s,b=>by
  rw[iq,nO,BG];cases is with
  |false=>simp only[Bool.false_eq_true,if_false,JI,false_and];exact Hb r s b
  |true =>
   simp only[if_true,List.foldl_cons,JI,eq_self,true_and];have:xX (b.1,!b.2) p=((if p.2=false/\(b.2=false\/p.1<b.1) then(p.1,true) else b).1,!(if p.2=false/\(b.2=false\/p.1<b.1) then(p.1,true) else b).2):=by
    unfold xX;obtain⟨b1,b2⟩:=b;obtain⟨p1,p2⟩:=p;dsimp only;cases b2<;>cases p2<;>simp;split<;>rfl
   rw[this];exact Hb r s _
def Zg(l:List Nm)(s:List Bool):pE (iq l s)=((nO l s (0,false)).1,!(nO l s (0,false)).2):=Hb l s (0,false)
def jH(os:List Ob)(x:Ob)(l:List Ob):(os++x::l)[os.length]?=some x:=Jy
def lG(os l:List Ob)(k:Nat):(os++l)[os.length+k]?=l[k]?:=by rw[dy Bv,Nat.add_sub_cancel_left]
def Dd(os:List Ob)(x y:Ob)(l:List Ob):(os++x::l).set os.length y=os++y::l:=by rw[List.set_append];simp
def De(os l:List Ob)(k:Nat)(y:Ob):(os++l).set (os.length+k) y=os++l.set k y:=by rw[List.set_append_right _ _ Bv];simp
def aA{os:List Ob}{i:Nat}{o:Ob}(h:os[i]?=some o)(l:List Ob):(os++l)[i]?=some o:=by
 rw[cG (aN.1 h).1];exact h
def fC{os:List Ob}{i:Nat}{o:Ob}(h:os[i]?=some o)(l:List Ob)(y:Ob):(os++l).set i y=os.set i y++l:=by
 rw[List.set_append,if_pos (aN.1 h).1]
def cZ{os:List Ob}{i j:Nat}{o o' y:Ob}(h:os[i]?=some o)(h':os[j]?=some o')(cC:o≠o'):(os.set j y)[i]?=some o:=by
 have:j≠i:=λe=>cC (by rw[e,h]at h';simpa using h');rw[dz this];exact h
def jI{os:List Ob}{i:Nat}{o y:Ob}(h:os[i]?=some o):(os.set i y)[i]?=some y:=by
 rw[bT];simp[(aN.1 h).1]
def a8:=aau @jH @lG @Dd @De
def bY(q:Nat×Nat):List AV:=[.ref q.1 2 0 q.2]
structure RI{α:Type}(enc:α->List AV)(os:List Ob)(D:List (Nat×Nat))(S:List (List α)):Prop where
 len:D.length=S.length
 row:∀ j,j<D.length->os[(D.getD j default).1]?=some (.arr 2 (rowsOf enc (S.getD j default)))/\(S.getD j default).length=(D.getD j default).2
def RI.nil{α:Type}{enc:α->List AV}{os:List Ob}:RI enc os [] ([]:List (List α)):=⟨rfl,Jy⟩
def RI.app{α:Type}{enc:α->List AV}{os:List Ob}{D:List (Nat×Nat)}{S:List (List α)}(h:RI enc os D S)(l:List Ob):RI enc (os++l) D S :=
 ⟨h.len,λj hj=>⟨aA (h.row j hj).1 l,(h.row j hj).2⟩⟩
def RI.kill{α:Type}{enc:α->List AV}{os:List Ob}{D:List (Nat×Nat)}{S:List (List α)}(h:RI enc os D S){i:Nat}{o y:Ob}(ho:os[i]?=some o)(cC:∀ l,o≠.arr 2 l):RI enc (os.set i y) D S :=
 ⟨h.len,λj hj=>⟨cZ (h.row j hj).1 ho (λe=>cC _ e.symm),(h.row j hj).2⟩⟩
def Df{α:Type}[Inhabited α](l:List α)(x:α)(j:Nat):(l++[x]).getD j default=if j<l.length then l.getD j default else if j=l.length then x else default:=by
 simp only[ax];split
 ·rename_i h;rw[cG h]
 ·rename_i h;rw[dy Bv];split
  ·rename_i h2;subst h2;simp
  ·rw[fO aak];rfl
def RI.snoc{α:Type}{enc:α->List AV}{os:List Ob}{D:List (Nat×Nat)}{S:List (List α)}(h:RI enc os D S){p:Nat}{r:List α}(hp:os[p]?=some (.arr 2 (rowsOf enc r))):RI enc os (D++[(p,r.length)]) (S++[r]) :=
 ⟨by simp[h.len],λj hj=>by
  rw[Df,Df,<- h.len];by_cases h1:j<D.length
  ·rw[if_pos h1,if_pos h1];exact h.row j h1
  ·have:j=D.length:=by simp at hj;omega
   rw[if_neg h1,if_neg h1,if_pos this,if_pos this];exact⟨hp,rfl⟩⟩
def RI.set{α:Type}{enc:α->List AV}{os:List Ob}{D:List (Nat×Nat)}{S:List (List α)}(h:RI enc os D S)(hn:(D.map (·.1)).Nodup){j:Nat}(hj:j<D.length){r:List α}(hr:r.length=(S.getD j default).length):RI enc (os.set (D.getD j default).1 (.arr 2 (rowsOf enc r))) D (S.set j r) :=
 ⟨by rw[bm];exact h.len,λk hk=>by
  by_cases e:k=j
  ·subst e;have:(S.set k r).getD k default=r:=by rw[ax,bT];simp[<- h.len,hk]
   rw[this];exact⟨jI (h.row k hk).1,hr.trans (h.row k hk).2⟩
  ·have:(S.set j r).getD k default=S.getD k default:=by rw[ax,dz (λe'=>e e'.symm),ax]
   rw[this];have cC:(D.getD j default).1≠(D.getD k default).1:=λhh=>e ((List.getElem_inj (h₀:=by simpa using hk) (h₁:=by simpa using hj) hn).1 (by
    rw[List.getElem_map,List.getElem_map];have a1:D[k]=D.getD k default:=by simp[hk]
    have a2:D[j]=D.getD j default:=by simp[hj]
    rw[a1,a2];exact hh.symm))
   rw[dz cC];exact h.row k hk⟩
def RI.other{α:Type}{enc:α->List AV}{os:List Ob}{D:List (Nat×Nat)}{S:List (List α)}(h:RI enc os D S){i:Nat}(hi:i ∉ D.map (·.1)){y:Ob}:RI enc (os.set i y) D S :=
 ⟨h.len,λk hk=>⟨by
  rw[dz (λe=>hi (cF.2 ⟨D.getD k default,aF hk,e.symm⟩))];exact(h.row k hk).1,(h.row k hk).2⟩⟩
def RI.fresh{α:Type}{enc:α->List AV}{os:List Ob}{D:List (Nat×Nat)}{S:List (List α)}(h:RI enc os D S){p:Nat}(hp:os.length<=p):p ∉ D.map (·.1):=λhh=>by
 obtain⟨q,hq,rfl⟩:=cF.1 hh;obtain⟨k,hk,rfl⟩:=n6.1 hq;have h1:=(h.row k hk).1;have a1:D.getD k default=D[k]:=by simp[hk]
 rw[a1]at h1;have:=(aN.1 h1).1;omega
def Af(D:List (Nat×Nat))(p n:Nat):rowsOf bY D++[[AV.ref p 2 0 n]]=rowsOf bY (D++[(p,n)]):=by simp[rowsOf,bY]
def RI.step{α:Type}{enc:α->List AV}{os:List Ob}{D:List (Nat×Nat)}{S:List (List α)}{ai:Nat}{x:Ob}(fa:os[ai]?=some x)(hx:∀ l,x≠.arr 2 l)(hR:RI enc os D S)(cp:(D.map (·.1)).Nodup)(r:List α)(t y:Ob):
  (os.set ai .gone++[.arr 2 (rowsOf enc r),t,y])[os.length+2]?=some y /\
  RI enc (os.set ai .gone++[.arr 2 (rowsOf enc r),t,y]) (D++[(os.length,r.length)]) (S++[r])/\((D++[(os.length,r.length)]).map (·.1)).Nodup /\
  ∀ k o,os[k]?=some o->k≠ai->(os.set ai .gone++[.arr 2 (rowsOf enc r),t,y])[k]?=some o:=by
 have hl:(os.set ai .gone).length=os.length:=bm ..;refine⟨?_,?_,?_,λk o hk cC=>aA ?_ _⟩
 ·rw[<- hl,lG];rfl
 ·refine((hR.kill fa hx).app _).snoc ?_;rw[<- hl,jH]
 ·rw[iJ,sH];refine⟨cp,Jy,λa ha b hb=>?_⟩;simp only[lg,sB,bK]at hb;subst hb;exact λe=>hR.fresh (Nat.le_refl _) (e▸ha)
 ·rw[dz (Ne.symm cC)];exact hk
structure LO{α:Type}(enc:α->List AV)(B:List (Nat×Ob))(D E:List (Nat×Nat))(S T:List (List α))(os:List Ob):Prop where
 base:∀ b∈B,os[b.1]?=some b.2/\∀ l,b.2≠.arr 2 l
 rD:RI enc os D S
 rE:RI enc os E T
 nd:((D++E).map (·.1)).Nodup
section
variable {α:Type} {enc:α->List AV} {B:List (Nat×Ob)} {D E:List (Nat×Nat)} {S T:List (List α)} {os:List Ob}
def LO.app(h:LO enc B D E S T os)(l:List Ob):LO enc B D E S T (os++l):=⟨λb hb=>⟨aA (h.base b hb).1 l,(h.base b hb).2⟩,h.rD.app l,h.rE.app l,h.nd⟩
def LO.add(h:LO enc B D E S T os){k:Nat}{x:Ob}(hk:os[k]?=some x)(hx:∀ l,x≠.arr 2 l):LO enc ((k,x)::B) D E S T os :=
 ⟨λb hb=>by rcases cI.1 hb with rfl|hb;exact⟨hk,hx⟩;exact h.base b hb,h.rD,h.rE,h.nd⟩
def LO.sub(h:LO enc B D E S T os){C:List (Nat×Ob)}(hc:∀ b∈C,b∈B):LO enc C D E S T os:=⟨λb hb=>h.base b (hc b hb),h.rD,h.rE,h.nd⟩
def Rj{D E:List (Nat×Nat)}(h:((D++E).map (·.1)).Nodup):(D.map (·.1)).Nodup/\(E.map (·.1)).Nodup/\(∀ j,j<D.length->(D.getD j default).1 ∉ E.map (·.1))/\∀ j,j<E.length->(E.getD j default).1 ∉ D.map (·.1):=by
 rw[iJ,sH]at h;refine⟨h.1,h.2.1,λj hj hh=>h.2.2 _ (cF.2 ⟨_,aF hj,rfl⟩) _ hh rfl,λj hj hh=>h.2.2 _ hh _ (cF.2 ⟨_,aF hj,rfl⟩) rfl⟩
def LO.Zh(h:LO enc B D E S T os){j:Nat}(hj:j<D.length){r:List α}(hr:r.length=(S.getD j default).length):LO enc B D E (S.set j r) T (os.set (D.getD j default).1 (.arr 2 (rowsOf enc r))):=by
 obtain⟨h1,h2,h3,h4⟩:=Rj h.nd;exact⟨λb hb=>⟨cZ (h.base b hb).1 (h.rD.row j hj).1 ((h.base b hb).2 _),(h.base b hb).2⟩,h.rD.set h1 hj hr,h.rE.other (h3 j hj),h.nd⟩
def LO.Rk(h:LO enc B D E S T os){j:Nat}(hj:j<E.length){r:List α}(hr:r.length=(T.getD j default).length):LO enc B D E S (T.set j r) (os.set (E.getD j default).1 (.arr 2 (rowsOf enc r))):=by
 obtain⟨h1,h2,h3,h4⟩:=Rj h.nd;exact⟨λb hb=>⟨cZ (h.base b hb).1 (h.rE.row j hj).1 ((h.base b hb).2 _),(h.base b hb).2⟩,h.rD.other (h4 j hj),h.rE.set h2 hj hr,h.nd⟩
end
def Zi(xs:List Nm)(i:Nat)(b:Bool)(n:Int):(rowsOf aP xs).set i [aam n,.lit (.bool b)]=rowsOf aP (xs.set i (n,b)):=by simp[rowsOf,aP,List.map_set]
def LO.vars{α:Type}{enc:α->List AV}{B:List (Nat×Ob)}{D E:List (Nat×Nat)}{S T:List (List α)}{os:List Ob}(h:LO enc B D E S T os){n:Nat}(hn:os.length=n)(x y:Ob)(hx:∀ l,x≠.arr 2 l)(hy:∀ l,y≠.arr 2 l):
  LO enc ((n,x)::(n+1,y)::B) D E S T (os++[x,y]):=by
 subst hn;exact((h.app [x,y]).add (by rw[lG];rfl) hy).add (by rw[jH]) hx
def Rl{α:Type}[Inhabited α](l:List α)(j:Nat):l.set j (l.getD j default)=l:=by
 apply List.ext_getElem?;intro i;rw[bT];split
 ·rename_i h;subst h;split
  ·rename_i h2;rw[ax,aT h2];rfl
  ·rename_i h2;rw[fO Bv]
 ·rfl
def Dg{α:Type}[Inhabited α](l:List α)(j:Nat)(x:α)(h:j<l.length):(l.set j x).getD j default=x:=by
 rw[ax,bT];simp[h]
def LO.kill{α:Type}{enc:α->List AV}{B:List (Nat×Ob)}{D E:List (Nat×Nat)}{S T:List (List α)}{os:List Ob}(h:LO enc B D E S T os){i:Nat}{x y:Ob}(hi:os[i]?=some x)(hx:∀ l,x≠.arr 2 l)(cC:∀ b∈B,b.1≠i):LO enc B D E S T (os.set i y) :=
 ⟨λb hb=>⟨by rw[dz (cC b hb).symm];exact(h.base b hb).1,(h.base b hb).2⟩,h.rD.kill hi hx,h.rE.kill hi hx,h.nd⟩
def jJ(os l:List Ob)(i k:Nat)(y:Ob):(os.set i y++l)[os.length+k]?=l[k]?:=by
 have:=lG (os.set i y) l k;rwa [bm]at this
def gC(m:ah)(ai bi:Nat)(D E:List (Nat×Nat)):List AV:=[.tree 1 (rowsOf bw m.cls),.tree 4 (rowsOf aO m.aj),.tree 4 (rowsOf cN m.aI),aam m.rules,.ref ai 1 0 D.length,.ref bi 1 0 E.length]
abbrev GB(m:ah)(gi ai bi:Nat)(D E:List (Nat×Nat)):List (Nat×Ob):=[(gi,.var (gC m ai bi D E)),(ai,.arr 1 (rowsOf bY D)),(bi,.arr 1 (rowsOf bY E))]
def wa{m:ah}{gi ai bi:Nat}{D E:List (Nat×Nat)}{S T:List (List Nm)}{os:List Ob}(h:LO aP (GB m gi ai bi D E) D E S T os):
  os[gi]?=some (.var (gC m ai bi D E))/\os[ai]?=some (.arr 1 (rowsOf bY D))/\os[bi]?=some (.arr 1 (rowsOf bY E)) :=
 ⟨(h.base (gi,_) Jy).1,(h.base (ai,.arr 1 (rowsOf bY D)) Jy).1,(h.base (bi,.arr 1 (rowsOf bY E)) Jy).1⟩
def cQ(os ob:List Ob):Prop:=∀ (k:Nat) (o:Ob),os[k]?=some o->ob[k]?=some o
def cQ.refl(os:List Ob):cQ os os:=λ_ _ h=>h
def cQ.app{os ob:List Ob}(h:cQ os ob)(l:List Ob):cQ os (ob++l):=λk o hk=>aA (h k o hk) l
def cQ.set{os ob:List Ob}(h:cQ os ob){i:Nat}(hi:os.length<=i){y:Ob}:cQ os (ob.set i y):=λk o hk=>by
 have:=(aN.1 hk).1;rw[dz Bv];exact h k o hk
def cQ.len{os ob:List Ob}(h:cQ os ob):os.length<=ob.length:=by
 rcases Nat.eq_zero_or_pos os.length with h0|h0
 ·omega
 ·obtain⟨o,ho⟩ :∃o,os[os.length-1]?=some o:=⟨_,aT Bv⟩;have:=(aN.1 (h _ _ ho)).1;omega
section
variable {α:Type} {enc:α->List AV} {B:List (Nat×Ob)} {D E:List (Nat×Nat)} {S T:List (List α)} {os:List Ob}
def LO.swap(h:LO enc B D E S T os):LO enc B E D T S os:=⟨h.base,h.rE,h.rD,by
 have:=h.nd;rw[iJ,sH]at this ⊢;exact⟨this.2.1,this.1,λa ha b hb e=>this.2.2 b hb a ha e.symm⟩⟩
def LO.Dh(h:LO enc B D E S T os){i:Nat}{l:List (List AV)}(hi:i ∉ (D++E).map (·.1))(hr:os[i]?=some (.arr 2 l)){y:Ob}:LO enc B D E S T (os.set i y):=by
 rw[iJ,bE,not_or]at hi;exact⟨λb hb=>⟨cZ (h.base b hb).1 hr ((h.base b hb).2 _),(h.base b hb).2⟩,h.rD.other hi.1,h.rE.other hi.2,h.nd⟩
def LO.fresh(h:LO enc B D E S T os){p:Nat}(hp:os.length<=p):p ∉ (D++E).map (·.1):=by
 rw[iJ,bE,not_or];exact⟨h.rD.fresh hp,h.rE.fresh hp⟩
def LO.step{gi ai:Nat}{gc:List AV}{A:List (List AV)}(h:LO enc ((gi,.var gc)::(ai,.arr 1 A)::B) D E S T os){r:List α}{oi:Nat}(hr:os[oi]?=some (.arr 2 (rowsOf enc r)))(dC:oi ∉ (D++E).map (·.1))(hB:∀ b∈B,b.1≠ai/\b.1≠gi)(xY:List AV)(A':List (List AV))(t:Ob):
  LO enc ((gi,.var xY)::(os.length+1,.arr 1 A')::B) (D++[(oi,r.length)]) E (S++[r]) T ((os.set ai .gone).set gi (.var xY)++[t,.arr 1 A']):=by
 have hg:=(h.base (gi,.var gc) Jy).1;have ha:=(h.base (ai,.arr 1 A) Jy).1;dsimp only at hg ha;have gf:gi≠ai:=λe=>by rw[e,ha]at hg;cases hg
 have dc:(os.set ai .gone)[gi]?=some (.var gc):=by rw[dz gf.symm];exact hg
 have hl:((os.set ai .gone).set gi (.var xY)).length=os.length:=by rw[bm,bm]
 have Zj:=((h.rD.kill (y:=.gone) ha Jy).kill (y:=.var xY) dc Jy).app [t,.arr 1 A'];have Zk:=((h.rE.kill (y:=.gone) ha Jy).kill (y:=.var xY) dc Jy).app [t,.arr 1 A'];have gZ:((os.set ai .gone).set gi (.var xY)++[t,.arr 1 A'])[oi]?=some (.arr 2 (rowsOf enc r)):=aA (cZ (cZ hr ha Jy) dc Jy) _;refine⟨λb hb=>?_,Zj.snoc gZ,Zk,?_⟩
 ·rcases cI.1 hb with rfl|hb
  ·exact⟨aA (jI dc) _,Jy⟩
  rcases cI.1 hb with rfl|hb
  ·refine⟨?_,Jy⟩;dsimp only;rw[<- hl,lG];rfl
  ·have h0:=h.base b (by simp[hb]);refine⟨aA ?_ _,h0.2⟩;rw[dz (hB b hb).2.symm,dz (hB b hb).1.symm];exact h0.1
 ·have cp:=h.nd;rw[iJ,sH]at cp ⊢;rw[iJ,bE,not_or]at dC;obtain⟨n1,n2,n3⟩:=cp;refine⟨?_,n2,λa oD b hb=>?_⟩
  ·rw[iJ,sH];refine⟨n1,Jy,λa oD b hb=>?_⟩;simp only[lg,sB,bK]at hb;subst hb;exact λe=>dC.1 (e▸oD)
  ·rw[iJ,bE]at oD;rcases oD with oD|oD
   ·exact n3 a oD b hb
   ·simp only[lg,sB,bK]at oD;subst oD;exact λe=>dC.2 (e▸hb)
end
def S0(m:ah):List (List Nm):=m.cls.map λl=>jG (rS l)
def T0(m:ah):List (List Nm):=m.aj.map λp=>jG p.bj
def kv(r:List Nm)(i:Nat)(a:Int):List Nm:=r.set i ((r.getD i default).1+a,(r.getD i default).2)
def jv(f:Nat->Nat)(a:Int):Nat->List Nm->List Nm
 |0,t=>t
 |k+1,t=>kv (jv f a k t) (f k) (-a)
abbrev Lg:=List (List Nm)×List (List Nm)
def tu(m:ah)(x:Mv):(Nat->Nat)×Nat :=
 if x.side=0 then(λk=>(x.opt*(m.cls.getD (m.aj.getD x.pair.toNat default).snd.toNat default).length+k).toNat,(m.cls.getD (m.aj.getD x.pair.toNat default).snd.toNat default).length)
 else(λk=>((k:Int)*(m.cls.getD (m.aj.getD x.pair.toNat default).snd.toNat default).length+x.opt).toNat,(m.cls.getD (m.aj.getD x.pair.toNat default).fst.toNat default).length)
def jK(m:ah)(x:Mv)(g:Lg):Lg :=
 (g.1.set (fj m x).toNat (kv (g.1.getD (fj m x).toNat default) x.opt.toNat x.eY),g.2.set x.pair.toNat (jv (tu m x).1 x.eY (tu m x).2 (g.2.getD x.pair.toNat default)))
def kT(m:ah)(l:List Mv)(g:Lg):Lg:=l.foldl (λg x=>jK m x g) g
def Zl(m:ah)(l:List Mv)(x:Mv)(g:Lg):kT m (l++[x]) g=jK m x (kT m l g):=by unfold kT;rw[BG];rfl
def wc(a b:List Bool):List Bool:=a.flatMap λx=>b.map λy=>x&&y
def PC(left:List (List Bool))(S:List (List Nm))(n:Nat):List (Int×Bool):=(bp n).map λi=>nO (S.getD i default) (left.getD i default) (0,false)
def rT(m:ah)(left:List (List Bool))(i:Nat):List Bool:=wc (left.getD (m.aj.getD i default).fst.toNat default) (left.getD (m.aj.getD i default).snd.toNat default)
def PP(m:ah)(left:List (List Bool))(T:List (List Nm))(n:Nat):List (Int×Bool):=(bp n).map λi=>nO (T.getD i default) (rT m left i) (0,false)
def PK(m:ah)(left:List (List Bool))(n:Nat):List (Int×Bool):=(bp n).map λi=>(oX left (m.aI.getD i default),!(decide ((m.aI.getD i default).bW=1099511627776)&&decide (0<oX left (m.aI.getD i default))))
def fM(l:List (Int×Bool))(z:Int×Bool):Int×Bool:=l.foldl (λz p=>(z.1+p.1,z.2||!p.2)) z
def Di(m:ah)(left:List (List Bool))(g:Lg):Int :=
 if(fM (PK m left m.aI.length) (fM (PP m left g.2 m.aj.length) (fM (PC left g.1 m.cls.length) (0,false)))).2=true then 1099511627776
 else min (fM (PK m left m.aI.length) (fM (PP m left g.2 m.aj.length) (fM (PC left g.1 m.cls.length) (0,false)))).1 1099511627776
def we(m:ah)(left:List (List Bool))(l:List Mv):Int×Int :=
 if 2000<l.length then(0,2) else if l.all (lF m)=false then(0,3) else(Di m left (kT m l (S0 m,T0 m)),0)
def Zm(l:List (Int×Bool))(p z:Int×Bool):fM (l++[p]) z=((fM l z).1+p.1,(fM l z).2||!p.2):=by unfold fM;rw[BG];rfl
def Hc{β:Type}(f:Nat->β)(n:Nat):(bp (n+1)).map f=(bp n).map f++[f n]:=by rw[List.range_succ,iJ];rfl
def NB(B:Int)(r:List Nm):Prop:=∀ p∈r,-B<=p.1/\p.1<=B
def NB.get{B:Int}{r:List Nm}(h:NB B r)(hB:0<=B)(i:Nat): -B<=(r.getD i default).1/\(r.getD i default).1<=B:=by
 rcases dr i r.length with hi|hi
 ·exact h _ (aF hi)
 ·rw[ax,fO hi];show -B<=(0:Int)/\(0:Int)<=B;omega
def NB.mono{B C:Int}{r:List Nm}(h:NB B r)(hc:B<=C):NB C r:=λp hp=>by have:=h p hp;omega
def NB.add{B:Int}{r:List Nm}(h:NB B r)(hB:0<=B)(i:Nat){a:Int}(ha : -268435456<=a/\a<=268435456):NB (B+268435456) (kv r i a):=λp hp=>by
 rcases ue hp with h'|h'
 ·have:=h p h';omega
 ·have:=h.get hB i;rw[h'];dsimp only;omega
def Ag(r:List Nm)(i:Nat)(a:Int):(kv r i a).length=r.length:=by simp[kv]
def Ah(f:Nat->Nat)(a:Int):∀ (k:Nat) (t:List Nm),(jv f a k t).length=t.length
 |0,t=>rfl
 |k+1,t=>by rw[jv,Ag,Ah f a k t]
def NB.sub{B:Int}{r:List Nm}(h:NB B r)(hB:0<=B)(f:Nat->Nat){a:Int}(ha : -268435456<=a/\a<=268435456):∀ k:Nat,NB (B+268435456*k) (jv f a k r)
 |0=>by simpa [jv] using h
 |k+1=>by
  rw[jv];have:=(NB.sub h hB f ha k).add Bv (f k) (a:=-a) Bv;exact this.mono Bv
structure LG(m:ah)(B:Int)(g:Lg):Prop where
 s:g.1.length=m.cls.length
 t:g.2.length=m.aj.length
 sl:∀ i,i<m.cls.length->(g.1.getD i default).length=(m.cls.getD i default).length
 tl:∀ i,i<m.aj.length->(g.2.getD i default).length=(m.aj.getD i default).bj.length
 sb:∀ r∈g.1,NB B r
 tb:∀ r∈g.2,NB B r
def Rm{g:List (List Nm)}{i j:Nat}{r:List Nm}(h:r.length=(g.getD i default).length):((g.set i r).getD j default).length=(g.getD j default).length:=by
 by_cases e:i=j
 ·subst e;rcases dr i g.length with hi|hi
  ·simp only[ax,bT,hi,if_true,dE];rw[h,ax]
  ·rw[List.set_eq_of_length_le hi]
 ·simp only[ax,dz e]
def xZ{B:Int}{g:List (List Nm)}(h:∀ r∈g,NB B r)(i:Nat):NB B (g.getD i default):=by
 rcases dr i g.length with hi|hi
 ·exact h _ (aF hi)
 ·rw[ax,fO hi];intro p hp;cases hp
def Zn{m:ah}(hm:VM m)(x:Mv):(tu m x).2<=24:=by
 have:∀ i,(m.cls.getD i default).length<=24:=λi=>by
  rcases dr i m.cls.length with hi|hi
  ·exact hm.opt _ (aF hi)
  ·rw[ax,fO hi];exact Nat.zero_le _
 unfold tu;split<;>exact this _
def Rn{m:ah}(hm:VM m){B:Int}(hB:0<=B){g:Lg}(h:LG m B g){x:Mv}(hx:lF m x=true):LG m (B+268435456*25) (jK m x g):=by
 unfold lF at hx;rw[bb,decide_eq_true_eq]at hx;have ha:=hx.1.2.2.2.2;have hk:=Zn hm x;refine⟨by rw[jK,bm];exact h.s,by rw[jK,bm];exact h.t,λi hi=>?_,λi hi=>?_,λr hr=>?_,λr hr=>?_⟩
 ·rw[jK];dsimp only;rw[Rm (by rw[Ag])];exact h.sl i hi
 ·rw[jK];dsimp only;rw[Rm (by rw[Ah])];exact h.tl i hi
 ·rcases ue hr with h'|h'
  ·exact(h.sb r h').mono Bv
  ·rw[h'];exact((xZ h.sb _).add hB _ ha).mono Bv
 ·rcases ue hr with h'|h'
  ·exact(h.tb r h').mono Bv
  ·rw[h'];exact((xZ h.tb _).sub hB _ ha _).mono Bv
def Ro{l:List Int}(h:∀ x∈l,bL x):NB 1099511627776 (jG l):=λp hp=>by
 obtain⟨x,hx,rfl⟩:=cF.1 hp;have:=h x hx;unfold bL at this;show -1099511627776<=x/\x<=1099511627776;omega
def Rp{m:ah}{p:Pr}(hp:fG m p=true):∀ x∈p.bj,bL x:=λx hx=>by
 unfold fG at hp;simp only[bb,jd,List.any_eq_false]at hp;have:=hp.2 _ hx;rw[mH]at this;simp only[bb,jd,decide_eq_true_eq,not_and,Bool.not_eq_false]at this;by_cases hz:x=0
 ·subst hz;unfold bL;decide
 ·exact pC (this hz)
def nP{α β:Type}[Inhabited α][Inhabited β](f:α->β)(l:List α)(i:Nat)(h:i<l.length):(l.map f).getD i default=f (l.getD i default):=by
 rw[ax,List.getElem?_map,ax,aT h];rfl
def Rq{m:ah}(hm:VM m):LG m 1099511627776 (S0 m,T0 m):=by
 refine⟨by simp[S0],by simp[T0],λi hi=>?_,λi hi=>?_,λr hr=>?_,λr hr=>?_⟩
 ·show((S0 m).getD i default).length=_;rw[S0,nP _ _ _ hi];simp[jG,rS]
 ·show((T0 m).getD i default).length=_;rw[T0,nP _ _ _ hi];simp[jG]
 ·obtain⟨l,hl,rfl⟩:=cF.1 hr;refine Ro λx hx=>?_;obtain⟨o,ho,rfl⟩:=cF.1 hx;exact Ri (hm.tj l hl o ho)
 ·obtain⟨p,hp,rfl⟩:=cF.1 hr;exact Ro (Rp (lE hm.pr p hp))
def Rr{m:ah}(hm:VM m)(l:List Mv)(hl:∀ x∈l,lF m x=true):LG m (1099511627776+268435456*25*l.length) (kT m l (S0 m,T0 m)):=by
 have key:∀ (l:List Mv) (B:Int) (g:Lg),0<=B->(∀ x∈l,lF m x=true)->LG m B g->LG m (B+268435456*25*l.length) (kT m l g):=by
  intro l
  induction l with
  |nil=>intro B g _ _ h;simpa [kT] using h
  |cons x r ih =>
   intro B g hB hx h;have h1:=Rn hm hB h (hx x Jy);have h2:=ih _ _ Bv (λy hy=>hx y (by simp[hy])) h1;show LG m _ (kT m r (jK m x g));have e:B+268435456*25+268435456*25*(r.length:Int)=B+268435456*25*((x::r).length:Int):=by simp only[cf];omega
   rw[e]at h2;exact h2
 exact key l _ _ aac hl (Rq hm)
def Hd{B:Int}:∀ (l:List Nm) (s:List Bool) (b:Int×Bool),NB B l->(-B<=b.1/\b.1<=B)->-B<=(nO l s b).1/\(nO l s b).1<=B
 |[],s,b,_,hb=>by cases s<;>exact hb
 |p::r,[],b,_,hb=>hb
 |p::r,is::s,b,h,hb=>by
  rw[nO];refine Hd r s _ (λq hq=>h q (by simp[hq])) ?_;have:=h p Jy;split
  ·exact this
  ·exact hb
def Rs{B:Int}:∀ (l:List (Int×Bool)) (z:Int×Bool),(∀ p∈l,-B<=p.1/\p.1<=B)->z.1-B*l.length<=(fM l z).1/\(fM l z).1<=z.1+B*l.length
 |[],z,_=>by show z.1-_<=z.1/\z.1<=z.1+_;simp
 |p::r,z,h=>by
  have h1:=Rs r (z.1+p.1,z.2||!p.2) λq hq=>h q (by simp[hq]);have h2:=h p Jy;show _<=(fM r (z.1+p.1,z.2||!p.2)).1/\_;rw[cf,yQ,Int.mul_add];dsimp only at h1;simp only[wZ,Int.mul_one];show z.1-(B*r.length+B)<=(fM r (z.1+p.1,z.2||!p.2)).1/\(fM r (z.1+p.1,z.2||!p.2)).1<=z.1+(B*r.length+B);omega
def uN:Int:=1099511627776+268435456*25*2000
def Zo{left:List (List Bool)}{S:List (List Nm)}{B:Int}(hB:0<=B)(h:∀ r∈S,NB B r)(n:Nat):∀ p∈PC left S n,-B<=p.1/\p.1<=B:=λp hp=>by
 obtain⟨i,_,rfl⟩:=cF.1 hp;exact Hd _ _ _ (xZ h i) aad
def Zp{m:ah}{left:List (List Bool)}{T:List (List Nm)}{B:Int}(hB:0<=B)(h:∀ r∈T,NB B r)(n:Nat):∀ p∈PP m left T n,-B<=p.1/\p.1<=B:=λp hp=>by
 obtain⟨i,_,rfl⟩:=cF.1 hp;exact Hd _ _ _ (xZ h i) aad
def Zq(most bW n:Int)(hm:0<=most)(hp:0<=bW):0<=mN most bW n/\mN most bW n<=1099511627776:=by
 unfold mN;split
 ·omega
 ·have:=Int.mul_nonneg (show 0<=n-most by omega) hp;omega
def Zr{m:ah}(hm:VM m)(i:Nat):0<=(m.aI.getD i default).most/\0<=(m.aI.getD i default).bW:=by
 rcases dr i m.aI.length with hi|hi
 ·obtain⟨_,h2,h3,_⟩:=uK (hm.ct _ (aF (d:=default) hi));exact⟨h2.1,(pC h3).1⟩
 ·rw[ax,fO hi];decide
def Zs{m:ah}(hm:VM m){left:List (List Bool)}(n:Nat):∀ p∈PK m left n,-1099511627776<=p.1/\p.1<=1099511627776:=λp hp=>by
 obtain⟨i,_,rfl⟩:=cF.1 hp;have:=Zr hm i;have:=Zq (m.aI.getD i default).most (m.aI.getD i default).bW (pV (m.aI.getD i default).bQ 0 left 0) this.1 this.2;unfold oX;dsimp only;omega
def Dj(left:List (List Bool))(S:List (List Nm))(n:Nat):(PC left S n).length=n:=by simp[PC]
def He(m:ah)(left:List (List Bool))(S:List (List Nm))(n:Nat):(PP m left S n).length=n:=by simp[PP]
def Rt(m:ah)(left:List (List Bool))(n:Nat):(PK m left n).length=n:=by simp[PK]
def Ru(b:List Bool):∀ a:List Bool,(wc a b).length=a.length*b.length
 |[]=>by simp[wc]
 |x::r=>by
  show((b.map (x && ·))++wc r b).length=_;rw[List.length_append,Ru b r,List.length_map,cf,Nat.add_mul];omega
end T

