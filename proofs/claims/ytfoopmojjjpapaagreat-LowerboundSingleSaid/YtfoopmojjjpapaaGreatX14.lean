import Derived.Test.YtfoopmojjjpapaaGreatX11
import Derived.Test.YtfoopmojjjpapaaGreatX13
set_option linter.all false
set_option maxHeartbeats 0
set_option maxRecDepth 20000
open List renaming length_cons→dq,getD_cons_zero→ik,getD_cons_succ→e7,mem_cons→bw,mem_append→cG,mem_singleton→cV,map_append→dS,nodup_append→p9,mem_map→bW,map_cons→ei,map_nil→nQ,map_map→u5,map_congr_left→tI,mem_iff_getElem→uX,getElem_inj→Kd,getElem_map→D1,getD_eq_getElem?_getD→az,getElem?_eq_getElem→bF,not_mem_nil→iM,foldl_append→Ay,foldl_nil→AA,getElem?_append_right→iA,getElem?_append_left→eZ,getElem?_eq_some_iff→aV,getElem?_set_ne→gA,getElem?_set→bU,getElem?_eq_none→dK,length_set→bJ,map_set→sr,replicate→aK
open Int renaming zero_add→Ax,toNat_of_nonneg→wF
open Nat renaming le_refl→aY,sub_zero→wB
open Go Go.Am
namespace T
def gj:List Ld->Int->Int->Int->Int
 |[],_,_,w=>w
 |x::r,c,o,w=>gj r c o (if x.cls=c/\x.opt=o then x.wt else w)
def dX(l:List Ld)(c:Int):Nat->List Bool->Int->Int
 |_,[],b=>b
 |o,is::r,b=>dX l c (o+1) r (if is=true/\(b<0\/gj l c o 0<b) then gj l c o 0 else b)
def mP(l:List Ld)(c:Int)(row:List Bool):Int:=max (dX l c 0 row (-1)) 0
def kk(l:List Ld):Nat->List (List Bool)->Int->Int
 |_,[],n=>n
 |i,row::r,n=>kk l (i+1) r (n+mP l i row)
def jg(left:List (List Bool))(c:Ct):Int:=lK c.most c.cf (kk c.bh 0 left 0)
def Ux(l:List Ld)(x:Ld)(c o:Int):∀ w,gj (l++[x]) c o w=if x.cls=c/\x.opt=o then x.wt else gj l c o w:=by
 induction l with
 |nil=>intro w;rfl
 |cons y r ih=>intro w;exact ih _
def MI:∀ {l:List Ld} {c:Int} (o w:Int),(∀ x∈l,x.cls≠c)->gj l c o w=w
 |[],_,_,_,_=>rfl
 |x::r,c,o,w,h=>by
  rw[gj,if_neg (λe=>h x GM e.1)];exact MI o w λy hy=>h y (by simp[hy])
def zG{l:List Ld}(h:∀ x∈l,1<=x.wt/\x.wt<=1000)(c o:Int):∀ w,0<=w/\w<=1000->0<=gj l c o w/\gj l c o w<=1000:=by
 induction l with
 |nil=>intro w hw;exact hw
 |cons x r ih =>
  intro w hw;rw[gj];refine ih (λy hy=>h y (by simp[hy])) _ ?_;have:=h x GM;split<;>omega
def Uy{l:List Ld}{c:Int}(h:∀ x∈l,x.cls≠c):∀ (row:List Bool) (o:Nat) (b:Int),-1<=b/\b<=0->-1<=dX l c o row b/\dX l c o row b<=0
 |[],_,b,hb=>hb
 |is::r,o,b,hb=>by
  rw[dX];refine Uy h r (o+1) _ ?_;rw[MI _ _ h];split<;>omega
def TJ{l:List Ld}{c:Int}(h:∀ x∈l,x.cls≠c)(row:List Bool):mP l c row=0:=by
 have:=Uy h row 0 (-1) GK;unfold mP;omega
def Ip{l:List Ld}(h:∀ x∈l,1<=x.wt/\x.wt<=1000)(c:Int):∀ (row:List Bool) (o:Nat) (b:Int),-1<=b/\b<=1000->-1<=dX l c o row b/\dX l c o row b<=1000
 |[],_,b,hb=>hb
 |is::r,o,b,hb=>by
  rw[dX];refine Ip h c r (o+1) _ ?_;have:=zG h c o 0 GK;split<;>omega
def Uz{l:List Ld}(h:∀ x∈l,1<=x.wt/\x.wt<=1000)(c:Int)(row:List Bool):0<=mP l c row/\mP l c row<=1000:=by
 have:=Ip h c row 0 (-1) GK;unfold mP;omega
def bN(f:Nat->Int):Nat->Int
 |0=>0
 |n+1=>bN f n+f n
def jf{f g:Nat->Int}:∀ (n:Nat),(∀ i<n,f i=g i)->bN f n=bN g n
 |0,_=>rfl
 |n+1,h=>by rw[bN,bN,jf n λi hi=>h i GK,h n GK]
def E2{f:Nat->Int}{B:Int}:∀ (n:Nat),(∀ i<n,0<=f i/\f i<=B)->0<=bN f n/\bN f n<=B*n
 |0,_=>by simp[bN]
 |n+1,h=>by
  have h1:=E2 n λi hi=>h i GK;have h2:=h n GK;rw[bN,Int.natCast_add,Int.mul_add];simp only[Int.cast_ofNat_Int,Int.mul_one];omega
def zJ(f:Nat->Int)(k:Nat)(v:Int):∀ (n:Nat),bN (λi=>if i=k then f i+v else f i) n=bN f n+if k<n then v else 0
 |0=>by simp[bN]
 |n+1=>by
  rw[bN,bN,zJ f k v n];by_cases h:n=k
  ·subst h;rw[if_pos rfl,if_neg GK,if_pos GK];omega
  ·rw[if_neg h];by_cases h2:k<n
   ·rw[if_pos h2,if_pos GK];omega
   ·rw[if_neg h2,if_neg GK];omega
def zH(f:Nat->Int):∀ n,bN f (n+1)=f 0+bN (λi=>f (i+1)) n
 |0=>by simp[bN]
 |n+1=>by rw[bN,zH f n,bN];omega
def C3(l:List Ld):∀ (left:List (List Bool)) (i:Nat) (n:Int),kk l i left n=n+bN (λj=>mP l (i+j:Nat) (left.getD j [])) left.length
 |[],i,n=>by simp[kk,bN]
 |row::r,i,n=>by
  rw[kk,C3 l r (i+1),dq,zH];simp only[ik,e7,Nat.add_zero];rw[jf (g:=λj=>mP l (i+(j+1):Nat) (r.getD j [])) r.length λj _=>by rw[show i+1+j=i+(j+1) by omega]];omega
def EK{l:List Ld}(h:∀ x∈l,1<=x.wt/\x.wt<=1000)(left:List (List Bool)):0<=kk l 0 left 0/\kk l 0 left 0<=1000*left.length:=by
 rw[C3,Ax];exact E2 _ λi _=>Uz h _ _
abbrev nB:=Int×Nat×List (Int×Int)
def vE(es:List (Int×Int)):List (Int×Value):=es.map λp=>(p.1,.int .i64 p.2)
def gE(A:List nB):List (Int×Value):=A.map λe=>(e.1,.map (some e.2.1))
def Bn(o w:Int):List (Int×Int)->List (Int×Int)
 |[]=>[(o,w)]
 |p::r=>if p.1=o then(o,w)::r else p::Bn o w r
def xf(o:Int):List (Int×Int)->Int
 |[]=>0
 |p::r=>if p.1=o then p.2 else xf o r
def UA(o w:Int):∀ es,kO o (.int .i64 w) (vE es)=vE (Bn o w es)
 |[]=>rfl
 |p::r=>by
  show kO o _ ((p.1,Value.int .i64 p.2)::vE r)=_;rw[kO,Bn];by_cases h:p.1=o
  ·rw[if_pos h,if_pos h];rfl
  ·rw[if_neg h,if_neg h,UA o w r];rfl
def UB(o:Int):∀ es,(od o (vE es)).getD (.int .i64 0)=.int .i64 (xf o es)
 |[]=>rfl
 |p::r=>by
  show(od o ((p.1,Value.int .i64 p.2)::vE r)).getD _=_;rw[od,xf];by_cases h:p.1=o
  ·rw[if_pos h,if_pos h];rfl
  ·rw[if_neg h,if_neg h,UB o r]
def UC(o w x:Int):∀ es,xf x (Bn o w es)=if o=x then w else xf x es
 |[]=>rfl
 |p::r=>by
  rw[Bn];by_cases h:p.1=o
  ·rw[if_pos h,xf,xf];by_cases h2:o=x
   ·rw[if_pos h2,if_pos h2]
   ·rw[if_neg h2,if_neg h2,if_neg GK]
  ·rw[if_neg h,xf,xf,UC o w x r];by_cases h2:p.1=x
   ·rw[if_pos h2,if_neg GK,if_pos h2]
   ·rw[if_neg h2,if_neg h2]
def MJ(c:Int):∀ A:List nB,(od c (gE A)=none/\∀ e∈A,e.1≠c)\/∃ e∈A,e.1=c/\od c (gE A)=some (.map (some e.2.1))
 |[]=>.inl ⟨rfl,GM⟩
 |e::r=>by
  show(od c ((e.1,Value.map (some e.2.1))::gE r)=none/\_)\/_;by_cases h:e.1=c
  ·right;refine⟨e,GM,h,?_⟩;show od c ((e.1,Value.map (some e.2.1))::gE r)=_;rw[od,if_pos h]
  ·rcases MJ c r with⟨h1,h2⟩|⟨e',h1,h2,h3⟩
   ·left;refine⟨by rw[od,if_neg h];exact h1,λx hx=>?_⟩;rcases bw.1 hx with rfl|hx
    ·exact h
    ·exact h2 x hx
   ·right;refine⟨e',by simp[h1],h2,?_⟩;show od c ((e.1,Value.map (some e.2.1))::gE r)=_;rw[od,if_neg h];exact h3
def UD(c:Int)(b:Nat):∀ A:List nB,(∀ e∈A,e.1≠c)->kO c (.map (some b)) (gE A)=gE (A++[(c,b,[])])
 |[],_=>rfl
 |e::r,h=>by
  show kO c _ ((e.1,Value.map (some e.2.1))::gE r)=_;rw[kO,if_neg (h e GM),UD c b r λx hx=>h x (by simp[hx])];rfl
structure GI(R:Nat)(dn:List Ld)(A:List nB)(b0:Nat)(μ:Mem):Prop where
 top:μ b0=some (.map (iE (gE A)))
 sub:∀ e∈A,μ e.2.1=some (.map (iE (vE e.2.2)))
 Dc:∀ e∈A,e.2.1≠b0
 inj:∀ e∈A,∀ e'∈A,e.2.1=e'.2.1->e=e'
 keys:(A.map (·.1)).Nodup
 val:∀ e∈A,∀ o,xf o e.2.2=gj dn e.1 o 0
 has:∀ x∈dn,∃ e∈A,e.1=x.cls
 rL:∀ e∈A,0<=e.1/\e.1<R
def GI.nil{R b0:Nat}{μ:Mem}(h:μ b0=some (.map [])):GI R [] [] b0 μ:=⟨h,GM,GM,GM,GM,GM,GM,GM⟩
def GI.new{R:Nat}{dn:List Ld}{A:List nB}{b0:Nat}{μ:Mem}(h:GI R dn A b0 μ){c:Int}(hcR:0<=c/\c<R)(hc:∀ e∈A,e.1≠c){b:Nat}(hb:μ b=none):GI R dn (A++[(c,b,[])]) b0 (iw (iw μ b (.map [])) b0 (.map (iE (kO c (.map (some b)) (gE A))))):=by
 have lL:b≠b0:=λe=>by rw[e,h.top]at hb;cases hb
 have sL:∀ e∈A,e.2.1≠b:=λe he e2=>by have:=h.sub e he;rw[e2,hb]at this;cases this
 refine⟨by rw[s9,UD c b A hc],λe he=>?_,λe he=>?_,λe he e' rM hh=>?_,?_,λe he o=>?_,λx hx=>?_,λe he=>?_⟩
 ·rcases cG.1 he with he|he
  ·rw[qC _ _ (h.Dc e he),qC _ _ (sL e he)];exact h.sub e he
  ·simp only[cV]at he;subst he;rw[qC _ _ lL,s9];rfl
 ·rcases cG.1 he with he|he
  ·exact h.Dc e he
  ·simp only[cV]at he;subst he;exact lL
 ·rcases cG.1 he with he|he<;>rcases cG.1 rM with rM|rM
  ·exact h.inj e he e' rM hh
  ·simp only[cV]at rM;subst rM;exact absurd hh (sL e he)
  ·simp only[cV]at he;subst he;exact absurd hh.symm (sL e' rM)
  ·simp only[cV]at he rM;rw[he,rM]
 ·rw[dS,p9];refine⟨h.keys,GM,λa ha b' a6=>?_⟩;obtain⟨e,he,rfl⟩:=bW.1 ha;simp only[ei,nQ,cV]at a6;rw[a6];exact hc e he
 ·rcases cG.1 he with he|he
  ·exact h.val e he o
  ·simp only[cV]at he;subst he;rw[MI]
   ·rfl
   ·intro x hx vw;obtain⟨e,he,vM⟩:=h.has x hx;exact hc e he (vM.trans vw)
 ·obtain⟨e,he,vM⟩:=h.has x hx;exact⟨e,List.mem_append_left _ he,vM⟩
 ·rcases cG.1 he with he|he
  ·exact h.rL e he
  ·simp only[cV]at he;subst he;exact hcR
def fl(c o w:Int)(A:List nB):List nB:=A.map λe=>if e.1=c then(e.1,e.2.1,Bn o w e.2.2) else e
def ahv(c o w:Int)(A:List nB):gE (fl c o w A)=gE A:=by
 unfold gE fl;rw[u5];refine tI λe _=>?_;simp only[Function.comp];split<;>rfl
def GI.put{R:Nat}{dn:List Ld}{A:List nB}{b0:Nat}{μ:Mem}(h:GI R dn A b0 μ){x:Ld}{e0:nB}(ns:e0∈A)(hc:e0.1=x.cls):GI R (dn++[x]) (fl x.cls x.opt x.wt A) b0 (iw μ e0.2.1 (.map (iE (kO x.opt (.int .i64 x.wt) (vE e0.2.2))))):=by
 have uniq:∀ e∈A,e.1=x.cls->e=e0:=λe he hh=>by
  have hk:=h.keys;obtain⟨i,hi,rfl⟩:=uX.1 he;obtain⟨j,hj,rfl⟩:=uX.1 ns;have:i=j:=(Kd (h₀:=by simpa using hi) (h₁:=by simpa using hj) hk).1 (by simp only[D1];rw[hh,hc]);subst this;rfl
 have one:∀ e∈fl x.cls x.opt x.wt A,(e=(e0.1,e0.2.1,Bn x.opt x.wt e0.2.2))\/(e∈A/\e.1≠x.cls):=λe he=>by
  obtain⟨e',rM,rfl⟩:=bW.1 he;by_cases hh:e'.1=x.cls
  ·left;rw[if_pos hh,uniq e' rM hh]
  ·right;rw[if_neg hh];exact⟨rM,hh⟩
 have sL:∀ e∈A,e.1≠x.cls->e.2.1≠e0.2.1:=λe he hh e2=>hh (by rw[h.inj e he e0 ns e2,hc]);refine⟨by rw[qC _ _ (h.Dc e0 ns).symm,ahv];exact h.top,λe he=>?_,λe he=>?_,λe he e' rM hh=>?_,?_,λe he o=>?_,λy hy=>?_,λe he=>?_⟩
 ·rcases one e he with rfl|⟨h1,h2⟩
  ·rw[s9,UA]
  ·rw[qC _ _ (sL e h1 h2)];exact h.sub e h1
 ·rcases one e he with rfl|⟨h1,h2⟩
  ·exact h.Dc e0 ns
  ·exact h.Dc e h1
 ·rcases one e he with rfl|⟨h1,h2⟩<;>rcases one e' rM with rfl|⟨h3,h4⟩
  ·rfl
  ·exact absurd hh.symm (sL e' h3 h4)
  ·exact absurd hh (sL e h1 h2)
  ·exact h.inj e h1 e' h3 hh
 ·have:(fl x.cls x.opt x.wt A).map (·.1)=A.map (·.1):=by
   unfold fl;rw[u5];refine tI λe _=>?_;simp only[Function.comp];split<;>rfl
  rw[this];exact h.keys
 ·rw[Ux];rcases one e he with rfl|⟨h1,h2⟩
  ·dsimp only;rw[UC,h.val e0 ns o];by_cases ho:x.opt=o
   ·rw[if_pos ho,if_pos ⟨hc.symm,ho⟩]
   ·rw[if_neg ho,if_neg (λe=>ho e.2)]
  ·rw[if_neg (λe=>h2 e.1.symm)];exact h.val e h1 o
 ·have mem:∀ e∈A,∃ e'∈fl x.cls x.opt x.wt A,e'.1=e.1:=λe he=>⟨_,List.mem_map_of_mem he,by split<;>rfl⟩;rcases cG.1 hy with hy|hy
  ·obtain⟨e,he,vM⟩:=h.has y hy;obtain⟨e',k1,k2⟩:=mem e he;exact⟨e',k1,k2.trans vM⟩
  ·simp only[cV]at hy;subst hy;obtain⟨e',k1,k2⟩:=mem e0 ns;exact⟨e',k1,k2.trans hc⟩
 ·rcases one e he with rfl|⟨h1,h2⟩
  ·exact h.rL e0 ns
  ·exact h.rL e h1
def zQ(f:Int->Int):List nB->Int
 |[]=>0
 |e::r=>f e.1+zQ f r
def MK(f:Int->Int)(n:Nat):∀ A:List nB,(A.map (·.1)).Nodup->(∀ e∈A,0<=e.1/\e.1<n)->zQ f A=bN (λi=>if∃e∈A,e.1=(i:Int) then f i else 0) n
 |[],_,_=>by
  rw[jf (g:=λ_=>0) n (λi _=>GM)];have:∀ n,bN (λ_=>0) n=0:=λn=>by induction n with|zero=>rfl|succ n ih=>rw[bN,ih];rfl
  rw[this];rfl
 |e::r,hn,hr=>by
  rw[ei,List.nodup_cons]at hn;rw[zQ,MK f n r hn.2 λx hx=>hr x (by simp[hx])];have h0:=hr e GM;have ahw:¬∃x∈r,x.1=((e.1.toNat:Nat):Int):=by
   rintro⟨x,hx,hh⟩;rw[wF h0.1]at hh;exact hn.1 (bW.2 ⟨x,hx,hh⟩)
  have:=zJ (λi=>if∃x∈r,x.1=(i:Int) then f i else 0) e.1.toNat (f e.1) n;rw[if_pos GK]at this;rw[Int.add_comm,<- this];refine jf n λi hi=>?_;by_cases h:i=e.1.toNat
  ·subst h;rw[if_pos rfl,if_neg ahw,if_pos ⟨e,GM,GK⟩,wF h0.1];omega
  ·rw[if_neg h];have:(∃ x∈e::r,x.1=(i:Int))↔∃ x∈r,x.1=(i:Int):=by
    constructor
    ·rintro⟨x,hx,hh⟩;rcases bw.1 hx with rfl|hx
     ·omega
     ·exact⟨x,hx,hh⟩
    ·rintro⟨x,hx,hh⟩;exact⟨x,by simp[hx],hh⟩
   simp only[this]
def UE:∀ A:List nB,zQ (λ_=>1) A=A.length
 |[]=>rfl
 |e::r=>by rw[zQ,UE r,dq];omega
def GI.len{R:Nat}{dn:List Ld}{A:List nB}{b0:Nat}{μ:Mem}(h:GI R dn A b0 μ):A.length<=R:=by
 have h1:=MK (λ_=>1) R A h.keys h.rL;rw[UE]at h1;have h2:=E2 (f:=λi=>if∃e∈A,e.1=(i:Int) then(1:Int) else 0) (B:=1) R λi _=>by split<;>omega
 omega
def GI.sum{dn:List Ld}{A:List nB}{b0:Nat}{μ:Mem}{left:List (List Bool)}(h:GI left.length dn A b0 μ):zQ (λc=>mP dn c (left.getD c.toNat [])) A=kk dn 0 left 0:=by
 rw[MK _ left.length A h.keys h.rL,C3,Ax];refine jf _ λi _=>?_;simp only[Nat.zero_add,Int.toNat_natCast];by_cases hh :∃e∈A,e.1=(i:Int)
 ·rw[if_pos hh]
 ·rw[if_neg hh,TJ];intro x hx vw;obtain⟨e,he,vM⟩:=h.has x hx;exact hh ⟨e,he,vM.trans vw⟩
def xg(f:Nat->Int)(seen:List Nat)(n:Nat):Int:=bN (λi=>if i∈seen then f i else 0) n
def E3(seen:List Nat)(n:Nat):Nat:=(bN (λi=>if i∈seen then 0 else 1) n).toNat
def ahx{f:Nat->Int}{seen:List Nat}{n j:Nat}(hj:j<n)(hs:j ∉ seen):xg f (seen++[j]) n=xg f seen n+f j:=by
 unfold xg;have:=zJ (λi=>if i∈seen then f i else 0) j (f j) n;rw[if_pos hj]at this;rw[<- this];refine jf n λi _=>?_;by_cases h:i=j
 ·subst h;rw[if_pos GM,if_pos rfl,if_neg hs];omega
 ·rw[if_neg h];simp[h]
def UG{seen:List Nat}{n j:Nat}(hj:j<n)(hs:j ∉ seen):E3 (seen++[j]) n<E3 seen n:=by
 unfold E3;have h1:=zJ (λi=>if i∈seen then(0:Int) else 1) j (-1) n;rw[if_pos hj]at h1;have h2:bN (λi=>if i∈seen++[j] then(0:Int) else 1) n=bN (λi=>if i=j then(if i∈seen then 0 else 1)+-1 else if i∈seen then 0 else 1) n:=by
  refine jf n λi _=>?_;by_cases h:i=j
  ·subst h;rw[if_pos GM,if_pos rfl,if_neg hs];rfl
  ·rw[if_neg h];simp[h]
 have h3:=(E2 (f:=λi=>if i∈seen++[j] then(0:Int) else 1) (B:=1) n λi _=>by split<;>omega).1;omega
def ahy{f:Nat->Int}{seen:List Nat}{n:Nat}(h:∀ j<n,j∈seen):xg f seen n=bN f n:=jf n λi hi=>if_pos (h i hi)
def ahz(f:Nat->Int)(n:Nat):xg f [] n=0:=by
 unfold xg;rw[jf (g:=λ_=>0) n (λi _=>GM)]
 induction n with|zero=>rfl|succ n ih=>rw[bN,ih];rfl
def UH(f:Int->Int):∀ A:List nB,bN (λj=>f (A.getD j (0,0,[])).1) A.length=zQ f A
 |[]=>rfl
 |e::r=>by
  rw[dq,zH,zQ];simp only[ik,e7];rw[UH f r]
def ahA{f:Nat->Int}{B:Int}{seen:List Nat}{n:Nat}(hB:0<=B)(h:∀ i<n,0<=f i/\f i<=B):0<=xg f seen n/\xg f seen n<=B*n :=
 E2 n λi hi=>by have:=h i hi;split<;>omega
def UJ(L:List (Int×Value))(j:Nat):(iE L)[j]?=L[j]?.map λp=>(.int .i64 p.1,p.2):=by simp[iE]
def UK(A:List nB)(j:Nat):(gE A)[j]?=A[j]?.map λe=>(e.1,.map (some e.2.1)):=by simp[gE]
def Iq(A:List nB):(iE (gE A)).length=A.length:=by simp[gE,iE]
def GI.other{R:Nat}{dn:List Ld}{A:List nB}{b0:Nat}{μ:Mem}(h:GI R dn A b0 μ){r:Nat}(g:Gh)(hr:∀ l,μ r≠some (.map l)):GI R dn A b0 (iw μ r g) :=
 ⟨by rw[qC _ _ (λe=>hr _ (e▸h.top))];exact h.top,λe he=>by rw[qC _ _ (λe2=>hr _ (e2▸h.sub e he))];exact h.sub e he,h.Dc,h.inj,h.keys,h.val,h.has,h.rL⟩
def ML(l:List Ld)(c:Int)(is:Bool):∀ (row:List Bool) (i:Nat) (b:Int),dX l c i (row++[is]) b =
  if is=true/\(dX l c i row b<0\/gj l c (i+row.length:Nat) 0<dX l c i row b) then gj l c (i+row.length:Nat) 0 else dX l c i row b
 |[],i,b=>rfl
 |x::r,i,b=>by
  show dX l c (i+1) (r++[is]) _=_;rw[ML l c is r (i+1),dX,dq,show i+1+r.length=i+(r.length+1) by omega]
def dh(m:ah)(left:List (List Bool)):Prop:=left.length=m.cls.length/\∀ i,i<left.length->(left.getD i default).length=(m.cls.getD i default).length
instance (m:ah)(left:List (List Bool)):Decidable (dh m left):=by unfold dh;infer_instance
def lg(m:ah)(left:List (List Bool)):Int:=if iR m≠0 then iR m else if dh m left then 0 else 17
def EB{m:ah}{left:List (List Bool)}(h:lg m left=0):VM m/\dh m left:=by
 unfold lg at h;split at h
 ·omega
 split at h
 ·rename_i h1 h2;exact⟨nu.1 (Decidable.not_not.1 h1),h2⟩
 ·omega
def dh.row{m:ah}{left:List (List Bool)}(hm:VM m)(h:dh m left):∀ r∈left,r.length<=24:=λr hr=>by
 obtain⟨i,hi,rfl⟩:=uX.1 hr;have:=h.2 i hi;rw[az,bF hi]at this;simp only[Option.getD_some]at this;rw[this];exact hm.opt _ (aF (by have:=h.1;omega))
def BB(left:List (List Bool)):Prop:=left.length<9223372036854775808/\∀ r∈left,r.length<9223372036854775808
def UL(l:List Ld)(row:List Bool):∀ (L:List (List Bool)) (i:Nat) (n:Int),kk l i (L++[row]) n=kk l i L n+mP l (i+L.length:Nat) row
 |[],i,n=>rfl
 |x::r,i,n=>by
  show kk l (i+1) (r++[row]) _=_;rw[UL l row r (i+1),kk,dq,show i+1+r.length=i+(r.length+1) by omega]
def eu{α:Type}[Inhabited α]{l:List α}{k:Nat}(h:k<l.length):l.take (k+1)=l.take k++[l.getD k default]:=by
 rw[List.take_succ_eq_append_getElem h,az,bF h];rfl
abbrev Nm:=Int×Bool
def eP(x:Int):Nm:=(x,decide (1099511627776<=x))
def ba(p:Nm):List AV:=[Qf p.1,.lit (.bool p.2)]
def jx(p:Nm):List AV:=[.lit (.bool p.2),Qf p.1]
instance:Row ba 2:=⟨λ_=>rfl,λp v hv=>by
 simp only[ba,bw,iM,or_false]at hv;rcases hv with rfl|rfl<;>exact .inl ⟨_,rfl,rfl⟩⟩
instance:Row jx 2:=⟨λ_=>rfl,λp v hv=>by
 simp only[jx,bw,iM,or_false]at hv;rcases hv with rfl|rfl<;>exact .inl ⟨_,rfl,rfl⟩⟩
def rK(o:cz):Int:=(o.ch.map (·.2)).foldl eB 0
def b9(l:List cz):List Int:=l.map rK
def dJ(l:List Int):List Nm:=l.map eP
def dC:List Nm->List Bool->Int×Bool->Int×Bool
 |p::r,is::s,b=>dC r s (if is=true/\p.2=false/\(b.2=false\/p.1<b.1) then(p.1,true) else b)
 |_,_,b=>b
def Ir{R:Int}{l:List (Int×Int)}(h:eK R none l=true):∀ c∈l,bT c.2:=λc hc=>vK (Io h c hc).2
def E4:∀ (l:List Int) (n:Int),(∀ x∈l,bT x)->bT n->bT (l.foldl eB n)
 |[],_,_,h=>h
 |x::r,n,hl,h=>E4 r _ (λy hy=>hl y (by simp[hy])) (E1 h (hl x GM))
def EW{R:Int}{o:cz}(h:eK R none o.ch=true):bT (rK o):=E4 _ _ (λx hx=>by
 obtain⟨c,hc,rfl⟩:=bW.1 hx;exact Ir h c hc) (by unfold bT;decide)
structure Mv where
 pair:Int
 side:Int
 opt:Int
 amt:Int
 deriving Inhabited
def aU(x:Mv):List AV:=[Qf x.pair,Qf x.side,Qf x.opt,Qf x.amt]
instance:Row aU 4:=⟨λ_=>rfl,λx v hv=>by
 simp only[aU,bw,iM,or_false]at hv;rcases hv with rfl|rfl|rfl|rfl<;>exact .inl ⟨_,rfl,rfl⟩⟩
def eV(m:ah)(x:Mv):Int:=if x.side=0 then(m.ae.getD x.pair.toNat default).fst else(m.ae.getD x.pair.toNat default).snd
def iT(m:ah)(x:Mv):Bool:=decide (0<=x.pair/\x.pair<m.ae.length/\0<=x.side/\x.side<=1/\-268435456<=x.amt/\x.amt<=268435456)&&hZ m (eV m x) x.opt
def UM(l:List (Int×Int))(k:Nat)(h:k<l.length):(((l.take (k+1)).map (·.2)).foldl eB 0)=eB (((l.take k).map (·.2)).foldl eB 0) (l.getD k default).2:=by
 rw[eu h,dS,Ay];rfl
def UP(p:Nm)(is:Bool)(b:Int×Bool):Int×Bool:=if is=true/\p.2=false/\(b.2=false\/p.1<b.1) then(p.1,true) else b
def UQ(p:Nm)(is:Bool):∀ (l:List Nm) (s:List Bool) (b:Int×Bool),l.length=s.length->dC (l++[p]) (s++[is]) b=UP p is (dC l s b)
 |[],[],b,_=>rfl
 |x::r,y::s,b,h=>by
  show dC (r++[p]) (s++[is]) _=_;rw[UQ p is r s _ (by simpa using h)];rfl
def j7:List Nm->List Bool->List Nm
 |p::r,is::s=>(if is=true then [p] else [])++j7 r s
 |_,_=>[]
def Dd(b a:Nm):Nm:=if a.2=false/\(b.2=true\/a.1<b.1) then a else b
def uB(l:List Nm):Nm:=l.foldl Dd (0,true)
def ahB(l:List Nm)(a:Nm):uB (l++[a])=Dd (uB l) a:=by unfold uB;rw[Ay];rfl
def MN(p:Nm)(is:Bool):∀ (l:List Nm) (s:List Bool),l.length=s.length->j7 (l++[p]) (s++[is])=j7 l s++(if is=true then [p] else [])
 |[],[],_=>by simp[j7]
 |x::r,y::s,h=>by
  show(if y=true then [x] else [])++j7 (r++[p]) (s++[is])=_;rw[MN p is r s (by simpa using h),j7,List.append_assoc]
def MO:∀ (l:List Nm) (s:List Bool) (b:Int×Bool),(j7 l s).foldl Dd (b.1,!b.2)=((dC l s b).1,!(dC l s b).2)
 |[],s,b=>by cases s<;>rfl
 |p::r,[],b=>rfl
 |p::r,is::s,b=>by
  rw[j7,dC,Ay];cases is with
  |false=>simp only[Bool.false_eq_true,if_false,AA,false_and];exact MO r s b
  |true =>
   simp only[if_true,List.foldl_cons,AA,eq_self,true_and];have:Dd (b.1,!b.2) p=((if p.2=false/\(b.2=false\/p.1<b.1) then(p.1,true) else b).1,!(if p.2=false/\(b.2=false\/p.1<b.1) then(p.1,true) else b).2):=by
    unfold Dd;obtain⟨b1,b2⟩:=b;obtain⟨p1,p2⟩:=p;dsimp only;cases b2<;>cases p2<;>simp;split<;>rfl
   rw[this];exact MO r s _
def aho(l:List Nm)(s:List Bool):uB (j7 l s)=((dC l s (0,false)).1,!(dC l s (0,false)).2):=MO l s (0,false)
def kl(os:List Ob)(x:Ob)(l:List Ob):(os++x::l)[os.length]?=some x:=GM
def kP(os l:List Ob)(k:Nat):(os++l)[os.length+k]?=l[k]?:=by rw[iA GK,Nat.add_sub_cancel_left]
def E5(os:List Ob)(x y:Ob)(l:List Ob):(os++x::l).set os.length y=os++y::l:=by rw[List.set_append];simp
def E6(os l:List Ob)(k:Nat)(y:Ob):(os++l).set (os.length+k) y=os++l.set k y:=by rw[List.set_append_right _ _ GK];simp
def aN{os:List Ob}{i:Nat}{o:Ob}(h:os[i]?=some o)(l:List Ob):(os++l)[i]?=some o:=by
 rw[eZ (aV.1 h).1];exact h
def iy{os:List Ob}{i:Nat}{o:Ob}(h:os[i]?=some o)(l:List Ob)(y:Ob):(os++l).set i y=os.set i y++l:=by
 rw[List.set_append,if_pos (aV.1 h).1]
def De{os:List Ob}{i j:Nat}{o o' y:Ob}(h:os[i]?=some o)(h':os[j]?=some o')(cy:o≠o'):(os.set j y)[i]?=some o:=by
 have:j≠i:=λe=>cy (by rw[e,h]at h';simpa using h');rw[gA this];exact h
def mR{os:List Ob}{i:Nat}{o y:Ob}(h:os[i]?=some o):(os.set i y)[i]?=some y:=by
 rw[bU];simp[(aV.1 h).1]
def bH:=aae @kl @kP @E5 @E6
def cE(q:Nat×Nat):List AV:=[.ref q.1 2 0 q.2]
structure RI{α:Type}(enc:α->List AV)(os:List Ob)(D:List (Nat×Nat))(S:List (List α)):Prop where
 len:D.length=S.length
 row:∀ j,j<D.length->os[(D.getD j default).1]?=some (.arr 2 (rowsOf enc (S.getD j default)))/\(S.getD j default).length=(D.getD j default).2
def RI.nil{α:Type}{enc:α->List AV}{os:List Ob}:RI enc os [] ([]:List (List α)):=⟨rfl,GM⟩
def RI.app{α:Type}{enc:α->List AV}{os:List Ob}{D:List (Nat×Nat)}{S:List (List α)}(h:RI enc os D S)(l:List Ob):RI enc (os++l) D S :=
 ⟨h.len,λj hj=>⟨aN (h.row j hj).1 l,(h.row j hj).2⟩⟩
def RI.kill{α:Type}{enc:α->List AV}{os:List Ob}{D:List (Nat×Nat)}{S:List (List α)}(h:RI enc os D S){i:Nat}{o y:Ob}(ho:os[i]?=some o)(cy:∀ l,o≠.arr 2 l):RI enc (os.set i y) D S :=
 ⟨h.len,λj hj=>⟨De (h.row j hj).1 ho (λe=>cy _ e.symm),(h.row j hj).2⟩⟩
def Is{α:Type}[Inhabited α](l:List α)(x:α)(j:Nat):(l++[x]).getD j default=if j<l.length then l.getD j default else if j=l.length then x else default:=by
 simp only[az];split
 ·rename_i h;rw[eZ h]
 ·rename_i h;rw[iA GK];split
  ·rename_i h2;subst h2;simp
  ·rw[dK P2];rfl
def RI.snoc{α:Type}{enc:α->List AV}{os:List Ob}{D:List (Nat×Nat)}{S:List (List α)}(h:RI enc os D S){p:Nat}{r:List α}(hp:os[p]?=some (.arr 2 (rowsOf enc r))):RI enc os (D++[(p,r.length)]) (S++[r]) :=
 ⟨by simp[h.len],λj hj=>by
  rw[Is,Is,<- h.len];by_cases h1:j<D.length
  ·rw[if_pos h1,if_pos h1];exact h.row j h1
  ·have:j=D.length:=by simp at hj;omega
   rw[if_neg h1,if_neg h1,if_pos this,if_pos this];exact⟨hp,rfl⟩⟩
def RI.set{α:Type}{enc:α->List AV}{os:List Ob}{D:List (Nat×Nat)}{S:List (List α)}(h:RI enc os D S)(hn:(D.map (·.1)).Nodup){j:Nat}(hj:j<D.length){r:List α}(hr:r.length=(S.getD j default).length):RI enc (os.set (D.getD j default).1 (.arr 2 (rowsOf enc r))) D (S.set j r) :=
 ⟨by rw[bJ];exact h.len,λk hk=>by
  by_cases e:k=j
  ·subst e;have:(S.set k r).getD k default=r:=by rw[az,bU];simp[<- h.len,hk]
   rw[this];exact⟨mR (h.row k hk).1,hr.trans (h.row k hk).2⟩
  ·have:(S.set j r).getD k default=S.getD k default:=by rw[az,gA (λe'=>e e'.symm),az]
   rw[this];have cy:(D.getD j default).1≠(D.getD k default).1:=λhh=>e ((Kd (h₀:=by simpa using hk) (h₁:=by simpa using hj) hn).1 (by
    rw[D1,D1];have a1:D[k]=D.getD k default:=by simp[hk]
    have a2:D[j]=D.getD j default:=by simp[hj]
    rw[a1,a2];exact hh.symm))
   rw[gA cy];exact h.row k hk⟩
def RI.other{α:Type}{enc:α->List AV}{os:List Ob}{D:List (Nat×Nat)}{S:List (List α)}(h:RI enc os D S){i:Nat}(hi:i ∉ D.map (·.1)){y:Ob}:RI enc (os.set i y) D S :=
 ⟨h.len,λk hk=>⟨by
  rw[gA (λe=>hi (bW.2 ⟨D.getD k default,aF hk,e.symm⟩))];exact(h.row k hk).1,(h.row k hk).2⟩⟩
def RI.fresh{α:Type}{enc:α->List AV}{os:List Ob}{D:List (Nat×Nat)}{S:List (List α)}(h:RI enc os D S){p:Nat}(hp:os.length<=p):p ∉ D.map (·.1):=λhh=>by
 obtain⟨q,hq,rfl⟩:=bW.1 hh;obtain⟨k,hk,rfl⟩:=uX.1 hq;have h1:=(h.row k hk).1;have a1:D.getD k default=D[k]:=by simp[hk]
 rw[a1]at h1;have:=(aV.1 h1).1;omega
def It(D:List (Nat×Nat))(p n:Nat):rowsOf cE D++[[AV.ref p 2 0 n]]=rowsOf cE (D++[(p,n)]):=by simp[rowsOf,cE]
def RI.step{α:Type}{enc:α->List AV}{os:List Ob}{D:List (Nat×Nat)}{S:List (List α)}{ai:Nat}{x:Ob}(fa:os[ai]?=some x)(hx:∀ l,x≠.arr 2 l)(hR:RI enc os D S)(bV:(D.map (·.1)).Nodup)(r:List α)(t y:Ob):
  (os.set ai .gone++[.arr 2 (rowsOf enc r),t,y])[os.length+2]?=some y /\
  RI enc (os.set ai .gone++[.arr 2 (rowsOf enc r),t,y]) (D++[(os.length,r.length)]) (S++[r])/\((D++[(os.length,r.length)]).map (·.1)).Nodup /\
  ∀ k o,os[k]?=some o->k≠ai->(os.set ai .gone++[.arr 2 (rowsOf enc r),t,y])[k]?=some o:=by
 have hl:(os.set ai .gone).length=os.length:=bJ ..;refine⟨?_,?_,?_,λk o hk cy=>aN ?_ _⟩
 ·rw[<- hl,kP];rfl
 ·refine((hR.kill fa hx).app _).snoc ?_;rw[<- hl,kl]
 ·rw[dS,p9];refine⟨bV,GM,λa ha b hb=>?_⟩;simp only[ei,nQ,cV]at hb;subst hb;exact λe=>hR.fresh (aY _) (e▸ha)
 ·rw[gA (Ne.symm cy)];exact hk
structure LO{α:Type}(enc:α->List AV)(B:List (Nat×Ob))(D E:List (Nat×Nat))(S T:List (List α))(os:List Ob):Prop where
 base:∀ b∈B,os[b.1]?=some b.2/\∀ l,b.2≠.arr 2 l
 rD:RI enc os D S
 rE:RI enc os E T
 nd:((D++E).map (·.1)).Nodup
section
variable {α:Type} {enc:α->List AV} {B:List (Nat×Ob)} {D E:List (Nat×Nat)} {S T:List (List α)} {os:List Ob}
def LO.app(h:LO enc B D E S T os)(l:List Ob):LO enc B D E S T (os++l):=⟨λb hb=>⟨aN (h.base b hb).1 l,(h.base b hb).2⟩,h.rD.app l,h.rE.app l,h.nd⟩
def LO.add(h:LO enc B D E S T os){k:Nat}{x:Ob}(hk:os[k]?=some x)(hx:∀ l,x≠.arr 2 l):LO enc ((k,x)::B) D E S T os :=
 ⟨λb hb=>by rcases bw.1 hb with rfl|hb;exact⟨hk,hx⟩;exact h.base b hb,h.rD,h.rE,h.nd⟩
def LO.sub(h:LO enc B D E S T os){C:List (Nat×Ob)}(hc:∀ b∈C,b∈B):LO enc C D E S T os:=⟨λb hb=>h.base b (hc b hb),h.rD,h.rE,h.nd⟩
def Iu{D E:List (Nat×Nat)}(h:((D++E).map (·.1)).Nodup):(D.map (·.1)).Nodup/\(E.map (·.1)).Nodup/\(∀ j,j<D.length->(D.getD j default).1 ∉ E.map (·.1))/\∀ j,j<E.length->(E.getD j default).1 ∉ D.map (·.1):=by
 rw[dS,p9]at h;refine⟨h.1,h.2.1,λj hj hh=>h.2.2 _ (bW.2 ⟨_,aF hj,rfl⟩) _ hh rfl,λj hj hh=>h.2.2 _ hh _ (bW.2 ⟨_,aF hj,rfl⟩) rfl⟩
def LO.Bo(h:LO enc B D E S T os){j:Nat}(hj:j<D.length){r:List α}(hr:r.length=(S.getD j default).length):LO enc B D E (S.set j r) T (os.set (D.getD j default).1 (.arr 2 (rowsOf enc r))):=by
 obtain⟨h1,h2,h3,h4⟩:=Iu h.nd;exact⟨λb hb=>⟨De (h.base b hb).1 (h.rD.row j hj).1 ((h.base b hb).2 _),(h.base b hb).2⟩,h.rD.set h1 hj hr,h.rE.other (h3 j hj),h.nd⟩
def LO.zR(h:LO enc B D E S T os){j:Nat}(hj:j<E.length){r:List α}(hr:r.length=(T.getD j default).length):LO enc B D E S (T.set j r) (os.set (E.getD j default).1 (.arr 2 (rowsOf enc r))):=by
 obtain⟨h1,h2,h3,h4⟩:=Iu h.nd;exact⟨λb hb=>⟨De (h.base b hb).1 (h.rE.row j hj).1 ((h.base b hb).2 _),(h.base b hb).2⟩,h.rD.other (h4 j hj),h.rE.set h2 hj hr,h.nd⟩
end
def Iv(xs:List Nm)(i:Nat)(b:Bool)(n:Int):(rowsOf jx xs).set i [.lit (.bool b),Qf n]=rowsOf jx (xs.set i (n,b)):=by simp[rowsOf,jx,sr]
def ahC(xs:List Nm)(i:Nat)(b:Bool)(n:Int):(rowsOf ba xs).set i [Qf n,.lit (.bool b)]=rowsOf ba (xs.set i (n,b)):=by simp[rowsOf,ba,sr]
def LO.vars{α:Type}{enc:α->List AV}{B:List (Nat×Ob)}{D E:List (Nat×Nat)}{S T:List (List α)}{os:List Ob}(h:LO enc B D E S T os){n:Nat}(hn:os.length=n)(x y:Ob)(hx:∀ l,x≠.arr 2 l)(hy:∀ l,y≠.arr 2 l):
  LO enc ((n,x)::(n+1,y)::B) D E S T (os++[x,y]):=by
 subst hn;exact((h.app [x,y]).add (by rw[kP];rfl) hy).add (by rw[kl]) hx
def zC{α:Type}[Inhabited α](l:List α)(j:Nat):l.set j (l.getD j default)=l:=by
 apply List.ext_getElem?;intro i;rw[bU];split
 ·rename_i h;subst h;split
  ·rename_i h2;rw[az,bF h2];rfl
  ·rename_i h2;rw[dK GK]
 ·rfl
def uq{α:Type}[Inhabited α](l:List α)(j:Nat)(x:α)(h:j<l.length):(l.set j x).getD j default=x:=by
 rw[az,bU];simp[h]
def LO.kill{α:Type}{enc:α->List AV}{B:List (Nat×Ob)}{D E:List (Nat×Nat)}{S T:List (List α)}{os:List Ob}(h:LO enc B D E S T os){i:Nat}{x y:Ob}(hi:os[i]?=some x)(hx:∀ l,x≠.arr 2 l)(cy:∀ b∈B,b.1≠i):LO enc B D E S T (os.set i y) :=
 ⟨λb hb=>⟨by rw[gA (cy b hb).symm];exact(h.base b hb).1,(h.base b hb).2⟩,h.rD.kill hi hx,h.rE.kill hi hx,h.nd⟩
def pL(os l:List Ob)(i k:Nat)(y:Ob):(os.set i y++l)[os.length+k]?=l[k]?:=by
 have:=kP (os.set i y) l k;rwa [bJ]at this
def gC(m:ah)(ai bi:Nat)(D E:List (Nat×Nat)):List AV:=[.tree 1 (rowsOf aW m.cls),.tree 4 (rowsOf aI m.ae),.tree 4 (rowsOf dv m.aD),Qf m.rules,.ref ai 1 0 D.length,.ref bi 1 0 E.length]
abbrev GB(m:ah)(gi ai bi:Nat)(D E:List (Nat×Nat)):List (Nat×Ob):=[(gi,.var (gC m ai bi D E)),(ai,.arr 1 (rowsOf cE D)),(bi,.arr 1 (rowsOf cE E))]
def Bp{m:ah}{gi ai bi:Nat}{D E:List (Nat×Nat)}{S T:List (List Nm)}{os:List Ob}(h:LO ba (GB m gi ai bi D E) D E S T os):
  os[gi]?=some (.var (gC m ai bi D E))/\os[ai]?=some (.arr 1 (rowsOf cE D))/\os[bi]?=some (.arr 1 (rowsOf cE E)) :=
 ⟨(h.base (gi,_) GM).1,(h.base (ai,.arr 1 (rowsOf cE D)) GM).1,(h.base (bi,.arr 1 (rowsOf cE E)) GM).1⟩
def ic(os ob:List Ob):Prop:=∀ (k:Nat) (o:Ob),os[k]?=some o->ob[k]?=some o
def ic.refl(os:List Ob):ic os os:=λ_ _ h=>h
def ic.app{os ob:List Ob}(h:ic os ob)(l:List Ob):ic os (ob++l):=λk o hk=>aN (h k o hk) l
def ic.set{os ob:List Ob}(h:ic os ob){i:Nat}(hi:os.length<=i){y:Ob}:ic os (ob.set i y):=λk o hk=>by
 have:=(aV.1 hk).1;rw[gA GK];exact h k o hk
def ic.len{os ob:List Ob}(h:ic os ob):os.length<=ob.length:=by
 rcases Nat.eq_zero_or_pos os.length with h0|h0
 ·omega
 ·obtain⟨o,ho⟩ :∃o,os[os.length-1]?=some o:=⟨_,bF GK⟩;have:=(aV.1 (h _ _ ho)).1;omega
section
variable {α:Type} {enc:α->List AV} {B:List (Nat×Ob)} {D E:List (Nat×Nat)} {S T:List (List α)} {os:List Ob}
def LO.swap(h:LO enc B D E S T os):LO enc B E D T S os:=⟨h.base,h.rE,h.rD,by
 have:=h.nd;rw[dS,p9]at this ⊢;exact⟨this.2.1,this.1,λa ha b hb e=>this.2.2 b hb a ha e.symm⟩⟩
def LO.Iw(h:LO enc B D E S T os){i:Nat}{l:List (List AV)}(hi:i ∉ (D++E).map (·.1))(hr:os[i]?=some (.arr 2 l)){y:Ob}:LO enc B D E S T (os.set i y):=by
 rw[dS,cG,not_or]at hi;exact⟨λb hb=>⟨De (h.base b hb).1 hr ((h.base b hb).2 _),(h.base b hb).2⟩,h.rD.other hi.1,h.rE.other hi.2,h.nd⟩
def LO.fresh(h:LO enc B D E S T os){p:Nat}(hp:os.length<=p):p ∉ (D++E).map (·.1):=by
 rw[dS,cG,not_or];exact⟨h.rD.fresh hp,h.rE.fresh hp⟩
def LO.step{gi ai:Nat}{gc:List AV}{A:List (List AV)}(h:LO enc ((gi,.var gc)::(ai,.arr 1 A)::B) D E S T os){r:List α}{oi:Nat}(hr:os[oi]?=some (.arr 2 (rowsOf enc r)))(dU:oi ∉ (D++E).map (·.1))(hB:∀ b∈B,b.1≠ai/\b.1≠gi)(Df:List AV)(A':List (List AV))(t:Ob):
  LO enc ((gi,.var Df)::(os.length+1,.arr 1 A')::B) (D++[(oi,r.length)]) E (S++[r]) T ((os.set ai .gone).set gi (.var Df)++[t,.arr 1 A']):=by
 have hg:=(h.base (gi,.var gc) GM).1;have ha:=(h.base (ai,.arr 1 A) GM).1;dsimp only at hg ha;have Dg:gi≠ai:=λe=>by rw[e,ha]at hg;cases hg
 have nR:(os.set ai .gone)[gi]?=some (.var gc):=by rw[gA Dg.symm];exact hg
 have hl:((os.set ai .gone).set gi (.var Df)).length=os.length:=by rw[bJ,bJ]
 have hD2:=((h.rD.kill (y:=.gone) ha GM).kill (y:=.var Df) nR GM).app [t,.arr 1 A'];have hE2:=((h.rE.kill (y:=.gone) ha GM).kill (y:=.var Df) nR GM).app [t,.arr 1 A'];have kh:((os.set ai .gone).set gi (.var Df)++[t,.arr 1 A'])[oi]?=some (.arr 2 (rowsOf enc r)):=aN (De (De hr ha GM) nR GM) _;refine⟨λb hb=>?_,hD2.snoc kh,hE2,?_⟩
 ·rcases bw.1 hb with rfl|hb
  ·exact⟨aN (mR nR) _,GM⟩
  rcases bw.1 hb with rfl|hb
  ·refine⟨?_,GM⟩;dsimp only;rw[<- hl,kP];rfl
  ·have h0:=h.base b (by simp[hb]);refine⟨aN ?_ _,h0.2⟩;rw[gA (hB b hb).2.symm,gA (hB b hb).1.symm];exact h0.1
 ·have bV:=h.nd;rw[dS,p9]at bV ⊢;rw[dS,cG,not_or]at dU;obtain⟨n1,n2,n3⟩:=bV;refine⟨?_,n2,λa nC b hb=>?_⟩
  ·rw[dS,p9];refine⟨n1,GM,λa nC b hb=>?_⟩;simp only[ei,nQ,cV]at hb;subst hb;exact λe=>dU.1 (e▸nC)
  ·rw[dS,cG]at nC;rcases nC with nC|nC
   ·exact n3 a nC b hb
   ·simp only[ei,nQ,cV]at nC;subst nC;exact λe=>dU.2 (e▸hb)
end
structure WS where
 own:List (List Int)
 ay:List (List Int)
 am:List (List Int×Int)
 deriving Inhabited
def mn(k:List Int):List (List Int×Int)->Int
 |[]=>0
 |p::r=>if p.1=k then p.2 else mn k r
def j9(k:List Int)(v:Int):List (List Int×Int)->List (List Int×Int)
 |[]=>[(k,v)]
 |p::r=>if p.1=k then(k,v)::r else p::j9 k v r
def mE(am:List (List Int×Int)):List (List Int×AV):=am.map λp=>(p.1,Qf p.2)
def MP(k:List Int):∀ (am:List (List Int×Int)) (i:Nat),
  (∀ j,iH k (mE am) i=some j->i<=j/\∃ p,am[j-i]?=some p/\p.1=k/\p.2=mn k am/\∀ v,(mE am).set (j-i) (k,Qf v)=mE (j9 k v am)) /\
  (iH k (mE am) i=none->mn k am=0/\∀ v,mE am++[(k,Qf v)]=mE (j9 k v am))
 |[],i=>⟨λj h=>(by cases h),λ_=>⟨rfl,λ_=>rfl⟩⟩
 |p::r,i=>by
  obtain⟨h1,h2⟩:=MP k r (i+1);have e:iH k (mE (p::r)) i=if p.1=k then some i else iH k (mE r) (i+1):=rfl;rw[e];by_cases hp:p.1=k
  ·rw[if_pos hp];refine⟨λj hj=>?_,λh=>(by cases h)⟩;cases hj;refine⟨aY _,p,GM,hp,by rw[mn,if_pos hp],λv=>?_⟩;rw[Nat.sub_self,j9,if_pos hp];rfl
  ·rw[if_neg hp];refine⟨λj hj=>?_,λh=>?_⟩
   ·obtain⟨a1,q,a2,a3,a4,a5⟩:=h1 j hj;have e2:j-i=(j-(i+1))+1:=GK;refine⟨GK,q,by rw[e2,List.getElem?_cons_succ];exact a2,a3,by rw[mn,if_neg hp];exact a4,λv=>?_⟩;rw[e2,j9,if_neg hp];show _::(mE r).set _ _=_::mE _;rw[a5]
   ·obtain⟨b1,b2⟩:=h2 h;refine⟨by rw[mn,if_neg hp];exact b1,λv=>?_⟩;rw[j9,if_neg hp];show _::(mE r++_)=_::mE _;rw[b2]
def ahF(k:List Int)(am:List (List Int×Int)):(ni k (mE am)).getD (Qf 0)=Qf (mn k am):=by
 obtain⟨h1,h2⟩:=MP k am 0;unfold ni;cases h:iH k (mE am) 0 with
 |none=>rw[(h2 h).1];rfl
 |some j =>
  obtain⟨_,p,a2,a3,a4,_⟩:=h1 j h;rw[wB]at a2;simp[mE,a2,a4]
def ahG(k:List Int)(v:Int)(am:List (List Int×Int)):Am.fl k (Qf v) (mE am)=mE (j9 k v am):=by
 obtain⟨h1,h2⟩:=MP k am 0;unfold Am.fl;cases h:iH k (mE am) 0 with
 |none=>exact(h2 h).2 v
 |some j =>
  obtain⟨_,p,_,_,_,a5⟩:=h1 j h;rw[wB]at a5;exact a5 v
section
variable (m:ah)
def cS(p:Nat):Pr:=m.ae.getD p default
def aE(p s:Nat):Nat:=(if s=0 then(cS m p).fst else(cS m p).snd).toNat
def cN(c:Nat):Nat:=(m.cls.getD c default).length
def km(p s o k:Nat):Nat:=if s=1 then k*cN m (aE m p 1)+o else o*cN m (aE m p 1)+k
def og(p s o:Nat):List Int:=[(p:Int),(s:Int),(o:Int)]
def uC(W:WS)(p s o:Nat)(amt:Int):Int:=min (max (mn (og p s o) W.am+amt) (-268435456)) 268435456
def kq(p s o:Nat)(d:Int):Nat->List Int->List Int
 |0,t=>t
 |k+1,t=>if(cS m p).ay.getD (km m p s o k) 0≠1099511627776 then(kq p s o d k t).set (km m p s o k) ((kq p s o d k t).getD (km m p s o k) 0-d) else kq p s o d k t
def oW(W:WS)(c o:Nat):Int:=(W.own.getD c default).getD o 0
def Br(W:WS)(p j:Nat):Int:=(W.ay.getD p default).getD j 0
def qD(W:WS)(p s o:Nat)(amt:Int):WS :=
  ⟨W.own.set (aE m p s) ((W.own.getD (aE m p s) default).set o (oW W (aE m p s) o+(uC W p s o amt-mn (og p s o) W.am))),
   W.ay.set p (kq m p s o (uC W p s o amt-mn (og p s o) W.am) (cN m (aE m p (1-s))) (W.ay.getD p default)),
   j9 (og p s o) (uC W p s o amt) W.am⟩
variable (can:List (List Bool))
def yv(c i:Nat):Bool:=(can.getD c default).getD i false
def lN(W:WS)(p s:Nat):Nat->WS
 |0=>W
 |i+1=>if yv can (aE m p s) i=true then qD m (lN W p s i) p s i (-(oW (lN W p s i) (aE m p s) i)) else lN W p s i
def pM(W:WS)(p s k:Nat):Nat->Int
 |0=>1099511627776
 |i+1=>if yv can (aE m p s) i=true/\(cS m p).ay.getD (km m p s i k) 0≠1099511627776 then min (pM W p s k i) (Br W p (km m p s i k)) else pM W p s k i
def Dh(n:Int):Int:=if n=1099511627776 then 134217728 else n
def jS(W:WS)(p s:Nat):Nat->WS
 |0=>W
 |k+1=>if yv can (aE m p (1-s)) k=true then qD m (jS W p s k) p (1-s) k (Dh (pM m can (jS W p s k) p s k (cN m (aE m p s)))) else jS W p s k
def Bs(W:WS)(p s:Nat):WS:=jS m can (lN m can W p s (cN m (aE m p s))) p s (cN m (aE m p (1-s)))
def nD(t:List Int)(a:Nat)(eA:Int):Nat->List Int
 |0=>t
 |i+1=>if(nD t a eA i).getD i 0=eA then(nD t a eA i).set i ((nD t a eA i).getD a 0) else nD t a eA i
def Di(t:List Int×List (List Int))(p:Nat):List Int×List (List Int) :=
 let a:=aE m p 0
 let b:=aE m p 1
 if t.1.getD a 0=t.1.getD b 0 then t else(nD t.1 a (t.1.getD b 0) t.1.length,(t.2.set a (t.2.getD a default++[(p:Int)])).set b (t.2.getD b default++[(p:Int)]))
def lq(round:Nat):Nat->List Int×List (List Int)
 |0=>((List.range m.cls.length).map λ(i:Nat)=>(i:Int),aK m.cls.length [])
 |k+1=>Di m (lq round k) ((k+round)%m.ae.length)
def Bt(up:WS×List Bool->Nat->WS×List Bool)(st:WS×List Bool)(p s:Nat):WS×List Bool :=
 if st.2.getD (aE m p s) false=true then st else(Bs m can (up st (aE m p s)).1 p s,(up st (aE m p s)).2)
def jm(cT:List (List Int)):Nat->WS×List Bool->Nat->WS×List Bool
 |0,st,_=>st
 |f+1,st,c=>(cT.getD c default).foldl (λst p=>Bt m can (jm cT f) (Bt m can (jm cT f) st p.toNat 0) p.toNat 1) (st.1,st.2.set c true)
def mS(cT:List (List Int))(st:WS×List Bool):Nat->WS×List Bool
 |0=>st
 |c+1=>let q:=mS cT st c
  if q.2.getD c false=true then q else jm m can cT (m.cls.length+1) q c
def qE(W:WS)(round:Nat):WS:=(mS m can (lq m round m.ae.length).2 (W,aK m.cls.length false) m.cls.length).1
end
end T

