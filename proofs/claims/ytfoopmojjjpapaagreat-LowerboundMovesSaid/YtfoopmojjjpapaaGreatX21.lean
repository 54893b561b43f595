import Derived.Test.YtfoopmojjjpapaaGreatX20
import Derived.Test.YtfoopmojjjpapaaGreatX16
set_option linter.all false
set_option maxHeartbeats 0
set_option maxRecDepth 20000
open Int renaming natCast_add→Cr,cast_ofNat_Int→E5,zero_add→yX,toNat_of_nonneg→u7,toNat_natCast→ep,add_zero→N4
open List renaming length_cons→dt,getD_cons_zero→im,getD_cons_succ→fM,mem_cons→bj,mem_append→cC,mem_singleton→cU,map_append→dS,nodup_append→pV,mem_map→b8,map_cons→fV,map_nil→nu,map_map→wF,map_congr_left→tL,mem_iff_getElem→wy,getElem_inj→It,getElem_map→Cv,getD_eq_getElem?_getD→aB,getElem?_eq_getElem→bT,not_mem_nil→gU,foldl_append→AO,foldl_nil→yY,getElem?_append_right→gX,getElem?_append_left→eB,getElem?_eq_some_iff→aR,getElem?_set_ne→gV,getElem?_set→bY,getElem?_eq_none→gj,length_set→bK,map_set→rV,range→bn,mem_or_eq_of_mem_set→qU,getElem?_map→b9,length_append→bF,length_map→fW,replicate→aJ
open Nat renaming add_zero→iq,zero_add→gm,eq_zero_or_pos→qV,lt_or_ge→dE,add_mul→fN
open Option renaming getD_some→pQ
open Bool renaming and_eq_true→aZ,not_eq_true'→kH
open Go Go.Am
namespace T
def fH:List Ld->Int->Int->Int->Int
 |[],_,_,w=>w
 |x::r,c,o,w=>fH r c o (if x.cls=c/\x.opt=o then x.wt else w)
def dG(l:List Ld)(c:Int):Nat->List Bool->Int->Int
 |_,[],b=>b
 |o,is::r,b=>dG l c (o+1) r (if is=true/\(b<0\/fH l c o 0<b) then fH l c o 0 else b)
def lX(l:List Ld)(c:Int)(row:List Bool):Int:=max (dG l c 0 row (-1)) 0
def jN(l:List Ld):Nat->List (List Bool)->Int->Int
 |_,[],n=>n
 |i,row::r,n=>jN l (i+1) r (n+lX l i row)
def iM(left:List (List Bool))(c:Ct):Int:=kQ c.most c.bX (jN c.aY 0 left 0)
def Wo(l:List Ld)(x:Ld)(c o:Int):∀ w,fH (l++[x]) c o w=if x.cls=c/\x.opt=o then x.wt else fH l c o w:=by
 induction l with
 |nil=>intro w;rfl
 |cons y r ih=>intro w;exact ih _
def KE:∀ {l:List Ld} {c:Int} (o w:Int),(∀ x∈l,x.cls≠c)->fH l c o w=w
 |[],_,_,_,_=>rfl
 |x::r,c,o,w,h=>by
  rw[fH,if_neg (λe=>h x Iy e.1)];exact KE o w λy hy=>h y (by simp[hy])
def yg{l:List Ld}(h:∀ x∈l,1<=x.wt/\x.wt<=1000)(c o:Int):∀ w,0<=w/\w<=1000->0<=fH l c o w/\fH l c o w<=1000:=by
 induction l with
 |nil=>intro w hw;exact hw
 |cons x r ih =>
  intro w hw;rw[fH];refine ih (λy hy=>h y (by simp[hy])) _ ?_;have:=h x Iy;split<;>omega
def Wp{l:List Ld}{c:Int}(h:∀ x∈l,x.cls≠c):∀ (row:List Bool) (o:Nat) (b:Int),-1<=b/\b<=0->-1<=dG l c o row b/\dG l c o row b<=0
 |[],_,b,hb=>hb
 |is::r,o,b,hb=>by
  rw[dG];refine Wp h r (o+1) _ ?_;rw[KE _ _ h];split<;>omega
def Wq{l:List Ld}{c:Int}(h:∀ x∈l,x.cls≠c)(row:List Bool):lX l c row=0:=by
 have:=Wp h row 0 (-1) Ix;unfold lX;omega
def Gf{l:List Ld}(h:∀ x∈l,1<=x.wt/\x.wt<=1000)(c:Int):∀ (row:List Bool) (o:Nat) (b:Int),-1<=b/\b<=1000->-1<=dG l c o row b/\dG l c o row b<=1000
 |[],_,b,hb=>hb
 |is::r,o,b,hb=>by
  rw[dG];refine Gf h c r (o+1) _ ?_;have:=yg h c o 0 Ix;split<;>omega
def QL{l:List Ld}(h:∀ x∈l,1<=x.wt/\x.wt<=1000)(c:Int)(row:List Bool):0<=lX l c row/\lX l c row<=1000:=by
 have:=Gf h c row 0 (-1) Ix;unfold lX;omega
def bD(f:Nat->Int):Nat->Int
 |0=>0
 |n+1=>bD f n+f n
def iN{f g:Nat->Int}:∀ (n:Nat),(∀ i<n,f i=g i)->bD f n=bD g n
 |0,_=>rfl
 |n+1,h=>by rw[bD,bD,iN n λi hi=>h i Ix,h n Ix]
def Dt{f:Nat->Int}{B:Int}:∀ (n:Nat),(∀ i<n,0<=f i/\f i<=B)->0<=bD f n/\bD f n<=B*n
 |0,_=>by simp[bD]
 |n+1,h=>by
  have h1:=Dt n λi hi=>h i Ix;have h2:=h n Ix;rw[bD,Cr,Int.mul_add];simp only[E5,Int.mul_one];omega
def yq(f:Nat->Int)(k:Nat)(v:Int):∀ (n:Nat),bD (λi=>if i=k then f i+v else f i) n=bD f n+if k<n then v else 0
 |0=>by simp[bD]
 |n+1=>by
  rw[bD,bD,yq f k v n];by_cases h:n=k
  ·subst h;rw[if_pos rfl,if_neg Ix,if_pos Ix];omega
  ·rw[if_neg h];by_cases h2:k<n
   ·rw[if_pos h2,if_pos Ix];omega
   ·rw[if_neg h2,if_neg Ix];omega
def yr(f:Nat->Int):∀ n,bD f (n+1)=f 0+bD (λi=>f (i+1)) n
 |0=>by simp[bD]
 |n+1=>by rw[bD,yr f n,bD];omega
def BD(l:List Ld):∀ (left:List (List Bool)) (i:Nat) (n:Int),jN l i left n=n+bD (λj=>lX l (i+j:Nat) (left.getD j [])) left.length
 |[],i,n=>by simp[jN,bD]
 |row::r,i,n=>by
  rw[jN,BD l r (i+1),dt,yr];simp only[im,fM,iq];rw[iN (g:=λj=>lX l (i+(j+1):Nat) (r.getD j [])) r.length λj _=>by rw[show i+1+j=i+(j+1) by omega]];omega
def C6{l:List Ld}(h:∀ x∈l,1<=x.wt/\x.wt<=1000)(left:List (List Bool)):0<=jN l 0 left 0/\jN l 0 left 0<=1000*left.length:=by
 rw[BD,yX];exact Dt _ λi _=>QL h _ _
abbrev mA:=Int×Nat×List (Int×Int)
def vE(es:List (Int×Int)):List (Int×Value):=es.map λp=>(p.1,.int .i64 p.2)
def gE(A:List mA):List (Int×Value):=A.map λe=>(e.1,.map (some e.2.1))
def zS(o w:Int):List (Int×Int)->List (Int×Int)
 |[]=>[(o,w)]
 |p::r=>if p.1=o then(o,w)::r else p::zS o w r
def vJ(o:Int):List (Int×Int)->Int
 |[]=>0
 |p::r=>if p.1=o then p.2 else vJ o r
def Wr(o w:Int):∀ es,j7 o (.int .i64 w) (vE es)=vE (zS o w es)
 |[]=>rfl
 |p::r=>by
  show j7 o _ ((p.1,Value.int .i64 p.2)::vE r)=_;rw[j7,zS];by_cases h:p.1=o
  ·rw[if_pos h,if_pos h];rfl
  ·rw[if_neg h,if_neg h,Wr o w r];rfl
def QU(o:Int):∀ es,(mW o (vE es)).getD (.int .i64 0)=.int .i64 (vJ o es)
 |[]=>rfl
 |p::r=>by
  show(mW o ((p.1,Value.int .i64 p.2)::vE r)).getD _=_;rw[mW,vJ];by_cases h:p.1=o
  ·rw[if_pos h,if_pos h];rfl
  ·rw[if_neg h,if_neg h,QU o r]
def Ws(o w x:Int):∀ es,vJ x (zS o w es)=if o=x then w else vJ x es
 |[]=>rfl
 |p::r=>by
  rw[zS];by_cases h:p.1=o
  ·rw[if_pos h,vJ,vJ];by_cases h2:o=x
   ·rw[if_pos h2,if_pos h2]
   ·rw[if_neg h2,if_neg h2,if_neg Ix]
  ·rw[if_neg h,vJ,vJ,Ws o w x r];by_cases h2:p.1=x
   ·rw[if_pos h2,if_neg Ix,if_pos h2]
   ·rw[if_neg h2,if_neg h2]
def J4(c:Int):∀ A:List mA,(mW c (gE A)=none/\∀ e∈A,e.1≠c)\/∃ e∈A,e.1=c/\mW c (gE A)=some (.map (some e.2.1))
 |[]=>.inl ⟨rfl,Iy⟩
 |e::r=>by
  show(mW c ((e.1,Value.map (some e.2.1))::gE r)=none/\_)\/_;by_cases h:e.1=c
  ·right;refine⟨e,Iy,h,?_⟩;show mW c ((e.1,Value.map (some e.2.1))::gE r)=_;rw[mW,if_pos h]
  ·rcases J4 c r with⟨h1,h2⟩|⟨e',h1,h2,h3⟩
   ·left;refine⟨by rw[mW,if_neg h];exact h1,λx hx=>?_⟩;rcases bj.1 hx with rfl|hx
    ·exact h
    ·exact h2 x hx
   ·right;refine⟨e',by simp[h1],h2,?_⟩;show mW c ((e.1,Value.map (some e.2.1))::gE r)=_;rw[mW,if_neg h];exact h3
def Wt(c:Int)(b:Nat):∀ A:List mA,(∀ e∈A,e.1≠c)->j7 c (.map (some b)) (gE A)=gE (A++[(c,b,[])])
 |[],_=>rfl
 |e::r,h=>by
  show j7 c _ ((e.1,Value.map (some e.2.1))::gE r)=_;rw[j7,if_neg (h e Iy),Wt c b r λx hx=>h x (by simp[hx])];rfl
structure GI(R:Nat)(dn:List Ld)(A:List mA)(b0:Nat)(μ:Mem):Prop where
 top:μ b0=some (.map (iE (gE A)))
 sub:∀ e∈A,μ e.2.1=some (.map (iE (vE e.2.2)))
 BE:∀ e∈A,e.2.1≠b0
 inj:∀ e∈A,∀ e'∈A,e.2.1=e'.2.1->e=e'
 keys:(A.map (·.1)).Nodup
 val:∀ e∈A,∀ o,vJ o e.2.2=fH dn e.1 o 0
 has:∀ x∈dn,∃ e∈A,e.1=x.cls
 qv:∀ e∈A,0<=e.1/\e.1<R
def GI.nil{R b0:Nat}{μ:Mem}(h:μ b0=some (.map [])):GI R [] [] b0 μ:=⟨h,Iy,Iy,Iy,Iy,Iy,Iy,Iy⟩
def GI.new{R:Nat}{dn:List Ld}{A:List mA}{b0:Nat}{μ:Mem}(h:GI R dn A b0 μ){c:Int}(hcR:0<=c/\c<R)(hc:∀ e∈A,e.1≠c){b:Nat}(hb:μ b=none):GI R dn (A++[(c,b,[])]) b0 (gP (gP μ b (.map [])) b0 (.map (iE (j7 c (.map (some b)) (gE A))))):=by
 have pk:b≠b0:=λe=>by rw[e,h.top]at hb;cases hb
 have re:∀ e∈A,e.2.1≠b:=λe he e2=>by have:=h.sub e he;rw[e2,hb]at this;cases this
 refine⟨by rw[rm,Wt c b A hc],λe he=>?_,λe he=>?_,λe he e' qB hh=>?_,?_,λe he o=>?_,λx hx=>?_,λe he=>?_⟩
 ·rcases cC.1 he with he|he
  ·rw[px _ _ (h.BE e he),px _ _ (re e he)];exact h.sub e he
  ·simp only[cU]at he;subst he;rw[px _ _ pk,rm];rfl
 ·rcases cC.1 he with he|he
  ·exact h.BE e he
  ·simp only[cU]at he;subst he;exact pk
 ·rcases cC.1 he with he|he<;>rcases cC.1 qB with qB|qB
  ·exact h.inj e he e' qB hh
  ·simp only[cU]at qB;subst qB;exact absurd hh (re e he)
  ·simp only[cU]at he;subst he;exact absurd hh.symm (re e' qB)
  ·simp only[cU]at he qB;rw[he,qB]
 ·rw[dS,pV];refine⟨h.keys,Iy,λa ha b' aV=>?_⟩;obtain⟨e,he,rfl⟩:=b8.1 ha;simp only[fV,nu,cU]at aV;rw[aV];exact hc e he
 ·rcases cC.1 he with he|he
  ·exact h.val e he o
  ·simp only[cU]at he;subst he;rw[KE]
   ·rfl
   ·intro x hx ui;obtain⟨e,he,uD⟩:=h.has x hx;exact hc e he (uD.trans ui)
 ·obtain⟨e,he,uD⟩:=h.has x hx;exact⟨e,List.mem_append_left _ he,uD⟩
 ·rcases cC.1 he with he|he
  ·exact h.qv e he
  ·simp only[cU]at he;subst he;exact hcR
def eT(c o w:Int)(A:List mA):List mA:=A.map λe=>if e.1=c then(e.1,e.2.1,zS o w e.2.2) else e
def afH(c o w:Int)(A:List mA):gE (eT c o w A)=gE A:=by
 unfold gE eT;rw[wF];refine tL λe _=>?_;simp only[Function.comp];split<;>rfl
def GI.put{R:Nat}{dn:List Ld}{A:List mA}{b0:Nat}{μ:Mem}(h:GI R dn A b0 μ){x:Ld}{e0:mA}(nF:e0∈A)(hc:e0.1=x.cls):GI R (dn++[x]) (eT x.cls x.opt x.wt A) b0 (gP μ e0.2.1 (.map (iE (j7 x.opt (.int .i64 x.wt) (vE e0.2.2))))):=by
 have uniq:∀ e∈A,e.1=x.cls->e=e0:=λe he hh=>by
  have hk:=h.keys;obtain⟨i,hi,rfl⟩:=wy.1 he;obtain⟨j,hj,rfl⟩:=wy.1 nF;have:i=j:=(It (h₀:=by simpa using hi) (h₁:=by simpa using hj) hk).1 (by simp only[Cv];rw[hh,hc]);subst this;rfl
 have one:∀ e∈eT x.cls x.opt x.wt A,(e=(e0.1,e0.2.1,zS x.opt x.wt e0.2.2))\/(e∈A/\e.1≠x.cls):=λe he=>by
  obtain⟨e',qB,rfl⟩:=b8.1 he;by_cases hh:e'.1=x.cls
  ·left;rw[if_pos hh,uniq e' qB hh]
  ·right;rw[if_neg hh];exact⟨qB,hh⟩
 have re:∀ e∈A,e.1≠x.cls->e.2.1≠e0.2.1:=λe he hh e2=>hh (by rw[h.inj e he e0 nF e2,hc]);refine⟨by rw[px _ _ (h.BE e0 nF).symm,afH];exact h.top,λe he=>?_,λe he=>?_,λe he e' qB hh=>?_,?_,λe he o=>?_,λy hy=>?_,λe he=>?_⟩
 ·rcases one e he with rfl|⟨h1,h2⟩
  ·rw[rm,Wr]
  ·rw[px _ _ (re e h1 h2)];exact h.sub e h1
 ·rcases one e he with rfl|⟨h1,h2⟩
  ·exact h.BE e0 nF
  ·exact h.BE e h1
 ·rcases one e he with rfl|⟨h1,h2⟩<;>rcases one e' qB with rfl|⟨h3,h4⟩
  ·rfl
  ·exact absurd hh.symm (re e' h3 h4)
  ·exact absurd hh (re e h1 h2)
  ·exact h.inj e h1 e' h3 hh
 ·have:(eT x.cls x.opt x.wt A).map (·.1)=A.map (·.1):=by
   unfold eT;rw[wF];refine tL λe _=>?_;simp only[Function.comp];split<;>rfl
  rw[this];exact h.keys
 ·rw[Wo];rcases one e he with rfl|⟨h1,h2⟩
  ·dsimp only;rw[Ws,h.val e0 nF o];by_cases ho:x.opt=o
   ·rw[if_pos ho,if_pos ⟨hc.symm,ho⟩]
   ·rw[if_neg ho,if_neg (λe=>ho e.2)]
  ·rw[if_neg (λe=>h2 e.1.symm)];exact h.val e h1 o
 ·have mem:∀ e∈A,∃ e'∈eT x.cls x.opt x.wt A,e'.1=e.1:=λe he=>⟨_,List.mem_map_of_mem he,by split<;>rfl⟩;rcases cC.1 hy with hy|hy
  ·obtain⟨e,he,uD⟩:=h.has y hy;obtain⟨e',k1,k2⟩:=mem e he;exact⟨e',k1,k2.trans uD⟩
  ·simp only[cU]at hy;subst hy;obtain⟨e',k1,k2⟩:=mem e0 nF;exact⟨e',k1,k2.trans hc⟩
 ·rcases one e he with rfl|⟨h1,h2⟩
  ·exact h.qv e0 nF
  ·exact h.qv e h1
def yu(f:Int->Int):List mA->Int
 |[]=>0
 |e::r=>f e.1+yu f r
def KF(f:Int->Int)(n:Nat):∀ A:List mA,(A.map (·.1)).Nodup->(∀ e∈A,0<=e.1/\e.1<n)->yu f A=bD (λi=>if∃e∈A,e.1=(i:Int) then f i else 0) n
 |[],_,_=>by
  rw[iN (g:=λ_=>0) n (λi _=>Iy)];have:∀ n,bD (λ_=>0) n=0:=λn=>by induction n with|zero=>rfl|succ n ih=>rw[bD,ih];rfl
  rw[this];rfl
 |e::r,hn,hr=>by
  rw[fV,List.nodup_cons]at hn;rw[yu,KF f n r hn.2 λx hx=>hr x (by simp[hx])];have h0:=hr e Iy;have afI:¬∃x∈r,x.1=((e.1.toNat:Nat):Int):=by
   rintro⟨x,hx,hh⟩;rw[u7 h0.1]at hh;exact hn.1 (b8.2 ⟨x,hx,hh⟩)
  have:=yq (λi=>if∃x∈r,x.1=(i:Int) then f i else 0) e.1.toNat (f e.1) n;rw[if_pos Ix]at this;rw[Int.add_comm,<- this];refine iN n λi hi=>?_;by_cases h:i=e.1.toNat
  ·subst h;rw[if_pos rfl,if_neg afI,if_pos ⟨e,Iy,Ix⟩,u7 h0.1];omega
  ·rw[if_neg h];have:(∃ x∈e::r,x.1=(i:Int))↔∃ x∈r,x.1=(i:Int):=by
    constructor
    ·rintro⟨x,hx,hh⟩;rcases bj.1 hx with rfl|hx
     ·omega
     ·exact⟨x,hx,hh⟩
    ·rintro⟨x,hx,hh⟩;exact⟨x,by simp[hx],hh⟩
   simp only[this]
def Wu:∀ A:List mA,yu (λ_=>1) A=A.length
 |[]=>rfl
 |e::r=>by rw[yu,Wu r,dt];omega
def GI.len{R:Nat}{dn:List Ld}{A:List mA}{b0:Nat}{μ:Mem}(h:GI R dn A b0 μ):A.length<=R:=by
 have h1:=KF (λ_=>1) R A h.keys h.qv;rw[Wu]at h1;have h2:=Dt (f:=λi=>if∃e∈A,e.1=(i:Int) then(1:Int) else 0) (B:=1) R λi _=>by split<;>omega
 omega
def GI.sum{dn:List Ld}{A:List mA}{b0:Nat}{μ:Mem}{left:List (List Bool)}(h:GI left.length dn A b0 μ):yu (λc=>lX dn c (left.getD c.toNat [])) A=jN dn 0 left 0:=by
 rw[KF _ left.length A h.keys h.qv,BD,yX];refine iN _ λi _=>?_;simp only[gm,ep];by_cases hh :∃e∈A,e.1=(i:Int)
 ·rw[if_pos hh]
 ·rw[if_neg hh,Wq];intro x hx ui;obtain⟨e,he,uD⟩:=h.has x hx;exact hh ⟨e,he,uD.trans ui⟩
def vv(f:Nat->Int)(seen:List Nat)(n:Nat):Int:=bD (λi=>if i∈seen then f i else 0) n
def C7(seen:List Nat)(n:Nat):Nat:=(bD (λi=>if i∈seen then 0 else 1) n).toNat
def aee{f:Nat->Int}{seen:List Nat}{n j:Nat}(hj:j<n)(hs:j ∉ seen):vv f (seen++[j]) n=vv f seen n+f j:=by
 unfold vv;have:=yq (λi=>if i∈seen then f i else 0) j (f j) n;rw[if_pos hj]at this;rw[<- this];refine iN n λi _=>?_;by_cases h:i=j
 ·subst h;rw[if_pos Iy,if_pos rfl,if_neg hs];omega
 ·rw[if_neg h];simp[h]
def QS{seen:List Nat}{n j:Nat}(hj:j<n)(hs:j ∉ seen):C7 (seen++[j]) n<C7 seen n:=by
 unfold C7;have h1:=yq (λi=>if i∈seen then(0:Int) else 1) j (-1) n;rw[if_pos hj]at h1;have h2:bD (λi=>if i∈seen++[j] then(0:Int) else 1) n=bD (λi=>if i=j then(if i∈seen then 0 else 1)+-1 else if i∈seen then 0 else 1) n:=by
  refine iN n λi _=>?_;by_cases h:i=j
  ·subst h;rw[if_pos Iy,if_pos rfl,if_neg hs];rfl
  ·rw[if_neg h];simp[h]
 have h3:=(Dt (f:=λi=>if i∈seen++[j] then(0:Int) else 1) (B:=1) n λi _=>by split<;>omega).1;omega
def aea{f:Nat->Int}{seen:List Nat}{n:Nat}(h:∀ j<n,j∈seen):vv f seen n=bD f n:=iN n λi hi=>if_pos (h i hi)
def ad8(f:Nat->Int)(n:Nat):vv f [] n=0:=by
 unfold vv;rw[iN (g:=λ_=>0) n (λi _=>Iy)]
 induction n with|zero=>rfl|succ n ih=>rw[bD,ih];rfl
def QM(f:Int->Int):∀ A:List mA,bD (λj=>f (A.getD j (0,0,[])).1) A.length=yu f A
 |[]=>rfl
 |e::r=>by
  rw[dt,yr,yu];simp only[im,fM];rw[QM f r]
def aed{f:Nat->Int}{B:Int}{seen:List Nat}{n:Nat}(hB:0<=B)(h:∀ i<n,0<=f i/\f i<=B):0<=vv f seen n/\vv f seen n<=B*n :=
 Dt n λi hi=>by have:=h i hi;split<;>omega
def QN(L:List (Int×Value))(j:Nat):(iE L)[j]?=L[j]?.map λp=>(.int .i64 p.1,p.2):=by simp[iE]
def QO(A:List mA)(j:Nat):(gE A)[j]?=A[j]?.map λe=>(e.1,.map (some e.2.1)):=by simp[gE]
def Gc(A:List mA):(iE (gE A)).length=A.length:=by simp[gE,iE]
def GI.other{R:Nat}{dn:List Ld}{A:List mA}{b0:Nat}{μ:Mem}(h:GI R dn A b0 μ){r:Nat}(g:Gh)(hr:∀ l,μ r≠some (.map l)):GI R dn A b0 (gP μ r g) :=
 ⟨by rw[px _ _ (λe=>hr _ (e▸h.top))];exact h.top,λe he=>by rw[px _ _ (λe2=>hr _ (e2▸h.sub e he))];exact h.sub e he,h.BE,h.inj,h.keys,h.val,h.has,h.qv⟩
def J6(l:List Ld)(c:Int)(is:Bool):∀ (row:List Bool) (i:Nat) (b:Int),dG l c i (row++[is]) b =
  if is=true/\(dG l c i row b<0\/fH l c (i+row.length:Nat) 0<dG l c i row b) then fH l c (i+row.length:Nat) 0 else dG l c i row b
 |[],i,b=>rfl
 |x::r,i,b=>by
  show dG l c (i+1) (r++[is]) _=_;rw[J6 l c is r (i+1),dG,dt,show i+1+r.length=i+(r.length+1) by omega]
def df(m:ah)(left:List (List Bool)):Prop:=left.length=m.cls.length/\∀ i,i<left.length->(left.getD i default).length=(m.cls.getD i default).length
instance (m:ah)(left:List (List Bool)):Decidable (df m left):=by unfold df;infer_instance
def kn(m:ah)(left:List (List Bool)):Int:=if jO m≠0 then jO m else if df m left then 0 else 17
def GF{m:ah}{left:List (List Bool)}(h:kn m left=0):VM m/\df m left:=by
 unfold kn at h;split at h
 ·omega
 split at h
 ·rename_i h1 h2;exact⟨rA.1 (Decidable.not_not.1 h1),h2⟩
 ·omega
def df.row{m:ah}{left:List (List Bool)}(hm:VM m)(h:df m left):∀ r∈left,r.length<=24:=λr hr=>by
 obtain⟨i,hi,rfl⟩:=wy.1 hr;have:=h.2 i hi;rw[aB,bT hi]at this;simp only[pQ]at this;rw[this];exact hm.opt _ (aG (by have:=h.1;omega))
def BB(left:List (List Bool)):Prop:=left.length<9223372036854775808/\∀ r∈left,r.length<9223372036854775808
def Wv(l:List Ld)(row:List Bool):∀ (L:List (List Bool)) (i:Nat) (n:Int),jN l i (L++[row]) n=jN l i L n+lX l (i+L.length:Nat) row
 |[],i,n=>rfl
 |x::r,i,n=>by
  show jN l (i+1) (r++[row]) _=_;rw[Wv l row r (i+1),jN,dt,show i+1+r.length=i+(r.length+1) by omega]
def eZ{α:Type}[Inhabited α]{l:List α}{k:Nat}(h:k<l.length):l.take (k+1)=l.take k++[l.getD k default]:=by
 rw[List.take_succ_eq_append_getElem h,aB,bT h];rfl
abbrev Nm:=Int×Bool
def ez(x:Int):Nm:=(x,decide (1099511627776<=x))
def aW(p:Nm):List AV:=[N0 p.1,.lit (.bool p.2)]
def iW(p:Nm):List AV:=[.lit (.bool p.2),N0 p.1]
instance:Row aW 2:=⟨λ_=>rfl,λp v hv=>by
 simp only[aW,bj,gU,or_false]at hv;rcases hv with rfl|rfl<;>exact .inl ⟨_,rfl,rfl⟩⟩
instance:Row iW 2:=⟨λ_=>rfl,λp v hv=>by
 simp only[iW,bj,gU,or_false]at hv;rcases hv with rfl|rfl<;>exact .inl ⟨_,rfl,rfl⟩⟩
def qC(o:cg):Int:=(o.ch.map (·.2)).foldl dZ 0
def bV(l:List cg):List Int:=l.map qC
def dy(l:List Int):List Nm:=l.map ez
def dp:List Nm->List Bool->Int×Bool->Int×Bool
 |p::r,is::s,b=>dp r s (if is=true/\p.2=false/\(b.2=false\/p.1<b.1) then(p.1,true) else b)
 |_,_,b=>b
def GG{R:Int}{l:List (Int×Int)}(h:eh R none l=true):∀ c∈l,bM c.2:=λc hc=>uz (Gx h c hc).2
def Du:∀ (l:List Int) (n:Int),(∀ x∈l,bM x)->bM n->bM (l.foldl dZ n)
 |[],_,_,h=>h
 |x::r,n,hl,h=>Du r _ (λy hy=>hl y (by simp[hy])) (Dm h (hl x Iy))
def Dv{R:Int}{o:cg}(h:eh R none o.ch=true):bM (qC o):=Du _ _ (λx hx=>by
 obtain⟨c,hc,rfl⟩:=b8.1 hx;exact GG h c hc) (by unfold bM;decide)
structure Mv where
 pair:Int
 side:Int
 opt:Int
 amt:Int
 deriving Inhabited
def aO(x:Mv):List AV:=[N0 x.pair,N0 x.side,N0 x.opt,N0 x.amt]
instance:Row aO 4:=⟨λ_=>rfl,λx v hv=>by
 simp only[aO,bj,gU,or_false]at hv;rcases hv with rfl|rfl|rfl|rfl<;>exact .inl ⟨_,rfl,rfl⟩⟩
def eK(m:ah)(x:Mv):Int:=if x.side=0 then(m.ae.getD x.pair.toNat default).fst else(m.ae.getD x.pair.toNat default).snd
def iC(m:ah)(x:Mv):Bool:=decide (0<=x.pair/\x.pair<m.ae.length/\0<=x.side/\x.side<=1/\-268435456<=x.amt/\x.amt<=268435456)&&jl m (eK m x) x.opt
def Ww(l:List (Int×Int))(k:Nat)(h:k<l.length):(((l.take (k+1)).map (·.2)).foldl dZ 0)=dZ (((l.take k).map (·.2)).foldl dZ 0) (l.getD k default).2:=by
 rw[eZ h,dS,AO];rfl
def Wx(p:Nm)(is:Bool)(b:Int×Bool):Int×Bool:=if is=true/\p.2=false/\(b.2=false\/p.1<b.1) then(p.1,true) else b
def Wy(p:Nm)(is:Bool):∀ (l:List Nm) (s:List Bool) (b:Int×Bool),l.length=s.length->dp (l++[p]) (s++[is]) b=Wx p is (dp l s b)
 |[],[],b,_=>rfl
 |x::r,y::s,b,h=>by
  show dp (r++[p]) (s++[is]) _=_;rw[Wy p is r s _ (by simpa using h)];rfl
def jD:List Nm->List Bool->List Nm
 |p::r,is::s=>(if is=true then [p] else [])++jD r s
 |_,_=>[]
def BF(b a:Nm):Nm:=if a.2=false/\(b.2=true\/a.1<b.1) then a else b
def sZ(l:List Nm):Nm:=l.foldl BF (0,true)
def afJ(l:List Nm)(a:Nm):sZ (l++[a])=BF (sZ l) a:=by unfold sZ;rw[AO];rfl
def KG(p:Nm)(is:Bool):∀ (l:List Nm) (s:List Bool),l.length=s.length->jD (l++[p]) (s++[is])=jD l s++(if is=true then [p] else [])
 |[],[],_=>by simp[jD]
 |x::r,y::s,h=>by
  show(if y=true then [x] else [])++jD (r++[p]) (s++[is])=_;rw[KG p is r s (by simpa using h),jD,List.append_assoc]
def KH:∀ (l:List Nm) (s:List Bool) (b:Int×Bool),(jD l s).foldl BF (b.1,!b.2)=((dp l s b).1,!(dp l s b).2)
 |[],s,b=>by cases s<;>rfl
 |p::r,[],b=>rfl
 |p::r,is::s,b=>by
  rw[jD,dp,AO];cases is with
  |false=>simp only[Bool.false_eq_true,if_false,yY,false_and];exact KH r s b
  |true =>
   simp only[if_true,List.foldl_cons,yY,eq_self,true_and];have:BF (b.1,!b.2) p=((if p.2=false/\(b.2=false\/p.1<b.1) then(p.1,true) else b).1,!(if p.2=false/\(b.2=false\/p.1<b.1) then(p.1,true) else b).2):=by
    unfold BF;obtain⟨b1,b2⟩:=b;obtain⟨p1,p2⟩:=p;dsimp only;cases b2<;>cases p2<;>simp;split<;>rfl
   rw[this];exact KH r s _
def afK(l:List Nm)(s:List Bool):sZ (jD l s)=((dp l s (0,false)).1,!(dp l s (0,false)).2):=KH l s (0,false)
def kq(os:List Ob)(x:Ob)(l:List Ob):(os++x::l)[os.length]?=some x:=Iy
def kS(os l:List Ob)(k:Nat):(os++l)[os.length+k]?=l[k]?:=by rw[gX Ix,Nat.add_sub_cancel_left]
def Dw(os:List Ob)(x y:Ob)(l:List Ob):(os++x::l).set os.length y=os++y::l:=by rw[List.set_append];simp
def Dx(os l:List Ob)(k:Nat)(y:Ob):(os++l).set (os.length+k) y=os++l.set k y:=by rw[List.set_append_right _ _ Ix];simp
def aL{os:List Ob}{i:Nat}{o:Ob}(h:os[i]?=some o)(l:List Ob):(os++l)[i]?=some o:=by
 rw[eB (aR.1 h).1];exact h
def iD{os:List Ob}{i:Nat}{o:Ob}(h:os[i]?=some o)(l:List Ob)(y:Ob):(os++l).set i y=os.set i y++l:=by
 rw[List.set_append,if_pos (aR.1 h).1]
def BG{os:List Ob}{i j:Nat}{o o' y:Ob}(h:os[i]?=some o)(h':os[j]?=some o')(cA:o≠o'):(os.set j y)[i]?=some o:=by
 have:j≠i:=λe=>cA (by rw[e,h]at h';simpa using h');rw[gV this];exact h
def lZ{os:List Ob}{i:Nat}{o y:Ob}(h:os[i]?=some o):(os.set i y)[i]?=some y:=by
 rw[bY];simp[(aR.1 h).1]
def bE:=aap @kq @kS @Dw @Dx
def cy(q:Nat×Nat):List AV:=[.ref q.1 2 0 q.2]
structure RI{α:Type}(enc:α->List AV)(os:List Ob)(D:List (Nat×Nat))(S:List (List α)):Prop where
 len:D.length=S.length
 row:∀ j,j<D.length->os[(D.getD j default).1]?=some (.arr 2 (rowsOf enc (S.getD j default)))/\(S.getD j default).length=(D.getD j default).2
def RI.nil{α:Type}{enc:α->List AV}{os:List Ob}:RI enc os [] ([]:List (List α)):=⟨rfl,Iy⟩
def RI.app{α:Type}{enc:α->List AV}{os:List Ob}{D:List (Nat×Nat)}{S:List (List α)}(h:RI enc os D S)(l:List Ob):RI enc (os++l) D S :=
 ⟨h.len,λj hj=>⟨aL (h.row j hj).1 l,(h.row j hj).2⟩⟩
def RI.kill{α:Type}{enc:α->List AV}{os:List Ob}{D:List (Nat×Nat)}{S:List (List α)}(h:RI enc os D S){i:Nat}{o y:Ob}(ho:os[i]?=some o)(cA:∀ l,o≠.arr 2 l):RI enc (os.set i y) D S :=
 ⟨h.len,λj hj=>⟨BG (h.row j hj).1 ho (λe=>cA _ e.symm),(h.row j hj).2⟩⟩
def GH{α:Type}[Inhabited α](l:List α)(x:α)(j:Nat):(l++[x]).getD j default=if j<l.length then l.getD j default else if j=l.length then x else default:=by
 simp only[aB];split
 ·rename_i h;rw[eB h]
 ·rename_i h;rw[gX Ix];split
  ·rename_i h2;subst h2;simp
  ·rw[gj NS];rfl
def RI.snoc{α:Type}{enc:α->List AV}{os:List Ob}{D:List (Nat×Nat)}{S:List (List α)}(h:RI enc os D S){p:Nat}{r:List α}(hp:os[p]?=some (.arr 2 (rowsOf enc r))):RI enc os (D++[(p,r.length)]) (S++[r]) :=
 ⟨by simp[h.len],λj hj=>by
  rw[GH,GH,<- h.len];by_cases h1:j<D.length
  ·rw[if_pos h1,if_pos h1];exact h.row j h1
  ·have:j=D.length:=by simp at hj;omega
   rw[if_neg h1,if_neg h1,if_pos this,if_pos this];exact⟨hp,rfl⟩⟩
def RI.set{α:Type}{enc:α->List AV}{os:List Ob}{D:List (Nat×Nat)}{S:List (List α)}(h:RI enc os D S)(hn:(D.map (·.1)).Nodup){j:Nat}(hj:j<D.length){r:List α}(hr:r.length=(S.getD j default).length):RI enc (os.set (D.getD j default).1 (.arr 2 (rowsOf enc r))) D (S.set j r) :=
 ⟨by rw[bK];exact h.len,λk hk=>by
  by_cases e:k=j
  ·subst e;have:(S.set k r).getD k default=r:=by rw[aB,bY];simp[<- h.len,hk]
   rw[this];exact⟨lZ (h.row k hk).1,hr.trans (h.row k hk).2⟩
  ·have:(S.set j r).getD k default=S.getD k default:=by rw[aB,gV (λe'=>e e'.symm),aB]
   rw[this];have cA:(D.getD j default).1≠(D.getD k default).1:=λhh=>e ((It (h₀:=by simpa using hk) (h₁:=by simpa using hj) hn).1 (by
    rw[Cv,Cv];have a1:D[k]=D.getD k default:=by simp[hk]
    have a2:D[j]=D.getD j default:=by simp[hj]
    rw[a1,a2];exact hh.symm))
   rw[gV cA];exact h.row k hk⟩
def RI.other{α:Type}{enc:α->List AV}{os:List Ob}{D:List (Nat×Nat)}{S:List (List α)}(h:RI enc os D S){i:Nat}(hi:i ∉ D.map (·.1)){y:Ob}:RI enc (os.set i y) D S :=
 ⟨h.len,λk hk=>⟨by
  rw[gV (λe=>hi (b8.2 ⟨D.getD k default,aG hk,e.symm⟩))];exact(h.row k hk).1,(h.row k hk).2⟩⟩
def RI.fresh{α:Type}{enc:α->List AV}{os:List Ob}{D:List (Nat×Nat)}{S:List (List α)}(h:RI enc os D S){p:Nat}(hp:os.length<=p):p ∉ D.map (·.1):=λhh=>by
 obtain⟨q,hq,rfl⟩:=b8.1 hh;obtain⟨k,hk,rfl⟩:=wy.1 hq;have h1:=(h.row k hk).1;have a1:D.getD k default=D[k]:=by simp[hk]
 rw[a1]at h1;have:=(aR.1 h1).1;omega
def GJ(D:List (Nat×Nat))(p n:Nat):rowsOf cy D++[[AV.ref p 2 0 n]]=rowsOf cy (D++[(p,n)]):=by simp[rowsOf,cy]
def RI.step{α:Type}{enc:α->List AV}{os:List Ob}{D:List (Nat×Nat)}{S:List (List α)}{ai:Nat}{x:Ob}(fa:os[ai]?=some x)(hx:∀ l,x≠.arr 2 l)(hR:RI enc os D S)(bU:(D.map (·.1)).Nodup)(r:List α)(t y:Ob):
  (os.set ai .gone++[.arr 2 (rowsOf enc r),t,y])[os.length+2]?=some y /\
  RI enc (os.set ai .gone++[.arr 2 (rowsOf enc r),t,y]) (D++[(os.length,r.length)]) (S++[r])/\((D++[(os.length,r.length)]).map (·.1)).Nodup /\
  ∀ k o,os[k]?=some o->k≠ai->(os.set ai .gone++[.arr 2 (rowsOf enc r),t,y])[k]?=some o:=by
 have hl:(os.set ai .gone).length=os.length:=bK ..;refine⟨?_,?_,?_,λk o hk cA=>aL ?_ _⟩
 ·rw[<- hl,kS];rfl
 ·refine((hR.kill fa hx).app _).snoc ?_;rw[<- hl,kq]
 ·rw[dS,pV];refine⟨bU,Iy,λa ha b hb=>?_⟩;simp only[fV,nu,cU]at hb;subst hb;exact λe=>hR.fresh (Nat.le_refl _) (e▸ha)
 ·rw[gV (Ne.symm cA)];exact hk
structure LO{α:Type}(enc:α->List AV)(B:List (Nat×Ob))(D E:List (Nat×Nat))(S T:List (List α))(os:List Ob):Prop where
 base:∀ b∈B,os[b.1]?=some b.2/\∀ l,b.2≠.arr 2 l
 rD:RI enc os D S
 rE:RI enc os E T
 nd:((D++E).map (·.1)).Nodup
section
variable {α:Type} {enc:α->List AV} {B:List (Nat×Ob)} {D E:List (Nat×Nat)} {S T:List (List α)} {os:List Ob}
def LO.app(h:LO enc B D E S T os)(l:List Ob):LO enc B D E S T (os++l):=⟨λb hb=>⟨aL (h.base b hb).1 l,(h.base b hb).2⟩,h.rD.app l,h.rE.app l,h.nd⟩
def LO.add(h:LO enc B D E S T os){k:Nat}{x:Ob}(hk:os[k]?=some x)(hx:∀ l,x≠.arr 2 l):LO enc ((k,x)::B) D E S T os :=
 ⟨λb hb=>by rcases bj.1 hb with rfl|hb;exact⟨hk,hx⟩;exact h.base b hb,h.rD,h.rE,h.nd⟩
def LO.sub(h:LO enc B D E S T os){C:List (Nat×Ob)}(hc:∀ b∈C,b∈B):LO enc C D E S T os:=⟨λb hb=>h.base b (hc b hb),h.rD,h.rE,h.nd⟩
def GK{D E:List (Nat×Nat)}(h:((D++E).map (·.1)).Nodup):(D.map (·.1)).Nodup/\(E.map (·.1)).Nodup/\(∀ j,j<D.length->(D.getD j default).1 ∉ E.map (·.1))/\∀ j,j<E.length->(E.getD j default).1 ∉ D.map (·.1):=by
 rw[dS,pV]at h;refine⟨h.1,h.2.1,λj hj hh=>h.2.2 _ (b8.2 ⟨_,aG hj,rfl⟩) _ hh rfl,λj hj hh=>h.2.2 _ hh _ (b8.2 ⟨_,aG hj,rfl⟩) rfl⟩
def LO.zT(h:LO enc B D E S T os){j:Nat}(hj:j<D.length){r:List α}(hr:r.length=(S.getD j default).length):LO enc B D E (S.set j r) T (os.set (D.getD j default).1 (.arr 2 (rowsOf enc r))):=by
 obtain⟨h1,h2,h3,h4⟩:=GK h.nd;exact⟨λb hb=>⟨BG (h.base b hb).1 (h.rD.row j hj).1 ((h.base b hb).2 _),(h.base b hb).2⟩,h.rD.set h1 hj hr,h.rE.other (h3 j hj),h.nd⟩
def LO.yv(h:LO enc B D E S T os){j:Nat}(hj:j<E.length){r:List α}(hr:r.length=(T.getD j default).length):LO enc B D E S (T.set j r) (os.set (E.getD j default).1 (.arr 2 (rowsOf enc r))):=by
 obtain⟨h1,h2,h3,h4⟩:=GK h.nd;exact⟨λb hb=>⟨BG (h.base b hb).1 (h.rE.row j hj).1 ((h.base b hb).2 _),(h.base b hb).2⟩,h.rD.other (h4 j hj),h.rE.set h2 hj hr,h.nd⟩
end
def GL(xs:List Nm)(i:Nat)(b:Bool)(n:Int):(rowsOf iW xs).set i [.lit (.bool b),N0 n]=rowsOf iW (xs.set i (n,b)):=by simp[rowsOf,iW,rV]
def afL(xs:List Nm)(i:Nat)(b:Bool)(n:Int):(rowsOf aW xs).set i [N0 n,.lit (.bool b)]=rowsOf aW (xs.set i (n,b)):=by simp[rowsOf,aW,rV]
def LO.vars{α:Type}{enc:α->List AV}{B:List (Nat×Ob)}{D E:List (Nat×Nat)}{S T:List (List α)}{os:List Ob}(h:LO enc B D E S T os){n:Nat}(hn:os.length=n)(x y:Ob)(hx:∀ l,x≠.arr 2 l)(hy:∀ l,y≠.arr 2 l):
  LO enc ((n,x)::(n+1,y)::B) D E S T (os++[x,y]):=by
 subst hn;exact((h.app [x,y]).add (by rw[kS];rfl) hy).add (by rw[kq]) hx
def zU{α:Type}[Inhabited α](l:List α)(j:Nat):l.set j (l.getD j default)=l:=by
 apply List.ext_getElem?;intro i;rw[bY];split
 ·rename_i h;subst h;split
  ·rename_i h2;rw[aB,bT h2];rfl
  ·rename_i h2;rw[gj Ix]
 ·rfl
def uE{α:Type}[Inhabited α](l:List α)(j:Nat)(x:α)(h:j<l.length):(l.set j x).getD j default=x:=by
 rw[aB,bY];simp[h]
def LO.kill{α:Type}{enc:α->List AV}{B:List (Nat×Ob)}{D E:List (Nat×Nat)}{S T:List (List α)}{os:List Ob}(h:LO enc B D E S T os){i:Nat}{x y:Ob}(hi:os[i]?=some x)(hx:∀ l,x≠.arr 2 l)(cA:∀ b∈B,b.1≠i):LO enc B D E S T (os.set i y) :=
 ⟨λb hb=>⟨by rw[gV (cA b hb).symm];exact(h.base b hb).1,(h.base b hb).2⟩,h.rD.kill hi hx,h.rE.kill hi hx,h.nd⟩
def oH(os l:List Ob)(i k:Nat)(y:Ob):(os.set i y++l)[os.length+k]?=l[k]?:=by
 have:=kS (os.set i y) l k;rwa [bK]at this
def gC(m:ah)(ai bi:Nat)(D E:List (Nat×Nat)):List AV:=[.tree 1 (rowsOf aQ m.cls),.tree 4 (rowsOf aH m.ae),.tree 4 (rowsOf db m.aC),N0 m.rules,.ref ai 1 0 D.length,.ref bi 1 0 E.length]
abbrev GB(m:ah)(gi ai bi:Nat)(D E:List (Nat×Nat)):List (Nat×Ob):=[(gi,.var (gC m ai bi D E)),(ai,.arr 1 (rowsOf cy D)),(bi,.arr 1 (rowsOf cy E))]
def zV{m:ah}{gi ai bi:Nat}{D E:List (Nat×Nat)}{S T:List (List Nm)}{os:List Ob}(h:LO aW (GB m gi ai bi D E) D E S T os):
  os[gi]?=some (.var (gC m ai bi D E))/\os[ai]?=some (.arr 1 (rowsOf cy D))/\os[bi]?=some (.arr 1 (rowsOf cy E)) :=
 ⟨(h.base (gi,_) Iy).1,(h.base (ai,.arr 1 (rowsOf cy D)) Iy).1,(h.base (bi,.arr 1 (rowsOf cy E)) Iy).1⟩
def gF(os ob:List Ob):Prop:=∀ (k:Nat) (o:Ob),os[k]?=some o->ob[k]?=some o
def gF.refl(os:List Ob):gF os os:=λ_ _ h=>h
def gF.app{os ob:List Ob}(h:gF os ob)(l:List Ob):gF os (ob++l):=λk o hk=>aL (h k o hk) l
def gF.set{os ob:List Ob}(h:gF os ob){i:Nat}(hi:os.length<=i){y:Ob}:gF os (ob.set i y):=λk o hk=>by
 have:=(aR.1 hk).1;rw[gV Ix];exact h k o hk
def gF.len{os ob:List Ob}(h:gF os ob):os.length<=ob.length:=by
 rcases qV os.length with h0|h0
 ·omega
 ·obtain⟨o,ho⟩ :∃o,os[os.length-1]?=some o:=⟨_,bT Ix⟩;have:=(aR.1 (h _ _ ho)).1;omega
section
variable {α:Type} {enc:α->List AV} {B:List (Nat×Ob)} {D E:List (Nat×Nat)} {S T:List (List α)} {os:List Ob}
def LO.swap(h:LO enc B D E S T os):LO enc B E D T S os:=⟨h.base,h.rE,h.rD,by
 have:=h.nd;rw[dS,pV]at this ⊢;exact⟨this.2.1,this.1,λa ha b hb e=>this.2.2 b hb a ha e.symm⟩⟩
def LO.GM(h:LO enc B D E S T os){i:Nat}{l:List (List AV)}(hi:i ∉ (D++E).map (·.1))(hr:os[i]?=some (.arr 2 l)){y:Ob}:LO enc B D E S T (os.set i y):=by
 rw[dS,cC,not_or]at hi;exact⟨λb hb=>⟨BG (h.base b hb).1 hr ((h.base b hb).2 _),(h.base b hb).2⟩,h.rD.other hi.1,h.rE.other hi.2,h.nd⟩
def LO.fresh(h:LO enc B D E S T os){p:Nat}(hp:os.length<=p):p ∉ (D++E).map (·.1):=by
 rw[dS,cC,not_or];exact⟨h.rD.fresh hp,h.rE.fresh hp⟩
def LO.step{gi ai:Nat}{gc:List AV}{A:List (List AV)}(h:LO enc ((gi,.var gc)::(ai,.arr 1 A)::B) D E S T os){r:List α}{oi:Nat}(hr:os[oi]?=some (.arr 2 (rowsOf enc r)))(ee:oi ∉ (D++E).map (·.1))(hB:∀ b∈B,b.1≠ai/\b.1≠gi)(BH:List AV)(A':List (List AV))(t:Ob):
  LO enc ((gi,.var BH)::(os.length+1,.arr 1 A')::B) (D++[(oi,r.length)]) E (S++[r]) T ((os.set ai .gone).set gi (.var BH)++[t,.arr 1 A']):=by
 have hg:=(h.base (gi,.var gc) Iy).1;have ha:=(h.base (ai,.arr 1 A) Iy).1;dsimp only at hg ha;have BI:gi≠ai:=λe=>by rw[e,ha]at hg;cases hg
 have mM:(os.set ai .gone)[gi]?=some (.var gc):=by rw[gV BI.symm];exact hg
 have hl:((os.set ai .gone).set gi (.var BH)).length=os.length:=by rw[bK,bK]
 have hD2:=((h.rD.kill (y:=.gone) ha Iy).kill (y:=.var BH) mM Iy).app [t,.arr 1 A'];have hE2:=((h.rE.kill (y:=.gone) ha Iy).kill (y:=.var BH) mM Iy).app [t,.arr 1 A'];have jL:((os.set ai .gone).set gi (.var BH)++[t,.arr 1 A'])[oi]?=some (.arr 2 (rowsOf enc r)):=aL (BG (BG hr ha Iy) mM Iy) _;refine⟨λb hb=>?_,hD2.snoc jL,hE2,?_⟩
 ·rcases bj.1 hb with rfl|hb
  ·exact⟨aL (lZ mM) _,Iy⟩
  rcases bj.1 hb with rfl|hb
  ·refine⟨?_,Iy⟩;dsimp only;rw[<- hl,kS];rfl
  ·have h0:=h.base b (by simp[hb]);refine⟨aL ?_ _,h0.2⟩;rw[gV (hB b hb).2.symm,gV (hB b hb).1.symm];exact h0.1
 ·have bU:=h.nd;rw[dS,pV]at bU ⊢;rw[dS,cC,not_or]at ee;obtain⟨n1,n2,n3⟩:=bU;refine⟨?_,n2,λa oE b hb=>?_⟩
  ·rw[dS,pV];refine⟨n1,Iy,λa oE b hb=>?_⟩;simp only[fV,nu,cU]at hb;subst hb;exact λe=>ee.1 (e▸oE)
  ·rw[dS,cC]at oE;rcases oE with oE|oE
   ·exact n3 a oE b hb
   ·simp only[fV,nu,cU]at oE;subst oE;exact λe=>ee.2 (e▸hb)
end
def S0(m:ah):List (List Nm):=m.cls.map λl=>dy (bV l)
def T0(m:ah):List (List Nm):=m.ae.map λp=>dy p.ax
def jn(r:List Nm)(i:Nat)(a:Int):List Nm:=r.set i ((r.getD i default).1+a,(r.getD i default).2)
def gu(f:Nat->Nat)(a:Int):Nat->List Nm->List Nm
 |0,t=>t
 |k+1,t=>jn (gu f a k t) (f k) (-a)
abbrev Lg:=List (List Nm)×List (List Nm)
def nI(m:ah)(x:Mv):(Nat->Nat)×Nat :=
 if x.side=0 then(λk=>(x.opt*(m.cls.getD (m.ae.getD x.pair.toNat default).snd.toNat default).length+k).toNat,(m.cls.getD (m.ae.getD x.pair.toNat default).snd.toNat default).length)
 else(λk=>((k:Int)*(m.cls.getD (m.ae.getD x.pair.toNat default).snd.toNat default).length+x.opt).toNat,(m.cls.getD (m.ae.getD x.pair.toNat default).fst.toNat default).length)
def jE(m:ah)(x:Mv)(g:Lg):Lg :=
 (g.1.set (eK m x).toNat (jn (g.1.getD (eK m x).toNat default) x.opt.toNat x.amt),g.2.set x.pair.toNat (gu (nI m x).1 x.amt (nI m x).2 (g.2.getD x.pair.toNat default)))
def iF(m:ah)(l:List Mv)(g:Lg):Lg:=l.foldl (λg x=>jE m x g) g
def WC(m:ah)(l:List Mv)(x:Mv)(g:Lg):iF m (l++[x]) g=jE m x (iF m l g):=by unfold iF;rw[AO];rfl
def qD(a b:List Bool):List Bool:=a.flatMap λx=>b.map λy=>x&&y
def PC(left:List (List Bool))(S:List (List Nm))(n:Nat):List (Int×Bool):=(bn n).map λi=>dp (S.getD i default) (left.getD i default) (0,false)
def ik(m:ah)(left:List (List Bool))(i:Nat):List Bool:=qD (left.getD (m.ae.getD i default).fst.toNat default) (left.getD (m.ae.getD i default).snd.toNat default)
def PP(m:ah)(left:List (List Bool))(T:List (List Nm))(n:Nat):List (Int×Bool):=(bn n).map λi=>dp (T.getD i default) (ik m left i) (0,false)
def PK(m:ah)(left:List (List Bool))(n:Nat):List (Int×Bool):=(bn n).map λi=>(iM left (m.aC.getD i default),!(decide ((m.aC.getD i default).bX=1099511627776)&&decide (0<iM left (m.aC.getD i default))))
def bJ(l:List (Int×Bool))(z:Int×Bool):Int×Bool:=l.foldl (λz p=>(z.1+p.1,z.2||!p.2)) z
def lq(m:ah)(left:List (List Bool))(g:Lg):Int :=
 if(bJ (PK m left m.aC.length) (bJ (PP m left g.2 m.ae.length) (bJ (PC left g.1 m.cls.length) (0,false)))).2=true then 1099511627776
 else min (bJ (PK m left m.aC.length) (bJ (PP m left g.2 m.ae.length) (bJ (PC left g.1 m.cls.length) (0,false)))).1 1099511627776
def iO(m:ah)(left:List (List Bool))(l:List Mv):Int×Int :=
 if 2000<l.length then(0,2) else if l.all (iC m)=false then(0,3) else(lq m left (iF m l (S0 m,T0 m)),0)
def bQ(m:ah)(left:List (List Bool))(l:List Mv):Int×Int:=if kn m left≠0 then(0,kn m left) else iO m left l
def BJ(l:List (Int×Bool))(p z:Int×Bool):bJ (l++[p]) z=((bJ l z).1+p.1,(bJ l z).2||!p.2):=by unfold bJ;rw[AO];rfl
def yw{β:Type}(f:Nat->β)(n:Nat):(bn (n+1)).map f=(bn n).map f++[f n]:=by rw[List.range_succ,dS];rfl
def NB(B:Int)(r:List Nm):Prop:=∀ p∈r,-B<=p.1/\p.1<=B
def NB.get{B:Int}{r:List Nm}(h:NB B r)(hB:0<=B)(i:Nat): -B<=(r.getD i default).1/\(r.getD i default).1<=B:=by
 rcases dE i r.length with hi|hi
 ·exact h _ (aG hi)
 ·rw[aB,gj hi];show -B<=(0:Int)/\(0:Int)<=B;omega
def NB.mono{B C:Int}{r:List Nm}(h:NB B r)(hc:B<=C):NB C r:=λp hp=>by have:=h p hp;omega
def NB.add{B:Int}{r:List Nm}(h:NB B r)(hB:0<=B)(i:Nat){a:Int}(ha : -268435456<=a/\a<=268435456):NB (B+268435456) (jn r i a):=λp hp=>by
 rcases qU hp with h'|h'
 ·have:=h p h';omega
 ·have:=h.get hB i;rw[h'];dsimp only;omega
def xc(r:List Nm)(i:Nat)(a:Int):(jn r i a).length=r.length:=by simp[jn]
def zW(f:Nat->Nat)(a:Int):∀ (k:Nat) (t:List Nm),(gu f a k t).length=t.length
 |0,t=>rfl
 |k+1,t=>by rw[gu,xc,zW f a k t]
def NB.sub{B:Int}{r:List Nm}(h:NB B r)(hB:0<=B)(f:Nat->Nat){a:Int}(ha : -268435456<=a/\a<=268435456):∀ k:Nat,NB (B+268435456*k) (gu f a k r)
 |0=>by simpa [gu] using h
 |k+1=>by
  rw[gu];have:=(NB.sub h hB f ha k).add Ix (f k) (a:=-a) Ix;exact this.mono Ix
structure LG(m:ah)(B:Int)(g:Lg):Prop where
 s:g.1.length=m.cls.length
 t:g.2.length=m.ae.length
 sl:∀ i,i<m.cls.length->(g.1.getD i default).length=(m.cls.getD i default).length
 tl:∀ i,i<m.ae.length->(g.2.getD i default).length=(m.ae.getD i default).ax.length
 sb:∀ r∈g.1,NB B r
 tb:∀ r∈g.2,NB B r
def WD{g:List (List Nm)}{i j:Nat}{r:List Nm}(h:r.length=(g.getD i default).length):((g.set i r).getD j default).length=(g.getD j default).length:=by
 by_cases e:i=j
 ·subst e;rcases dE i g.length with hi|hi
  ·simp only[aB,bY,hi,if_true,pQ];rw[h,aB]
  ·rw[List.set_eq_of_length_le hi]
 ·simp only[aB,gV e]
def s6{B:Int}{g:List (List Nm)}(h:∀ r∈g,NB B r)(i:Nat):NB B (g.getD i default):=by
 rcases dE i g.length with hi|hi
 ·exact h _ (aG hi)
 ·rw[aB,gj hi];intro p hp;cases hp
def afO{m:ah}(hm:VM m)(x:Mv):(nI m x).2<=24:=by
 have:∀ i,(m.cls.getD i default).length<=24:=λi=>by
  rcases dE i m.cls.length with hi|hi
  ·exact hm.opt _ (aG hi)
  ·rw[aB,gj hi];exact Nat.zero_le _
 unfold nI;split<;>exact this _
def WE{m:ah}(hm:VM m){B:Int}(hB:0<=B){g:Lg}(h:LG m B g){x:Mv}(hx:iC m x=true):LG m (B+268435456*25) (jE m x g):=by
 unfold iC at hx;rw[aZ,decide_eq_true_eq]at hx;have ha:=hx.1.2.2.2.2;have hk:=afO hm x;refine⟨by rw[jE,bK];exact h.s,by rw[jE,bK];exact h.t,λi hi=>?_,λi hi=>?_,λr hr=>?_,λr hr=>?_⟩
 ·rw[jE];dsimp only;rw[WD (by rw[xc])];exact h.sl i hi
 ·rw[jE];dsimp only;rw[WD (by rw[zW])];exact h.tl i hi
 ·rcases qU hr with h'|h'
  ·exact(h.sb r h').mono Ix
  ·rw[h'];exact((s6 h.sb _).add hB _ ha).mono Ix
 ·rcases qU hr with h'|h'
  ·exact(h.tb r h').mono Ix
  ·rw[h'];exact((s6 h.tb _).sub hB _ ha _).mono Ix
def WG{l:List Int}(h:∀ x∈l,bM x):NB 1099511627776 (dy l):=λp hp=>by
 obtain⟨x,hx,rfl⟩:=b8.1 hp;have:=h x hx;unfold bM at this;show -1099511627776<=x/\x<=1099511627776;omega
def GN{m:ah}{p:Pr}(hp:gB m p=true):∀ x∈p.ax,bM x:=λx hx=>by
 unfold gB at hp;simp only[aZ,kH,List.any_eq_false]at hp;have:=hp.2 _ hx;rw[oB]at this;simp only[aZ,kH,decide_eq_true_eq,not_and,Bool.not_eq_false]at this;by_cases hz:x=0
 ·subst hz;unfold bM;decide
 ·exact uz (this hz)
def iX{α β:Type}[Inhabited α][Inhabited β](f:α->β)(l:List α)(i:Nat)(h:i<l.length):(l.map f).getD i default=f (l.getD i default):=by
 rw[aB,b9,aB,bT h];rfl
def WH{m:ah}(hm:VM m):LG m 1099511627776 (S0 m,T0 m):=by
 refine⟨by simp[S0],by simp[T0],λi hi=>?_,λi hi=>?_,λr hr=>?_,λr hr=>?_⟩
 ·show((S0 m).getD i default).length=_;rw[S0,iX _ _ _ hi];simp[dy,bV]
 ·show((T0 m).getD i default).length=_;rw[T0,iX _ _ _ hi];simp[dy]
 ·obtain⟨l,hl,rfl⟩:=b8.1 hr;refine WG λx hx=>?_;obtain⟨o,ho,rfl⟩:=b8.1 hx;exact Dv (hm.rz l hl o ho)
 ·obtain⟨p,hp,rfl⟩:=b8.1 hr;exact WG (GN (jP hm.pr p hp))
def GO{m:ah}(hm:VM m)(l:List Mv)(hl:∀ x∈l,iC m x=true):LG m (1099511627776+268435456*25*l.length) (iF m l (S0 m,T0 m)):=by
 have key:∀ (l:List Mv) (B:Int) (g:Lg),0<=B->(∀ x∈l,iC m x=true)->LG m B g->LG m (B+268435456*25*l.length) (iF m l g):=by
  intro l
  induction l with
  |nil=>intro B g _ _ h;simpa [iF] using h
  |cons x r ih =>
   intro B g hB hx h;have h1:=WE hm hB h (hx x Iy);have h2:=ih _ _ Ix (λy hy=>hx y (by simp[hy])) h1;show LG m _ (iF m r (jE m x g));have e:B+268435456*25+268435456*25*(r.length:Int)=B+268435456*25*((x::r).length:Int):=by simp only[dt];omega
   rw[e]at h2;exact h2
 exact key l _ _ NI hl (WH hm)
def Dy{B:Int}:∀ (l:List Nm) (s:List Bool) (b:Int×Bool),NB B l->(-B<=b.1/\b.1<=B)->-B<=(dp l s b).1/\(dp l s b).1<=B
 |[],s,b,_,hb=>by cases s<;>exact hb
 |p::r,[],b,_,hb=>hb
 |p::r,is::s,b,h,hb=>by
  rw[dp];refine Dy r s _ (λq hq=>h q (by simp[hq])) ?_;have:=h p Iy;split
  ·exact this
  ·exact hb
def yx{B:Int}:∀ (l:List (Int×Bool)) (z:Int×Bool),(∀ p∈l,-B<=p.1/\p.1<=B)->z.1-B*l.length<=(bJ l z).1/\(bJ l z).1<=z.1+B*l.length
 |[],z,_=>by show z.1-_<=z.1/\z.1<=z.1+_;simp
 |p::r,z,h=>by
  have h1:=yx r (z.1+p.1,z.2||!p.2) λq hq=>h q (by simp[hq]);have h2:=h p Iy;show _<=(bJ r (z.1+p.1,z.2||!p.2)).1/\_;rw[dt,Cr,Int.mul_add];dsimp only at h1;simp only[E5,Int.mul_one];show z.1-(B*r.length+B)<=(bJ r (z.1+p.1,z.2||!p.2)).1/\(bJ r (z.1+p.1,z.2||!p.2)).1<=z.1+(B*r.length+B);omega
def lr:Int:=1099511627776+268435456*25*2000
def KI{left:List (List Bool)}{S:List (List Nm)}{B:Int}(hB:0<=B)(h:∀ r∈S,NB B r)(n:Nat):∀ p∈PC left S n,-B<=p.1/\p.1<=B:=λp hp=>by
 obtain⟨i,_,rfl⟩:=b8.1 hp;exact Dy _ _ _ (s6 h i) NQ
def KJ{m:ah}{left:List (List Bool)}{T:List (List Nm)}{B:Int}(hB:0<=B)(h:∀ r∈T,NB B r)(n:Nat):∀ p∈PP m left T n,-B<=p.1/\p.1<=B:=λp hp=>by
 obtain⟨i,_,rfl⟩:=b8.1 hp;exact Dy _ _ _ (s6 h i) NQ
def WI(most bX n:Int)(hm:0<=most)(hp:0<=bX):0<=kQ most bX n/\kQ most bX n<=1099511627776:=by
 unfold kQ;split
 ·omega
 ·have:=Int.mul_nonneg (show 0<=n-most by omega) hp;omega
def afP{m:ah}(hm:VM m)(i:Nat):0<=(m.aC.getD i default).most/\0<=(m.aC.getD i default).bX:=by
 rcases dE i m.aC.length with hi|hi
 ·obtain⟨_,h2,h3,_⟩:=sY (hm.ct _ (aG (d:=default) hi));exact⟨h2.1,(uz h3).1⟩
 ·rw[aB,gj hi];decide
def KK{m:ah}(hm:VM m){left:List (List Bool)}(n:Nat):∀ p∈PK m left n,-1099511627776<=p.1/\p.1<=1099511627776:=λp hp=>by
 obtain⟨i,_,rfl⟩:=b8.1 hp;have:=afP hm i;have:=WI (m.aC.getD i default).most (m.aC.getD i default).bX (jN (m.aC.getD i default).aY 0 left 0) this.1 this.2;unfold iM;dsimp only;omega
def BK(left:List (List Bool))(S:List (List Nm))(n:Nat):(PC left S n).length=n:=by simp[PC]
def Dz(m:ah)(left:List (List Bool))(S:List (List Nm))(n:Nat):(PP m left S n).length=n:=by simp[PP]
def GP(m:ah)(left:List (List Bool))(n:Nat):(PK m left n).length=n:=by simp[PK]
def afQ(a:List Bool)(x:Bool)(b:List Bool):qD (a++[x]) b=qD a b++b.map (x && ·):=by unfold qD;rw[List.flatMap_append];simp
def DA(b:List Bool):∀ a:List Bool,(qD a b).length=a.length*b.length
 |[]=>by simp[qD]
 |x::r=>by
  show((b.map (x && ·))++qD r b).length=_;rw[bF,DA b r,fW,dt,fN];omega
def LO.dV{α:Type}{enc:α->List AV}{B:List (Nat×Ob)}{D E:List (Nat×Nat)}{S T:List (List α)}{os ob:List Ob}(h:LO enc B D E S T os)(k:gF os ob):LO enc B D E S T ob :=
 ⟨λb hb=>⟨k _ _ (h.base b hb).1,(h.base b hb).2⟩,⟨h.rD.len,λj hj=>⟨k _ _ (h.rD.row j hj).1,(h.rD.row j hj).2⟩⟩,⟨h.rE.len,λj hj=>⟨k _ _ (h.rE.row j hj).1,(h.rE.row j hj).2⟩⟩,h.nd⟩
def gF.trans{a b c:List Ob}(h:gF a b)(k:gF b c):gF a c:=λi o hi=>k i o (h i o hi)
def GQ(b:List Bool):∀ (a:List Bool) (n:Nat),n<a.length*b.length->(qD a b).getD n false=(a.getD (n/b.length) false&&b.getD (n%b.length) false)
 |[],n,h=>by simp at h
 |x::r,n,h=>by
  have hb:0<b.length:=by
   rcases qV b.length with h0|h0
   ·rw[h0]at h;omega
   ·exact h0
  show((b.map (x && ·))++qD r b).getD n false=_;rcases dE n b.length with hn|hn
  ·rw[Nat.div_eq_of_lt hn,Nat.mod_eq_of_lt hn,im,aB,eB (by simpa using hn),b9,bT hn,aB,bT hn];rfl
  ·obtain⟨k,rfl⟩ :∃k,n=k+b.length:=⟨n-b.length,Ix⟩;have ih:=GQ b r k (by rw[dt,fN]at h;omega);rw[aB,gX (by simpa using hn),fW,Nat.add_sub_cancel,<- aB,ih,Nat.add_div_right _ hb,Nat.add_mod_right,fM]
def vK(q:Int×Bool):Nm:=(q.1,!q.2)
def WJ(l:List Nm)(s:List Bool):sZ (jD l s)=vK (dp l s (0,false)):=afK l s
def xd(m:ah)(left:List (List Bool))(g:Lg):List (Int×Bool):=PC left g.1 m.cls.length++PP m left g.2 m.ae.length++PK m left m.aC.length
def WK(a b:List (Int×Bool))(z:Int×Bool):bJ (a++b) z=bJ b (bJ a z):=by unfold bJ;rw[AO]
def afR(m:ah)(left:List (List Bool))(g:Lg):lq m left g=if(bJ (xd m left g) (0,false)).2=true then 1099511627776 else min (bJ (xd m left g) (0,false)).1 1099511627776:=by
 unfold lq xd;rw[WK,WK]
def DB:∀ (l:List (Int×Bool)) (n:Int),(bJ l (n,true)).2=true
 |[],_=>rfl
 |p::r,n=>DB r _
def WL:∀ (l:List (Int×Bool)) (n:Int),(bJ l (n,false)).2=true↔∃ p∈l,p.2=false
 |[],_=>by simp[bJ]
 |p::r,n=>by
  show(bJ r (n+p.1,false||!p.2)).2=true↔_;cases hp:p.2 with
  |false =>
   simp only[Bool.not_false,Bool.or_true];exact⟨λ_=>⟨p,Iy,hp⟩,λ_=>DB r _⟩
  |true =>
   simp only[Bool.not_true,Bool.or_false];rw[WL r];constructor
   ·rintro⟨q,hq,h⟩;exact⟨q,by simp[hq],h⟩
   ·rintro⟨q,hq,h⟩;rcases bj.1 hq with rfl|hq
    ·rw[hp]at h;cases h
    ·exact⟨q,hq,h⟩
def afS{m:ah}(hm:VM m){left:List (List Bool)}(hl:left.length=m.cls.length){c:Ct}(hc:c∈m.aC)(hw:∀ x∈c.aY,1<=x.wt/\x.wt<=1000):decide (1099511627776<=iM left c)=(decide (c.bX=1099511627776)&&decide (0<iM left c)):=by
 obtain⟨_,h2,h3,_⟩:=sY (hm.ct c hc);have hs:=C6 hw left;have bG:=hm.cls;have hp:1<=c.bX/\c.bX<=1048576\/c.bX=1099511627776:=by unfold jk at h3;rw[decide_eq_true_eq]at h3;omega
 unfold iM kQ;generalize jN c.aY 0 left 0=n at *;rw[Bool.eq_iff_iff,aZ,decide_eq_true_eq,decide_eq_true_eq,decide_eq_true_eq];split
 ·omega
 ·rcases hp with hp|hp
  ·have:(n-c.most)*c.bX<=24000*1048576:=Int.mul_le_mul Ix hp.2 Ix Ix;omega
  ·rw[hp];omega
def KL:∀ (l:List Nm) (s:List Bool),(jD l s).length<=l.length
 |[],s=>by cases s<;>simp[jD]
 |p::r,[]=>by simp[jD]
 |p::r,is::s=>by
  rw[jD,bF,dt];have:=KL r s;split<;>simp<;>omega
structure Sat(R:Int)(out:List Int)(v:Int):Prop where
 ok:ln R out
 v0:0<=v
 eq:min (j8 out) 1099511627776=min v 1099511627776
def WN:∀ (l:List Int) (i:Nat) (x:Int),i<l.length->j8 (l.set i x)=j8 l-l.getD i 0+x
 |[],i,x,h=>by simp at h
 |y::r,0,x,_=>by simp only[List.set_cons_zero,j8,im];omega
 |y::r,i+1,x,h=>by
  have:=WN r i x (by simpa using h);simp only[List.set_cons_succ,j8,fM];omega
def Sat.add{R:Int}{out:List Int}{v r d:Int}(h:Sat R out v)(hr:0<=r/\r<R)(hd:bM d):Sat R (ij out r d) (v+d):=by
 have hlen:=h.ok.1;have hi:r.toNat<out.length:=Ix;have hs:=Kz h.ok.2 _ (aG (d:=(0:Int)) hi);have iL:=WN out r.toNat (dZ (out.getD r.toNat 0) d) hi;have hg:=h.ok.get r.toNat;have he:=h.eq;have hv:=h.v0;unfold bM at hg;have hd2:=hd;unfold bM at hd2;refine⟨h.ok.add hd,Ix,?_⟩;unfold ij;rw[iL];unfold dZ;omega
def Sat.le{R:Int}{out:List Int}{v w:Int}(h:Sat R out v)(hw:0<=w)(e:min v 1099511627776=min w 1099511627776):Sat R out w:=⟨h.ok,hw,h.eq.trans e⟩
def WO{R:Int}:∀ (l:List (Int×Int)) (out:List Int) (v n:Int),(∀ c∈l,jA R c.1=true/\jk c.2=true)->0<=v->bM n->Sat R out (v+n)->Sat R (By l out) (v+(l.map (·.2)).foldl dZ n)
 |[],out,v,n,_,_,_,h=>h
 |c::r,out,v,n,hc,hv,lh,h=>by
  rw[By];have h1:=hc c Iy;have hr:=h1.1;rw[jA,decide_eq_true_eq]at hr;have hp:=uz h1.2;have h2:=h.add hr hp;refine WO r _ v (dZ n c.2) (λx hx=>hc x (by simp[hx])) hv (Dm lh hp) (h2.le ?_ ?_)
  ·have:=Dm lh hp;unfold bM at this;omega
  ·unfold bM at hp lh;unfold dZ;omega
def WQ{m:ah}(hm:VM m):∀ (plan:List Int) (i:Nat) (out:List Int) (v:Int),(∀ j,j<plan.length->jl m ((i+j:Nat):Int) (plan.getD j 0)=true) ->
  Sat m.rules out v->Sat m.rules (Bz m i plan out) (v+bD (λj=>qC ((m.cls.getD (i+j) default).getD (plan.getD j 0).toNat default)) plan.length)
 |[],i,out,v,_,h=>by show Sat m.rules out (v+0);rw[N4];exact h
 |o::r,i,out,v,hg,h=>by
  rw[Bz];have h0:=hg 0 Iy;rw[im,iq]at h0;obtain⟨b1,b2,b3,b4⟩:=kR.1 h0;rw[ep]at b4;rw[if_neg Ix];have hl:=aG (l:=m.cls) (i:=i) (d:=default) Ix;have ho:=aG (l:=m.cls.getD i default) (i:=o.toNat) (d:=default) Ix;have ng:=hm.rz _ hl _ ho;have h1:=WO _ out v 0 (Gx ng) h.v0 (by unfold bM;decide) (by rw[N4];exact h);have h2:=WQ hm r (i+1) _ _ (λj hj=>by
   have:=hg (j+1) (by simpa using hj);rwa [fM,show i+(j+1)=i+1+j by omega]at this) h1
  rw[dt,yr];simp only[im,fM,iq];rw[<- Int.add_assoc];rw[iN (g:=λj=>qC ((m.cls.getD (i+(j+1)) default).getD (r.getD j 0).toNat default)) r.length λj _=>by rw[show i+1+j=i+(j+1) by omega]]at h2;exact h2
def rF(m:ah)(plan:List Int)(p:Pr):Int:=zM m p (plan.getD p.fst.toNat 0) (plan.getD p.snd.toNat 0)
def WR{m:ah}{plan:List Int}(hp:FP m plan):∀ (l:List Pr) (out:List Int) (v:Int),(∀ p∈l,gB m p=true)->Sat m.rules out v ->
  Sat m.rules (BA m plan l out) (v+bD (λi=>rF m plan (l.getD i default)) l.length)
 |[],out,v,_,h=>by show Sat m.rules out (v+0);rw[N4];exact h
 |p::r,out,v,hg,h=>by
  rw[BA];have dO:=hg p Iy;obtain⟨q1,q2,q3,q4,q5⟩:=qA dO;have dD:=hp.len;have g1:=hp.get p.fst.toNat Ix;have g2:=hp.get p.snd.toNat Ix;have a1:=kR.1 g1;have a2:=kR.1 g2;rw[if_pos ⟨a1.2.2.1,a2.2.2.1⟩];have h2:=WR hp r _ _ (λx hx=>hg x (by simp[hx])) (h.add q1 (Kv dO (plan.getD p.fst.toNat 0) (plan.getD p.snd.toNat 0)));rw[dt,yr];simp only[im,fM];rw[<- Int.add_assoc];exact h2
def nJ(plan:List Int)(c:Ct):Int:=kQ c.most c.bX (yn plan c.aY 0)
def WT{m:ah}{plan:List Int}:∀ (l:List Ct) (out:List Int) (v:Int),(∀ c∈l,iV m c=true)->Sat m.rules out v ->
  Sat m.rules (BC plan l out) (v+bD (λi=>nJ plan (l.getD i default)) l.length)
 |[],out,v,_,h=>by show Sat m.rules out (v+0);rw[N4];exact h
 |c::r,out,v,hg,h=>by
  rw[BC];obtain⟨q1,q2,q3,q4⟩:=sY (hg c Iy);have h2:=WT (plan:=plan) r _ _ (λx hx=>hg x (by simp[hx])) (h.add q1 (Ku (most:=c.most) (sum:=yn plan c.aY 0) (uz q3)));rw[dt,yr];simp only[im,fM];rw[<- Int.add_assoc];exact h2
def uF(m:ah)(plan:List Int)(j:Nat):Int:=qC ((m.cls.getD j default).getD (plan.getD j 0).toNat default)
def afU{m:ah}{plan:List Int}(hv:VM m)(hp:FP m plan):vG (yo m plan) 0 =
  min (bD (uF m plan) m.cls.length+bD (λi=>rF m plan (m.ae.getD i default)) m.ae.length+bD (λi=>nJ plan (m.aC.getD i default)) m.aC.length) 1099511627776:=by
 have h0:Sat m.rules (aJ m.rules.toNat 0) 0:=by
  refine⟨ln.rep hv.uA.1,NI,?_⟩;have:∀ k,j8 (aJ k 0)=0:=by
   intro k
   induction k with
   |zero=>rfl
   |succ k ih=>rw[List.replicate_succ,j8,ih];rfl
  rw[this]
 have h1:=WQ hv plan 0 _ _ (λj hj=>by rw[gm];exact hp.get j hj) h0;have h2:=WR hp m.ae _ _ (jP hv.pr) h1;have h3:=WT (plan:=plan) m.aC _ _ hv.ct h2;have afV:=WU (afW hv plan).2 (n:=0) (by unfold bM;decide);have he:=h3.eq;change min (j8 (yo m plan)) _=_ at he;rw[afV,yX,he,yX,hp.len];simp only[gm];rfl
end T

