import Derived.Test.YtjadfapldkfbpaaGreatX10
import Derived.Test.YtjadfapldkfbpaaGreatX11
set_option linter.all false
set_option maxHeartbeats 0
set_option maxRecDepth 20000
open Int renaming natCast_add→BV,cast_ofNat_Int→G',zero_add→BX,toNat_of_nonneg→vV,toNat_natCast→ig,add_zero→P3
open List renaming length_cons→eu,getD_cons_zero→jh,getD_cons_succ→gN,mem_cons→cu,mem_append→cz,mem_singleton→ec,map_append→gG,nodup_append→vW,mem_map→cC,map_cons→dK,map_nil→k7,map_map→DT,map_congr_left→oM,mem_iff_getElem→tq,getElem_map→P1,getD_eq_getElem?_getD→aG,getElem?_eq_getElem→bT,not_mem_nil→jQ,foldl_append→DV,foldl_nil→Aa,getElem?_append_right→fO,getElem?_append_left→dg,getElem?_eq_some_iff→aY,getElem?_set_ne→bM,getElem?_set→cm,getElem?_eq_none→ei,length_set→bw,map_set→pC,range→aZ,mem_or_eq_of_mem_set→oP,getElem?_map→b6,length_append→bQ,length_map→eO,replicate→bG
open Nat renaming add_zero→iY,zero_add→gf,eq_zero_or_pos→n7,lt_or_ge→fN,add_mul→gj
open Option renaming getD_some→k9
open Bool renaming and_eq_true→bk,not_eq_true'→kz
open Go Go.Am
namespace T
def gT:List Ld->Int->Int->Int->Int
 |[],_,_,w=>w
 |x::r,c,o,w=>gT r c o (if x.cls=c/\x.opt=o then x.wt else w)
def eI(l:List Ld)(c:Int):Nat->List Bool->Int->Int
 |_,[],b=>b
 |o,is::r,b=>eI l c (o+1) r (if is=true/\(b<0\/gT l c o 0<b) then gT l c o 0 else b)
def nK(l:List Ld)(c:Int)(row:List Bool):Int:=max (eI l c 0 row (-1)) 0
def kT(l:List Ld):Nat->List (List Bool)->Int->Int
 |_,[],n=>n
 |i,row::r,n=>kT l (i+1) r (n+nK l i row)
def jZ(left:List (List Bool))(c:Ct):Int:=mz c.most c.b8 (kT c.aJ 0 left 0)
def YG(l:List Ld)(x:Ld)(c o:Int):∀ w,gT (l++[x]) c o w=if x.cls=c/\x.opt=o then x.wt else gT l c o w:=by
 induction l with
 |nil=>intro w;rfl
 |cons y r ih=>intro w;exact ih _
def MY:∀ {l:List Ld} {c:Int} (o w:Int),(∀ x∈l,x.cls≠c)->gT l c o w=w
 |[],_,_,_,_=>rfl
 |x::r,c,o,w,h=>by
  rw[gT,if_neg (λe=>h x G9 e.1)];exact MY o w λy hy=>h y (by simp[hy])
def AX{l:List Ld}(h:∀ x∈l,1<=x.wt/\x.wt<=1000)(c o:Int):∀ w,0<=w/\w<=1000->0<=gT l c o w/\gT l c o w<=1000:=by
 induction l with
 |nil=>intro w hw;exact hw
 |cons x r ih =>
  intro w hw;rw[gT];refine ih (λy hy=>h y (by simp[hy])) _ ?_;have:=h x G9;split<;>omega
def YH{l:List Ld}{c:Int}(h:∀ x∈l,x.cls≠c):∀ (row:List Bool) (o:Nat) (b:Int),-1<=b/\b<=0->-1<=eI l c o row b/\eI l c o row b<=0
 |[],_,b,hb=>hb
 |is::r,o,b,hb=>by
  rw[eI];refine YH h r (o+1) _ ?_;rw[MY _ _ h];split<;>omega
def YI{l:List Ld}{c:Int}(h:∀ x∈l,x.cls≠c)(row:List Bool):nK l c row=0:=by
 have:=YH h row 0 (-1) G3;unfold nK;omega
def IH{l:List Ld}(h:∀ x∈l,1<=x.wt/\x.wt<=1000)(c:Int):∀ (row:List Bool) (o:Nat) (b:Int),-1<=b/\b<=1000->-1<=eI l c o row b/\eI l c o row b<=1000
 |[],_,b,hb=>hb
 |is::r,o,b,hb=>by
  rw[eI];refine IH h c r (o+1) _ ?_;have:=AX h c o 0 G3;split<;>omega
def Yb{l:List Ld}(h:∀ x∈l,1<=x.wt/\x.wt<=1000)(c:Int)(row:List Bool):0<=nK l c row/\nK l c row<=1000:=by
 have:=IH h c row 0 (-1) G3;unfold nK;omega
def cd(f:Nat->Int):Nat->Int
 |0=>0
 |n+1=>cd f n+f n
def jA{f g:Nat->Int}:∀ (n:Nat),(∀ i<n,f i=g i)->cd f n=cd g n
 |0,_=>rfl
 |n+1,h=>by rw[cd,cd,jA n λi hi=>h i G3,h n G3]
def Fk{f:Nat->Int}{B:Int}:∀ (n:Nat),(∀ i<n,0<=f i/\f i<=B)->0<=cd f n/\cd f n<=B*n
 |0,_=>by simp[cd]
 |n+1,h=>by
  have h1:=Fk n λi hi=>h i G3;have h2:=h n G3;rw[cd,BV,Int.mul_add];simp only[G',Int.mul_one];omega
def zt(f:Nat->Int)(k:Nat)(v:Int):∀ (n:Nat),cd (λi=>if i=k then f i+v else f i) n=cd f n+if k<n then v else 0
 |0=>by simp[cd]
 |n+1=>by
  rw[cd,cd,zt f k v n];by_cases h:n=k
  ·subst h;rw[if_pos rfl,if_neg G3,if_pos G3];omega
  ·rw[if_neg h];by_cases h2:k<n
   ·rw[if_pos h2,if_pos G3];omega
   ·rw[if_neg h2,if_neg G3];omega
def zu(f:Nat->Int):∀ n,cd f (n+1)=f 0+cd (λi=>f (i+1)) n
 |0=>by simp[cd]
 |n+1=>by rw[cd,zu f n,cd];omega
def Fl(l:List Ld):∀ (left:List (List Bool)) (i:Nat) (n:Int),kT l i left n=n+cd (λj=>nK l (i+j:Nat) (left.getD j [])) left.length
 |[],i,n=>by simp[kT,cd]
 |row::r,i,n=>by
  rw[kT,Fl l r (i+1),eu,zu];simp only[jh,gN,iY];rw[jA (g:=λj=>nK l (i+(j+1):Nat) (r.getD j [])) r.length λj _=>by rw[show i+1+j=i+(j+1) by omega]];omega
def Fa{l:List Ld}(h:∀ x∈l,1<=x.wt/\x.wt<=1000)(left:List (List Bool)):0<=kT l 0 left 0/\kT l 0 left 0<=1000*left.length:=by
 rw[Fl,BX];exact Fk _ λi _=>Yb h _ _
abbrev nM:=Int×Nat×List (Int×Int)
def vE(es:List (Int×Int)):List (Int×Value):=es.map λp=>(p.1,.int .i64 p.2)
def gE(A:List nM):List (Int×Value):=A.map λe=>(e.1,.map (some e.2.1))
def A4(o w:Int):List (Int×Int)->List (Int×Int)
 |[]=>[(o,w)]
 |p::r=>if p.1=o then(o,w)::r else p::A4 o w r
def wG(o:Int):List (Int×Int)->Int
 |[]=>0
 |p::r=>if p.1=o then p.2 else wG o r
def YJ(o w:Int):∀ es,lA o (.int .i64 w) (vE es)=vE (A4 o w es)
 |[]=>rfl
 |p::r=>by
  show lA o _ ((p.1,Value.int .i64 p.2)::vE r)=_;rw[lA,A4];by_cases h:p.1=o
  ·rw[if_pos h,if_pos h];rfl
  ·rw[if_neg h,if_neg h,YJ o w r];rfl
def Yg(o:Int):∀ es,(oE o (vE es)).getD (.int .i64 0)=.int .i64 (wG o es)
 |[]=>rfl
 |p::r=>by
  show(oE o ((p.1,Value.int .i64 p.2)::vE r)).getD _=_;rw[oE,wG];by_cases h:p.1=o
  ·rw[if_pos h,if_pos h];rfl
  ·rw[if_neg h,if_neg h,Yg o r]
def YK(o w x:Int):∀ es,wG x (A4 o w es)=if o=x then w else wG x es
 |[]=>rfl
 |p::r=>by
  rw[A4];by_cases h:p.1=o
  ·rw[if_pos h,wG,wG];by_cases h2:o=x
   ·rw[if_pos h2,if_pos h2]
   ·rw[if_neg h2,if_neg h2,if_neg G3]
  ·rw[if_neg h,wG,wG,YK o w x r];by_cases h2:p.1=x
   ·rw[if_pos h2,if_neg G3,if_pos h2]
   ·rw[if_neg h2,if_neg h2]
def MP(c:Int):∀ A:List nM,(oE c (gE A)=none/\∀ e∈A,e.1≠c)\/∃ e∈A,e.1=c/\oE c (gE A)=some (.map (some e.2.1))
 |[]=>.inl ⟨rfl,G9⟩
 |e::r=>by
  show(oE c ((e.1,Value.map (some e.2.1))::gE r)=none/\_)\/_;by_cases h:e.1=c
  ·right;refine⟨e,G9,h,?_⟩;show oE c ((e.1,Value.map (some e.2.1))::gE r)=_;rw[oE,if_pos h]
  ·rcases MP c r with⟨h1,h2⟩|⟨e',h1,h2,h3⟩
   ·left;refine⟨by rw[oE,if_neg h];exact h1,λx hx=>?_⟩;rcases cu.1 hx with rfl|hx
    ·exact h
    ·exact h2 x hx
   ·right;refine⟨e',by simp[h1],h2,?_⟩;show oE c ((e.1,Value.map (some e.2.1))::gE r)=_;rw[oE,if_neg h];exact h3
def YL(c:Int)(b:Nat):∀ A:List nM,(∀ e∈A,e.1≠c)->lA c (.map (some b)) (gE A)=gE (A++[(c,b,[])])
 |[],_=>rfl
 |e::r,h=>by
  show lA c _ ((e.1,Value.map (some e.2.1))::gE r)=_;rw[lA,if_neg (h e G9),YL c b r λx hx=>h x (by simp[hx])];rfl
structure GI(R:Nat)(dn:List Ld)(A:List nM)(b0:Nat)(μ:Mem):Prop where
 top:μ b0=some (.map (iE (gE A)))
 sub:∀ e∈A,μ e.2.1=some (.map (iE (vE e.2.2)))
 CO:∀ e∈A,e.2.1≠b0
 inj:∀ e∈A,∀ e'∈A,e.2.1=e'.2.1->e=e'
 keys:(A.map (·.1)).Nodup
 val:∀ e∈A,∀ o,wG o e.2.2=gT dn e.1 o 0
 has:∀ x∈dn,∃ e∈A,e.1=x.cls
 AW:∀ e∈A,0<=e.1/\e.1<R
def GI.nil{R b0:Nat}{μ:Mem}(h:μ b0=some (.map [])):GI R [] [] b0 μ:=⟨h,G9,G9,G9,G9,G9,G9,G9⟩
def GI.new{R:Nat}{dn:List Ld}{A:List nM}{b0:Nat}{μ:Mem}(h:GI R dn A b0 μ){c:Int}(hcR:0<=c/\c<R)(hc:∀ e∈A,e.1≠c){b:Nat}(hb:μ b=none):GI R dn (A++[(c,b,[])]) b0 (kS (kS μ b (.map [])) b0 (.map (iE (lA c (.map (some b)) (gE A))))):=by
 have nJ:b≠b0:=λe=>by rw[e,h.top]at hb;cases hb
 have pN:∀ e∈A,e.2.1≠b:=λe he e2=>by have:=h.sub e he;rw[e2,hb]at this;cases this
 refine⟨by rw[zl,YL c b A hc],λe he=>?_,λe he=>?_,λe he e' rY hh=>?_,?_,λe he o=>?_,λx hx=>?_,λe he=>?_⟩
 ·rcases cz.1 he with he|he
  ·rw[vj _ _ (h.CO e he),vj _ _ (pN e he)];exact h.sub e he
  ·simp only[ec]at he;subst he;rw[vj _ _ nJ,zl];rfl
 ·rcases cz.1 he with he|he
  ·exact h.CO e he
  ·simp only[ec]at he;subst he;exact nJ
 ·rcases cz.1 he with he|he<;>rcases cz.1 rY with rY|rY
  ·exact h.inj e he e' rY hh
  ·simp only[ec]at rY;subst rY;exact absurd hh (pN e he)
  ·simp only[ec]at he;subst he;exact absurd hh.symm (pN e' rY)
  ·simp only[ec]at he rY;rw[he,rY]
 ·rw[gG,vW];refine⟨h.keys,G9,λa ha b' cW=>?_⟩;obtain⟨e,he,rfl⟩:=cC.1 ha;simp only[dK,k7,ec]at cW;rw[cW];exact hc e he
 ·rcases cz.1 he with he|he
  ·exact h.val e he o
  ·simp only[ec]at he;subst he;rw[MY]
   ·rfl
   ·intro x hx u7;obtain⟨e,he,ya⟩:=h.has x hx;exact hc e he (ya.trans u7)
 ·obtain⟨e,he,ya⟩:=h.has x hx;exact⟨e,List.mem_append_left _ he,ya⟩
 ·rcases cz.1 he with he|he
  ·exact h.AW e he
  ·simp only[ec]at he;subst he;exact hcR
def gX(c o w:Int)(A:List nM):List nM:=A.map λe=>if e.1=c then(e.1,e.2.1,A4 o w e.2.2) else e
def ag8(c o w:Int)(A:List nM):gE (gX c o w A)=gE A:=by
 unfold gE gX;rw[DT];refine oM λe _=>?_;simp only[Function.comp];split<;>rfl
def GI.put{R:Nat}{dn:List Ld}{A:List nM}{b0:Nat}{μ:Mem}(h:GI R dn A b0 μ){x:Ld}{e0:nM}(pT:e0∈A)(hc:e0.1=x.cls):GI R (dn++[x]) (gX x.cls x.opt x.wt A) b0 (kS μ e0.2.1 (.map (iE (lA x.opt (.int .i64 x.wt) (vE e0.2.2))))):=by
 have uniq:∀ e∈A,e.1=x.cls->e=e0:=λe he hh=>by
  have hk:=h.keys;obtain⟨i,hi,rfl⟩:=tq.1 he;obtain⟨j,hj,rfl⟩:=tq.1 pT;have:i=j:=(List.getElem_inj (h₀:=by simpa using hi) (h₁:=by simpa using hj) hk).1 (by simp only[P1];rw[hh,hc]);subst this;rfl
 have one:∀ e∈gX x.cls x.opt x.wt A,(e=(e0.1,e0.2.1,A4 x.opt x.wt e0.2.2))\/(e∈A/\e.1≠x.cls):=λe he=>by
  obtain⟨e',rY,rfl⟩:=cC.1 he;by_cases hh:e'.1=x.cls
  ·left;rw[if_pos hh,uniq e' rY hh]
  ·right;rw[if_neg hh];exact⟨rY,hh⟩
 have pN:∀ e∈A,e.1≠x.cls->e.2.1≠e0.2.1:=λe he hh e2=>hh (by rw[h.inj e he e0 pT e2,hc]);refine⟨by rw[vj _ _ (h.CO e0 pT).symm,ag8];exact h.top,λe he=>?_,λe he=>?_,λe he e' rY hh=>?_,?_,λe he o=>?_,λy hy=>?_,λe he=>?_⟩
 ·rcases one e he with rfl|⟨h1,h2⟩
  ·rw[zl,YJ]
  ·rw[vj _ _ (pN e h1 h2)];exact h.sub e h1
 ·rcases one e he with rfl|⟨h1,h2⟩
  ·exact h.CO e0 pT
  ·exact h.CO e h1
 ·rcases one e he with rfl|⟨h1,h2⟩<;>rcases one e' rY with rfl|⟨h3,h4⟩
  ·rfl
  ·exact absurd hh.symm (pN e' h3 h4)
  ·exact absurd hh (pN e h1 h2)
  ·exact h.inj e h1 e' h3 hh
 ·have:(gX x.cls x.opt x.wt A).map (·.1)=A.map (·.1):=by
   unfold gX;rw[DT];refine oM λe _=>?_;simp only[Function.comp];split<;>rfl
  rw[this];exact h.keys
 ·rw[YG];rcases one e he with rfl|⟨h1,h2⟩
  ·dsimp only;rw[YK,h.val e0 pT o];by_cases ho:x.opt=o
   ·rw[if_pos ho,if_pos ⟨hc.symm,ho⟩]
   ·rw[if_neg ho,if_neg (λe=>ho e.2)]
  ·rw[if_neg (λe=>h2 e.1.symm)];exact h.val e h1 o
 ·have mem:∀ e∈A,∃ e'∈gX x.cls x.opt x.wt A,e'.1=e.1:=λe he=>⟨_,List.mem_map_of_mem he,by split<;>rfl⟩;rcases cz.1 hy with hy|hy
  ·obtain⟨e,he,ya⟩:=h.has y hy;obtain⟨e',k1,k2⟩:=mem e he;exact⟨e',k1,k2.trans ya⟩
  ·simp only[ec]at hy;subst hy;obtain⟨e',k1,k2⟩:=mem e0 pT;exact⟨e',k1,k2.trans hc⟩
 ·rcases one e he with rfl|⟨h1,h2⟩
  ·exact h.AW e0 pT
  ·exact h.AW e h1
def zw(f:Int->Int):List nM->Int
 |[]=>0
 |e::r=>f e.1+zw f r
def MZ(f:Int->Int)(n:Nat):∀ A:List nM,(A.map (·.1)).Nodup->(∀ e∈A,0<=e.1/\e.1<n)->zw f A=cd (λi=>if∃e∈A,e.1=(i:Int) then f i else 0) n
 |[],_,_=>by
  rw[jA (g:=λ_=>0) n (λi _=>G9)];have:∀ n,cd (λ_=>0) n=0:=λn=>by induction n with|zero=>rfl|succ n ih=>rw[cd,ih];rfl
  rw[this];rfl
 |e::r,hn,hr=>by
  rw[dK,List.nodup_cons]at hn;rw[zw,MZ f n r hn.2 λx hx=>hr x (by simp[hx])];have h0:=hr e G9;have ag9:¬∃x∈r,x.1=((e.1.toNat:Nat):Int):=by
   rintro⟨x,hx,hh⟩;rw[vV h0.1]at hh;exact hn.1 (cC.2 ⟨x,hx,hh⟩)
  have:=zt (λi=>if∃x∈r,x.1=(i:Int) then f i else 0) e.1.toNat (f e.1) n;rw[if_pos G3]at this;rw[Int.add_comm,<- this];refine jA n λi hi=>?_;by_cases h:i=e.1.toNat
  ·subst h;rw[if_pos rfl,if_neg ag9,if_pos ⟨e,G9,G3⟩,vV h0.1];omega
  ·rw[if_neg h];have:(∃ x∈e::r,x.1=(i:Int))↔∃ x∈r,x.1=(i:Int):=by
    constructor
    ·rintro⟨x,hx,hh⟩;rcases cu.1 hx with rfl|hx
     ·omega
     ·exact⟨x,hx,hh⟩
    ·rintro⟨x,hx,hh⟩;exact⟨x,by simp[hx],hh⟩
   simp only[this]
def YM:∀ A:List nM,zw (λ_=>1) A=A.length
 |[]=>rfl
 |e::r=>by rw[zw,YM r,eu];omega
def GI.len{R:Nat}{dn:List Ld}{A:List nM}{b0:Nat}{μ:Mem}(h:GI R dn A b0 μ):A.length<=R:=by
 have h1:=MZ (λ_=>1) R A h.keys h.AW;rw[YM]at h1;have h2:=Fk (f:=λi=>if∃e∈A,e.1=(i:Int) then(1:Int) else 0) (B:=1) R λi _=>by split<;>omega
 omega
def GI.sum{dn:List Ld}{A:List nM}{b0:Nat}{μ:Mem}{left:List (List Bool)}(h:GI left.length dn A b0 μ):zw (λc=>nK dn c (left.getD c.toNat [])) A=kT dn 0 left 0:=by
 rw[MZ _ left.length A h.keys h.AW,Fl,BX];refine jA _ λi _=>?_;simp only[gf,ig];by_cases hh :∃e∈A,e.1=(i:Int)
 ·rw[if_pos hh]
 ·rw[if_neg hh,YI];intro x hx u7;obtain⟨e,he,ya⟩:=h.has x hx;exact hh ⟨e,he,ya.trans u7⟩
def wE(f:Nat->Int)(seen:List Nat)(n:Nat):Int:=cd (λi=>if i∈seen then f i else 0) n
def ID(seen:List Nat)(n:Nat):Nat:=(cd (λi=>if i∈seen then 0 else 1) n).toNat
def agF{f:Nat->Int}{seen:List Nat}{n j:Nat}(hj:j<n)(hs:j ∉ seen):wE f (seen++[j]) n=wE f seen n+f j:=by
 unfold wE;have:=zt (λi=>if i∈seen then f i else 0) j (f j) n;rw[if_pos hj]at this;rw[<- this];refine jA n λi _=>?_;by_cases h:i=j
 ·subst h;rw[if_pos G9,if_pos rfl,if_neg hs];omega
 ·rw[if_neg h];simp[h]
def agG{seen:List Nat}{n j:Nat}(hj:j<n)(hs:j ∉ seen):ID (seen++[j]) n<ID seen n:=by
 unfold ID;have h1:=zt (λi=>if i∈seen then(0:Int) else 1) j (-1) n;rw[if_pos hj]at h1;have h2:cd (λi=>if i∈seen++[j] then(0:Int) else 1) n=cd (λi=>if i=j then(if i∈seen then 0 else 1)+-1 else if i∈seen then 0 else 1) n:=by
  refine jA n λi _=>?_;by_cases h:i=j
  ·subst h;rw[if_pos G9,if_pos rfl,if_neg hs];rfl
  ·rw[if_neg h];simp[h]
 have h3:=(Fk (f:=λi=>if i∈seen++[j] then(0:Int) else 1) (B:=1) n λi _=>by split<;>omega).1;omega
def agC{f:Nat->Int}{seen:List Nat}{n:Nat}(h:∀ j<n,j∈seen):wE f seen n=cd f n:=jA n λi hi=>if_pos (h i hi)
def agB(f:Nat->Int)(n:Nat):wE f [] n=0:=by
 unfold wE;rw[jA (g:=λ_=>0) n (λi _=>G9)]
 induction n with|zero=>rfl|succ n ih=>rw[cd,ih];rfl
def Yc(f:Int->Int):∀ A:List nM,cd (λj=>f (A.getD j (0,0,[])).1) A.length=zw f A
 |[]=>rfl
 |e::r=>by
  rw[eu,zu,zw];simp only[jh,gN];rw[Yc f r]
def agE{f:Nat->Int}{B:Int}{seen:List Nat}{n:Nat}(hB:0<=B)(h:∀ i<n,0<=f i/\f i<=B):0<=wE f seen n/\wE f seen n<=B*n :=
 Fk n λi hi=>by have:=h i hi;split<;>omega
def Yd(L:List (Int×Value))(j:Nat):(iE L)[j]?=L[j]?.map λp=>(.int .i64 p.1,p.2):=by simp[iE]
def Ye(A:List nM)(j:Nat):(gE A)[j]?=A[j]?.map λe=>(e.1,.map (some e.2.1)):=by simp[gE]
def IE(A:List nM):(iE (gE A)).length=A.length:=by simp[gE,iE]
def GI.other{R:Nat}{dn:List Ld}{A:List nM}{b0:Nat}{μ:Mem}(h:GI R dn A b0 μ){r:Nat}(g:Gh)(hr:∀ l,μ r≠some (.map l)):GI R dn A b0 (kS μ r g) :=
 ⟨by rw[vj _ _ (λe=>hr _ (e▸h.top))];exact h.top,λe he=>by rw[vj _ _ (λe2=>hr _ (e2▸h.sub e he))];exact h.sub e he,h.CO,h.inj,h.keys,h.val,h.has,h.AW⟩
def MQ(l:List Ld)(c:Int)(is:Bool):∀ (row:List Bool) (i:Nat) (b:Int),eI l c i (row++[is]) b =
  if is=true/\(eI l c i row b<0\/gT l c (i+row.length:Nat) 0<eI l c i row b) then gT l c (i+row.length:Nat) 0 else eI l c i row b
 |[],i,b=>rfl
 |x::r,i,b=>by
  show eI l c (i+1) (r++[is]) _=_;rw[MQ l c is r (i+1),eI,eu,show i+1+r.length=i+(r.length+1) by omega]
def fD(m:ah)(left:List (List Bool)):Prop:=left.length=m.cls.length/\∀ i,i<left.length->(left.getD i default).length=(m.cls.getD i default).length
instance (m:ah)(left:List (List Bool)):Decidable (fD m left):=by unfold fD;infer_instance
def IT(m:ah)(left:List (List Bool)):Int:=if ek m≠0 then ek m else if fD m left then 0 else 17
def fD.row{m:ah}{left:List (List Bool)}(hm:VM m)(h:fD m left):∀ r∈left,r.length<=24:=λr hr=>by
 obtain⟨i,hi,rfl⟩:=tq.1 hr;have:=h.2 i hi;rw[aG,bT hi]at this;simp only[k9]at this;rw[this];exact hm.opt _ (aB (by have:=h.1;omega))
def BB(left:List (List Bool)):Prop:=left.length<9223372036854775808/\∀ r∈left,r.length<9223372036854775808
def YN(l:List Ld)(row:List Bool):∀ (L:List (List Bool)) (i:Nat) (n:Int),kT l i (L++[row]) n=kT l i L n+nK l (i+L.length:Nat) row
 |[],i,n=>rfl
 |x::r,i,n=>by
  show kT l (i+1) (r++[row]) _=_;rw[YN l row r (i+1),kT,eu,show i+1+r.length=i+(r.length+1) by omega]
def eJ{α:Type}[Inhabited α]{l:List α}{k:Nat}(h:k<l.length):l.take (k+1)=l.take k++[l.getD k default]:=by
 rw[List.take_succ_eq_append_getElem h,aG,bT h];rfl
abbrev Nm:=Int×Bool
def fL(x:Int):Nm:=(x,decide (1099511627776<=x))
def bq(p:Nm):List AV:=[aaa p.1,.lit (.bool p.2)]
def jJ(p:Nm):List AV:=[.lit (.bool p.2),aaa p.1]
instance:Row bq 2:=⟨λ_=>rfl,λp v hv=>by
 simp only[bq,cu,jQ,or_false]at hv;rcases hv with rfl|rfl<;>exact .inl ⟨_,rfl,rfl⟩⟩
instance:Row jJ 2:=⟨λ_=>rfl,λp v hv=>by
 simp only[jJ,cu,jQ,or_false]at hv;rcases hv with rfl|rfl<;>exact .inl ⟨_,rfl,rfl⟩⟩
def sY(o:bV):Int:=(o.ch.map (·.2)).foldl fl 0
def iy(l:List bV):List Int:=l.map sY
def ep(l:List Int):List Nm:=l.map fL
def eV:List Nm->List Bool->Int×Bool->Int×Bool
 |p::r,is::s,b=>eV r s (if is=true/\p.2=false/\(b.2=false\/p.1<b.1) then(p.1,true) else b)
 |_,_,b=>b
def IU{R:Int}{l:List (Int×Int)}(h:eH R none l=true):∀ c∈l,bZ c.2:=λc hc=>mD (AP h c hc).2
def Fm:∀ (l:List Int) (n:Int),(∀ x∈l,bZ x)->bZ n->bZ (l.foldl fl n)
 |[],_,_,h=>h
 |x::r,n,hl,h=>Fm r _ (λy hy=>hl y (by simp[hy])) (AO h (hl x G9))
def IV{R:Int}{o:bV}(h:eH R none o.ch=true):bZ (sY o):=Fm _ _ (λx hx=>by
 obtain⟨c,hc,rfl⟩:=cC.1 hx;exact IU h c hc) (by unfold bZ;decide)
structure Mv where
 pair:Int
 side:Int
 opt:Int
 dO:Int
 deriving Inhabited
def bN(x:Mv):List AV:=[aaa x.pair,aaa x.side,aaa x.opt,aaa x.dO]
instance:Row bN 4:=⟨λ_=>rfl,λx v hv=>by
 simp only[bN,cu,jQ,or_false]at hv;rcases hv with rfl|rfl|rfl|rfl<;>exact .inl ⟨_,rfl,rfl⟩⟩
def fR(m:ah)(x:Mv):Int:=if x.side=0 then(m.ae.getD x.pair.toNat default).fst else(m.ae.getD x.pair.toNat default).snd
def j5(m:ah)(x:Mv):Bool:=decide (0<=x.pair/\x.pair<m.ae.length/\0<=x.side/\x.side<=1/\-268435456<=x.dO/\x.dO<=268435456)&&eU m (fR m x) x.opt
def M0(l:List (Int×Int))(k:Nat)(h:k<l.length):(((l.take (k+1)).map (·.2)).foldl fl 0)=fl (((l.take k).map (·.2)).foldl fl 0) (l.getD k default).2:=by
 rw[eJ h,gG,DV];rfl
def YO(p:Nm)(is:Bool)(b:Int×Bool):Int×Bool:=if is=true/\p.2=false/\(b.2=false\/p.1<b.1) then(p.1,true) else b
def YP(p:Nm)(is:Bool):∀ (l:List Nm) (s:List Bool) (b:Int×Bool),l.length=s.length->eV (l++[p]) (s++[is]) b=YO p is (eV l s b)
 |[],[],b,_=>rfl
 |x::r,y::s,b,h=>by
  show eV (r++[p]) (s++[is]) _=_;rw[YP p is r s _ (by simpa using h)];rfl
def ki:List Nm->List Bool->List Nm
 |p::r,is::s=>(if is=true then [p] else [])++ki r s
 |_,_=>[]
def CP(b a:Nm):Nm:=if a.2=false/\(b.2=true\/a.1<b.1) then a else b
def uf(l:List Nm):Nm:=l.foldl CP (0,true)
def aha(l:List Nm)(a:Nm):uf (l++[a])=CP (uf l) a:=by unfold uf;rw[DV];rfl
def M1(p:Nm)(is:Bool):∀ (l:List Nm) (s:List Bool),l.length=s.length->ki (l++[p]) (s++[is])=ki l s++(if is=true then [p] else [])
 |[],[],_=>by simp[ki]
 |x::r,y::s,h=>by
  show(if y=true then [x] else [])++ki (r++[p]) (s++[is])=_;rw[M1 p is r s (by simpa using h),ki,List.append_assoc]
def M3:∀ (l:List Nm) (s:List Bool) (b:Int×Bool),(ki l s).foldl CP (b.1,!b.2)=((eV l s b).1,!(eV l s b).2)
 |[],s,b=>by cases s<;>rfl
 |p::r,[],b=>rfl
 |p::r,is::s,b=>by
  rw[ki,eV,DV];cases is with
  |false=>simp only[Bool.false_eq_true,if_false,Aa,false_and];exact M3 r s b
  |true =>
   simp only[if_true,List.foldl_cons,Aa,eq_self,true_and];have:CP (b.1,!b.2) p=((if p.2=false/\(b.2=false\/p.1<b.1) then(p.1,true) else b).1,!(if p.2=false/\(b.2=false\/p.1<b.1) then(p.1,true) else b).2):=by
    unfold CP;obtain⟨b1,b2⟩:=b;obtain⟨p1,p2⟩:=p;dsimp only;cases b2<;>cases p2<;>simp;split<;>rfl
   rw[this];exact M3 r s _
def ahb(l:List Nm)(s:List Bool):uf (ki l s)=((eV l s (0,false)).1,!(eV l s (0,false)).2):=M3 l s (0,false)
def kj(os:List Ob)(x:Ob)(l:List Ob):(os++x::l)[os.length]?=some x:=G9
def nN(os l:List Ob)(k:Nat):(os++l)[os.length+k]?=l[k]?:=by rw[fO G3,Nat.add_sub_cancel_left]
def zx(os:List Ob)(x y:Ob)(l:List Ob):(os++x::l).set os.length y=os++y::l:=by rw[List.set_append];simp
def IW(os l:List Ob)(k:Nat)(y:Ob):(os++l).set (os.length+k) y=os++l.set k y:=by rw[List.set_append_right _ _ G3];simp
def bf{os:List Ob}{i:Nat}{o:Ob}(h:os[i]?=some o)(l:List Ob):(os++l)[i]?=some o:=by
 rw[dg (aY.1 h).1];exact h
def gz{os:List Ob}{i:Nat}{o:Ob}(h:os[i]?=some o)(l:List Ob)(y:Ob):(os++l).set i y=os.set i y++l:=by
 rw[List.set_append,if_pos (aY.1 h).1]
def A5{os:List Ob}{i j:Nat}{o o' y:Ob}(h:os[i]?=some o)(h':os[j]?=some o')(ew:o≠o'):(os.set j y)[i]?=some o:=by
 have:j≠i:=λe=>ew (by rw[e,h]at h';simpa using h');rw[bM this];exact h
def j3{os:List Ob}{i:Nat}{o y:Ob}(h:os[i]?=some o):(os.set i y)[i]?=some y:=by
 rw[cm];simp[(aY.1 h).1]
def cD:=aan @kj @nN @zx @IW
def cS(q:Nat×Nat):List AV:=[.ref q.1 2 0 q.2]
structure RI{α:Type}(enc:α->List AV)(os:List Ob)(D:List (Nat×Nat))(S:List (List α)):Prop where
 len:D.length=S.length
 row:∀ j,j<D.length->os[(D.getD j default).1]?=some (.arr 2 (rowsOf enc (S.getD j default)))/\(S.getD j default).length=(D.getD j default).2
def RI.nil{α:Type}{enc:α->List AV}{os:List Ob}:RI enc os [] ([]:List (List α)):=⟨rfl,G9⟩
def RI.app{α:Type}{enc:α->List AV}{os:List Ob}{D:List (Nat×Nat)}{S:List (List α)}(h:RI enc os D S)(l:List Ob):RI enc (os++l) D S :=
 ⟨h.len,λj hj=>⟨bf (h.row j hj).1 l,(h.row j hj).2⟩⟩
def RI.kill{α:Type}{enc:α->List AV}{os:List Ob}{D:List (Nat×Nat)}{S:List (List α)}(h:RI enc os D S){i:Nat}{o y:Ob}(ho:os[i]?=some o)(ew:∀ l,o≠.arr 2 l):RI enc (os.set i y) D S :=
 ⟨h.len,λj hj=>⟨A5 (h.row j hj).1 ho (λe=>ew _ e.symm),(h.row j hj).2⟩⟩
def II{α:Type}[Inhabited α](l:List α)(x:α)(j:Nat):(l++[x]).getD j default=if j<l.length then l.getD j default else if j=l.length then x else default:=by
 simp only[aG];split
 ·rename_i h;rw[dg h]
 ·rename_i h;rw[fO G3];split
  ·rename_i h2;subst h2;simp
  ·rw[ei PX];rfl
def RI.snoc{α:Type}{enc:α->List AV}{os:List Ob}{D:List (Nat×Nat)}{S:List (List α)}(h:RI enc os D S){p:Nat}{r:List α}(hp:os[p]?=some (.arr 2 (rowsOf enc r))):RI enc os (D++[(p,r.length)]) (S++[r]) :=
 ⟨by simp[h.len],λj hj=>by
  rw[II,II,<- h.len];by_cases h1:j<D.length
  ·rw[if_pos h1,if_pos h1];exact h.row j h1
  ·have:j=D.length:=by simp at hj;omega
   rw[if_neg h1,if_neg h1,if_pos this,if_pos this];exact⟨hp,rfl⟩⟩
def RI.set{α:Type}{enc:α->List AV}{os:List Ob}{D:List (Nat×Nat)}{S:List (List α)}(h:RI enc os D S)(hn:(D.map (·.1)).Nodup){j:Nat}(hj:j<D.length){r:List α}(hr:r.length=(S.getD j default).length):RI enc (os.set (D.getD j default).1 (.arr 2 (rowsOf enc r))) D (S.set j r) :=
 ⟨by rw[bw];exact h.len,λk hk=>by
  by_cases e:k=j
  ·subst e;have:(S.set k r).getD k default=r:=by rw[aG,cm];simp[<- h.len,hk]
   rw[this];exact⟨j3 (h.row k hk).1,hr.trans (h.row k hk).2⟩
  ·have:(S.set j r).getD k default=S.getD k default:=by rw[aG,bM (λe'=>e e'.symm),aG]
   rw[this];have ew:(D.getD j default).1≠(D.getD k default).1:=λhh=>e ((List.getElem_inj (h₀:=by simpa using hk) (h₁:=by simpa using hj) hn).1 (by
    rw[P1,P1];have a1:D[k]=D.getD k default:=by simp[hk]
    have a2:D[j]=D.getD j default:=by simp[hj]
    rw[a1,a2];exact hh.symm))
   rw[bM ew];exact h.row k hk⟩
def RI.other{α:Type}{enc:α->List AV}{os:List Ob}{D:List (Nat×Nat)}{S:List (List α)}(h:RI enc os D S){i:Nat}(hi:i ∉ D.map (·.1)){y:Ob}:RI enc (os.set i y) D S :=
 ⟨h.len,λk hk=>⟨by
  rw[bM (λe=>hi (cC.2 ⟨D.getD k default,aB hk,e.symm⟩))];exact(h.row k hk).1,(h.row k hk).2⟩⟩
def RI.fresh{α:Type}{enc:α->List AV}{os:List Ob}{D:List (Nat×Nat)}{S:List (List α)}(h:RI enc os D S){p:Nat}(hp:os.length<=p):p ∉ D.map (·.1):=λhh=>by
 obtain⟨q,hq,rfl⟩:=cC.1 hh;obtain⟨k,hk,rfl⟩:=tq.1 hq;have h1:=(h.row k hk).1;have a1:D.getD k default=D[k]:=by simp[hk]
 rw[a1]at h1;have:=(aY.1 h1).1;omega
def IX(D:List (Nat×Nat))(p n:Nat):rowsOf cS D++[[AV.ref p 2 0 n]]=rowsOf cS (D++[(p,n)]):=by simp[rowsOf,cS]
def RI.step{α:Type}{enc:α->List AV}{os:List Ob}{D:List (Nat×Nat)}{S:List (List α)}{ai:Nat}{x:Ob}(fa:os[ai]?=some x)(hx:∀ l,x≠.arr 2 l)(hR:RI enc os D S)(b7:(D.map (·.1)).Nodup)(r:List α)(t y:Ob):
  (os.set ai .gone++[.arr 2 (rowsOf enc r),t,y])[os.length+2]?=some y /\
  RI enc (os.set ai .gone++[.arr 2 (rowsOf enc r),t,y]) (D++[(os.length,r.length)]) (S++[r])/\((D++[(os.length,r.length)]).map (·.1)).Nodup /\
  ∀ k o,os[k]?=some o->k≠ai->(os.set ai .gone++[.arr 2 (rowsOf enc r),t,y])[k]?=some o:=by
 have hl:(os.set ai .gone).length=os.length:=bw ..;refine⟨?_,?_,?_,λk o hk ew=>bf ?_ _⟩
 ·rw[<- hl,nN];rfl
 ·refine((hR.kill fa hx).app _).snoc ?_;rw[<- hl,kj]
 ·rw[gG,vW];refine⟨b7,G9,λa ha b hb=>?_⟩;simp only[dK,k7,ec]at hb;subst hb;exact λe=>hR.fresh (Nat.le_refl _) (e▸ha)
 ·rw[bM (Ne.symm ew)];exact hk
structure LO{α:Type}(enc:α->List AV)(B:List (Nat×Ob))(D E:List (Nat×Nat))(S T:List (List α))(os:List Ob):Prop where
 base:∀ b∈B,os[b.1]?=some b.2/\∀ l,b.2≠.arr 2 l
 rD:RI enc os D S
 rE:RI enc os E T
 nd:((D++E).map (·.1)).Nodup
section
variable {α:Type} {enc:α->List AV} {B:List (Nat×Ob)} {D E:List (Nat×Nat)} {S T:List (List α)} {os:List Ob}
def LO.app(h:LO enc B D E S T os)(l:List Ob):LO enc B D E S T (os++l):=⟨λb hb=>⟨bf (h.base b hb).1 l,(h.base b hb).2⟩,h.rD.app l,h.rE.app l,h.nd⟩
def LO.add(h:LO enc B D E S T os){k:Nat}{x:Ob}(hk:os[k]?=some x)(hx:∀ l,x≠.arr 2 l):LO enc ((k,x)::B) D E S T os :=
 ⟨λb hb=>by rcases cu.1 hb with rfl|hb;exact⟨hk,hx⟩;exact h.base b hb,h.rD,h.rE,h.nd⟩
def LO.sub(h:LO enc B D E S T os){C:List (Nat×Ob)}(hc:∀ b∈C,b∈B):LO enc C D E S T os:=⟨λb hb=>h.base b (hc b hb),h.rD,h.rE,h.nd⟩
def YQ{D E:List (Nat×Nat)}(h:((D++E).map (·.1)).Nodup):(D.map (·.1)).Nodup/\(E.map (·.1)).Nodup/\(∀ j,j<D.length->(D.getD j default).1 ∉ E.map (·.1))/\∀ j,j<E.length->(E.getD j default).1 ∉ D.map (·.1):=by
 rw[gG,vW]at h;refine⟨h.1,h.2.1,λj hj hh=>h.2.2 _ (cC.2 ⟨_,aB hj,rfl⟩) _ hh rfl,λj hj hh=>h.2.2 _ hh _ (cC.2 ⟨_,aB hj,rfl⟩) rfl⟩
def LO.M4(h:LO enc B D E S T os){j:Nat}(hj:j<D.length){r:List α}(hr:r.length=(S.getD j default).length):LO enc B D E (S.set j r) T (os.set (D.getD j default).1 (.arr 2 (rowsOf enc r))):=by
 obtain⟨h1,h2,h3,h4⟩:=YQ h.nd;exact⟨λb hb=>⟨A5 (h.base b hb).1 (h.rD.row j hj).1 ((h.base b hb).2 _),(h.base b hb).2⟩,h.rD.set h1 hj hr,h.rE.other (h3 j hj),h.nd⟩
def LO.IY(h:LO enc B D E S T os){j:Nat}(hj:j<E.length){r:List α}(hr:r.length=(T.getD j default).length):LO enc B D E S (T.set j r) (os.set (E.getD j default).1 (.arr 2 (rowsOf enc r))):=by
 obtain⟨h1,h2,h3,h4⟩:=YQ h.nd;exact⟨λb hb=>⟨A5 (h.base b hb).1 (h.rE.row j hj).1 ((h.base b hb).2 _),(h.base b hb).2⟩,h.rD.other (h4 j hj),h.rE.set h2 hj hr,h.nd⟩
end
def IZ(xs:List Nm)(i:Nat)(b:Bool)(n:Int):(rowsOf jJ xs).set i [.lit (.bool b),aaa n]=rowsOf jJ (xs.set i (n,b)):=by simp[rowsOf,jJ,pC]
def ahc(xs:List Nm)(i:Nat)(b:Bool)(n:Int):(rowsOf bq xs).set i [aaa n,.lit (.bool b)]=rowsOf bq (xs.set i (n,b)):=by simp[rowsOf,bq,pC]
def LO.vars{α:Type}{enc:α->List AV}{B:List (Nat×Ob)}{D E:List (Nat×Nat)}{S T:List (List α)}{os:List Ob}(h:LO enc B D E S T os){n:Nat}(hn:os.length=n)(x y:Ob)(hx:∀ l,x≠.arr 2 l)(hy:∀ l,y≠.arr 2 l):
  LO enc ((n,x)::(n+1,y)::B) D E S T (os++[x,y]):=by
 subst hn;exact((h.app [x,y]).add (by rw[nN];rfl) hy).add (by rw[kj]) hx
def Fo{α:Type}[Inhabited α](l:List α)(j:Nat):l.set j (l.getD j default)=l:=by
 apply List.ext_getElem?;intro i;rw[cm];split
 ·rename_i h;subst h;split
  ·rename_i h2;rw[aG,bT h2];rfl
  ·rename_i h2;rw[ei G3]
 ·rfl
def vr{α:Type}[Inhabited α](l:List α)(j:Nat)(x:α)(h:j<l.length):(l.set j x).getD j default=x:=by
 rw[aG,cm];simp[h]
def LO.kill{α:Type}{enc:α->List AV}{B:List (Nat×Ob)}{D E:List (Nat×Nat)}{S T:List (List α)}{os:List Ob}(h:LO enc B D E S T os){i:Nat}{x y:Ob}(hi:os[i]?=some x)(hx:∀ l,x≠.arr 2 l)(ew:∀ b∈B,b.1≠i):LO enc B D E S T (os.set i y) :=
 ⟨λb hb=>⟨by rw[bM (ew b hb).symm];exact(h.base b hb).1,(h.base b hb).2⟩,h.rD.kill hi hx,h.rE.kill hi hx,h.nd⟩
def yb(os l:List Ob)(i k:Nat)(y:Ob):(os.set i y++l)[os.length+k]?=l[k]?:=by
 have:=nN (os.set i y) l k;rwa [bw]at this
def gC(m:ah)(ai bi:Nat)(D E:List (Nat×Nat)):List AV:=[.tree 1 (rowsOf a9 m.cls),.tree 4 (rowsOf aQ m.ae),.tree 4 (rowsOf aV m.ax),aaa m.rules,.ref ai 1 0 D.length,.ref bi 1 0 E.length]
abbrev GB(m:ah)(gi ai bi:Nat)(D E:List (Nat×Nat)):List (Nat×Ob):=[(gi,.var (gC m ai bi D E)),(ai,.arr 1 (rowsOf cS D)),(bi,.arr 1 (rowsOf cS E))]
def A6{m:ah}{gi ai bi:Nat}{D E:List (Nat×Nat)}{S T:List (List Nm)}{os:List Ob}(h:LO bq (GB m gi ai bi D E) D E S T os):
  os[gi]?=some (.var (gC m ai bi D E))/\os[ai]?=some (.arr 1 (rowsOf cS D))/\os[bi]?=some (.arr 1 (rowsOf cS E)) :=
 ⟨(h.base (gi,_) G9).1,(h.base (ai,.arr 1 (rowsOf cS D)) G9).1,(h.base (bi,.arr 1 (rowsOf cS E)) G9).1⟩
def iL(os ob:List Ob):Prop:=∀ (k:Nat) (o:Ob),os[k]?=some o->ob[k]?=some o
def iL.refl(os:List Ob):iL os os:=λ_ _ h=>h
def iL.app{os ob:List Ob}(h:iL os ob)(l:List Ob):iL os (ob++l):=λk o hk=>bf (h k o hk) l
def iL.set{os ob:List Ob}(h:iL os ob){i:Nat}(hi:os.length<=i){y:Ob}:iL os (ob.set i y):=λk o hk=>by
 have:=(aY.1 hk).1;rw[bM G3];exact h k o hk
def iL.len{os ob:List Ob}(h:iL os ob):os.length<=ob.length:=by
 rcases n7 os.length with h0|h0
 ·omega
 ·obtain⟨o,ho⟩ :∃o,os[os.length-1]?=some o:=⟨_,bT G3⟩;have:=(aY.1 (h _ _ ho)).1;omega
section
variable {α:Type} {enc:α->List AV} {B:List (Nat×Ob)} {D E:List (Nat×Nat)} {S T:List (List α)} {os:List Ob}
def LO.swap(h:LO enc B D E S T os):LO enc B E D T S os:=⟨h.base,h.rE,h.rD,by
 have:=h.nd;rw[gG,vW]at this ⊢;exact⟨this.2.1,this.1,λa ha b hb e=>this.2.2 b hb a ha e.symm⟩⟩
def LO.I0(h:LO enc B D E S T os){i:Nat}{l:List (List AV)}(hi:i ∉ (D++E).map (·.1))(hr:os[i]?=some (.arr 2 l)){y:Ob}:LO enc B D E S T (os.set i y):=by
 rw[gG,cz,not_or]at hi;exact⟨λb hb=>⟨A5 (h.base b hb).1 hr ((h.base b hb).2 _),(h.base b hb).2⟩,h.rD.other hi.1,h.rE.other hi.2,h.nd⟩
def LO.fresh(h:LO enc B D E S T os){p:Nat}(hp:os.length<=p):p ∉ (D++E).map (·.1):=by
 rw[gG,cz,not_or];exact⟨h.rD.fresh hp,h.rE.fresh hp⟩
def LO.step{gi ai:Nat}{gc:List AV}{A:List (List AV)}(h:LO enc ((gi,.var gc)::(ai,.arr 1 A)::B) D E S T os){r:List α}{oi:Nat}(hr:os[oi]?=some (.arr 2 (rowsOf enc r)))(dV:oi ∉ (D++E).map (·.1))(hB:∀ b∈B,b.1≠ai/\b.1≠gi)(CQ:List AV)(A':List (List AV))(t:Ob):
  LO enc ((gi,.var CQ)::(os.length+1,.arr 1 A')::B) (D++[(oi,r.length)]) E (S++[r]) T ((os.set ai .gone).set gi (.var CQ)++[t,.arr 1 A']):=by
 have hg:=(h.base (gi,.var gc) G9).1;have ha:=(h.base (ai,.arr 1 A) G9).1;dsimp only at hg ha;have hga:gi≠ai:=λe=>by rw[e,ha]at hg;cases hg
 have tC:(os.set ai .gone)[gi]?=some (.var gc):=by rw[bM hga.symm];exact hg
 have hl:((os.set ai .gone).set gi (.var CQ)).length=os.length:=by rw[bw,bw]
 have hD2:=((h.rD.kill (y:=.gone) ha G9).kill (y:=.var CQ) tC G9).app [t,.arr 1 A'];have hE2:=((h.rE.kill (y:=.gone) ha G9).kill (y:=.var CQ) tC G9).app [t,.arr 1 A'];have fB:((os.set ai .gone).set gi (.var CQ)++[t,.arr 1 A'])[oi]?=some (.arr 2 (rowsOf enc r)):=bf (A5 (A5 hr ha G9) tC G9) _;refine⟨λb hb=>?_,hD2.snoc fB,hE2,?_⟩
 ·rcases cu.1 hb with rfl|hb
  ·exact⟨bf (j3 tC) _,G9⟩
  rcases cu.1 hb with rfl|hb
  ·refine⟨?_,G9⟩;dsimp only;rw[<- hl,nN];rfl
  ·have h0:=h.base b (by simp[hb]);refine⟨bf ?_ _,h0.2⟩;rw[bM (hB b hb).2.symm,bM (hB b hb).1.symm];exact h0.1
 ·have b7:=h.nd;rw[gG,vW]at b7 ⊢;rw[gG,cz,not_or]at dV;obtain⟨n1,n2,n3⟩:=b7;refine⟨?_,n2,λa m7 b hb=>?_⟩
  ·rw[gG,vW];refine⟨n1,G9,λa m7 b hb=>?_⟩;simp only[dK,k7,ec]at hb;subst hb;exact λe=>dV.1 (e▸m7)
  ·rw[gG,cz]at m7;rcases m7 with m7|m7
   ·exact n3 a m7 b hb
   ·simp only[dK,k7,ec]at m7;subst m7;exact λe=>dV.2 (e▸hb)
end
def S0(m:ah):List (List Nm):=m.cls.map λl=>ep (iy l)
def T0(m:ah):List (List Nm):=m.ae.map λp=>ep p.aD
def j6(r:List Nm)(i:Nat)(a:Int):List Nm:=r.set i ((r.getD i default).1+a,(r.getD i default).2)
def iz(f:Nat->Nat)(a:Int):Nat->List Nm->List Nm
 |0,t=>t
 |k+1,t=>j6 (iz f a k t) (f k) (-a)
abbrev Lg:=List (List Nm)×List (List Nm)
def pg(m:ah)(x:Mv):(Nat->Nat)×Nat :=
 if x.side=0 then(λk=>(x.opt*(m.cls.getD (m.ae.getD x.pair.toNat default).snd.toNat default).length+k).toNat,(m.cls.getD (m.ae.getD x.pair.toNat default).snd.toNat default).length)
 else(λk=>((k:Int)*(m.cls.getD (m.ae.getD x.pair.toNat default).snd.toNat default).length+x.opt).toNat,(m.cls.getD (m.ae.getD x.pair.toNat default).fst.toNat default).length)
def kl(m:ah)(x:Mv)(g:Lg):Lg :=
 (g.1.set (fR m x).toNat (j6 (g.1.getD (fR m x).toNat default) x.opt.toNat x.dO),g.2.set x.pair.toNat (iz (pg m x).1 x.dO (pg m x).2 (g.2.getD x.pair.toNat default)))
def j7(m:ah)(l:List Mv)(g:Lg):Lg:=l.foldl (λg x=>kl m x g) g
def YR(m:ah)(l:List Mv)(x:Mv)(g:Lg):j7 m (l++[x]) g=kl m x (j7 m l g):=by unfold j7;rw[DV];rfl
def rZ(a b:List Bool):List Bool:=a.flatMap λx=>b.map λy=>x&&y
def PC(left:List (List Bool))(S:List (List Nm))(n:Nat):List (Int×Bool):=(aZ n).map λi=>eV (S.getD i default) (left.getD i default) (0,false)
def jK(m:ah)(left:List (List Bool))(i:Nat):List Bool:=rZ (left.getD (m.ae.getD i default).fst.toNat default) (left.getD (m.ae.getD i default).snd.toNat default)
def PP(m:ah)(left:List (List Bool))(T:List (List Nm))(n:Nat):List (Int×Bool):=(aZ n).map λi=>eV (T.getD i default) (jK m left i) (0,false)
def PK(m:ah)(left:List (List Bool))(n:Nat):List (Int×Bool):=(aZ n).map λi=>(jZ left (m.ax.getD i default),!(decide ((m.ax.getD i default).b8=1099511627776)&&decide (0<jZ left (m.ax.getD i default))))
def ca(l:List (Int×Bool))(z:Int×Bool):Int×Bool:=l.foldl (λz p=>(z.1+p.1,z.2||!p.2)) z
def r8(m:ah)(left:List (List Bool))(g:Lg):Int :=
 if(ca (PK m left m.ax.length) (ca (PP m left g.2 m.ae.length) (ca (PC left g.1 m.cls.length) (0,false)))).2=true then 1099511627776
 else min (ca (PK m left m.ax.length) (ca (PP m left g.2 m.ae.length) (ca (PC left g.1 m.cls.length) (0,false)))).1 1099511627776
def jL(m:ah)(left:List (List Bool))(l:List Mv):Int×Int :=
 if 2000<l.length then(0,2) else if l.all (j5 m)=false then(0,3) else(r8 m left (j7 m l (S0 m,T0 m)),0)
def CR(m:ah)(left:List (List Bool))(l:List Mv):Int×Int:=if IT m left≠0 then(0,IT m left) else jL m left l
def CS(l:List (Int×Bool))(p z:Int×Bool):ca (l++[p]) z=((ca l z).1+p.1,(ca l z).2||!p.2):=by unfold ca;rw[DV];rfl
def zy{β:Type}(f:Nat->β)(n:Nat):(aZ (n+1)).map f=(aZ n).map f++[f n]:=by rw[List.range_succ,gG];rfl
def NB(B:Int)(r:List Nm):Prop:=∀ p∈r,-B<=p.1/\p.1<=B
def NB.get{B:Int}{r:List Nm}(h:NB B r)(hB:0<=B)(i:Nat): -B<=(r.getD i default).1/\(r.getD i default).1<=B:=by
 rcases fN i r.length with hi|hi
 ·exact h _ (aB hi)
 ·rw[aG,ei hi];show -B<=(0:Int)/\(0:Int)<=B;omega
def NB.mono{B C:Int}{r:List Nm}(h:NB B r)(hc:B<=C):NB C r:=λp hp=>by have:=h p hp;omega
def NB.add{B:Int}{r:List Nm}(h:NB B r)(hB:0<=B)(i:Nat){a:Int}(ha : -268435456<=a/\a<=268435456):NB (B+268435456) (j6 r i a):=λp hp=>by
 rcases oP hp with h'|h'
 ·have:=h p h';omega
 ·have:=h.get hB i;rw[h'];dsimp only;omega
def yd(r:List Nm)(i:Nat)(a:Int):(j6 r i a).length=r.length:=by simp[j6]
def A7(f:Nat->Nat)(a:Int):∀ (k:Nat) (t:List Nm),(iz f a k t).length=t.length
 |0,t=>rfl
 |k+1,t=>by rw[iz,yd,A7 f a k t]
def NB.sub{B:Int}{r:List Nm}(h:NB B r)(hB:0<=B)(f:Nat->Nat){a:Int}(ha : -268435456<=a/\a<=268435456):∀ k:Nat,NB (B+268435456*k) (iz f a k r)
 |0=>by simpa [iz] using h
 |k+1=>by
  rw[iz];have:=(NB.sub h hB f ha k).add G3 (f k) (a:=-a) G3;exact this.mono G3
structure LG(m:ah)(B:Int)(g:Lg):Prop where
 s:g.1.length=m.cls.length
 t:g.2.length=m.ae.length
 sl:∀ i,i<m.cls.length->(g.1.getD i default).length=(m.cls.getD i default).length
 tl:∀ i,i<m.ae.length->(g.2.getD i default).length=(m.ae.getD i default).aD.length
 sb:∀ r∈g.1,NB B r
 tb:∀ r∈g.2,NB B r
def YS{g:List (List Nm)}{i j:Nat}{r:List Nm}(h:r.length=(g.getD i default).length):((g.set i r).getD j default).length=(g.getD j default).length:=by
 by_cases e:i=j
 ·subst e;rcases fN i g.length with hi|hi
  ·simp only[aG,cm,hi,if_true,k9];rw[h,aG]
  ·rw[List.set_eq_of_length_le hi]
 ·simp only[aG,bM e]
def ug{B:Int}{g:List (List Nm)}(h:∀ r∈g,NB B r)(i:Nat):NB B (g.getD i default):=by
 rcases fN i g.length with hi|hi
 ·exact h _ (aB hi)
 ·rw[aG,ei hi];intro p hp;cases hp
def ahg{m:ah}(hm:VM m)(x:Mv):(pg m x).2<=24:=by
 have:∀ i,(m.cls.getD i default).length<=24:=λi=>by
  rcases fN i m.cls.length with hi|hi
  ·exact hm.opt _ (aB hi)
  ·rw[aG,ei hi];exact Nat.zero_le _
 unfold pg;split<;>exact this _
def YT{m:ah}(hm:VM m){B:Int}(hB:0<=B){g:Lg}(h:LG m B g){x:Mv}(hx:j5 m x=true):LG m (B+268435456*25) (kl m x g):=by
 unfold j5 at hx;rw[bk,decide_eq_true_eq]at hx;have ha:=hx.1.2.2.2.2;have hk:=ahg hm x;refine⟨by rw[kl,bw];exact h.s,by rw[kl,bw];exact h.t,λi hi=>?_,λi hi=>?_,λr hr=>?_,λr hr=>?_⟩
 ·rw[kl];dsimp only;rw[YS (by rw[yd])];exact h.sl i hi
 ·rw[kl];dsimp only;rw[YS (by rw[A7])];exact h.tl i hi
 ·rcases oP hr with h'|h'
  ·exact(h.sb r h').mono G3
  ·rw[h'];exact((ug h.sb _).add hB _ ha).mono G3
 ·rcases oP hr with h'|h'
  ·exact(h.tb r h').mono G3
  ·rw[h'];exact((ug h.tb _).sub hB _ ha _).mono G3
def YU{l:List Int}(h:∀ x∈l,bZ x):NB 1099511627776 (ep l):=λp hp=>by
 obtain⟨x,hx,rfl⟩:=cC.1 hp;have:=h x hx;unfold bZ at this;show -1099511627776<=x/\x<=1099511627776;omega
def I1{m:ah}{p:Pr}(hp:gL m p=true):∀ x∈p.aD,bZ x:=λx hx=>by
 unfold gL at hp;simp only[bk,kz,List.any_eq_false]at hp;have:=hp.2 _ hx;rw[pX]at this;simp only[bk,kz,decide_eq_true_eq,not_and,Bool.not_eq_false]at this;by_cases hz:x=0
 ·subst hz;unfold bZ;decide
 ·exact mD (this hz)
def kU{α β:Type}[Inhabited α][Inhabited β](f:α->β)(l:List α)(i:Nat)(h:i<l.length):(l.map f).getD i default=f (l.getD i default):=by
 rw[aG,b6,aG,bT h];rfl
def YV{m:ah}(hm:VM m):LG m 1099511627776 (S0 m,T0 m):=by
 refine⟨by simp[S0],by simp[T0],λi hi=>?_,λi hi=>?_,λr hr=>?_,λr hr=>?_⟩
 ·show((S0 m).getD i default).length=_;rw[S0,kU _ _ _ hi];simp[ep,iy]
 ·show((T0 m).getD i default).length=_;rw[T0,kU _ _ _ hi];simp[ep]
 ·obtain⟨l,hl,rfl⟩:=cC.1 hr;refine YU λx hx=>?_;obtain⟨o,ho,rfl⟩:=cC.1 hx;exact IV (hm.oB l hl o ho)
 ·obtain⟨p,hp,rfl⟩:=cC.1 hr;exact YU (I1 (jy hm.pr p hp))
def I2{m:ah}(hm:VM m)(l:List Mv)(hl:∀ x∈l,j5 m x=true):LG m (1099511627776+268435456*25*l.length) (j7 m l (S0 m,T0 m)):=by
 have key:∀ (l:List Mv) (B:Int) (g:Lg),0<=B->(∀ x∈l,j5 m x=true)->LG m B g->LG m (B+268435456*25*l.length) (j7 m l g):=by
  intro l
  induction l with
  |nil=>intro B g _ _ h;simpa [j7] using h
  |cons x r ih =>
   intro B g hB hx h;have h1:=YT hm hB h (hx x G9);have h2:=ih _ _ G3 (λy hy=>hx y (by simp[hy])) h1;show LG m _ (j7 m r (kl m x g));have e:B+268435456*25+268435456*25*(r.length:Int)=B+268435456*25*((x::r).length:Int):=by simp only[eu];omega
   rw[e]at h2;exact h2
 exact key l _ _ Kq hl (YV hm)
def Fp{B:Int}:∀ (l:List Nm) (s:List Bool) (b:Int×Bool),NB B l->(-B<=b.1/\b.1<=B)->-B<=(eV l s b).1/\(eV l s b).1<=B
 |[],s,b,_,hb=>by cases s<;>exact hb
 |p::r,[],b,_,hb=>hb
 |p::r,is::s,b,h,hb=>by
  rw[eV];refine Fp r s _ (λq hq=>h q (by simp[hq])) ?_;have:=h p G9;split
  ·exact this
  ·exact hb
def zz{B:Int}:∀ (l:List (Int×Bool)) (z:Int×Bool),(∀ p∈l,-B<=p.1/\p.1<=B)->z.1-B*l.length<=(ca l z).1/\(ca l z).1<=z.1+B*l.length
 |[],z,_=>by show z.1-_<=z.1/\z.1<=z.1+_;simp
 |p::r,z,h=>by
  have h1:=zz r (z.1+p.1,z.2||!p.2) λq hq=>h q (by simp[hq]);have h2:=h p G9;show _<=(ca r (z.1+p.1,z.2||!p.2)).1/\_;rw[eu,BV,Int.mul_add];dsimp only at h1;simp only[G',Int.mul_one];show z.1-(B*r.length+B)<=(ca r (z.1+p.1,z.2||!p.2)).1/\(ca r (z.1+p.1,z.2||!p.2)).1<=z.1+(B*r.length+B);omega
def mH:Int:=1099511627776+268435456*25*2000
def M5{left:List (List Bool)}{S:List (List Nm)}{B:Int}(hB:0<=B)(h:∀ r∈S,NB B r)(n:Nat):∀ p∈PC left S n,-B<=p.1/\p.1<=B:=λp hp=>by
 obtain⟨i,_,rfl⟩:=cC.1 hp;exact Fp _ _ _ (ug h i) Kw
def M6{m:ah}{left:List (List Bool)}{T:List (List Nm)}{B:Int}(hB:0<=B)(h:∀ r∈T,NB B r)(n:Nat):∀ p∈PP m left T n,-B<=p.1/\p.1<=B:=λp hp=>by
 obtain⟨i,_,rfl⟩:=cC.1 hp;exact Fp _ _ _ (ug h i) Kw
def YW(most b8 n:Int)(hm:0<=most)(hp:0<=b8):0<=mz most b8 n/\mz most b8 n<=1099511627776:=by
 unfold mz;split
 ·omega
 ·have:=Int.mul_nonneg (show 0<=n-most by omega) hp;omega
def ahh{m:ah}(hm:VM m)(i:Nat):0<=(m.ax.getD i default).most/\0<=(m.ax.getD i default).b8:=by
 rcases fN i m.ax.length with hi|hi
 ·obtain⟨_,h2,h3,_⟩:=nG (hm.ct _ (aB (d:=default) hi));exact⟨h2.1,(mD h3).1⟩
 ·rw[aG,ei hi];decide
def M7{m:ah}(hm:VM m){left:List (List Bool)}(n:Nat):∀ p∈PK m left n,-1099511627776<=p.1/\p.1<=1099511627776:=λp hp=>by
 obtain⟨i,_,rfl⟩:=cC.1 hp;have:=ahh hm i;have:=YW (m.ax.getD i default).most (m.ax.getD i default).b8 (kT (m.ax.getD i default).aJ 0 left 0) this.1 this.2;unfold jZ;dsimp only;omega
def CT(left:List (List Bool))(S:List (List Nm))(n:Nat):(PC left S n).length=n:=by simp[PC]
def Fq(m:ah)(left:List (List Bool))(S:List (List Nm))(n:Nat):(PP m left S n).length=n:=by simp[PP]
def I3(m:ah)(left:List (List Bool))(n:Nat):(PK m left n).length=n:=by simp[PK]
def ahi(a:List Bool)(x:Bool)(b:List Bool):rZ (a++[x]) b=rZ a b++b.map (x && ·):=by unfold rZ;rw[List.flatMap_append];simp
def Fs(b:List Bool):∀ a:List Bool,(rZ a b).length=a.length*b.length
 |[]=>by simp[rZ]
 |x::r=>by
  show((b.map (x && ·))++rZ r b).length=_;rw[bQ,Fs b r,eO,eu,gj];omega
def LO.aH{α:Type}{enc:α->List AV}{B:List (Nat×Ob)}{D E:List (Nat×Nat)}{S T:List (List α)}{os ob:List Ob}(h:LO enc B D E S T os)(k:iL os ob):LO enc B D E S T ob :=
 ⟨λb hb=>⟨k _ _ (h.base b hb).1,(h.base b hb).2⟩,⟨h.rD.len,λj hj=>⟨k _ _ (h.rD.row j hj).1,(h.rD.row j hj).2⟩⟩,⟨h.rE.len,λj hj=>⟨k _ _ (h.rE.row j hj).1,(h.rE.row j hj).2⟩⟩,h.nd⟩
def iL.trans{a b c:List Ob}(h:iL a b)(k:iL b c):iL a c:=λi o hi=>k i o (h i o hi)
def M8(b:List Bool):∀ (a:List Bool) (n:Nat),n<a.length*b.length->(rZ a b).getD n false=(a.getD (n/b.length) false&&b.getD (n%b.length) false)
 |[],n,h=>by simp at h
 |x::r,n,h=>by
  have hb:0<b.length:=by
   rcases n7 b.length with h0|h0
   ·rw[h0]at h;omega
   ·exact h0
  show((b.map (x && ·))++rZ r b).getD n false=_;rcases fN n b.length with hn|hn
  ·rw[Nat.div_eq_of_lt hn,Nat.mod_eq_of_lt hn,jh,aG,dg (by simpa using hn),b6,bT hn,aG,bT hn];rfl
  ·obtain⟨k,rfl⟩ :∃k,n=k+b.length:=⟨n-b.length,G3⟩;have ih:=M8 b r k (by rw[eu,gj]at h;omega);rw[aG,fO (by simpa using hn),eO,Nat.add_sub_cancel,<- aG,ih,Nat.add_div_right _ hb,Nat.add_mod_right,gN]
def wH(q:Int×Bool):Nm:=(q.1,!q.2)
def YX(l:List Nm)(s:List Bool):uf (ki l s)=wH (eV l s (0,false)):=ahb l s
def ye(m:ah)(left:List (List Bool))(g:Lg):List (Int×Bool):=PC left g.1 m.cls.length++PP m left g.2 m.ae.length++PK m left m.ax.length
def YY(a b:List (Int×Bool))(z:Int×Bool):ca (a++b) z=ca b (ca a z):=by unfold ca;rw[DV]
def ahj(m:ah)(left:List (List Bool))(g:Lg):r8 m left g=if(ca (ye m left g) (0,false)).2=true then 1099511627776 else min (ca (ye m left g) (0,false)).1 1099511627776:=by
 unfold r8 ye;rw[YY,YY]
def Ft:∀ (l:List (Int×Bool)) (n:Int),(ca l (n,true)).2=true
 |[],_=>rfl
 |p::r,n=>Ft r _
def YZ:∀ (l:List (Int×Bool)) (n:Int),(ca l (n,false)).2=true↔∃ p∈l,p.2=false
 |[],_=>by simp[ca]
 |p::r,n=>by
  show(ca r (n+p.1,false||!p.2)).2=true↔_;cases hp:p.2 with
  |false =>
   simp only[Bool.not_false,Bool.or_true];exact⟨λ_=>⟨p,G9,hp⟩,λ_=>Ft r _⟩
  |true =>
   simp only[Bool.not_true,Bool.or_false];rw[YZ r];constructor
   ·rintro⟨q,hq,h⟩;exact⟨q,by simp[hq],h⟩
   ·rintro⟨q,hq,h⟩;rcases cu.1 hq with rfl|hq
    ·rw[hp]at h;cases h
    ·exact⟨q,hq,h⟩
def ahk{m:ah}(hm:VM m){left:List (List Bool)}(hl:left.length=m.cls.length){c:Ct}(hc:c∈m.ax)(hw:∀ x∈c.aJ,1<=x.wt/\x.wt<=1000):decide (1099511627776<=jZ left c)=(decide (c.b8=1099511627776)&&decide (0<jZ left c)):=by
 obtain⟨_,h2,h3,_⟩:=nG (hm.ct c hc);have hs:=Fa hw left;have bY:=hm.cls;have hp:1<=c.b8/\c.b8<=1048576\/c.b8=1099511627776:=by unfold jH at h3;rw[decide_eq_true_eq]at h3;omega
 unfold jZ mz;generalize kT c.aJ 0 left 0=n at *;rw[Bool.eq_iff_iff,bk,decide_eq_true_eq,decide_eq_true_eq,decide_eq_true_eq];split
 ·omega
 ·rcases hp with hp|hp
  ·have:(n-c.most)*c.b8<=24000*1048576:=Int.mul_le_mul G3 hp.2 G3 G3;omega
  ·rw[hp];omega
def M9:∀ (l:List Nm) (s:List Bool),(ki l s).length<=l.length
 |[],s=>by cases s<;>simp[ki]
 |p::r,[]=>by simp[ki]
 |p::r,is::s=>by
  rw[ki,bQ,eu];have:=M9 r s;split<;>simp<;>omega
structure Sat(R:Int)(out:List Int)(v:Int):Prop where
 ok:je R out
 v0:0<=v
 eq:min (lz out) 1099511627776=min v 1099511627776
def Y1:∀ (l:List Int) (i:Nat) (x:Int),i<l.length->lz (l.set i x)=lz l-l.getD i 0+x
 |[],i,x,h=>by simp at h
 |y::r,0,x,_=>by simp only[List.set_cons_zero,lz,jh];omega
 |y::r,i+1,x,h=>by
  have:=Y1 r i x (by simpa using h);simp only[List.set_cons_succ,lz,gN];omega
def Sat.add{R:Int}{out:List Int}{v r d:Int}(h:Sat R out v)(hr:0<=r/\r<R)(hd:bZ d):Sat R (fI out r d) (v+d):=by
 have hlen:=h.ok.1;have hi:r.toNat<out.length:=G3;have hs:=Mo h.ok.2 _ (aB (d:=(0:Int)) hi);have iq:=Y1 out r.toNat (fl (out.getD r.toNat 0) d) hi;have hg:=h.ok.get r.toNat;have he:=h.eq;have hv:=h.v0;unfold bZ at hg;have wI:=hd;unfold bZ at wI;refine⟨h.ok.add hd,G3,?_⟩;unfold fI;rw[iq];unfold fl;omega
def Sat.le{R:Int}{out:List Int}{v w:Int}(h:Sat R out v)(hw:0<=w)(e:min v 1099511627776=min w 1099511627776):Sat R out w:=⟨h.ok,hw,h.eq.trans e⟩
def Y2{R:Int}:∀ (l:List (Int×Int)) (out:List Int) (v n:Int),(∀ c∈l,jI R c.1=true/\jH c.2=true)->0<=v->bZ n->Sat R out (v+n)->Sat R (rO l out) (v+(l.map (·.2)).foldl fl n)
 |[],out,v,n,_,_,_,h=>h
 |c::r,out,v,n,hc,hv,eA,h=>by
  rw[rO];have h1:=hc c G9;have hr:=h1.1;rw[jI,decide_eq_true_eq]at hr;have hp:=mD h1.2;have h2:=h.add hr hp;refine Y2 r _ v (fl n c.2) (λx hx=>hc x (by simp[hx])) hv (AO eA hp) (h2.le ?_ ?_)
  ·have:=AO eA hp;unfold bZ at this;omega
  ·unfold bZ at hp eA;unfold fl;omega
def Y3{m:ah}(hm:VM m):∀ (plan:List Int) (i:Nat) (out:List Int) (v:Int),(∀ j,j<plan.length->eU m ((i+j:Nat):Int) (plan.getD j 0)=true) ->
  Sat m.rules out v->Sat m.rules (rP m i plan out) (v+cd (λj=>sY ((m.cls.getD (i+j) default).getD (plan.getD j 0).toNat default)) plan.length)
 |[],i,out,v,_,h=>by show Sat m.rules out (v+0);rw[P3];exact h
 |o::r,i,out,v,hg,h=>by
  rw[rP];have h0:=hg 0 G9;rw[jh,iY]at h0;obtain⟨b1,b2,b3,b4⟩:=iv.1 h0;rw[ig]at b4;rw[if_neg G3];have hl:=aB (l:=m.cls) (i:=i) (d:=default) G3;have ho:=aB (l:=m.cls.getD i default) (i:=o.toNat) (d:=default) G3;have fC:=hm.oB _ hl _ ho;have h1:=Y2 _ out v 0 (AP fC) h.v0 (by unfold bZ;decide) (by rw[P3];exact h);have h2:=Y3 hm r (i+1) _ _ (λj hj=>by
   have:=hg (j+1) (by simpa using hj);rwa [gN,show i+(j+1)=i+1+j by omega]at this) h1
  rw[eu,zu];simp only[jh,gN,iY];rw[<- Int.add_assoc];rw[jA (g:=λj=>sY ((m.cls.getD (i+(j+1)) default).getD (r.getD j 0).toNat default)) r.length λj _=>by rw[show i+1+j=i+(j+1) by omega]]at h2;exact h2
def uh(m:ah)(plan:List Int)(p:Pr):Int:=o9 m p (plan.getD p.fst.toNat 0) (plan.getD p.snd.toNat 0)
def Y4{m:ah}{plan:List Int}(hp:FP m plan):∀ (l:List Pr) (out:List Int) (v:Int),(∀ p∈l,gL m p=true)->Sat m.rules out v ->
  Sat m.rules (rQ m plan l out) (v+cd (λi=>uh m plan (l.getD i default)) l.length)
 |[],out,v,_,h=>by show Sat m.rules out (v+0);rw[P3];exact h
 |p::r,out,v,hg,h=>by
  rw[rQ];have dJ:=hg p G9;obtain⟨q1,q2,q3,q4,q5⟩:=m4 dJ;have dh:=hp.len;have g1:=hp.get p.fst.toNat G3;have g2:=hp.get p.snd.toNat G3;have a1:=iv.1 g1;have a2:=iv.1 g2;rw[if_pos ⟨a1.2.2.1,a2.2.2.1⟩];have h2:=Y4 hp r _ _ (λx hx=>hg x (by simp[hx])) (h.add q1 (EW dJ (plan.getD p.fst.toNat 0) (plan.getD p.snd.toNat 0)));rw[eu,zu];simp only[jh,gN];rw[<- Int.add_assoc];exact h2
def ui(plan:List Int)(c:Ct):Int:=mz c.most c.b8 (ly plan c.aJ 0)
def Y5{m:ah}{plan:List Int}:∀ (l:List Ct) (out:List Int) (v:Int),(∀ c∈l,iW m c=true)->Sat m.rules out v ->
  Sat m.rules (rR plan l out) (v+cd (λi=>ui plan (l.getD i default)) l.length)
 |[],out,v,_,h=>by show Sat m.rules out (v+0);rw[P3];exact h
 |c::r,out,v,hg,h=>by
  rw[rR];obtain⟨q1,q2,q3,q4⟩:=nG (hg c G9);have h2:=Y5 (plan:=plan) r _ _ (λx hx=>hg x (by simp[hx])) (h.add q1 (EV (most:=c.most) (sum:=ly plan c.aJ 0) (mD q3)));rw[eu,zu];simp only[jh,gN];rw[<- Int.add_assoc];exact h2
def wJ(m:ah)(plan:List Int)(j:Nat):Int:=sY ((m.cls.getD j default).getD (plan.getD j 0).toNat default)
def ahl{m:ah}{plan:List Int}(hv:VM m)(hp:FP m plan):mC (mZ m plan) 0 =
  min (cd (wJ m plan) m.cls.length+cd (λi=>uh m plan (m.ae.getD i default)) m.ae.length+cd (λi=>ui plan (m.ax.getD i default)) m.ax.length) 1099511627776:=by
 have h0:Sat m.rules (bG m.rules.toNat 0) 0:=by
  refine⟨je.rep hv.iI.1,Kq,?_⟩;have:∀ k,lz (bG k 0)=0:=by
   intro k
   induction k with
   |zero=>rfl
   |succ k ih=>rw[List.replicate_succ,lz,ih];rfl
  rw[this]
 have h1:=Y3 hv plan 0 _ _ (λj hj=>by rw[gf];exact hp.get j hj) h0;have h2:=Y4 hp m.ae _ _ (jy hv.pr) h1;have h3:=Y5 (plan:=plan) m.ax _ _ hv.ct h2;have Fu:=T' (T9 hv plan).2 (n:=0) (by unfold bZ;decide);have he:=h3.eq;change min (lz (mZ m plan)) _=_ at he;rw[Fu,BX,he,BX,hp.len];simp only[gf];rfl
end T

