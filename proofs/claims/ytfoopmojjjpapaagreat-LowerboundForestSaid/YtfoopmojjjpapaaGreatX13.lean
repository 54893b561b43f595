import Derived.Test.YtfoopmojjjpapaaGreatX11
import Derived.Test.YtfoopmojjjpapaaGreatX12
set_option linter.all false
set_option maxHeartbeats 0
set_option maxRecDepth 20000
open Int renaming natCast_add→y7,cast_ofNat_Int→Fv,zero_add→y8,toNat_of_nonneg→u5,toNat_natCast→cF,add_zero→C0,add_assoc→O4
open List renaming length_cons→cV,getD_cons_zero→gA,getD_cons_succ→eS,mem_cons→a8,mem_append→da,mem_singleton→dI,map_append→dJ,nodup_append→oU,mem_map→b6,map_cons→fF,map_nil→mf,map_map→wI,map_congr_left→tI,mem_iff_getElem→wD,getElem_inj→Jf,getElem_map→CX,getD_eq_getElem?_getD→az,getElem?_eq_getElem→bS,not_mem_nil→iJ,foldl_append→yZ,foldl_nil→yY,getElem?_append_right→gN,getElem?_append_left→er,getElem?_eq_some_iff→aT,getElem?_set_ne→fN,getElem?_set→bU,getElem?_eq_none→fY,length_set→bH,map_set→wH,range→aY,mem_or_eq_of_mem_set→tK,getElem?_map→bY,length_append→bI,length_map→eu,replicate→aI
open Nat renaming add_zero→il,zero_add→gq,eq_zero_or_pos→pU,lt_or_ge→dw,add_mul→eT
open Option renaming getD_some→pQ
open Bool renaming and_eq_true→a7,not_eq_true'→lg
open Go Go.Am
namespace T
def fM:List Ld->Int->Int->Int->Int
 |[],_,_,w=>w
 |x::r,c,o,w=>fM r c o (if x.cls=c/\x.opt=o then x.wt else w)
def dG(l:List Ld)(c:Int):Nat->List Bool->Int->Int
 |_,[],b=>b
 |o,is::r,b=>dG l c (o+1) r (if is=true/\(b<0\/fM l c o 0<b) then fM l c o 0 else b)
def lY(l:List Ld)(c:Int)(row:List Bool):Int:=max (dG l c 0 row (-1)) 0
def j5(l:List Ld):Nat->List (List Bool)->Int->Int
 |_,[],n=>n
 |i,row::r,n=>j5 l (i+1) r (n+lY l i row)
def iW(left:List (List Bool))(c:Ct):Int:=k0 c.most c.cI (j5 c.a6 0 left 0)
def VE(l:List Ld)(x:Ld)(c o:Int):∀ w,fM (l++[x]) c o w=if x.cls=c/\x.opt=o then x.wt else fM l c o w:=by
 induction l with
 |nil=>intro w;rfl
 |cons y r ih=>intro w;exact ih _
def Mf:∀ {l:List Ld} {c:Int} (o w:Int),(∀ x∈l,x.cls≠c)->fM l c o w=w
 |[],_,_,_,_=>rfl
 |x::r,c,o,w,h=>by
  rw[fM,if_neg (λe=>h x Fl e.1)];exact Mf o w λy hy=>h y (by simp[hy])
def yA{l:List Ld}(h:∀ x∈l,1<=x.wt/\x.wt<=1000)(c o:Int):∀ w,0<=w/\w<=1000->0<=fM l c o w/\fM l c o w<=1000:=by
 induction l with
 |nil=>intro w hw;exact hw
 |cons x r ih =>
  intro w hw;rw[fM];refine ih (λy hy=>h y (by simp[hy])) _ ?_;have:=h x Fl;split<;>omega
def VF{l:List Ld}{c:Int}(h:∀ x∈l,x.cls≠c):∀ (row:List Bool) (o:Nat) (b:Int),-1<=b/\b<=0->-1<=dG l c o row b/\dG l c o row b<=0
 |[],_,b,hb=>hb
 |is::r,o,b,hb=>by
  rw[dG];refine VF h r (o+1) _ ?_;rw[Mf _ _ h];split<;>omega
def VG{l:List Ld}{c:Int}(h:∀ x∈l,x.cls≠c)(row:List Bool):lY l c row=0:=by
 have:=VF h row 0 (-1) CZ;unfold lY;omega
def HD{l:List Ld}(h:∀ x∈l,1<=x.wt/\x.wt<=1000)(c:Int):∀ (row:List Bool) (o:Nat) (b:Int),-1<=b/\b<=1000->-1<=dG l c o row b/\dG l c o row b<=1000
 |[],_,b,hb=>hb
 |is::r,o,b,hb=>by
  rw[dG];refine HD h c r (o+1) _ ?_;have:=yA h c o 0 CZ;split<;>omega
def VH{l:List Ld}(h:∀ x∈l,1<=x.wt/\x.wt<=1000)(c:Int)(row:List Bool):0<=lY l c row/\lY l c row<=1000:=by
 have:=HD h c row 0 (-1) CZ;unfold lY;omega
def bu(f:Nat->Int):Nat->Int
 |0=>0
 |n+1=>bu f n+f n
def iX{f g:Nat->Int}:∀ (n:Nat),(∀ i<n,f i=g i)->bu f n=bu g n
 |0,_=>rfl
 |n+1,h=>by rw[bu,bu,iX n λi hi=>h i CZ,h n CZ]
def Ee{f:Nat->Int}{B:Int}:∀ (n:Nat),(∀ i<n,0<=f i/\f i<=B)->0<=bu f n/\bu f n<=B*n
 |0,_=>by simp[bu]
 |n+1,h=>by
  have h1:=Ee n λi hi=>h i CZ;have h2:=h n CZ;rw[bu,y7,Int.mul_add];simp only[Fv,Int.mul_one];omega
def yB(f:Nat->Int)(k:Nat)(v:Int):∀ (n:Nat),bu (λi=>if i=k then f i+v else f i) n=bu f n+if k<n then v else 0
 |0=>by simp[bu]
 |n+1=>by
  rw[bu,bu,yB f k v n];by_cases h:n=k
  ·subst h;rw[if_pos rfl,if_neg CZ,if_pos CZ];omega
  ·rw[if_neg h];by_cases h2:k<n
   ·rw[if_pos h2,if_pos CZ];omega
   ·rw[if_neg h2,if_neg CZ];omega
def yC(f:Nat->Int):∀ n,bu f (n+1)=f 0+bu (λi=>f (i+1)) n
 |0=>by simp[bu]
 |n+1=>by rw[bu,yC f n,bu];omega
def BX(l:List Ld):∀ (left:List (List Bool)) (i:Nat) (n:Int),j5 l i left n=n+bu (λj=>lY l (i+j:Nat) (left.getD j [])) left.length
 |[],i,n=>by simp[j5,bu]
 |row::r,i,n=>by
  rw[j5,BX l r (i+1),cV,yC];simp only[gA,eS,il];rw[iX (g:=λj=>lY l (i+(j+1):Nat) (r.getD j [])) r.length λj _=>by rw[show i+1+j=i+(j+1) by omega]];omega
def Ef{l:List Ld}(h:∀ x∈l,1<=x.wt/\x.wt<=1000)(left:List (List Bool)):0<=j5 l 0 left 0/\j5 l 0 left 0<=1000*left.length:=by
 rw[BX,y8];exact Ee _ λi _=>VH h _ _
abbrev mA:=Int×Nat×List (Int×Int)
def vE(es:List (Int×Int)):List (Int×Value):=es.map λp=>(p.1,.int .i64 p.2)
def gE(A:List mA):List (Int×Value):=A.map λe=>(e.1,.map (some e.2.1))
def Ag(o w:Int):List (Int×Int)->List (Int×Int)
 |[]=>[(o,w)]
 |p::r=>if p.1=o then(o,w)::r else p::Ag o w r
def vR(o:Int):List (Int×Int)->Int
 |[]=>0
 |p::r=>if p.1=o then p.2 else vR o r
def VI(o w:Int):∀ es,ki o (.int .i64 w) (vE es)=vE (Ag o w es)
 |[]=>rfl
 |p::r=>by
  show ki o _ ((p.1,Value.int .i64 p.2)::vE r)=_;rw[ki,Ag];by_cases h:p.1=o
  ·rw[if_pos h,if_pos h];rfl
  ·rw[if_neg h,if_neg h,VI o w r];rfl
def VJ(o:Int):∀ es,(nj o (vE es)).getD (.int .i64 0)=.int .i64 (vR o es)
 |[]=>rfl
 |p::r=>by
  show(nj o ((p.1,Value.int .i64 p.2)::vE r)).getD _=_;rw[nj,vR];by_cases h:p.1=o
  ·rw[if_pos h,if_pos h];rfl
  ·rw[if_neg h,if_neg h,VJ o r]
def VK(o w x:Int):∀ es,vR x (Ag o w es)=if o=x then w else vR x es
 |[]=>rfl
 |p::r=>by
  rw[Ag];by_cases h:p.1=o
  ·rw[if_pos h,vR,vR];by_cases h2:o=x
   ·rw[if_pos h2,if_pos h2]
   ·rw[if_neg h2,if_neg h2,if_neg CZ]
  ·rw[if_neg h,vR,vR,VK o w x r];by_cases h2:p.1=x
   ·rw[if_pos h2,if_neg CZ,if_pos h2]
   ·rw[if_neg h2,if_neg h2]
def Mg(c:Int):∀ A:List mA,(nj c (gE A)=none/\∀ e∈A,e.1≠c)\/∃ e∈A,e.1=c/\nj c (gE A)=some (.map (some e.2.1))
 |[]=>.inl ⟨rfl,Fl⟩
 |e::r=>by
  show(nj c ((e.1,Value.map (some e.2.1))::gE r)=none/\_)\/_;by_cases h:e.1=c
  ·right;refine⟨e,Fl,h,?_⟩;show nj c ((e.1,Value.map (some e.2.1))::gE r)=_;rw[nj,if_pos h]
  ·rcases Mg c r with⟨h1,h2⟩|⟨e',h1,h2,h3⟩
   ·left;refine⟨by rw[nj,if_neg h];exact h1,λx hx=>?_⟩;rcases a8.1 hx with rfl|hx
    ·exact h
    ·exact h2 x hx
   ·right;refine⟨e',by simp[h1],h2,?_⟩;show nj c ((e.1,Value.map (some e.2.1))::gE r)=_;rw[nj,if_neg h];exact h3
def VL(c:Int)(b:Nat):∀ A:List mA,(∀ e∈A,e.1≠c)->ki c (.map (some b)) (gE A)=gE (A++[(c,b,[])])
 |[],_=>rfl
 |e::r,h=>by
  show ki c _ ((e.1,Value.map (some e.2.1))::gE r)=_;rw[ki,if_neg (h e Fl),VL c b r λx hx=>h x (by simp[hx])];rfl
structure GI(R:Nat)(dn:List Ld)(A:List mA)(b0:Nat)(μ:Mem):Prop where
 top:μ b0=some (.map (iE (gE A)))
 sub:∀ e∈A,μ e.2.1=some (.map (iE (vE e.2.2)))
 BY:∀ e∈A,e.2.1≠b0
 inj:∀ e∈A,∀ e'∈A,e.2.1=e'.2.1->e=e'
 keys:(A.map (·.1)).Nodup
 val:∀ e∈A,∀ o,vR o e.2.2=fM dn e.1 o 0
 has:∀ x∈dn,∃ e∈A,e.1=x.cls
 qL:∀ e∈A,0<=e.1/\e.1<R
def GI.nil{R b0:Nat}{μ:Mem}(h:μ b0=some (.map [])):GI R [] [] b0 μ:=⟨h,Fl,Fl,Fl,Fl,Fl,Fl,Fl⟩
def GI.new{R:Nat}{dn:List Ld}{A:List mA}{b0:Nat}{μ:Mem}(h:GI R dn A b0 μ){c:Int}(hcR:0<=c/\c<R)(hc:∀ e∈A,e.1≠c){b:Nat}(hb:μ b=none):GI R dn (A++[(c,b,[])]) b0 (gY (gY μ b (.map [])) b0 (.map (iE (ki c (.map (some b)) (gE A))))):=by
 have pA:b≠b0:=λe=>by rw[e,h.top]at hb;cases hb
 have rf:∀ e∈A,e.2.1≠b:=λe he e2=>by have:=h.sub e he;rw[e2,hb]at this;cases this
 refine⟨by rw[rq,VL c b A hc],λe he=>?_,λe he=>?_,λe he e' qM hh=>?_,?_,λe he o=>?_,λx hx=>?_,λe he=>?_⟩
 ·rcases da.1 he with he|he
  ·rw[pC _ _ (h.BY e he),pC _ _ (rf e he)];exact h.sub e he
  ·simp only[dI]at he;subst he;rw[pC _ _ pA,rq];rfl
 ·rcases da.1 he with he|he
  ·exact h.BY e he
  ·simp only[dI]at he;subst he;exact pA
 ·rcases da.1 he with he|he<;>rcases da.1 qM with qM|qM
  ·exact h.inj e he e' qM hh
  ·simp only[dI]at qM;subst qM;exact absurd hh (rf e he)
  ·simp only[dI]at he;subst he;exact absurd hh.symm (rf e' qM)
  ·simp only[dI]at he qM;rw[he,qM]
 ·rw[dJ,oU];refine⟨h.keys,Fl,λa ha b' aV=>?_⟩;obtain⟨e,he,rfl⟩:=b6.1 ha;simp only[fF,mf,dI]at aV;rw[aV];exact hc e he
 ·rcases da.1 he with he|he
  ·exact h.val e he o
  ·simp only[dI]at he;subst he;rw[Mf]
   ·rfl
   ·intro x hx uk;obtain⟨e,he,xl⟩:=h.has x hx;exact hc e he (xl.trans uk)
 ·obtain⟨e,he,xl⟩:=h.has x hx;exact⟨e,List.mem_append_left _ he,xl⟩
 ·rcases da.1 he with he|he
  ·exact h.qL e he
  ·simp only[dI]at he;subst he;exact hcR
def eU(c o w:Int)(A:List mA):List mA:=A.map λe=>if e.1=c then(e.1,e.2.1,Ag o w e.2.2) else e
def aid(c o w:Int)(A:List mA):gE (eU c o w A)=gE A:=by
 unfold gE eU;rw[wI];refine tI λe _=>?_;simp only[Function.comp];split<;>rfl
def GI.put{R:Nat}{dn:List Ld}{A:List mA}{b0:Nat}{μ:Mem}(h:GI R dn A b0 μ){x:Ld}{e0:mA}(ph:e0∈A)(hc:e0.1=x.cls):GI R (dn++[x]) (eU x.cls x.opt x.wt A) b0 (gY μ e0.2.1 (.map (iE (ki x.opt (.int .i64 x.wt) (vE e0.2.2))))):=by
 have uniq:∀ e∈A,e.1=x.cls->e=e0:=λe he hh=>by
  have hk:=h.keys;obtain⟨i,hi,rfl⟩:=wD.1 he;obtain⟨j,hj,rfl⟩:=wD.1 ph;have:i=j:=(Jf (h₀:=by simpa using hi) (h₁:=by simpa using hj) hk).1 (by simp only[CX];rw[hh,hc]);subst this;rfl
 have one:∀ e∈eU x.cls x.opt x.wt A,(e=(e0.1,e0.2.1,Ag x.opt x.wt e0.2.2))\/(e∈A/\e.1≠x.cls):=λe he=>by
  obtain⟨e',qM,rfl⟩:=b6.1 he;by_cases hh:e'.1=x.cls
  ·left;rw[if_pos hh,uniq e' qM hh]
  ·right;rw[if_neg hh];exact⟨qM,hh⟩
 have rf:∀ e∈A,e.1≠x.cls->e.2.1≠e0.2.1:=λe he hh e2=>hh (by rw[h.inj e he e0 ph e2,hc]);refine⟨by rw[pC _ _ (h.BY e0 ph).symm,aid];exact h.top,λe he=>?_,λe he=>?_,λe he e' qM hh=>?_,?_,λe he o=>?_,λy hy=>?_,λe he=>?_⟩
 ·rcases one e he with rfl|⟨h1,h2⟩
  ·rw[rq,VI]
  ·rw[pC _ _ (rf e h1 h2)];exact h.sub e h1
 ·rcases one e he with rfl|⟨h1,h2⟩
  ·exact h.BY e0 ph
  ·exact h.BY e h1
 ·rcases one e he with rfl|⟨h1,h2⟩<;>rcases one e' qM with rfl|⟨h3,h4⟩
  ·rfl
  ·exact absurd hh.symm (rf e' h3 h4)
  ·exact absurd hh (rf e h1 h2)
  ·exact h.inj e h1 e' h3 hh
 ·have:(eU x.cls x.opt x.wt A).map (·.1)=A.map (·.1):=by
   unfold eU;rw[wI];refine tI λe _=>?_;simp only[Function.comp];split<;>rfl
  rw[this];exact h.keys
 ·rw[VE];rcases one e he with rfl|⟨h1,h2⟩
  ·dsimp only;rw[VK,h.val e0 ph o];by_cases ho:x.opt=o
   ·rw[if_pos ho,if_pos ⟨hc.symm,ho⟩]
   ·rw[if_neg ho,if_neg (λe=>ho e.2)]
  ·rw[if_neg (λe=>h2 e.1.symm)];exact h.val e h1 o
 ·have mem:∀ e∈A,∃ e'∈eU x.cls x.opt x.wt A,e'.1=e.1:=λe he=>⟨_,List.mem_map_of_mem he,by split<;>rfl⟩;rcases da.1 hy with hy|hy
  ·obtain⟨e,he,xl⟩:=h.has y hy;obtain⟨e',k1,k2⟩:=mem e he;exact⟨e',k1,k2.trans xl⟩
  ·simp only[dI]at hy;subst hy;obtain⟨e',k1,k2⟩:=mem e0 ph;exact⟨e',k1,k2.trans hc⟩
 ·rcases one e he with rfl|⟨h1,h2⟩
  ·exact h.qL e0 ph
  ·exact h.qL e h1
def yD(f:Int->Int):List mA->Int
 |[]=>0
 |e::r=>f e.1+yD f r
def Mh(f:Int->Int)(n:Nat):∀ A:List mA,(A.map (·.1)).Nodup->(∀ e∈A,0<=e.1/\e.1<n)->yD f A=bu (λi=>if∃e∈A,e.1=(i:Int) then f i else 0) n
 |[],_,_=>by
  rw[iX (g:=λ_=>0) n (λi _=>Fl)];have:∀ n,bu (λ_=>0) n=0:=λn=>by induction n with|zero=>rfl|succ n ih=>rw[bu,ih];rfl
  rw[this];rfl
 |e::r,hn,hr=>by
  rw[fF,List.nodup_cons]at hn;rw[yD,Mh f n r hn.2 λx hx=>hr x (by simp[hx])];have h0:=hr e Fl;have aie:¬∃x∈r,x.1=((e.1.toNat:Nat):Int):=by
   rintro⟨x,hx,hh⟩;rw[u5 h0.1]at hh;exact hn.1 (b6.2 ⟨x,hx,hh⟩)
  have:=yB (λi=>if∃x∈r,x.1=(i:Int) then f i else 0) e.1.toNat (f e.1) n;rw[if_pos CZ]at this;rw[Int.add_comm,<- this];refine iX n λi hi=>?_;by_cases h:i=e.1.toNat
  ·subst h;rw[if_pos rfl,if_neg aie,if_pos ⟨e,Fl,CZ⟩,u5 h0.1];omega
  ·rw[if_neg h];have:(∃ x∈e::r,x.1=(i:Int))↔∃ x∈r,x.1=(i:Int):=by
    constructor
    ·rintro⟨x,hx,hh⟩;rcases a8.1 hx with rfl|hx
     ·omega
     ·exact⟨x,hx,hh⟩
    ·rintro⟨x,hx,hh⟩;exact⟨x,by simp[hx],hh⟩
   simp only[this]
def VN:∀ A:List mA,yD (λ_=>1) A=A.length
 |[]=>rfl
 |e::r=>by rw[yD,VN r,cV];omega
def GI.len{R:Nat}{dn:List Ld}{A:List mA}{b0:Nat}{μ:Mem}(h:GI R dn A b0 μ):A.length<=R:=by
 have h1:=Mh (λ_=>1) R A h.keys h.qL;rw[VN]at h1;have h2:=Ee (f:=λi=>if∃e∈A,e.1=(i:Int) then(1:Int) else 0) (B:=1) R λi _=>by split<;>omega
 omega
def GI.sum{dn:List Ld}{A:List mA}{b0:Nat}{μ:Mem}{left:List (List Bool)}(h:GI left.length dn A b0 μ):yD (λc=>lY dn c (left.getD c.toNat [])) A=j5 dn 0 left 0:=by
 rw[Mh _ left.length A h.keys h.qL,BX,y8];refine iX _ λi _=>?_;simp only[gq,cF];by_cases hh :∃e∈A,e.1=(i:Int)
 ·rw[if_pos hh]
 ·rw[if_neg hh,VG];intro x hx uk;obtain⟨e,he,xl⟩:=h.has x hx;exact hh ⟨e,he,xl.trans uk⟩
def vS(f:Nat->Int)(seen:List Nat)(n:Nat):Int:=bu (λi=>if i∈seen then f i else 0) n
def DP(seen:List Nat)(n:Nat):Nat:=(bu (λi=>if i∈seen then 0 else 1) n).toNat
def aif{f:Nat->Int}{seen:List Nat}{n j:Nat}(hj:j<n)(hs:j ∉ seen):vS f (seen++[j]) n=vS f seen n+f j:=by
 unfold vS;have:=yB (λi=>if i∈seen then f i else 0) j (f j) n;rw[if_pos hj]at this;rw[<- this];refine iX n λi _=>?_;by_cases h:i=j
 ·subst h;rw[if_pos Fl,if_pos rfl,if_neg hs];omega
 ·rw[if_neg h];simp[h]
def Uh{seen:List Nat}{n j:Nat}(hj:j<n)(hs:j ∉ seen):DP (seen++[j]) n<DP seen n:=by
 unfold DP;have h1:=yB (λi=>if i∈seen then(0:Int) else 1) j (-1) n;rw[if_pos hj]at h1;have h2:bu (λi=>if i∈seen++[j] then(0:Int) else 1) n=bu (λi=>if i=j then(if i∈seen then 0 else 1)+-1 else if i∈seen then 0 else 1) n:=by
  refine iX n λi _=>?_;by_cases h:i=j
  ·subst h;rw[if_pos Fl,if_pos rfl,if_neg hs];rfl
  ·rw[if_neg h];simp[h]
 have h3:=(Ee (f:=λi=>if i∈seen++[j] then(0:Int) else 1) (B:=1) n λi _=>by split<;>omega).1;omega
def aih{f:Nat->Int}{seen:List Nat}{n:Nat}(h:∀ j<n,j∈seen):vS f seen n=bu f n:=iX n λi hi=>if_pos (h i hi)
def aii(f:Nat->Int)(n:Nat):vS f [] n=0:=by
 unfold vS;rw[iX (g:=λ_=>0) n (λi _=>Fl)]
 induction n with|zero=>rfl|succ n ih=>rw[bu,ih];rfl
def VO(f:Int->Int):∀ A:List mA,bu (λj=>f (A.getD j (0,0,[])).1) A.length=yD f A
 |[]=>rfl
 |e::r=>by
  rw[cV,yC,yD];simp only[gA,eS];rw[VO f r]
def aij{f:Nat->Int}{B:Int}{seen:List Nat}{n:Nat}(hB:0<=B)(h:∀ i<n,0<=f i/\f i<=B):0<=vS f seen n/\vS f seen n<=B*n :=
 Ee n λi hi=>by have:=h i hi;split<;>omega
def VP(L:List (Int×Value))(j:Nat):(iE L)[j]?=L[j]?.map λp=>(.int .i64 p.1,p.2):=by simp[iE]
def VQ(A:List mA)(j:Nat):(gE A)[j]?=A[j]?.map λe=>(e.1,.map (some e.2.1)):=by simp[gE]
def HE(A:List mA):(iE (gE A)).length=A.length:=by simp[gE,iE]
def GI.other{R:Nat}{dn:List Ld}{A:List mA}{b0:Nat}{μ:Mem}(h:GI R dn A b0 μ){r:Nat}(g:Gh)(hr:∀ l,μ r≠some (.map l)):GI R dn A b0 (gY μ r g) :=
 ⟨by rw[pC _ _ (λe=>hr _ (e▸h.top))];exact h.top,λe he=>by rw[pC _ _ (λe2=>hr _ (e2▸h.sub e he))];exact h.sub e he,h.BY,h.inj,h.keys,h.val,h.has,h.qL⟩
def Mi(l:List Ld)(c:Int)(is:Bool):∀ (row:List Bool) (i:Nat) (b:Int),dG l c i (row++[is]) b =
  if is=true/\(dG l c i row b<0\/fM l c (i+row.length:Nat) 0<dG l c i row b) then fM l c (i+row.length:Nat) 0 else dG l c i row b
 |[],i,b=>rfl
 |x::r,i,b=>by
  show dG l c (i+1) (r++[is]) _=_;rw[Mi l c is r (i+1),dG,cV,show i+1+r.length=i+(r.length+1) by omega]
def cP(m:aj)(left:List (List Bool)):Prop:=left.length=m.cls.length/\∀ i,i<left.length->(left.getD i default).length=(m.cls.getD i default).length
instance (m:aj)(left:List (List Bool)):Decidable (cP m left):=by unfold cP;infer_instance
def kR(m:aj)(left:List (List Bool)):Int:=if j6 m≠0 then j6 m else if cP m left then 0 else 17
def GN{m:aj}{left:List (List Bool)}(h:kR m left=0):VM m/\cP m left:=by
 unfold kR at h;split at h
 ·omega
 split at h
 ·rename_i h1 h2;exact⟨oB.1 (Decidable.not_not.1 h1),h2⟩
 ·omega
def cP.row{m:aj}{left:List (List Bool)}(hm:VM m)(h:cP m left):∀ r∈left,r.length<=24:=λr hr=>by
 obtain⟨i,hi,rfl⟩:=wD.1 hr;have:=h.2 i hi;rw[az,bS hi]at this;simp only[pQ]at this;rw[this];exact hm.opt _ (aF (by have:=h.1;omega))
def BB(left:List (List Bool)):Prop:=left.length<9223372036854775808/\∀ r∈left,r.length<9223372036854775808
def VR(l:List Ld)(row:List Bool):∀ (L:List (List Bool)) (i:Nat) (n:Int),j5 l i (L++[row]) n=j5 l i L n+lY l (i+L.length:Nat) row
 |[],i,n=>rfl
 |x::r,i,n=>by
  show j5 l (i+1) (r++[row]) _=_;rw[VR l row r (i+1),j5,cV,show i+1+r.length=i+(r.length+1) by omega]
def eQ{α:Type}[Inhabited α]{l:List α}{k:Nat}(h:k<l.length):l.take (k+1)=l.take k++[l.getD k default]:=by
 rw[List.take_succ_eq_append_getElem h,az,bS h];rfl
abbrev Nm:=Int×Bool
def ez(x:Int):Nm:=(x,decide (1099511627776<=x))
def aX(p:Nm):List AV:=[OJ p.1,.lit (.bool p.2)]
def jh(p:Nm):List AV:=[.lit (.bool p.2),OJ p.1]
instance:Row aX 2:=⟨λ_=>rfl,λp v hv=>by
 simp only[aX,a8,iJ,or_false]at hv;rcases hv with rfl|rfl<;>exact .inl ⟨_,rfl,rfl⟩⟩
instance:Row jh 2:=⟨λ_=>rfl,λp v hv=>by
 simp only[jh,a8,iJ,or_false]at hv;rcases hv with rfl|rfl<;>exact .inl ⟨_,rfl,rfl⟩⟩
def lz(o:dq):Int:=(o.ch.map (·.2)).foldl dK 0
def b8(l:List dq):List Int:=l.map lz
def dm(l:List Int):List Nm:=l.map ez
def cK:List Nm->List Bool->Int×Bool->Int×Bool
 |p::r,is::s,b=>cK r s (if is=true/\p.2=false/\(b.2=false\/p.1<b.1) then(p.1,true) else b)
 |_,_,b=>b
def Hj{R:Int}{l:List (Int×Int)}(h:gy R none l=true):∀ c∈l,bQ c.2:=λc hc=>uF (HF h c hc).2
def D1:∀ (l:List Int) (n:Int),(∀ x∈l,bQ x)->bQ n->bQ (l.foldl dK n)
 |[],_,_,h=>h
 |x::r,n,hl,h=>D1 r _ (λy hy=>hl y (by simp[hy])) (Eg h (hl x Fl))
def DJ{R:Int}{o:dq}(h:gy R none o.ch=true):bQ (lz o):=D1 _ _ (λx hx=>by
 obtain⟨c,hc,rfl⟩:=b6.1 hx;exact Hj h c hc) (by unfold bQ;decide)
structure Mv where
 pair:Int
 side:Int
 opt:Int
 amt:Int
 deriving Inhabited
def aP(x:Mv):List AV:=[OJ x.pair,OJ x.side,OJ x.opt,OJ x.amt]
instance:Row aP 4:=⟨λ_=>rfl,λx v hv=>by
 simp only[aP,a8,iJ,or_false]at hv;rcases hv with rfl|rfl|rfl|rfl<;>exact .inl ⟨_,rfl,rfl⟩⟩
def dL(m:aj)(x:Mv):Int:=if x.side=0 then(m.ae.getD x.pair.toNat default).fst else(m.ae.getD x.pair.toNat default).snd
def gK(m:aj)(x:Mv):Bool:=decide (0<=x.pair/\x.pair<m.ae.length/\0<=x.side/\x.side<=1/\-268435456<=x.amt/\x.amt<=268435456)&&jy m (dL m x) x.opt
def VS(l:List (Int×Int))(k:Nat)(h:k<l.length):(((l.take (k+1)).map (·.2)).foldl dK 0)=dK (((l.take k).map (·.2)).foldl dK 0) (l.getD k default).2:=by
 rw[eQ h,dJ,yZ];rfl
def VT(p:Nm)(is:Bool)(b:Int×Bool):Int×Bool:=if is=true/\p.2=false/\(b.2=false\/p.1<b.1) then(p.1,true) else b
def VU(p:Nm)(is:Bool):∀ (l:List Nm) (s:List Bool) (b:Int×Bool),l.length=s.length->cK (l++[p]) (s++[is]) b=VT p is (cK l s b)
 |[],[],b,_=>rfl
 |x::r,y::s,b,h=>by
  show cK (r++[p]) (s++[is]) _=_;rw[VU p is r s _ (by simpa using h)];rfl
def jJ:List Nm->List Bool->List Nm
 |p::r,is::s=>(if is=true then [p] else [])++jJ r s
 |_,_=>[]
def BZ(b a:Nm):Nm:=if a.2=false/\(b.2=true\/a.1<b.1) then a else b
def s9(l:List Nm):Nm:=l.foldl BZ (0,true)
def aik(l:List Nm)(a:Nm):s9 (l++[a])=BZ (s9 l) a:=by unfold s9;rw[yZ];rfl
def Mj(p:Nm)(is:Bool):∀ (l:List Nm) (s:List Bool),l.length=s.length->jJ (l++[p]) (s++[is])=jJ l s++(if is=true then [p] else [])
 |[],[],_=>by simp[jJ]
 |x::r,y::s,h=>by
  show(if y=true then [x] else [])++jJ (r++[p]) (s++[is])=_;rw[Mj p is r s (by simpa using h),jJ,List.append_assoc]
def Mk:∀ (l:List Nm) (s:List Bool) (b:Int×Bool),(jJ l s).foldl BZ (b.1,!b.2)=((cK l s b).1,!(cK l s b).2)
 |[],s,b=>by cases s<;>rfl
 |p::r,[],b=>rfl
 |p::r,is::s,b=>by
  rw[jJ,cK,yZ];cases is with
  |false=>simp only[Bool.false_eq_true,if_false,yY,false_and];exact Mk r s b
  |true =>
   simp only[if_true,List.foldl_cons,yY,eq_self,true_and];have:BZ (b.1,!b.2) p=((if p.2=false/\(b.2=false\/p.1<b.1) then(p.1,true) else b).1,!(if p.2=false/\(b.2=false\/p.1<b.1) then(p.1,true) else b).2):=by
    unfold BZ;obtain⟨b1,b2⟩:=b;obtain⟨p1,p2⟩:=p;dsimp only;cases b2<;>cases p2<;>simp;split<;>rfl
   rw[this];exact Mk r s _
def ail(l:List Nm)(s:List Bool):s9 (jJ l s)=((cK l s (0,false)).1,!(cK l s (0,false)).2):=Mk l s (0,false)
def jX(os:List Ob)(x:Ob)(l:List Ob):(os++x::l)[os.length]?=some x:=Fl
def kC(os l:List Ob)(k:Nat):(os++l)[os.length+k]?=l[k]?:=by rw[gN CZ,Nat.add_sub_cancel_left]
def D7(os:List Ob)(x y:Ob)(l:List Ob):(os++x::l).set os.length y=os++y::l:=by rw[List.set_append];simp
def DR(os l:List Ob)(k:Nat)(y:Ob):(os++l).set (os.length+k) y=os++l.set k y:=by rw[List.set_append_right _ _ CZ];simp
def aM{os:List Ob}{i:Nat}{o:Ob}(h:os[i]?=some o)(l:List Ob):(os++l)[i]?=some o:=by
 rw[er (aT.1 h).1];exact h
def gZ{os:List Ob}{i:Nat}{o:Ob}(h:os[i]?=some o)(l:List Ob)(y:Ob):(os++l).set i y=os.set i y++l:=by
 rw[List.set_append,if_pos (aT.1 h).1]
def B1{os:List Ob}{i j:Nat}{o o' y:Ob}(h:os[i]?=some o)(h':os[j]?=some o')(bX:o≠o'):(os.set j y)[i]?=some o:=by
 have:j≠i:=λe=>bX (by rw[e,h]at h';simpa using h');rw[fN this];exact h
def lS{os:List Ob}{i:Nat}{o y:Ob}(h:os[i]?=some o):(os.set i y)[i]?=some y:=by
 rw[bU];simp[(aT.1 h).1]
def bF:=O0 @jX @kC @D7 @DR
def cu(q:Nat×Nat):List AV:=[.ref q.1 2 0 q.2]
structure RI{α:Type}(enc:α->List AV)(os:List Ob)(D:List (Nat×Nat))(S:List (List α)):Prop where
 len:D.length=S.length
 row:∀ j,j<D.length->os[(D.getD j default).1]?=some (.arr 2 (rowsOf enc (S.getD j default)))/\(S.getD j default).length=(D.getD j default).2
def RI.nil{α:Type}{enc:α->List AV}{os:List Ob}:RI enc os [] ([]:List (List α)):=⟨rfl,Fl⟩
def RI.app{α:Type}{enc:α->List AV}{os:List Ob}{D:List (Nat×Nat)}{S:List (List α)}(h:RI enc os D S)(l:List Ob):RI enc (os++l) D S :=
 ⟨h.len,λj hj=>⟨aM (h.row j hj).1 l,(h.row j hj).2⟩⟩
def RI.kill{α:Type}{enc:α->List AV}{os:List Ob}{D:List (Nat×Nat)}{S:List (List α)}(h:RI enc os D S){i:Nat}{o y:Ob}(ho:os[i]?=some o)(bX:∀ l,o≠.arr 2 l):RI enc (os.set i y) D S :=
 ⟨h.len,λj hj=>⟨B1 (h.row j hj).1 ho (λe=>bX _ e.symm),(h.row j hj).2⟩⟩
def HG{α:Type}[Inhabited α](l:List α)(x:α)(j:Nat):(l++[x]).getD j default=if j<l.length then l.getD j default else if j=l.length then x else default:=by
 simp only[az];split
 ·rename_i h;rw[er h]
 ·rename_i h;rw[gN CZ];split
  ·rename_i h2;subst h2;simp
  ·rw[fY Jo];rfl
def RI.snoc{α:Type}{enc:α->List AV}{os:List Ob}{D:List (Nat×Nat)}{S:List (List α)}(h:RI enc os D S){p:Nat}{r:List α}(hp:os[p]?=some (.arr 2 (rowsOf enc r))):RI enc os (D++[(p,r.length)]) (S++[r]) :=
 ⟨by simp[h.len],λj hj=>by
  rw[HG,HG,<- h.len];by_cases h1:j<D.length
  ·rw[if_pos h1,if_pos h1];exact h.row j h1
  ·have:j=D.length:=by simp at hj;omega
   rw[if_neg h1,if_neg h1,if_pos this,if_pos this];exact⟨hp,rfl⟩⟩
def RI.set{α:Type}{enc:α->List AV}{os:List Ob}{D:List (Nat×Nat)}{S:List (List α)}(h:RI enc os D S)(hn:(D.map (·.1)).Nodup){j:Nat}(hj:j<D.length){r:List α}(hr:r.length=(S.getD j default).length):RI enc (os.set (D.getD j default).1 (.arr 2 (rowsOf enc r))) D (S.set j r) :=
 ⟨by rw[bH];exact h.len,λk hk=>by
  by_cases e:k=j
  ·subst e;have:(S.set k r).getD k default=r:=by rw[az,bU];simp[<- h.len,hk]
   rw[this];exact⟨lS (h.row k hk).1,hr.trans (h.row k hk).2⟩
  ·have:(S.set j r).getD k default=S.getD k default:=by rw[az,fN (λe'=>e e'.symm),az]
   rw[this];have bX:(D.getD j default).1≠(D.getD k default).1:=λhh=>e ((Jf (h₀:=by simpa using hk) (h₁:=by simpa using hj) hn).1 (by
    rw[CX,CX];have a1:D[k]=D.getD k default:=by simp[hk]
    have a2:D[j]=D.getD j default:=by simp[hj]
    rw[a1,a2];exact hh.symm))
   rw[fN bX];exact h.row k hk⟩
def RI.other{α:Type}{enc:α->List AV}{os:List Ob}{D:List (Nat×Nat)}{S:List (List α)}(h:RI enc os D S){i:Nat}(hi:i ∉ D.map (·.1)){y:Ob}:RI enc (os.set i y) D S :=
 ⟨h.len,λk hk=>⟨by
  rw[fN (λe=>hi (b6.2 ⟨D.getD k default,aF hk,e.symm⟩))];exact(h.row k hk).1,(h.row k hk).2⟩⟩
def RI.fresh{α:Type}{enc:α->List AV}{os:List Ob}{D:List (Nat×Nat)}{S:List (List α)}(h:RI enc os D S){p:Nat}(hp:os.length<=p):p ∉ D.map (·.1):=λhh=>by
 obtain⟨q,hq,rfl⟩:=b6.1 hh;obtain⟨k,hk,rfl⟩:=wD.1 hq;have h1:=(h.row k hk).1;have a1:D.getD k default=D[k]:=by simp[hk]
 rw[a1]at h1;have:=(aT.1 h1).1;omega
def HH(D:List (Nat×Nat))(p n:Nat):rowsOf cu D++[[AV.ref p 2 0 n]]=rowsOf cu (D++[(p,n)]):=by simp[rowsOf,cu]
def RI.step{α:Type}{enc:α->List AV}{os:List Ob}{D:List (Nat×Nat)}{S:List (List α)}{ai:Nat}{x:Ob}(fa:os[ai]?=some x)(hx:∀ l,x≠.arr 2 l)(hR:RI enc os D S)(bT:(D.map (·.1)).Nodup)(r:List α)(t y:Ob):
  (os.set ai .gone++[.arr 2 (rowsOf enc r),t,y])[os.length+2]?=some y /\
  RI enc (os.set ai .gone++[.arr 2 (rowsOf enc r),t,y]) (D++[(os.length,r.length)]) (S++[r])/\((D++[(os.length,r.length)]).map (·.1)).Nodup /\
  ∀ k o,os[k]?=some o->k≠ai->(os.set ai .gone++[.arr 2 (rowsOf enc r),t,y])[k]?=some o:=by
 have hl:(os.set ai .gone).length=os.length:=bH ..;refine⟨?_,?_,?_,λk o hk bX=>aM ?_ _⟩
 ·rw[<- hl,kC];rfl
 ·refine((hR.kill fa hx).app _).snoc ?_;rw[<- hl,jX]
 ·rw[dJ,oU];refine⟨bT,Fl,λa ha b hb=>?_⟩;simp only[fF,mf,dI]at hb;subst hb;exact λe=>hR.fresh (Nat.le_refl _) (e▸ha)
 ·rw[fN (Ne.symm bX)];exact hk
structure LO{α:Type}(enc:α->List AV)(B:List (Nat×Ob))(D E:List (Nat×Nat))(S T:List (List α))(os:List Ob):Prop where
 base:∀ b∈B,os[b.1]?=some b.2/\∀ l,b.2≠.arr 2 l
 rD:RI enc os D S
 rE:RI enc os E T
 nd:((D++E).map (·.1)).Nodup
section
variable {α:Type} {enc:α->List AV} {B:List (Nat×Ob)} {D E:List (Nat×Nat)} {S T:List (List α)} {os:List Ob}
def LO.app(h:LO enc B D E S T os)(l:List Ob):LO enc B D E S T (os++l):=⟨λb hb=>⟨aM (h.base b hb).1 l,(h.base b hb).2⟩,h.rD.app l,h.rE.app l,h.nd⟩
def LO.add(h:LO enc B D E S T os){k:Nat}{x:Ob}(hk:os[k]?=some x)(hx:∀ l,x≠.arr 2 l):LO enc ((k,x)::B) D E S T os :=
 ⟨λb hb=>by rcases a8.1 hb with rfl|hb;exact⟨hk,hx⟩;exact h.base b hb,h.rD,h.rE,h.nd⟩
def LO.sub(h:LO enc B D E S T os){C:List (Nat×Ob)}(hc:∀ b∈C,b∈B):LO enc C D E S T os:=⟨λb hb=>h.base b (hc b hb),h.rD,h.rE,h.nd⟩
def Hz{D E:List (Nat×Nat)}(h:((D++E).map (·.1)).Nodup):(D.map (·.1)).Nodup/\(E.map (·.1)).Nodup/\(∀ j,j<D.length->(D.getD j default).1 ∉ E.map (·.1))/\∀ j,j<E.length->(E.getD j default).1 ∉ D.map (·.1):=by
 rw[dJ,oU]at h;refine⟨h.1,h.2.1,λj hj hh=>h.2.2 _ (b6.2 ⟨_,aF hj,rfl⟩) _ hh rfl,λj hj hh=>h.2.2 _ hh _ (b6.2 ⟨_,aF hj,rfl⟩) rfl⟩
def LO.Aa(h:LO enc B D E S T os){j:Nat}(hj:j<D.length){r:List α}(hr:r.length=(S.getD j default).length):LO enc B D E (S.set j r) T (os.set (D.getD j default).1 (.arr 2 (rowsOf enc r))):=by
 obtain⟨h1,h2,h3,h4⟩:=Hz h.nd;exact⟨λb hb=>⟨B1 (h.base b hb).1 (h.rD.row j hj).1 ((h.base b hb).2 _),(h.base b hb).2⟩,h.rD.set h1 hj hr,h.rE.other (h3 j hj),h.nd⟩
def LO.yu(h:LO enc B D E S T os){j:Nat}(hj:j<E.length){r:List α}(hr:r.length=(T.getD j default).length):LO enc B D E S (T.set j r) (os.set (E.getD j default).1 (.arr 2 (rowsOf enc r))):=by
 obtain⟨h1,h2,h3,h4⟩:=Hz h.nd;exact⟨λb hb=>⟨B1 (h.base b hb).1 (h.rE.row j hj).1 ((h.base b hb).2 _),(h.base b hb).2⟩,h.rD.other (h4 j hj),h.rE.set h2 hj hr,h.nd⟩
end
def HI(xs:List Nm)(i:Nat)(b:Bool)(n:Int):(rowsOf jh xs).set i [.lit (.bool b),OJ n]=rowsOf jh (xs.set i (n,b)):=by simp[rowsOf,jh,wH]
def aim(xs:List Nm)(i:Nat)(b:Bool)(n:Int):(rowsOf aX xs).set i [OJ n,.lit (.bool b)]=rowsOf aX (xs.set i (n,b)):=by simp[rowsOf,aX,wH]
def LO.vars{α:Type}{enc:α->List AV}{B:List (Nat×Ob)}{D E:List (Nat×Nat)}{S T:List (List α)}{os:List Ob}(h:LO enc B D E S T os){n:Nat}(hn:os.length=n)(x y:Ob)(hx:∀ l,x≠.arr 2 l)(hy:∀ l,y≠.arr 2 l):
  LO enc ((n,x)::(n+1,y)::B) D E S T (os++[x,y]):=by
 subst hn;exact((h.app [x,y]).add (by rw[kC];rfl) hy).add (by rw[jX]) hx
def Ad{α:Type}[Inhabited α](l:List α)(j:Nat):l.set j (l.getD j default)=l:=by
 apply List.ext_getElem?;intro i;rw[bU];split
 ·rename_i h;subst h;split
  ·rename_i h2;rw[az,bS h2];rfl
  ·rename_i h2;rw[fY CZ]
 ·rfl
def uE{α:Type}[Inhabited α](l:List α)(j:Nat)(x:α)(h:j<l.length):(l.set j x).getD j default=x:=by
 rw[az,bU];simp[h]
def LO.kill{α:Type}{enc:α->List AV}{B:List (Nat×Ob)}{D E:List (Nat×Nat)}{S T:List (List α)}{os:List Ob}(h:LO enc B D E S T os){i:Nat}{x y:Ob}(hi:os[i]?=some x)(hx:∀ l,x≠.arr 2 l)(bX:∀ b∈B,b.1≠i):LO enc B D E S T (os.set i y) :=
 ⟨λb hb=>⟨by rw[fN (bX b hb).symm];exact(h.base b hb).1,(h.base b hb).2⟩,h.rD.kill hi hx,h.rE.kill hi hx,h.nd⟩
def oH(os l:List Ob)(i k:Nat)(y:Ob):(os.set i y++l)[os.length+k]?=l[k]?:=by
 have:=kC (os.set i y) l k;rwa [bH]at this
def gC(m:aj)(ai bi:Nat)(D E:List (Nat×Nat)):List AV:=[.tree 1 (rowsOf bm m.cls),.tree 4 (rowsOf aL m.ae),.tree 4 (rowsOf ej m.aK),OJ m.rules,.ref ai 1 0 D.length,.ref bi 1 0 E.length]
abbrev GB(m:aj)(gi ai bi:Nat)(D E:List (Nat×Nat)):List (Nat×Ob):=[(gi,.var (gC m ai bi D E)),(ai,.arr 1 (rowsOf cu D)),(bi,.arr 1 (rowsOf cu E))]
def Ah{m:aj}{gi ai bi:Nat}{D E:List (Nat×Nat)}{S T:List (List Nm)}{os:List Ob}(h:LO aX (GB m gi ai bi D E) D E S T os):
  os[gi]?=some (.var (gC m ai bi D E))/\os[ai]?=some (.arr 1 (rowsOf cu D))/\os[bi]?=some (.arr 1 (rowsOf cu E)) :=
 ⟨(h.base (gi,_) Fl).1,(h.base (ai,.arr 1 (rowsOf cu D)) Fl).1,(h.base (bi,.arr 1 (rowsOf cu E)) Fl).1⟩
def gM(os ob:List Ob):Prop:=∀ (k:Nat) (o:Ob),os[k]?=some o->ob[k]?=some o
def gM.refl(os:List Ob):gM os os:=λ_ _ h=>h
def gM.app{os ob:List Ob}(h:gM os ob)(l:List Ob):gM os (ob++l):=λk o hk=>aM (h k o hk) l
def gM.set{os ob:List Ob}(h:gM os ob){i:Nat}(hi:os.length<=i){y:Ob}:gM os (ob.set i y):=λk o hk=>by
 have:=(aT.1 hk).1;rw[fN CZ];exact h k o hk
def gM.len{os ob:List Ob}(h:gM os ob):os.length<=ob.length:=by
 rcases pU os.length with h0|h0
 ·omega
 ·obtain⟨o,ho⟩ :∃o,os[os.length-1]?=some o:=⟨_,bS CZ⟩;have:=(aT.1 (h _ _ ho)).1;omega
section
variable {α:Type} {enc:α->List AV} {B:List (Nat×Ob)} {D E:List (Nat×Nat)} {S T:List (List α)} {os:List Ob}
def LO.swap(h:LO enc B D E S T os):LO enc B E D T S os:=⟨h.base,h.rE,h.rD,by
 have:=h.nd;rw[dJ,oU]at this ⊢;exact⟨this.2.1,this.1,λa ha b hb e=>this.2.2 b hb a ha e.symm⟩⟩
def LO.HJ(h:LO enc B D E S T os){i:Nat}{l:List (List AV)}(hi:i ∉ (D++E).map (·.1))(hr:os[i]?=some (.arr 2 l)){y:Ob}:LO enc B D E S T (os.set i y):=by
 rw[dJ,da,not_or]at hi;exact⟨λb hb=>⟨B1 (h.base b hb).1 hr ((h.base b hb).2 _),(h.base b hb).2⟩,h.rD.other hi.1,h.rE.other hi.2,h.nd⟩
def LO.fresh(h:LO enc B D E S T os){p:Nat}(hp:os.length<=p):p ∉ (D++E).map (·.1):=by
 rw[dJ,da,not_or];exact⟨h.rD.fresh hp,h.rE.fresh hp⟩
def LO.step{gi ai:Nat}{gc:List AV}{A:List (List AV)}(h:LO enc ((gi,.var gc)::(ai,.arr 1 A)::B) D E S T os){r:List α}{oi:Nat}(hr:os[oi]?=some (.arr 2 (rowsOf enc r)))(cX:oi ∉ (D++E).map (·.1))(hB:∀ b∈B,b.1≠ai/\b.1≠gi)(B3:List AV)(A':List (List AV))(t:Ob):
  LO enc ((gi,.var B3)::(os.length+1,.arr 1 A')::B) (D++[(oi,r.length)]) E (S++[r]) T ((os.set ai .gone).set gi (.var B3)++[t,.arr 1 A']):=by
 have hg:=(h.base (gi,.var gc) Fl).1;have ha:=(h.base (ai,.arr 1 A) Fl).1;dsimp only at hg ha;have BG:gi≠ai:=λe=>by rw[e,ha]at hg;cases hg
 have nW:(os.set ai .gone)[gi]?=some (.var gc):=by rw[fN BG.symm];exact hg
 have hl:((os.set ai .gone).set gi (.var B3)).length=os.length:=by rw[bH,bH]
 have hD2:=((h.rD.kill (y:=.gone) ha Fl).kill (y:=.var B3) nW Fl).app [t,.arr 1 A'];have hE2:=((h.rE.kill (y:=.gone) ha Fl).kill (y:=.var B3) nW Fl).app [t,.arr 1 A'];have kv:((os.set ai .gone).set gi (.var B3)++[t,.arr 1 A'])[oi]?=some (.arr 2 (rowsOf enc r)):=aM (B1 (B1 hr ha Fl) nW Fl) _;refine⟨λb hb=>?_,hD2.snoc kv,hE2,?_⟩
 ·rcases a8.1 hb with rfl|hb
  ·exact⟨aM (lS nW) _,Fl⟩
  rcases a8.1 hb with rfl|hb
  ·refine⟨?_,Fl⟩;dsimp only;rw[<- hl,kC];rfl
  ·have h0:=h.base b (by simp[hb]);refine⟨aM ?_ _,h0.2⟩;rw[fN (hB b hb).2.symm,fN (hB b hb).1.symm];exact h0.1
 ·have bT:=h.nd;rw[dJ,oU]at bT ⊢;rw[dJ,da,not_or]at cX;obtain⟨n1,n2,n3⟩:=bT;refine⟨?_,n2,λa oJ b hb=>?_⟩
  ·rw[dJ,oU];refine⟨n1,Fl,λa oJ b hb=>?_⟩;simp only[fF,mf,dI]at hb;subst hb;exact λe=>cX.1 (e▸oJ)
  ·rw[dJ,da]at oJ;rcases oJ with oJ|oJ
   ·exact n3 a oJ b hb
   ·simp only[fF,mf,dI]at oJ;subst oJ;exact λe=>cX.2 (e▸hb)
end
def S0(m:aj):List (List Nm):=m.cls.map λl=>dm (b8 l)
def T0(m:aj):List (List Nm):=m.ae.map λp=>dm p.aC
def jz(r:List Nm)(i:Nat)(a:Int):List Nm:=r.set i ((r.getD i default).1+a,(r.getD i default).2)
def gz(f:Nat->Nat)(a:Int):Nat->List Nm->List Nm
 |0,t=>t
 |k+1,t=>jz (gz f a k t) (f k) (-a)
abbrev Lg:=List (List Nm)×List (List Nm)
def nK(m:aj)(x:Mv):(Nat->Nat)×Nat :=
 if x.side=0 then(λk=>(x.opt*(m.cls.getD (m.ae.getD x.pair.toNat default).snd.toNat default).length+k).toNat,(m.cls.getD (m.ae.getD x.pair.toNat default).snd.toNat default).length)
 else(λk=>((k:Int)*(m.cls.getD (m.ae.getD x.pair.toNat default).snd.toNat default).length+x.opt).toNat,(m.cls.getD (m.ae.getD x.pair.toNat default).fst.toNat default).length)
def iY(m:aj)(x:Mv)(g:Lg):Lg :=
 (g.1.set (dL m x).toNat (jz (g.1.getD (dL m x).toNat default) x.opt.toNat x.amt),g.2.set x.pair.toNat (gz (nK m x).1 x.amt (nK m x).2 (g.2.getD x.pair.toNat default)))
def fq(m:aj)(l:List Mv)(g:Lg):Lg:=l.foldl (λg x=>iY m x g) g
def VV(m:aj)(l:List Mv)(x:Mv)(g:Lg):fq m (l++[x]) g=iY m x (fq m l g):=by unfold fq;rw[yZ];rfl
def qN(a b:List Bool):List Bool:=a.flatMap λx=>b.map λy=>x&&y
def PC(left:List (List Bool))(S:List (List Nm))(n:Nat):List (Int×Bool):=(aY n).map λi=>cK (S.getD i default) (left.getD i default) (0,false)
def ig(m:aj)(left:List (List Bool))(i:Nat):List Bool:=qN (left.getD (m.ae.getD i default).fst.toNat default) (left.getD (m.ae.getD i default).snd.toNat default)
def PP(m:aj)(left:List (List Bool))(T:List (List Nm))(n:Nat):List (Int×Bool):=(aY n).map λi=>cK (T.getD i default) (ig m left i) (0,false)
def PK(m:aj)(left:List (List Bool))(n:Nat):List (Int×Bool):=(aY n).map λi=>(iW left (m.aK.getD i default),!(decide ((m.aK.getD i default).cI=1099511627776)&&decide (0<iW left (m.aK.getD i default))))
def bL(l:List (Int×Bool))(z:Int×Bool):Int×Bool:=l.foldl (λz p=>(z.1+p.1,z.2||!p.2)) z
def kU(m:aj)(left:List (List Bool))(g:Lg):Int :=
 if(bL (PK m left m.aK.length) (bL (PP m left g.2 m.ae.length) (bL (PC left g.1 m.cls.length) (0,false)))).2=true then 1099511627776
 else min (bL (PK m left m.aK.length) (bL (PP m left g.2 m.ae.length) (bL (PC left g.1 m.cls.length) (0,false)))).1 1099511627776
def gH(m:aj)(left:List (List Bool))(l:List Mv):Int×Int :=
 if 2000<l.length then(0,2) else if l.all (gK m)=false then(0,3) else(kU m left (fq m l (S0 m,T0 m)),0)
def bP(m:aj)(left:List (List Bool))(l:List Mv):Int×Int:=if kR m left≠0 then(0,kR m left) else gH m left l
def B4(l:List (Int×Bool))(p z:Int×Bool):bL (l++[p]) z=((bL l z).1+p.1,(bL l z).2||!p.2):=by unfold bL;rw[yZ];rfl
def yE{β:Type}(f:Nat->β)(n:Nat):(aY (n+1)).map f=(aY n).map f++[f n]:=by rw[List.range_succ,dJ];rfl
def NB(B:Int)(r:List Nm):Prop:=∀ p∈r,-B<=p.1/\p.1<=B
def NB.get{B:Int}{r:List Nm}(h:NB B r)(hB:0<=B)(i:Nat): -B<=(r.getD i default).1/\(r.getD i default).1<=B:=by
 rcases dw i r.length with hi|hi
 ·exact h _ (aF hi)
 ·rw[az,fY hi];show -B<=(0:Int)/\(0:Int)<=B;omega
def NB.mono{B C:Int}{r:List Nm}(h:NB B r)(hc:B<=C):NB C r:=λp hp=>by have:=h p hp;omega
def NB.add{B:Int}{r:List Nm}(h:NB B r)(hB:0<=B)(i:Nat){a:Int}(ha : -268435456<=a/\a<=268435456):NB (B+268435456) (jz r i a):=λp hp=>by
 rcases tK hp with h'|h'
 ·have:=h p h';omega
 ·have:=h.get hB i;rw[h'];dsimp only;omega
def xm(r:List Nm)(i:Nat)(a:Int):(jz r i a).length=r.length:=by simp[jz]
def Ai(f:Nat->Nat)(a:Int):∀ (k:Nat) (t:List Nm),(gz f a k t).length=t.length
 |0,t=>rfl
 |k+1,t=>by rw[gz,xm,Ai f a k t]
def NB.sub{B:Int}{r:List Nm}(h:NB B r)(hB:0<=B)(f:Nat->Nat){a:Int}(ha : -268435456<=a/\a<=268435456):∀ k:Nat,NB (B+268435456*k) (gz f a k r)
 |0=>by simpa [gz] using h
 |k+1=>by
  rw[gz];have:=(NB.sub h hB f ha k).add CZ (f k) (a:=-a) CZ;exact this.mono CZ
structure LG(m:aj)(B:Int)(g:Lg):Prop where
 s:g.1.length=m.cls.length
 t:g.2.length=m.ae.length
 sl:∀ i,i<m.cls.length->(g.1.getD i default).length=(m.cls.getD i default).length
 tl:∀ i,i<m.ae.length->(g.2.getD i default).length=(m.ae.getD i default).aC.length
 sb:∀ r∈g.1,NB B r
 tb:∀ r∈g.2,NB B r
def VW{g:List (List Nm)}{i j:Nat}{r:List Nm}(h:r.length=(g.getD i default).length):((g.set i r).getD j default).length=(g.getD j default).length:=by
 by_cases e:i=j
 ·subst e;rcases dw i g.length with hi|hi
  ·simp only[az,bU,hi,if_true,pQ];rw[h,az]
  ·rw[List.set_eq_of_length_le hi]
 ·simp only[az,fN e]
def ta{B:Int}{g:List (List Nm)}(h:∀ r∈g,NB B r)(i:Nat):NB B (g.getD i default):=by
 rcases dw i g.length with hi|hi
 ·exact h _ (aF hi)
 ·rw[az,fY hi];intro p hp;cases hp
def aip{m:aj}(hm:VM m)(x:Mv):(nK m x).2<=24:=by
 have:∀ i,(m.cls.getD i default).length<=24:=λi=>by
  rcases dw i m.cls.length with hi|hi
  ·exact hm.opt _ (aF hi)
  ·rw[az,fY hi];exact Nat.zero_le _
 unfold nK;split<;>exact this _
def Ml{m:aj}(hm:VM m){B:Int}(hB:0<=B){g:Lg}(h:LG m B g){x:Mv}(hx:gK m x=true):LG m (B+268435456*25) (iY m x g):=by
 unfold gK at hx;rw[a7,decide_eq_true_eq]at hx;have ha:=hx.1.2.2.2.2;have hk:=aip hm x;refine⟨by rw[iY,bH];exact h.s,by rw[iY,bH];exact h.t,λi hi=>?_,λi hi=>?_,λr hr=>?_,λr hr=>?_⟩
 ·rw[iY];dsimp only;rw[VW (by rw[xm])];exact h.sl i hi
 ·rw[iY];dsimp only;rw[VW (by rw[Ai])];exact h.tl i hi
 ·rcases tK hr with h'|h'
  ·exact(h.sb r h').mono CZ
  ·rw[h'];exact((ta h.sb _).add hB _ ha).mono CZ
 ·rcases tK hr with h'|h'
  ·exact(h.tb r h').mono CZ
  ·rw[h'];exact((ta h.tb _).sub hB _ ha _).mono CZ
def VX{l:List Int}(h:∀ x∈l,bQ x):NB 1099511627776 (dm l):=λp hp=>by
 obtain⟨x,hx,rfl⟩:=b6.1 hp;have:=h x hx;unfold bQ at this;show -1099511627776<=x/\x<=1099511627776;omega
def GV{m:aj}{p:Pr}(hp:iD m p=true):∀ x∈p.aC,bQ x:=λx hx=>by
 unfold iD at hp;simp only[a7,lg,List.any_eq_false]at hp;have:=hp.2 _ hx;rw[pG]at this;simp only[a7,lg,decide_eq_true_eq,not_and,Bool.not_eq_false]at this;by_cases hz:x=0
 ·subst hz;unfold bQ;decide
 ·exact uF (this hz)
def gn{α β:Type}[Inhabited α][Inhabited β](f:α->β)(l:List α)(i:Nat)(h:i<l.length):(l.map f).getD i default=f (l.getD i default):=by
 rw[az,bY,az,bS h];rfl
def HK{m:aj}(hm:VM m):LG m 1099511627776 (S0 m,T0 m):=by
 refine⟨by simp[S0],by simp[T0],λi hi=>?_,λi hi=>?_,λr hr=>?_,λr hr=>?_⟩
 ·show((S0 m).getD i default).length=_;rw[S0,gn _ _ _ hi];simp[dm,b8]
 ·show((T0 m).getD i default).length=_;rw[T0,gn _ _ _ hi];simp[dm]
 ·obtain⟨l,hl,rfl⟩:=b6.1 hr;refine VX λx hx=>?_;obtain⟨o,ho,rfl⟩:=b6.1 hx;exact DJ (hm.rp l hl o ho)
 ·obtain⟨p,hp,rfl⟩:=b6.1 hr;exact VX (GV (jV hm.pr p hp))
def Eh{m:aj}(hm:VM m)(l:List Mv)(hl:∀ x∈l,gK m x=true):LG m (1099511627776+268435456*25*l.length) (fq m l (S0 m,T0 m)):=by
 have key:∀ (l:List Mv) (B:Int) (g:Lg),0<=B->(∀ x∈l,gK m x=true)->LG m B g->LG m (B+268435456*25*l.length) (fq m l g):=by
  intro l
  induction l with
  |nil=>intro B g _ _ h;simpa [fq] using h
  |cons x r ih =>
   intro B g hB hx h;have h1:=Ml hm hB h (hx x Fl);have h2:=ih _ _ CZ (λy hy=>hx y (by simp[hy])) h1;show LG m _ (fq m r (iY m x g));have e:B+268435456*25+268435456*25*(r.length:Int)=B+268435456*25*((x::r).length:Int):=by simp only[cV];omega
   rw[e]at h2;exact h2
 exact key l _ _ Fs hl (HK hm)
def Ei{B:Int}:∀ (l:List Nm) (s:List Bool) (b:Int×Bool),NB B l->(-B<=b.1/\b.1<=B)->-B<=(cK l s b).1/\(cK l s b).1<=B
 |[],s,b,_,hb=>by cases s<;>exact hb
 |p::r,[],b,_,hb=>hb
 |p::r,is::s,b,h,hb=>by
  rw[cK];refine Ei r s _ (λq hq=>h q (by simp[hq])) ?_;have:=h p Fl;split
  ·exact this
  ·exact hb
def yF{B:Int}:∀ (l:List (Int×Bool)) (z:Int×Bool),(∀ p∈l,-B<=p.1/\p.1<=B)->z.1-B*l.length<=(bL l z).1/\(bL l z).1<=z.1+B*l.length
 |[],z,_=>by show z.1-_<=z.1/\z.1<=z.1+_;simp
 |p::r,z,h=>by
  have h1:=yF r (z.1+p.1,z.2||!p.2) λq hq=>h q (by simp[hq]);have h2:=h p Fl;show _<=(bL r (z.1+p.1,z.2||!p.2)).1/\_;rw[cV,y7,Int.mul_add];dsimp only at h1;simp only[Fv,Int.mul_one];show z.1-(B*r.length+B)<=(bL r (z.1+p.1,z.2||!p.2)).1/\(bL r (z.1+p.1,z.2||!p.2)).1<=z.1+(B*r.length+B);omega
def lA:Int:=1099511627776+268435456*25*2000
def Mm{left:List (List Bool)}{S:List (List Nm)}{B:Int}(hB:0<=B)(h:∀ r∈S,NB B r)(n:Nat):∀ p∈PC left S n,-B<=p.1/\p.1<=B:=λp hp=>by
 obtain⟨i,_,rfl⟩:=b6.1 hp;exact Ei _ _ _ (ta h i) Ji
def Mn{m:aj}{left:List (List Bool)}{T:List (List Nm)}{B:Int}(hB:0<=B)(h:∀ r∈T,NB B r)(n:Nat):∀ p∈PP m left T n,-B<=p.1/\p.1<=B:=λp hp=>by
 obtain⟨i,_,rfl⟩:=b6.1 hp;exact Ei _ _ _ (ta h i) Ji
def VY(most cI n:Int)(hm:0<=most)(hp:0<=cI):0<=k0 most cI n/\k0 most cI n<=1099511627776:=by
 unfold k0;split
 ·omega
 ·have:=Int.mul_nonneg (show 0<=n-most by omega) hp;omega
def aiq{m:aj}(hm:VM m)(i:Nat):0<=(m.aK.getD i default).most/\0<=(m.aK.getD i default).cI:=by
 rcases dw i m.aK.length with hi|hi
 ·obtain⟨_,h2,h3,_⟩:=td (hm.ct _ (aF (d:=default) hi));exact⟨h2.1,(uF h3).1⟩
 ·rw[az,fY hi];decide
def Mo{m:aj}(hm:VM m){left:List (List Bool)}(n:Nat):∀ p∈PK m left n,-1099511627776<=p.1/\p.1<=1099511627776:=λp hp=>by
 obtain⟨i,_,rfl⟩:=b6.1 hp;have:=aiq hm i;have:=VY (m.aK.getD i default).most (m.aK.getD i default).cI (j5 (m.aK.getD i default).a6 0 left 0) this.1 this.2;unfold iW;dsimp only;omega
def B5(left:List (List Bool))(S:List (List Nm))(n:Nat):(PC left S n).length=n:=by simp[PC]
def Ej(m:aj)(left:List (List Bool))(S:List (List Nm))(n:Nat):(PP m left S n).length=n:=by simp[PP]
def HL(m:aj)(left:List (List Bool))(n:Nat):(PK m left n).length=n:=by simp[PK]
def air(a:List Bool)(x:Bool)(b:List Bool):qN (a++[x]) b=qN a b++b.map (x && ·):=by unfold qN;rw[List.flatMap_append];simp
def Ek(b:List Bool):∀ a:List Bool,(qN a b).length=a.length*b.length
 |[]=>by simp[qN]
 |x::r=>by
  show((b.map (x && ·))++qN r b).length=_;rw[bI,Ek b r,eu,cV,eT];omega
def LO.dS{α:Type}{enc:α->List AV}{B:List (Nat×Ob)}{D E:List (Nat×Nat)}{S T:List (List α)}{os ob:List Ob}(h:LO enc B D E S T os)(k:gM os ob):LO enc B D E S T ob :=
 ⟨λb hb=>⟨k _ _ (h.base b hb).1,(h.base b hb).2⟩,⟨h.rD.len,λj hj=>⟨k _ _ (h.rD.row j hj).1,(h.rD.row j hj).2⟩⟩,⟨h.rE.len,λj hj=>⟨k _ _ (h.rE.row j hj).1,(h.rE.row j hj).2⟩⟩,h.nd⟩
def gM.trans{a b c:List Ob}(h:gM a b)(k:gM b c):gM a c:=λi o hi=>k i o (h i o hi)
def HM(b:List Bool):∀ (a:List Bool) (n:Nat),n<a.length*b.length->(qN a b).getD n false=(a.getD (n/b.length) false&&b.getD (n%b.length) false)
 |[],n,h=>by simp at h
 |x::r,n,h=>by
  have hb:0<b.length:=by
   rcases pU b.length with h0|h0
   ·rw[h0]at h;omega
   ·exact h0
  show((b.map (x && ·))++qN r b).getD n false=_;rcases dw n b.length with hn|hn
  ·rw[Nat.div_eq_of_lt hn,Nat.mod_eq_of_lt hn,gA,az,er (by simpa using hn),bY,bS hn,az,bS hn];rfl
  ·obtain⟨k,rfl⟩ :∃k,n=k+b.length:=⟨n-b.length,CZ⟩;have ih:=HM b r k (by rw[cV,eT]at h;omega);rw[az,gN (by simpa using hn),eu,Nat.add_sub_cancel,<- az,ih,Nat.add_div_right _ hb,Nat.add_mod_right,eS]
def vT(q:Int×Bool):Nm:=(q.1,!q.2)
def VZ(l:List Nm)(s:List Bool):s9 (jJ l s)=vT (cK l s (0,false)):=ail l s
def xn(m:aj)(left:List (List Bool))(g:Lg):List (Int×Bool):=PC left g.1 m.cls.length++PP m left g.2 m.ae.length++PK m left m.aK.length
def V0(a b:List (Int×Bool))(z:Int×Bool):bL (a++b) z=bL b (bL a z):=by unfold bL;rw[yZ]
def ais(m:aj)(left:List (List Bool))(g:Lg):kU m left g=if(bL (xn m left g) (0,false)).2=true then 1099511627776 else min (bL (xn m left g) (0,false)).1 1099511627776:=by
 unfold kU xn;rw[V0,V0]
def El:∀ (l:List (Int×Bool)) (n:Int),(bL l (n,true)).2=true
 |[],_=>rfl
 |p::r,n=>El r _
def V3:∀ (l:List (Int×Bool)) (n:Int),(bL l (n,false)).2=true↔∃ p∈l,p.2=false
 |[],_=>by simp[bL]
 |p::r,n=>by
  show(bL r (n+p.1,false||!p.2)).2=true↔_;cases hp:p.2 with
  |false =>
   simp only[Bool.not_false,Bool.or_true];exact⟨λ_=>⟨p,Fl,hp⟩,λ_=>El r _⟩
  |true =>
   simp only[Bool.not_true,Bool.or_false];rw[V3 r];constructor
   ·rintro⟨q,hq,h⟩;exact⟨q,by simp[hq],h⟩
   ·rintro⟨q,hq,h⟩;rcases a8.1 hq with rfl|hq
    ·rw[hp]at h;cases h
    ·exact⟨q,hq,h⟩
def ait{m:aj}(hm:VM m){left:List (List Bool)}(hl:left.length=m.cls.length){c:Ct}(hc:c∈m.aK)(hw:∀ x∈c.a6,1<=x.wt/\x.wt<=1000):decide (1099511627776<=iW left c)=(decide (c.cI=1099511627776)&&decide (0<iW left c)):=by
 obtain⟨_,h2,h3,_⟩:=td (hm.ct c hc);have hs:=Ef hw left;have bz:=hm.cls;have hp:1<=c.cI/\c.cI<=1048576\/c.cI=1099511627776:=by unfold lB at h3;rw[decide_eq_true_eq]at h3;omega
 unfold iW k0;generalize j5 c.a6 0 left 0=n at *;rw[Bool.eq_iff_iff,a7,decide_eq_true_eq,decide_eq_true_eq,decide_eq_true_eq];split
 ·omega
 ·rcases hp with hp|hp
  ·have:(n-c.most)*c.cI<=24000*1048576:=Int.mul_le_mul CZ hp.2 CZ CZ;omega
  ·rw[hp];omega
def Mp:∀ (l:List Nm) (s:List Bool),(jJ l s).length<=l.length
 |[],s=>by cases s<;>simp[jJ]
 |p::r,[]=>by simp[jJ]
 |p::r,is::s=>by
  rw[jJ,bI,cV];have:=Mp r s;split<;>simp<;>omega
structure Sat(R:Int)(out:List Int)(v:Int):Prop where
 ok:lD R out
 v0:0<=v
 eq:min (kj out) 1099511627776=min v 1099511627776
def V4:∀ (l:List Int) (i:Nat) (x:Int),i<l.length->kj (l.set i x)=kj l-l.getD i 0+x
 |[],i,x,h=>by simp at h
 |y::r,0,x,_=>by simp only[List.set_cons_zero,kj,gA];omega
 |y::r,i+1,x,h=>by
  have:=V4 r i x (by simpa using h);simp only[List.set_cons_succ,kj,eS];omega
def Sat.add{R:Int}{out:List Int}{v r d:Int}(h:Sat R out v)(hr:0<=r/\r<R)(hd:bQ d):Sat R (iF out r d) (v+d):=by
 have hlen:=h.ok.1;have hi:r.toNat<out.length:=CZ;have hs:=Mq h.ok.2 _ (aF (d:=(0:Int)) hi);have iT:=V4 out r.toNat (dK (out.getD r.toNat 0) d) hi;have hg:=h.ok.get r.toNat;have he:=h.eq;have hv:=h.v0;unfold bQ at hg;have hd2:=hd;unfold bQ at hd2;refine⟨h.ok.add hd,CZ,?_⟩;unfold iF;rw[iT];unfold dK;omega
def Sat.le{R:Int}{out:List Int}{v w:Int}(h:Sat R out v)(hw:0<=w)(e:min v 1099511627776=min w 1099511627776):Sat R out w:=⟨h.ok,hw,h.eq.trans e⟩
def V5{R:Int}:∀ (l:List (Int×Int)) (out:List Int) (v n:Int),(∀ c∈l,k8 R c.1=true/\lB c.2=true)->0<=v->bQ n->Sat R out (v+n)->Sat R (B6 l out) (v+(l.map (·.2)).foldl dK n)
 |[],out,v,n,_,_,_,h=>h
 |c::r,out,v,n,hc,hv,kx,h=>by
  rw[B6];have h1:=hc c Fl;have hr:=h1.1;rw[k8,decide_eq_true_eq]at hr;have hp:=uF h1.2;have h2:=h.add hr hp;refine V5 r _ v (dK n c.2) (λx hx=>hc x (by simp[hx])) hv (Eg kx hp) (h2.le ?_ ?_)
  ·have:=Eg kx hp;unfold bQ at this;omega
  ·unfold bQ at hp kx;unfold dK;omega
def V6{m:aj}(hm:VM m):∀ (an:List Int) (i:Nat) (out:List Int) (v:Int),(∀ j,j<an.length->jy m ((i+j:Nat):Int) (an.getD j 0)=true) ->
  Sat m.rules out v->Sat m.rules (B7 m i an out) (v+bu (λj=>lz ((m.cls.getD (i+j) default).getD (an.getD j 0).toNat default)) an.length)
 |[],i,out,v,_,h=>by show Sat m.rules out (v+0);rw[C0];exact h
 |o::r,i,out,v,hg,h=>by
  rw[B7];have h0:=hg 0 Fl;rw[gA,il]at h0;obtain⟨b1,b2,b3,b4⟩:=jK.1 h0;rw[cF]at b4;rw[if_neg CZ];have hl:=aF (l:=m.cls) (i:=i) (d:=default) CZ;have ho:=aF (l:=m.cls.getD i default) (i:=o.toNat) (d:=default) CZ;have qF:=hm.rp _ hl _ ho;have h1:=V5 _ out v 0 (HF qF) h.v0 (by unfold bQ;decide) (by rw[C0];exact h);have h2:=V6 hm r (i+1) _ _ (λj hj=>by
   have:=hg (j+1) (by simpa using hj);rwa [eS,show i+(j+1)=i+1+j by omega]at this) h1
  rw[cV,yC];simp only[gA,eS,il];rw[<- O4];rw[iX (g:=λj=>lz ((m.cls.getD (i+(j+1)) default).getD (r.getD j 0).toNat default)) r.length λj _=>by rw[show i+1+j=i+(j+1) by omega]]at h2;exact h2
def pH(m:aj)(an:List Int)(p:Pr):Int:=yG m p (an.getD p.fst.toNat 0) (an.getD p.snd.toNat 0)
def V7{m:aj}{an:List Int}(hp:FP m an):∀ (l:List Pr) (out:List Int) (v:Int),(∀ p∈l,iD m p=true)->Sat m.rules out v ->
  Sat m.rules (B8 m an l out) (v+bu (λi=>pH m an (l.getD i default)) l.length)
 |[],out,v,_,h=>by show Sat m.rules out (v+0);rw[C0];exact h
 |p::r,out,v,hg,h=>by
  rw[B8];have dj:=hg p Fl;obtain⟨q1,q2,q3,q4,q5⟩:=qI dj;have cM:=hp.len;have g1:=hp.get p.fst.toNat CZ;have g2:=hp.get p.snd.toNat CZ;have a1:=jK.1 g1;have a2:=jK.1 g2;rw[if_pos ⟨a1.2.2.1,a2.2.2.1⟩];have h2:=V7 hp r _ _ (λx hx=>hg x (by simp[hx])) (h.add q1 (Mr dj (an.getD p.fst.toNat 0) (an.getD p.snd.toNat 0)));rw[cV,yC];simp only[gA,eS];rw[<- O4];exact h2
def nk(an:List Int)(c:Ct):Int:=k0 c.most c.cI (yH an c.a6 0)
def V8{m:aj}{an:List Int}:∀ (l:List Ct) (out:List Int) (v:Int),(∀ c∈l,kH m c=true)->Sat m.rules out v ->
  Sat m.rules (B9 an l out) (v+bu (λi=>nk an (l.getD i default)) l.length)
 |[],out,v,_,h=>by show Sat m.rules out (v+0);rw[C0];exact h
 |c::r,out,v,hg,h=>by
  rw[B9];obtain⟨q1,q2,q3,q4⟩:=td (hg c Fl);have h2:=V8 (an:=an) r _ _ (λx hx=>hg x (by simp[hx])) (h.add q1 (Ms (most:=c.most) (sum:=yH an c.a6 0) (uF q3)));rw[cV,yC];simp only[gA,eS];rw[<- O4];exact h2
def rC(m:aj)(an:List Int)(j:Nat):Int:=lz ((m.cls.getD j default).getD (an.getD j 0).toNat default)
def aiv{m:aj}{an:List Int}(hv:VM m)(hp:FP m an):te (vU m an) 0 =
  min (bu (rC m an) m.cls.length+bu (λi=>pH m an (m.ae.getD i default)) m.ae.length+bu (λi=>nk an (m.aK.getD i default)) m.aK.length) 1099511627776:=by
 have h0:Sat m.rules (aI m.rules.toNat 0) 0:=by
  refine⟨lD.rep hv.uC.1,Fs,?_⟩;have:∀ k,kj (aI k 0)=0:=by
   intro k
   induction k with
   |zero=>rfl
   |succ k ih=>rw[List.replicate_succ,kj,ih];rfl
  rw[this]
 have h1:=V6 hv an 0 _ _ (λj hj=>by rw[gq];exact hp.get j hj) h0;have h2:=V7 hp m.ae _ _ (jV hv.pr) h1;have h3:=V8 (an:=an) m.aK _ _ hv.ct h2;have HN:=V9 (aiw hv an).2 (n:=0) (by unfold bQ;decide);have he:=h3.eq;change min (kj (vU m an)) _=_ at he;rw[HN,y8,he,y8,hp.len];simp only[gq];rfl
end T

