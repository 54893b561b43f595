import Derived.Test.YtfoopmojjjpapaaGreatX10
import Derived.Test.YtfoopmojjjpapaaGreatX11
set_option linter.all false
set_option maxHeartbeats 0
set_option maxRecDepth 20000
open List renaming length_cons→cX,getD_cons_zero→iv,getD_cons_succ→fq,mem_cons→bm,mem_append→cT,mem_singleton→c8,map_append→dH,nodup_append→ny,mem_map→bS,map_cons→fP,map_nil→ns,map_map→wu,map_congr_left→uX,mem_iff_getElem→wg,getElem_inj→EX,getElem_map→CM,getD_eq_getElem?_getD→ax,getElem?_eq_getElem→bq,not_mem_nil→iT,foldl_append→AU,foldl_nil→zd,getElem?_append_right→gZ,getElem?_append_left→eL,getElem?_eq_some_iff→aR,getElem?_set_ne→fD,getElem?_set→bP,getElem?_eq_none→fl,length_set→bw,map_set→p6
open Int renaming zero_add→zb,toNat_of_nonneg→ss
open Go Go.Am
namespace T
def fj:List Ld->Int->Int->Int->Int
 |[],_,_,w=>w
 |x::r,c,o,w=>fj r c o (if x.cls=c/\x.opt=o then x.wt else w)
def dD(l:List Ld)(c:Int):Nat->List Bool->Int->Int
 |_,[],b=>b
 |o,is::r,b=>dD l c (o+1) r (if is=true/\(b<0\/fj l c o 0<b) then fj l c o 0 else b)
def jR(l:List Ld)(c:Int)(row:List Bool):Int:=max (dD l c 0 row (-1)) 0
def jS(l:List Ld):Nat->List (List Bool)->Int->Int
 |_,[],n=>n
 |i,row::r,n=>jS l (i+1) r (n+jR l i row)
def im(left:List (List Bool))(c:Ct):Int:=kL c.most c.cf (jS c.aZ 0 left 0)
def Tb(l:List Ld)(x:Ld)(c o:Int):∀ w,fj (l++[x]) c o w=if x.cls=c/\x.opt=o then x.wt else fj l c o w:=by
 induction l with
 |nil=>intro w;rfl
 |cons y r ih=>intro w;exact ih _
def KY:∀ {l:List Ld} {c:Int} (o w:Int),(∀ x∈l,x.cls≠c)->fj l c o w=w
 |[],_,_,_,_=>rfl
 |x::r,c,o,w,h=>by
  rw[fj,if_neg (λe=>h x IM e.1)];exact KY o w λy hy=>h y (by simp[hy])
def yq{l:List Ld}(h:∀ x∈l,1<=x.wt/\x.wt<=1000)(c o:Int):∀ w,0<=w/\w<=1000->0<=fj l c o w/\fj l c o w<=1000:=by
 induction l with
 |nil=>intro w hw;exact hw
 |cons x r ih =>
  intro w hw;rw[fj];refine ih (λy hy=>h y (by simp[hy])) _ ?_;have:=h x IM;split<;>omega
def Td{l:List Ld}{c:Int}(h:∀ x∈l,x.cls≠c):∀ (row:List Bool) (o:Nat) (b:Int),-1<=b/\b<=0->-1<=dD l c o row b/\dD l c o row b<=0
 |[],_,b,hb=>hb
 |is::r,o,b,hb=>by
  rw[dD];refine Td h r (o+1) _ ?_;rw[KY _ _ h];split<;>omega
def SL{l:List Ld}{c:Int}(h:∀ x∈l,x.cls≠c)(row:List Bool):jR l c row=0:=by
 have:=Td h row 0 (-1) AT;unfold jR;omega
def G0{l:List Ld}(h:∀ x∈l,1<=x.wt/\x.wt<=1000)(c:Int):∀ (row:List Bool) (o:Nat) (b:Int),-1<=b/\b<=1000->-1<=dD l c o row b/\dD l c o row b<=1000
 |[],_,b,hb=>hb
 |is::r,o,b,hb=>by
  rw[dD];refine G0 h c r (o+1) _ ?_;have:=yq h c o 0 AT;split<;>omega
def Te{l:List Ld}(h:∀ x∈l,1<=x.wt/\x.wt<=1000)(c:Int)(row:List Bool):0<=jR l c row/\jR l c row<=1000:=by
 have:=G0 h c row 0 (-1) AT;unfold jR;omega
def br(f:Nat->Int):Nat->Int
 |0=>0
 |n+1=>br f n+f n
def iP{f g:Nat->Int}:∀ (n:Nat),(∀ i<n,f i=g i)->br f n=br g n
 |0,_=>rfl
 |n+1,h=>by rw[br,br,iP n λi hi=>h i AT,h n AT]
def DQ{f:Nat->Int}{B:Int}:∀ (n:Nat),(∀ i<n,0<=f i/\f i<=B)->0<=br f n/\br f n<=B*n
 |0,_=>by simp[br]
 |n+1,h=>by
  have h1:=DQ n λi hi=>h i AT;have h2:=h n AT;rw[br,Int.natCast_add,Int.mul_add];simp only[Int.cast_ofNat_Int,Int.mul_one];omega
def ym(f:Nat->Int)(k:Nat)(v:Int):∀ (n:Nat),br (λi=>if i=k then f i+v else f i) n=br f n+if k<n then v else 0
 |0=>by simp[br]
 |n+1=>by
  rw[br,br,ym f k v n];by_cases h:n=k
  ·subst h;rw[if_pos rfl,if_neg AT,if_pos AT];omega
  ·rw[if_neg h];by_cases h2:k<n
   ·rw[if_pos h2,if_pos AT];omega
   ·rw[if_neg h2,if_neg AT];omega
def yp(f:Nat->Int):∀ n,br f (n+1)=f 0+br (λi=>f (i+1)) n
 |0=>by simp[br]
 |n+1=>by rw[br,yp f n,br];omega
def yr(l:List Ld):∀ (left:List (List Bool)) (i:Nat) (n:Int),jS l i left n=n+br (λj=>jR l (i+j:Nat) (left.getD j [])) left.length
 |[],i,n=>by simp[jS,br]
 |row::r,i,n=>by
  rw[jS,yr l r (i+1),cX,yp];simp only[iv,fq,Nat.add_zero];rw[iP (g:=λj=>jR l (i+(j+1):Nat) (r.getD j [])) r.length λj _=>by rw[show i+1+j=i+(j+1) by omega]];omega
def DJ{l:List Ld}(h:∀ x∈l,1<=x.wt/\x.wt<=1000)(left:List (List Bool)):0<=jS l 0 left 0/\jS l 0 left 0<=1000*left.length:=by
 rw[yr,zb];exact DQ _ λi _=>Te h _ _
abbrev my:=Int×Nat×List (Int×Int)
def vE(es:List (Int×Int)):List (Int×Value):=es.map λp=>(p.1,.int .i64 p.2)
def gE(A:List my):List (Int×Value):=A.map λe=>(e.1,.map (some e.2.1))
def zZ(o w:Int):List (Int×Int)->List (Int×Int)
 |[]=>[(o,w)]
 |p::r=>if p.1=o then(o,w)::r else p::zZ o w r
def vB(o:Int):List (Int×Int)->Int
 |[]=>0
 |p::r=>if p.1=o then p.2 else vB o r
def Tf(o w:Int):∀ es,j' o (.int .i64 w) (vE es)=vE (zZ o w es)
 |[]=>rfl
 |p::r=>by
  show j' o _ ((p.1,Value.int .i64 p.2)::vE r)=_;rw[j',zZ];by_cases h:p.1=o
  ·rw[if_pos h,if_pos h];rfl
  ·rw[if_neg h,if_neg h,Tf o w r];rfl
def Tg(o:Int):∀ es,(nh o (vE es)).getD (.int .i64 0)=.int .i64 (vB o es)
 |[]=>rfl
 |p::r=>by
  show(nh o ((p.1,Value.int .i64 p.2)::vE r)).getD _=_;rw[nh,vB];by_cases h:p.1=o
  ·rw[if_pos h,if_pos h];rfl
  ·rw[if_neg h,if_neg h,Tg o r]
def Th(o w x:Int):∀ es,vB x (zZ o w es)=if o=x then w else vB x es
 |[]=>rfl
 |p::r=>by
  rw[zZ];by_cases h:p.1=o
  ·rw[if_pos h,vB,vB];by_cases h2:o=x
   ·rw[if_pos h2,if_pos h2]
   ·rw[if_neg h2,if_neg h2,if_neg AT]
  ·rw[if_neg h,vB,vB,Th o w x r];by_cases h2:p.1=x
   ·rw[if_pos h2,if_neg AT,if_pos h2]
   ·rw[if_neg h2,if_neg h2]
def KZ(c:Int):∀ A:List my,(nh c (gE A)=none/\∀ e∈A,e.1≠c)\/∃ e∈A,e.1=c/\nh c (gE A)=some (.map (some e.2.1))
 |[]=>.inl ⟨rfl,IM⟩
 |e::r=>by
  show(nh c ((e.1,Value.map (some e.2.1))::gE r)=none/\_)\/_;by_cases h:e.1=c
  ·right;refine⟨e,IM,h,?_⟩;show nh c ((e.1,Value.map (some e.2.1))::gE r)=_;rw[nh,if_pos h]
  ·rcases KZ c r with⟨h1,h2⟩|⟨e',h1,h2,h3⟩
   ·left;refine⟨by rw[nh,if_neg h];exact h1,λx hx=>?_⟩;rcases bm.1 hx with rfl|hx
    ·exact h
    ·exact h2 x hx
   ·right;refine⟨e',by simp[h1],h2,?_⟩;show nh c ((e.1,Value.map (some e.2.1))::gE r)=_;rw[nh,if_neg h];exact h3
def Ti(c:Int)(b:Nat):∀ A:List my,(∀ e∈A,e.1≠c)->j' c (.map (some b)) (gE A)=gE (A++[(c,b,[])])
 |[],_=>rfl
 |e::r,h=>by
  show j' c _ ((e.1,Value.map (some e.2.1))::gE r)=_;rw[j',if_neg (h e IM),Ti c b r λx hx=>h x (by simp[hx])];rfl
structure GI(R:Nat)(dn:List Ld)(A:List my)(b0:Nat)(μ:Mem):Prop where
 top:μ b0=some (.map (iE (gE A)))
 sub:∀ e∈A,μ e.2.1=some (.map (iE (vE e.2.2)))
 BX:∀ e∈A,e.2.1≠b0
 inj:∀ e∈A,∀ e'∈A,e.2.1=e'.2.1->e=e'
 keys:(A.map (·.1)).Nodup
 val:∀ e∈A,∀ o,vB o e.2.2=fj dn e.1 o 0
 has:∀ x∈dn,∃ e∈A,e.1=x.cls
 qO:∀ e∈A,0<=e.1/\e.1<R
def GI.nil{R b0:Nat}{μ:Mem}(h:μ b0=some (.map [])):GI R [] [] b0 μ:=⟨h,IM,IM,IM,IM,IM,IM,IM⟩
def GI.new{R:Nat}{dn:List Ld}{A:List my}{b0:Nat}{μ:Mem}(h:GI R dn A b0 μ){c:Int}(hcR:0<=c/\c<R)(hc:∀ e∈A,e.1≠c){b:Nat}(hb:μ b=none):GI R dn (A++[(c,b,[])]) b0 (gT (gT μ b (.map [])) b0 (.map (iE (j' c (.map (some b)) (gE A))))):=by
 have pG:b≠b0:=λe=>by rw[e,h.top]at hb;cases hb
 have rz:∀ e∈A,e.2.1≠b:=λe he e2=>by have:=h.sub e he;rw[e2,hb]at this;cases this
 refine⟨by rw[rN,Ti c b A hc],λe he=>?_,λe he=>?_,λe he e' qP hh=>?_,?_,λe he o=>?_,λx hx=>?_,λe he=>?_⟩
 ·rcases cT.1 he with he|he
  ·rw[pH _ _ (h.BX e he),pH _ _ (rz e he)];exact h.sub e he
  ·simp only[c8]at he;subst he;rw[pH _ _ pG,rN];rfl
 ·rcases cT.1 he with he|he
  ·exact h.BX e he
  ·simp only[c8]at he;subst he;exact pG
 ·rcases cT.1 he with he|he<;>rcases cT.1 qP with qP|qP
  ·exact h.inj e he e' qP hh
  ·simp only[c8]at qP;subst qP;exact absurd hh (rz e he)
  ·simp only[c8]at he;subst he;exact absurd hh.symm (rz e' qP)
  ·simp only[c8]at he qP;rw[he,qP]
 ·rw[dH,ny];refine⟨h.keys,IM,λa ha b' aY=>?_⟩;obtain⟨e,he,rfl⟩:=bS.1 ha;simp only[fP,ns,c8]at aY;rw[aY];exact hc e he
 ·rcases cT.1 he with he|he
  ·exact h.val e he o
  ·simp only[c8]at he;subst he;rw[KY]
   ·rfl
   ·intro x hx uk;obtain⟨e,he,w8⟩:=h.has x hx;exact hc e he (w8.trans uk)
 ·obtain⟨e,he,w8⟩:=h.has x hx;exact⟨e,List.mem_append_left _ he,w8⟩
 ·rcases cT.1 he with he|he
  ·exact h.qO e he
  ·simp only[c8]at he;subst he;exact hcR
def eB(c o w:Int)(A:List my):List my:=A.map λe=>if e.1=c then(e.1,e.2.1,zZ o w e.2.2) else e
def afu(c o w:Int)(A:List my):gE (eB c o w A)=gE A:=by
 unfold gE eB;rw[wu];refine uX λe _=>?_;simp only[Function.comp];split<;>rfl
def GI.put{R:Nat}{dn:List Ld}{A:List my}{b0:Nat}{μ:Mem}(h:GI R dn A b0 μ){x:Ld}{e0:my}(gP:e0∈A)(hc:e0.1=x.cls):GI R (dn++[x]) (eB x.cls x.opt x.wt A) b0 (gT μ e0.2.1 (.map (iE (j' x.opt (.int .i64 x.wt) (vE e0.2.2))))):=by
 have uniq:∀ e∈A,e.1=x.cls->e=e0:=λe he hh=>by
  have hk:=h.keys;obtain⟨i,hi,rfl⟩:=wg.1 he;obtain⟨j,hj,rfl⟩:=wg.1 gP;have:i=j:=(EX (h₀:=by simpa using hi) (h₁:=by simpa using hj) hk).1 (by simp only[CM];rw[hh,hc]);subst this;rfl
 have one:∀ e∈eB x.cls x.opt x.wt A,(e=(e0.1,e0.2.1,zZ x.opt x.wt e0.2.2))\/(e∈A/\e.1≠x.cls):=λe he=>by
  obtain⟨e',qP,rfl⟩:=bS.1 he;by_cases hh:e'.1=x.cls
  ·left;rw[if_pos hh,uniq e' qP hh]
  ·right;rw[if_neg hh];exact⟨qP,hh⟩
 have rz:∀ e∈A,e.1≠x.cls->e.2.1≠e0.2.1:=λe he hh e2=>hh (by rw[h.inj e he e0 gP e2,hc]);refine⟨by rw[pH _ _ (h.BX e0 gP).symm,afu];exact h.top,λe he=>?_,λe he=>?_,λe he e' qP hh=>?_,?_,λe he o=>?_,λy hy=>?_,λe he=>?_⟩
 ·rcases one e he with rfl|⟨h1,h2⟩
  ·rw[rN,Tf]
  ·rw[pH _ _ (rz e h1 h2)];exact h.sub e h1
 ·rcases one e he with rfl|⟨h1,h2⟩
  ·exact h.BX e0 gP
  ·exact h.BX e h1
 ·rcases one e he with rfl|⟨h1,h2⟩<;>rcases one e' qP with rfl|⟨h3,h4⟩
  ·rfl
  ·exact absurd hh.symm (rz e' h3 h4)
  ·exact absurd hh (rz e h1 h2)
  ·exact h.inj e h1 e' h3 hh
 ·have:(eB x.cls x.opt x.wt A).map (·.1)=A.map (·.1):=by
   unfold eB;rw[wu];refine uX λe _=>?_;simp only[Function.comp];split<;>rfl
  rw[this];exact h.keys
 ·rw[Tb];rcases one e he with rfl|⟨h1,h2⟩
  ·dsimp only;rw[Th,h.val e0 gP o];by_cases ho:x.opt=o
   ·rw[if_pos ho,if_pos ⟨hc.symm,ho⟩]
   ·rw[if_neg ho,if_neg (λe=>ho e.2)]
  ·rw[if_neg (λe=>h2 e.1.symm)];exact h.val e h1 o
 ·have mem:∀ e∈A,∃ e'∈eB x.cls x.opt x.wt A,e'.1=e.1:=λe he=>⟨_,List.mem_map_of_mem he,by split<;>rfl⟩;rcases cT.1 hy with hy|hy
  ·obtain⟨e,he,w8⟩:=h.has y hy;obtain⟨e',k1,k2⟩:=mem e he;exact⟨e',k1,k2.trans w8⟩
  ·simp only[c8]at hy;subst hy;obtain⟨e',k1,k2⟩:=mem e0 gP;exact⟨e',k1,k2.trans hc⟩
 ·rcases one e he with rfl|⟨h1,h2⟩
  ·exact h.qO e0 gP
  ·exact h.qO e h1
def yz(f:Int->Int):List my->Int
 |[]=>0
 |e::r=>f e.1+yz f r
def K0(f:Int->Int)(n:Nat):∀ A:List my,(A.map (·.1)).Nodup->(∀ e∈A,0<=e.1/\e.1<n)->yz f A=br (λi=>if∃e∈A,e.1=(i:Int) then f i else 0) n
 |[],_,_=>by
  rw[iP (g:=λ_=>0) n (λi _=>IM)];have:∀ n,br (λ_=>0) n=0:=λn=>by induction n with|zero=>rfl|succ n ih=>rw[br,ih];rfl
  rw[this];rfl
 |e::r,hn,hr=>by
  rw[fP,List.nodup_cons]at hn;rw[yz,K0 f n r hn.2 λx hx=>hr x (by simp[hx])];have h0:=hr e IM;have afv:¬∃x∈r,x.1=((e.1.toNat:Nat):Int):=by
   rintro⟨x,hx,hh⟩;rw[ss h0.1]at hh;exact hn.1 (bS.2 ⟨x,hx,hh⟩)
  have:=ym (λi=>if∃x∈r,x.1=(i:Int) then f i else 0) e.1.toNat (f e.1) n;rw[if_pos AT]at this;rw[Int.add_comm,<- this];refine iP n λi hi=>?_;by_cases h:i=e.1.toNat
  ·subst h;rw[if_pos rfl,if_neg afv,if_pos ⟨e,IM,AT⟩,ss h0.1];omega
  ·rw[if_neg h];have:(∃ x∈e::r,x.1=(i:Int))↔∃ x∈r,x.1=(i:Int):=by
    constructor
    ·rintro⟨x,hx,hh⟩;rcases bm.1 hx with rfl|hx
     ·omega
     ·exact⟨x,hx,hh⟩
    ·rintro⟨x,hx,hh⟩;exact⟨x,by simp[hx],hh⟩
   simp only[this]
def Tj:∀ A:List my,yz (λ_=>1) A=A.length
 |[]=>rfl
 |e::r=>by rw[yz,Tj r,cX];omega
def GI.len{R:Nat}{dn:List Ld}{A:List my}{b0:Nat}{μ:Mem}(h:GI R dn A b0 μ):A.length<=R:=by
 have h1:=K0 (λ_=>1) R A h.keys h.qO;rw[Tj]at h1;have h2:=DQ (f:=λi=>if∃e∈A,e.1=(i:Int) then(1:Int) else 0) (B:=1) R λi _=>by split<;>omega
 omega
def GI.sum{dn:List Ld}{A:List my}{b0:Nat}{μ:Mem}{left:List (List Bool)}(h:GI left.length dn A b0 μ):yz (λc=>jR dn c (left.getD c.toNat [])) A=jS dn 0 left 0:=by
 rw[K0 _ left.length A h.keys h.qO,yr,zb];refine iP _ λi _=>?_;simp only[Nat.zero_add,Int.toNat_natCast];by_cases hh :∃e∈A,e.1=(i:Int)
 ·rw[if_pos hh]
 ·rw[if_neg hh,SL];intro x hx uk;obtain⟨e,he,w8⟩:=h.has x hx;exact hh ⟨e,he,w8.trans uk⟩
def vC(f:Nat->Int)(seen:List Nat)(n:Nat):Int:=br (λi=>if i∈seen then f i else 0) n
def DR(seen:List Nat)(n:Nat):Nat:=(br (λi=>if i∈seen then 0 else 1) n).toNat
def afw{f:Nat->Int}{seen:List Nat}{n j:Nat}(hj:j<n)(hs:j ∉ seen):vC f (seen++[j]) n=vC f seen n+f j:=by
 unfold vC;have:=ym (λi=>if i∈seen then f i else 0) j (f j) n;rw[if_pos hj]at this;rw[<- this];refine iP n λi _=>?_;by_cases h:i=j
 ·subst h;rw[if_pos IM,if_pos rfl,if_neg hs];omega
 ·rw[if_neg h];simp[h]
def Tk{seen:List Nat}{n j:Nat}(hj:j<n)(hs:j ∉ seen):DR (seen++[j]) n<DR seen n:=by
 unfold DR;have h1:=ym (λi=>if i∈seen then(0:Int) else 1) j (-1) n;rw[if_pos hj]at h1;have h2:br (λi=>if i∈seen++[j] then(0:Int) else 1) n=br (λi=>if i=j then(if i∈seen then 0 else 1)+-1 else if i∈seen then 0 else 1) n:=by
  refine iP n λi _=>?_;by_cases h:i=j
  ·subst h;rw[if_pos IM,if_pos rfl,if_neg hs];rfl
  ·rw[if_neg h];simp[h]
 have h3:=(DQ (f:=λi=>if i∈seen++[j] then(0:Int) else 1) (B:=1) n λi _=>by split<;>omega).1;omega
def afx{f:Nat->Int}{seen:List Nat}{n:Nat}(h:∀ j<n,j∈seen):vC f seen n=br f n:=iP n λi hi=>if_pos (h i hi)
def afy(f:Nat->Int)(n:Nat):vC f [] n=0:=by
 unfold vC;rw[iP (g:=λ_=>0) n (λi _=>IM)]
 induction n with|zero=>rfl|succ n ih=>rw[br,ih];rfl
def Tl(f:Int->Int):∀ A:List my,br (λj=>f (A.getD j (0,0,[])).1) A.length=yz f A
 |[]=>rfl
 |e::r=>by
  rw[cX,yp,yz];simp only[iv,fq];rw[Tl f r]
def afz{f:Nat->Int}{B:Int}{seen:List Nat}{n:Nat}(hB:0<=B)(h:∀ i<n,0<=f i/\f i<=B):0<=vC f seen n/\vC f seen n<=B*n :=
 DQ n λi hi=>by have:=h i hi;split<;>omega
def Tm(L:List (Int×Value))(j:Nat):(iE L)[j]?=L[j]?.map λp=>(.int .i64 p.1,p.2):=by simp[iE]
def Tn(A:List my)(j:Nat):(gE A)[j]?=A[j]?.map λe=>(e.1,.map (some e.2.1)):=by simp[gE]
def G2(A:List my):(iE (gE A)).length=A.length:=by simp[gE,iE]
def GI.other{R:Nat}{dn:List Ld}{A:List my}{b0:Nat}{μ:Mem}(h:GI R dn A b0 μ){r:Nat}(g:Gh)(hr:∀ l,μ r≠some (.map l)):GI R dn A b0 (gT μ r g) :=
 ⟨by rw[pH _ _ (λe=>hr _ (e▸h.top))];exact h.top,λe he=>by rw[pH _ _ (λe2=>hr _ (e2▸h.sub e he))];exact h.sub e he,h.BX,h.inj,h.keys,h.val,h.has,h.qO⟩
def K3(l:List Ld)(c:Int)(is:Bool):∀ (row:List Bool) (i:Nat) (b:Int),dD l c i (row++[is]) b =
  if is=true/\(dD l c i row b<0\/fj l c (i+row.length:Nat) 0<dD l c i row b) then fj l c (i+row.length:Nat) 0 else dD l c i row b
 |[],i,b=>rfl
 |x::r,i,b=>by
  show dD l c (i+1) (r++[is]) _=_;rw[K3 l c is r (i+1),dD,cX,show i+1+r.length=i+(r.length+1) by omega]
def cp(m:ah)(left:List (List Bool)):Prop:=left.length=m.cls.length/\∀ i,i<left.length->(left.getD i default).length=(m.cls.getD i default).length
instance (m:ah)(left:List (List Bool)):Decidable (cp m left):=by unfold cp;infer_instance
def jH(m:ah)(left:List (List Bool)):Int:=if iB m≠0 then iB m else if cp m left then 0 else 17
def K4{m:ah}{left:List (List Bool)}(h:jH m left=0):VM m/\cp m left:=by
 unfold jH at h;split at h
 ·omega
 split at h
 ·rename_i h1 h2;exact⟨jD.1 (Decidable.not_not.1 h1),h2⟩
 ·omega
def cp.row{m:ah}{left:List (List Bool)}(hm:VM m)(h:cp m left):∀ r∈left,r.length<=24:=λr hr=>by
 obtain⟨i,hi,rfl⟩:=wg.1 hr;have:=h.2 i hi;rw[ax,bq hi]at this;simp only[Option.getD_some]at this;rw[this];exact hm.opt _ (aE (by have:=h.1;omega))
def BB(left:List (List Bool)):Prop:=left.length<9223372036854775808/\∀ r∈left,r.length<9223372036854775808
def To(l:List Ld)(row:List Bool):∀ (L:List (List Bool)) (i:Nat) (n:Int),jS l i (L++[row]) n=jS l i L n+jR l (i+L.length:Nat) row
 |[],i,n=>rfl
 |x::r,i,n=>by
  show jS l (i+1) (r++[row]) _=_;rw[To l row r (i+1),jS,cX,show i+1+r.length=i+(r.length+1) by omega]
def ei{α:Type}[Inhabited α]{l:List α}{k:Nat}(h:k<l.length):l.take (k+1)=l.take k++[l.getD k default]:=by
 rw[List.take_succ_eq_append_getElem h,ax,bq h];rfl
abbrev Nm:=Int×Bool
def ew(x:Int):Nm:=(x,decide (1099511627776<=x))
def a6(p:Nm):List AV:=[Oi p.1,.lit (.bool p.2)]
def iX(p:Nm):List AV:=[.lit (.bool p.2),Oi p.1]
instance:Row a6 2:=⟨λ_=>rfl,λp v hv=>by
 simp only[a6,bm,iT,or_false]at hv;rcases hv with rfl|rfl<;>exact .inl ⟨_,rfl,rfl⟩⟩
instance:Row iX 2:=⟨λ_=>rfl,λp v hv=>by
 simp only[iX,bm,iT,or_false]at hv;rcases hv with rfl|rfl<;>exact .inl ⟨_,rfl,rfl⟩⟩
def qN(o:cP):Int:=(o.ch.map (·.2)).foldl dW 0
def b7(l:List cP):List Int:=l.map qN
def dq(l:List Int):List Nm:=l.map ew
def cI:List Nm->List Bool->Int×Bool->Int×Bool
 |p::r,is::s,b=>cI r s (if is=true/\p.2=false/\(b.2=false\/p.1<b.1) then(p.1,true) else b)
 |_,_,b=>b
def G3{R:Int}{l:List (Int×Int)}(h:ej R none l=true):∀ c∈l,bJ c.2:=λc hc=>rL (GZ h c hc).2
def DT:∀ (l:List Int) (n:Int),(∀ x∈l,bJ x)->bJ n->bJ (l.foldl dW n)
 |[],_,_,h=>h
 |x::r,n,hl,h=>DT r _ (λy hy=>hl y (by simp[hy])) (DP h (hl x IM))
def BK{R:Int}{o:cP}(h:ej R none o.ch=true):bJ (qN o):=DT _ _ (λx hx=>by
 obtain⟨c,hc,rfl⟩:=bS.1 hx;exact G3 h c hc) (by unfold bJ;decide)
structure Mv where
 pair:Int
 side:Int
 opt:Int
 amt:Int
 deriving Inhabited
def aP(x:Mv):List AV:=[Oi x.pair,Oi x.side,Oi x.opt,Oi x.amt]
instance:Row aP 4:=⟨λ_=>rfl,λx v hv=>by
 simp only[aP,bm,iT,or_false]at hv;rcases hv with rfl|rfl|rfl|rfl<;>exact .inl ⟨_,rfl,rfl⟩⟩
def eI(m:ah)(x:Mv):Int:=if x.side=0 then(m.ae.getD x.pair.toNat default).fst else(m.ae.getD x.pair.toNat default).snd
def il(m:ah)(x:Mv):Bool:=decide (0<=x.pair/\x.pair<m.ae.length/\0<=x.side/\x.side<=1/\-268435456<=x.amt/\x.amt<=268435456)&&jq m (eI m x) x.opt
def Tp(l:List (Int×Int))(k:Nat)(h:k<l.length):(((l.take (k+1)).map (·.2)).foldl dW 0)=dW (((l.take k).map (·.2)).foldl dW 0) (l.getD k default).2:=by
 rw[ei h,dH,AU];rfl
def Tq(p:Nm)(is:Bool)(b:Int×Bool):Int×Bool:=if is=true/\p.2=false/\(b.2=false\/p.1<b.1) then(p.1,true) else b
def Ts(p:Nm)(is:Bool):∀ (l:List Nm) (s:List Bool) (b:Int×Bool),l.length=s.length->cI (l++[p]) (s++[is]) b=Tq p is (cI l s b)
 |[],[],b,_=>rfl
 |x::r,y::s,b,h=>by
  show cI (r++[p]) (s++[is]) _=_;rw[Ts p is r s _ (by simpa using h)];rfl
def jI:List Nm->List Bool->List Nm
 |p::r,is::s=>(if is=true then [p] else [])++jI r s
 |_,_=>[]
def BY(b a:Nm):Nm:=if a.2=false/\(b.2=true\/a.1<b.1) then a else b
def tg(l:List Nm):Nm:=l.foldl BY (0,true)
def afA(l:List Nm)(a:Nm):tg (l++[a])=BY (tg l) a:=by unfold tg;rw[AU];rfl
def K5(p:Nm)(is:Bool):∀ (l:List Nm) (s:List Bool),l.length=s.length->jI (l++[p]) (s++[is])=jI l s++(if is=true then [p] else [])
 |[],[],_=>by simp[jI]
 |x::r,y::s,h=>by
  show(if y=true then [x] else [])++jI (r++[p]) (s++[is])=_;rw[K5 p is r s (by simpa using h),jI,List.append_assoc]
def K6:∀ (l:List Nm) (s:List Bool) (b:Int×Bool),(jI l s).foldl BY (b.1,!b.2)=((cI l s b).1,!(cI l s b).2)
 |[],s,b=>by cases s<;>rfl
 |p::r,[],b=>rfl
 |p::r,is::s,b=>by
  rw[jI,cI,AU];cases is with
  |false=>simp only[Bool.false_eq_true,if_false,zd,false_and];exact K6 r s b
  |true =>
   simp only[if_true,List.foldl_cons,zd,eq_self,true_and];have:BY (b.1,!b.2) p=((if p.2=false/\(b.2=false\/p.1<b.1) then(p.1,true) else b).1,!(if p.2=false/\(b.2=false\/p.1<b.1) then(p.1,true) else b).2):=by
    unfold BY;obtain⟨b1,b2⟩:=b;obtain⟨p1,p2⟩:=p;dsimp only;cases b2<;>cases p2<;>simp;split<;>rfl
   rw[this];exact K6 r s _
def afg(l:List Nm)(s:List Bool):tg (jI l s)=((cI l s (0,false)).1,!(cI l s (0,false)).2):=K6 l s (0,false)
def ka(os:List Ob)(x:Ob)(l:List Ob):(os++x::l)[os.length]?=some x:=IM
def kN(os l:List Ob)(k:Nat):(os++l)[os.length+k]?=l[k]?:=by rw[gZ AT,Nat.add_sub_cancel_left]
def DU(os:List Ob)(x y:Ob)(l:List Ob):(os++x::l).set os.length y=os++y::l:=by rw[List.set_append];simp
def DV(os l:List Ob)(k:Nat)(y:Ob):(os++l).set (os.length+k) y=os++l.set k y:=by rw[List.set_append_right _ _ AT];simp
def aK{os:List Ob}{i:Nat}{o:Ob}(h:os[i]?=some o)(l:List Ob):(os++l)[i]?=some o:=by
 rw[eL (aR.1 h).1];exact h
def iG{os:List Ob}{i:Nat}{o:Ob}(h:os[i]?=some o)(l:List Ob)(y:Ob):(os++l).set i y=os.set i y++l:=by
 rw[List.set_append,if_pos (aR.1 h).1]
def BZ{os:List Ob}{i j:Nat}{o o' y:Ob}(h:os[i]?=some o)(h':os[j]?=some o')(bZ:o≠o'):(os.set j y)[i]?=some o:=by
 have:j≠i:=λe=>bZ (by rw[e,h]at h';simpa using h');rw[fD this];exact h
def lS{os:List Ob}{i:Nat}{o y:Ob}(h:os[i]?=some o):(os.set i y)[i]?=some y:=by
 rw[bP];simp[(aR.1 h).1]
def bH:=Ot @ka @kN @DU @DV
def cA(q:Nat×Nat):List AV:=[.ref q.1 2 0 q.2]
structure RI{α:Type}(enc:α->List AV)(os:List Ob)(D:List (Nat×Nat))(S:List (List α)):Prop where
 len:D.length=S.length
 row:∀ j,j<D.length->os[(D.getD j default).1]?=some (.arr 2 (rowsOf enc (S.getD j default)))/\(S.getD j default).length=(D.getD j default).2
def RI.nil{α:Type}{enc:α->List AV}{os:List Ob}:RI enc os [] ([]:List (List α)):=⟨rfl,IM⟩
def RI.app{α:Type}{enc:α->List AV}{os:List Ob}{D:List (Nat×Nat)}{S:List (List α)}(h:RI enc os D S)(l:List Ob):RI enc (os++l) D S :=
 ⟨h.len,λj hj=>⟨aK (h.row j hj).1 l,(h.row j hj).2⟩⟩
def RI.kill{α:Type}{enc:α->List AV}{os:List Ob}{D:List (Nat×Nat)}{S:List (List α)}(h:RI enc os D S){i:Nat}{o y:Ob}(ho:os[i]?=some o)(bZ:∀ l,o≠.arr 2 l):RI enc (os.set i y) D S :=
 ⟨h.len,λj hj=>⟨BZ (h.row j hj).1 ho (λe=>bZ _ e.symm),(h.row j hj).2⟩⟩
def G4{α:Type}[Inhabited α](l:List α)(x:α)(j:Nat):(l++[x]).getD j default=if j<l.length then l.getD j default else if j=l.length then x else default:=by
 simp only[ax];split
 ·rename_i h;rw[eL h]
 ·rename_i h;rw[gZ AT];split
  ·rename_i h2;subst h2;simp
  ·rw[fl N0];rfl
def RI.snoc{α:Type}{enc:α->List AV}{os:List Ob}{D:List (Nat×Nat)}{S:List (List α)}(h:RI enc os D S){p:Nat}{r:List α}(hp:os[p]?=some (.arr 2 (rowsOf enc r))):RI enc os (D++[(p,r.length)]) (S++[r]) :=
 ⟨by simp[h.len],λj hj=>by
  rw[G4,G4,<- h.len];by_cases h1:j<D.length
  ·rw[if_pos h1,if_pos h1];exact h.row j h1
  ·have:j=D.length:=by simp at hj;omega
   rw[if_neg h1,if_neg h1,if_pos this,if_pos this];exact⟨hp,rfl⟩⟩
def RI.set{α:Type}{enc:α->List AV}{os:List Ob}{D:List (Nat×Nat)}{S:List (List α)}(h:RI enc os D S)(hn:(D.map (·.1)).Nodup){j:Nat}(hj:j<D.length){r:List α}(hr:r.length=(S.getD j default).length):RI enc (os.set (D.getD j default).1 (.arr 2 (rowsOf enc r))) D (S.set j r) :=
 ⟨by rw[bw];exact h.len,λk hk=>by
  by_cases e:k=j
  ·subst e;have:(S.set k r).getD k default=r:=by rw[ax,bP];simp[<- h.len,hk]
   rw[this];exact⟨lS (h.row k hk).1,hr.trans (h.row k hk).2⟩
  ·have:(S.set j r).getD k default=S.getD k default:=by rw[ax,fD (λe'=>e e'.symm),ax]
   rw[this];have bZ:(D.getD j default).1≠(D.getD k default).1:=λhh=>e ((EX (h₀:=by simpa using hk) (h₁:=by simpa using hj) hn).1 (by
    rw[CM,CM];have a1:D[k]=D.getD k default:=by simp[hk]
    have a2:D[j]=D.getD j default:=by simp[hj]
    rw[a1,a2];exact hh.symm))
   rw[fD bZ];exact h.row k hk⟩
def RI.other{α:Type}{enc:α->List AV}{os:List Ob}{D:List (Nat×Nat)}{S:List (List α)}(h:RI enc os D S){i:Nat}(hi:i ∉ D.map (·.1)){y:Ob}:RI enc (os.set i y) D S :=
 ⟨h.len,λk hk=>⟨by
  rw[fD (λe=>hi (bS.2 ⟨D.getD k default,aE hk,e.symm⟩))];exact(h.row k hk).1,(h.row k hk).2⟩⟩
def RI.fresh{α:Type}{enc:α->List AV}{os:List Ob}{D:List (Nat×Nat)}{S:List (List α)}(h:RI enc os D S){p:Nat}(hp:os.length<=p):p ∉ D.map (·.1):=λhh=>by
 obtain⟨q,hq,rfl⟩:=bS.1 hh;obtain⟨k,hk,rfl⟩:=wg.1 hq;have h1:=(h.row k hk).1;have a1:D.getD k default=D[k]:=by simp[hk]
 rw[a1]at h1;have:=(aR.1 h1).1;omega
def G5(D:List (Nat×Nat))(p n:Nat):rowsOf cA D++[[AV.ref p 2 0 n]]=rowsOf cA (D++[(p,n)]):=by simp[rowsOf,cA]
def RI.step{α:Type}{enc:α->List AV}{os:List Ob}{D:List (Nat×Nat)}{S:List (List α)}{ai:Nat}{x:Ob}(fa:os[ai]?=some x)(hx:∀ l,x≠.arr 2 l)(hR:RI enc os D S)(bx:(D.map (·.1)).Nodup)(r:List α)(t y:Ob):
  (os.set ai .gone++[.arr 2 (rowsOf enc r),t,y])[os.length+2]?=some y /\
  RI enc (os.set ai .gone++[.arr 2 (rowsOf enc r),t,y]) (D++[(os.length,r.length)]) (S++[r])/\((D++[(os.length,r.length)]).map (·.1)).Nodup /\
  ∀ k o,os[k]?=some o->k≠ai->(os.set ai .gone++[.arr 2 (rowsOf enc r),t,y])[k]?=some o:=by
 have hl:(os.set ai .gone).length=os.length:=bw ..;refine⟨?_,?_,?_,λk o hk bZ=>aK ?_ _⟩
 ·rw[<- hl,kN];rfl
 ·refine((hR.kill fa hx).app _).snoc ?_;rw[<- hl,ka]
 ·rw[dH,ny];refine⟨bx,IM,λa ha b hb=>?_⟩;simp only[fP,ns,c8]at hb;subst hb;exact λe=>hR.fresh (Nat.le_refl _) (e▸ha)
 ·rw[fD (Ne.symm bZ)];exact hk
structure LO{α:Type}(enc:α->List AV)(B:List (Nat×Ob))(D E:List (Nat×Nat))(S T:List (List α))(os:List Ob):Prop where
 base:∀ b∈B,os[b.1]?=some b.2/\∀ l,b.2≠.arr 2 l
 rD:RI enc os D S
 rE:RI enc os E T
 nd:((D++E).map (·.1)).Nodup
section
variable {α:Type} {enc:α->List AV} {B:List (Nat×Ob)} {D E:List (Nat×Nat)} {S T:List (List α)} {os:List Ob}
def LO.app(h:LO enc B D E S T os)(l:List Ob):LO enc B D E S T (os++l):=⟨λb hb=>⟨aK (h.base b hb).1 l,(h.base b hb).2⟩,h.rD.app l,h.rE.app l,h.nd⟩
def LO.add(h:LO enc B D E S T os){k:Nat}{x:Ob}(hk:os[k]?=some x)(hx:∀ l,x≠.arr 2 l):LO enc ((k,x)::B) D E S T os :=
 ⟨λb hb=>by rcases bm.1 hb with rfl|hb;exact⟨hk,hx⟩;exact h.base b hb,h.rD,h.rE,h.nd⟩
def LO.sub(h:LO enc B D E S T os){C:List (Nat×Ob)}(hc:∀ b∈C,b∈B):LO enc C D E S T os:=⟨λb hb=>h.base b (hc b hb),h.rD,h.rE,h.nd⟩
def G6{D E:List (Nat×Nat)}(h:((D++E).map (·.1)).Nodup):(D.map (·.1)).Nodup/\(E.map (·.1)).Nodup/\(∀ j,j<D.length->(D.getD j default).1 ∉ E.map (·.1))/\∀ j,j<E.length->(E.getD j default).1 ∉ D.map (·.1):=by
 rw[dH,ny]at h;refine⟨h.1,h.2.1,λj hj hh=>h.2.2 _ (bS.2 ⟨_,aE hj,rfl⟩) _ hh rfl,λj hj hh=>h.2.2 _ hh _ (bS.2 ⟨_,aE hj,rfl⟩) rfl⟩
def LO.z6(h:LO enc B D E S T os){j:Nat}(hj:j<D.length){r:List α}(hr:r.length=(S.getD j default).length):LO enc B D E (S.set j r) T (os.set (D.getD j default).1 (.arr 2 (rowsOf enc r))):=by
 obtain⟨h1,h2,h3,h4⟩:=G6 h.nd;exact⟨λb hb=>⟨BZ (h.base b hb).1 (h.rD.row j hj).1 ((h.base b hb).2 _),(h.base b hb).2⟩,h.rD.set h1 hj hr,h.rE.other (h3 j hj),h.nd⟩
def LO.yA(h:LO enc B D E S T os){j:Nat}(hj:j<E.length){r:List α}(hr:r.length=(T.getD j default).length):LO enc B D E S (T.set j r) (os.set (E.getD j default).1 (.arr 2 (rowsOf enc r))):=by
 obtain⟨h1,h2,h3,h4⟩:=G6 h.nd;exact⟨λb hb=>⟨BZ (h.base b hb).1 (h.rE.row j hj).1 ((h.base b hb).2 _),(h.base b hb).2⟩,h.rD.other (h4 j hj),h.rE.set h2 hj hr,h.nd⟩
end
def G7(xs:List Nm)(i:Nat)(b:Bool)(n:Int):(rowsOf iX xs).set i [.lit (.bool b),Oi n]=rowsOf iX (xs.set i (n,b)):=by simp[rowsOf,iX,p6]
def afB(xs:List Nm)(i:Nat)(b:Bool)(n:Int):(rowsOf a6 xs).set i [Oi n,.lit (.bool b)]=rowsOf a6 (xs.set i (n,b)):=by simp[rowsOf,a6,p6]
def LO.vars{α:Type}{enc:α->List AV}{B:List (Nat×Ob)}{D E:List (Nat×Nat)}{S T:List (List α)}{os:List Ob}(h:LO enc B D E S T os){n:Nat}(hn:os.length=n)(x y:Ob)(hx:∀ l,x≠.arr 2 l)(hy:∀ l,y≠.arr 2 l):
  LO enc ((n,x)::(n+1,y)::B) D E S T (os++[x,y]):=by
 subst hn;exact((h.app [x,y]).add (by rw[kN];rfl) hy).add (by rw[ka]) hx
def yi{α:Type}[Inhabited α](l:List α)(j:Nat):l.set j (l.getD j default)=l:=by
 apply List.ext_getElem?;intro i;rw[bP];split
 ·rename_i h;subst h;split
  ·rename_i h2;rw[ax,bq h2];rfl
  ·rename_i h2;rw[fl AT]
 ·rfl
def rJ{α:Type}[Inhabited α](l:List α)(j:Nat)(x:α)(h:j<l.length):(l.set j x).getD j default=x:=by
 rw[ax,bP];simp[h]
def LO.kill{α:Type}{enc:α->List AV}{B:List (Nat×Ob)}{D E:List (Nat×Nat)}{S T:List (List α)}{os:List Ob}(h:LO enc B D E S T os){i:Nat}{x y:Ob}(hi:os[i]?=some x)(hx:∀ l,x≠.arr 2 l)(bZ:∀ b∈B,b.1≠i):LO enc B D E S T (os.set i y) :=
 ⟨λb hb=>⟨by rw[fD (bZ b hb).symm];exact(h.base b hb).1,(h.base b hb).2⟩,h.rD.kill hi hx,h.rE.kill hi hx,h.nd⟩
def oI(os l:List Ob)(i k:Nat)(y:Ob):(os.set i y++l)[os.length+k]?=l[k]?:=by
 have:=kN (os.set i y) l k;rwa [bw]at this
def gC(m:ah)(ai bi:Nat)(D E:List (Nat×Nat)):List AV:=[.tree 1 (rowsOf aV m.cls),.tree 4 (rowsOf aG m.ae),.tree 4 (rowsOf df m.aC),Oi m.rules,.ref ai 1 0 D.length,.ref bi 1 0 E.length]
abbrev GB(m:ah)(gi ai bi:Nat)(D E:List (Nat×Nat)):List (Nat×Ob):=[(gi,.var (gC m ai bi D E)),(ai,.arr 1 (rowsOf cA D)),(bi,.arr 1 (rowsOf cA E))]
def z7{m:ah}{gi ai bi:Nat}{D E:List (Nat×Nat)}{S T:List (List Nm)}{os:List Ob}(h:LO a6 (GB m gi ai bi D E) D E S T os):
  os[gi]?=some (.var (gC m ai bi D E))/\os[ai]?=some (.arr 1 (rowsOf cA D))/\os[bi]?=some (.arr 1 (rowsOf cA E)) :=
 ⟨(h.base (gi,_) IM).1,(h.base (ai,.arr 1 (rowsOf cA D)) IM).1,(h.base (bi,.arr 1 (rowsOf cA E)) IM).1⟩
def gB(os ob:List Ob):Prop:=∀ (k:Nat) (o:Ob),os[k]?=some o->ob[k]?=some o
def gB.refl(os:List Ob):gB os os:=λ_ _ h=>h
def gB.app{os ob:List Ob}(h:gB os ob)(l:List Ob):gB os (ob++l):=λk o hk=>aK (h k o hk) l
def gB.set{os ob:List Ob}(h:gB os ob){i:Nat}(hi:os.length<=i){y:Ob}:gB os (ob.set i y):=λk o hk=>by
 have:=(aR.1 hk).1;rw[fD AT];exact h k o hk
def gB.len{os ob:List Ob}(h:gB os ob):os.length<=ob.length:=by
 rcases Nat.eq_zero_or_pos os.length with h0|h0
 ·omega
 ·obtain⟨o,ho⟩ :∃o,os[os.length-1]?=some o:=⟨_,bq AT⟩;have:=(aR.1 (h _ _ ho)).1;omega
section
variable {α:Type} {enc:α->List AV} {B:List (Nat×Ob)} {D E:List (Nat×Nat)} {S T:List (List α)} {os:List Ob}
def LO.swap(h:LO enc B D E S T os):LO enc B E D T S os:=⟨h.base,h.rE,h.rD,by
 have:=h.nd;rw[dH,ny]at this ⊢;exact⟨this.2.1,this.1,λa ha b hb e=>this.2.2 b hb a ha e.symm⟩⟩
def LO.G8(h:LO enc B D E S T os){i:Nat}{l:List (List AV)}(hi:i ∉ (D++E).map (·.1))(hr:os[i]?=some (.arr 2 l)){y:Ob}:LO enc B D E S T (os.set i y):=by
 rw[dH,cT,not_or]at hi;exact⟨λb hb=>⟨BZ (h.base b hb).1 hr ((h.base b hb).2 _),(h.base b hb).2⟩,h.rD.other hi.1,h.rE.other hi.2,h.nd⟩
def LO.fresh(h:LO enc B D E S T os){p:Nat}(hp:os.length<=p):p ∉ (D++E).map (·.1):=by
 rw[dH,cT,not_or];exact⟨h.rD.fresh hp,h.rE.fresh hp⟩
def LO.step{gi ai:Nat}{gc:List AV}{A:List (List AV)}(h:LO enc ((gi,.var gc)::(ai,.arr 1 A)::B) D E S T os){r:List α}{oi:Nat}(hr:os[oi]?=some (.arr 2 (rowsOf enc r)))(ef:oi ∉ (D++E).map (·.1))(hB:∀ b∈B,b.1≠ai/\b.1≠gi)(B1:List AV)(A':List (List AV))(t:Ob):
  LO enc ((gi,.var B1)::(os.length+1,.arr 1 A')::B) (D++[(oi,r.length)]) E (S++[r]) T ((os.set ai .gone).set gi (.var B1)++[t,.arr 1 A']):=by
 have hg:=(h.base (gi,.var gc) IM).1;have ha:=(h.base (ai,.arr 1 A) IM).1;dsimp only at hg ha;have B3:gi≠ai:=λe=>by rw[e,ha]at hg;cases hg
 have nY:(os.set ai .gone)[gi]?=some (.var gc):=by rw[fD B3.symm];exact hg
 have hl:((os.set ai .gone).set gi (.var B1)).length=os.length:=by rw[bw,bw]
 have hD2:=((h.rD.kill (y:=.gone) ha IM).kill (y:=.var B1) nY IM).app [t,.arr 1 A'];have hE2:=((h.rE.kill (y:=.gone) ha IM).kill (y:=.var B1) nY IM).app [t,.arr 1 A'];have gz:((os.set ai .gone).set gi (.var B1)++[t,.arr 1 A'])[oi]?=some (.arr 2 (rowsOf enc r)):=aK (BZ (BZ hr ha IM) nY IM) _;refine⟨λb hb=>?_,hD2.snoc gz,hE2,?_⟩
 ·rcases bm.1 hb with rfl|hb
  ·exact⟨aK (lS nY) _,IM⟩
  rcases bm.1 hb with rfl|hb
  ·refine⟨?_,IM⟩;dsimp only;rw[<- hl,kN];rfl
  ·have h0:=h.base b (by simp[hb]);refine⟨aK ?_ _,h0.2⟩;rw[fD (hB b hb).2.symm,fD (hB b hb).1.symm];exact h0.1
 ·have bx:=h.nd;rw[dH,ny]at bx ⊢;rw[dH,cT,not_or]at ef;obtain⟨n1,n2,n3⟩:=bx;refine⟨?_,n2,λa pI b hb=>?_⟩
  ·rw[dH,ny];refine⟨n1,IM,λa pI b hb=>?_⟩;simp only[fP,ns,c8]at hb;subst hb;exact λe=>ef.1 (e▸pI)
  ·rw[dH,cT]at pI;rcases pI with pI|pI
   ·exact n3 a pI b hb
   ·simp only[fP,ns,c8]at pI;subst pI;exact λe=>ef.2 (e▸hb)
end
end T

