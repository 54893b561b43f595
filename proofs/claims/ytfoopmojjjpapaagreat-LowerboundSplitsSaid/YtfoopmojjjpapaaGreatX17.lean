import Derived.Test.YtfoopmojjjpapaaGreatX13
import Derived.Test.YtfoopmojjjpapaaGreatX16
set_option linter.all false
set_option maxHeartbeats 0
set_option maxRecDepth 20000
open Int renaming natCast_add→ED,cast_ofNat_Int→Hk,mul_one→QV,zero_add→CP,toNat_of_nonneg→w9
open List renaming length_cons→du,getD_cons_zero→jc,getD_cons_succ→gB,mem_cons→bu,mem_append→cG,mem_singleton→cS,map_append→dU,nodup_append→pE,mem_map→bY,map_cons→ez,map_nil→oP,map_map→vG,map_congr_left→tZ,mem_iff_getElem→wU,getElem_inj→KO,getElem_map→EF,getD_eq_getElem?_getD→ay,getElem?_eq_getElem→bx,not_mem_nil→iI,foldl_append→AU,foldl_nil→AW,getElem?_append_right→iq,getElem?_append_left→fe,getElem?_eq_some_iff→aY,getElem?_set_ne→gT,getElem?_set→bU,getElem?_eq_none→dN,length_set→bJ,map_set→qF,ext_getElem?→lq,range→bn,mem_or_eq_of_mem_set→sW,getElem?_map→bM,flatMap_append→sX,length_append→bN,length_map→gD,getElem?_range→lk,all_eq_true→gA,mem_range→nB
open Option renaming getD_some→lR,map_some→fc
open Nat renaming lt_or_ge→dT
open Bool renaming and_eq_true→bc,not_eq_true'→kq,eq_false_iff→CO,false_and→rI,true_and→ic
open Go Go.Am
namespace T
def gy:List Ld->Int->Int->Int->Int
 |[],_,_,w=>w
 |x::r,c,o,w=>gy r c o (if x.cls=c/\x.opt=o then x.wt else w)
def ef(l:List Ld)(c:Int):Nat->List Bool->Int->Int
 |_,[],b=>b
 |o,is::r,b=>ef l c (o+1) r (if is=true/\(b<0\/gy l c o 0<b) then gy l c o 0 else b)
def k9(l:List Ld)(c:Int)(row:List Bool):Int:=max (ef l c 0 row (-1)) 0
def kE(l:List Ld):Nat->List (List Bool)->Int->Int
 |_,[],n=>n
 |i,row::r,n=>kE l (i+1) r (n+k9 l i row)
def ju(left:List (List Bool))(c:Ct):Int:=l7 c.most c.cA (kE c.bd 0 left 0)
def Z8(l:List Ld)(x:Ld)(c o:Int):∀ w,gy (l++[x]) c o w=if x.cls=c/\x.opt=o then x.wt else gy l c o w:=by
 induction l with
 |nil=>intro w;rfl
 |cons y r ih=>intro w;exact ih _
def NF:∀ {l:List Ld} {c:Int} (o w:Int),(∀ x∈l,x.cls≠c)->gy l c o w=w
 |[],_,_,_,_=>rfl
 |x::r,c,o,w,h=>by
  rw[gy,if_neg (λe=>h x G9 e.1)];exact NF o w λy hy=>h y (by simp[hy])
def BT{l:List Ld}(h:∀ x∈l,1<=x.wt/\x.wt<=1000)(c o:Int):∀ w,0<=w/\w<=1000->0<=gy l c o w/\gy l c o w<=1000:=by
 induction l with
 |nil=>intro w hw;exact hw
 |cons x r ih =>
  intro w hw;rw[gy];refine ih (λy hy=>h y (by simp[hy])) _ ?_;have:=h x G9;split<;>omega
def Z9{l:List Ld}{c:Int}(h:∀ x∈l,x.cls≠c):∀ (row:List Bool) (o:Nat) (b:Int),-1<=b/\b<=0->-1<=ef l c o row b/\ef l c o row b<=0
 |[],_,b,hb=>hb
 |is::r,o,b,hb=>by
  rw[ef];refine Z9 h r (o+1) _ ?_;rw[NF _ _ h];split<;>omega
def aaa{l:List Ld}{c:Int}(h:∀ x∈l,x.cls≠c)(row:List Bool):k9 l c row=0:=by
 have:=Z9 h row 0 (-1) Ey;unfold k9;omega
def IP{l:List Ld}(h:∀ x∈l,1<=x.wt/\x.wt<=1000)(c:Int):∀ (row:List Bool) (o:Nat) (b:Int),-1<=b/\b<=1000->-1<=ef l c o row b/\ef l c o row b<=1000
 |[],_,b,hb=>hb
 |is::r,o,b,hb=>by
  rw[ef];refine IP h c r (o+1) _ ?_;have:=BT h c o 0 Ey;split<;>omega
def aab{l:List Ld}(h:∀ x∈l,1<=x.wt/\x.wt<=1000)(c:Int)(row:List Bool):0<=k9 l c row/\k9 l c row<=1000:=by
 have:=IP h c row 0 (-1) Ey;unfold k9;omega
def bQ(f:Nat->Int):Nat->Int
 |0=>0
 |n+1=>bQ f n+f n
def jv{f g:Nat->Int}:∀ (n:Nat),(∀ i<n,f i=g i)->bQ f n=bQ g n
 |0,_=>rfl
 |n+1,h=>by rw[bQ,bQ,jv n λi hi=>h i Ey,h n Ey]
def FF{f:Nat->Int}{B:Int}:∀ (n:Nat),(∀ i<n,0<=f i/\f i<=B)->0<=bQ f n/\bQ f n<=B*n
 |0,_=>by simp[bQ]
 |n+1,h=>by
  have h1:=FF n λi hi=>h i Ey;have h2:=h n Ey;rw[bQ,ED,Int.mul_add];simp only[Hk,QV];omega
def Ag(f:Nat->Int)(k:Nat)(v:Int):∀ (n:Nat),bQ (λi=>if i=k then f i+v else f i) n=bQ f n+if k<n then v else 0
 |0=>by simp[bQ]
 |n+1=>by
  rw[bQ,bQ,Ag f k v n];by_cases h:n=k
  ·subst h;rw[if_pos rfl,if_neg Ey,if_pos Ey];omega
  ·rw[if_neg h];by_cases h2:k<n
   ·rw[if_pos h2,if_pos Ey];omega
   ·rw[if_neg h2,if_neg Ey];omega
def Ah(f:Nat->Int):∀ n,bQ f (n+1)=f 0+bQ (λi=>f (i+1)) n
 |0=>by simp[bQ]
 |n+1=>by rw[bQ,Ah f n,bQ];omega
def BU(l:List Ld):∀ (left:List (List Bool)) (i:Nat) (n:Int),kE l i left n=n+bQ (λj=>k9 l (i+j:Nat) (left.getD j [])) left.length
 |[],i,n=>by simp[kE,bQ]
 |row::r,i,n=>by
  rw[kE,BU l r (i+1),du,Ah];simp only[jc,gB,Nat.add_zero];rw[jv (g:=λj=>k9 l (i+(j+1):Nat) (r.getD j [])) r.length λj _=>by rw[show i+1+j=i+(j+1) by omega]];omega
def FG{l:List Ld}(h:∀ x∈l,1<=x.wt/\x.wt<=1000)(left:List (List Bool)):0<=kE l 0 left 0/\kE l 0 left 0<=1000*left.length:=by
 rw[BU,CP];exact FF _ λi _=>aab h _ _
abbrev nR:=Int×Nat×List (Int×Int)
def vE(es:List (Int×Int)):List (Int×Value):=es.map λp=>(p.1,.int .i64 p.2)
def gE(A:List nR):List (Int×Value):=A.map λe=>(e.1,.map (some e.2.1))
def BV(o w:Int):List (Int×Int)->List (Int×Int)
 |[]=>[(o,w)]
 |p::r=>if p.1=o then(o,w)::r else p::BV o w r
def xR(o:Int):List (Int×Int)->Int
 |[]=>0
 |p::r=>if p.1=o then p.2 else xR o r
def aac(o w:Int):∀ es,kZ o (.int .i64 w) (vE es)=vE (BV o w es)
 |[]=>rfl
 |p::r=>by
  show kZ o _ ((p.1,Value.int .i64 p.2)::vE r)=_;rw[kZ,BV];by_cases h:p.1=o
  ·rw[if_pos h,if_pos h];rfl
  ·rw[if_neg h,if_neg h,aac o w r];rfl
def aad(o:Int):∀ es,(oH o (vE es)).getD (.int .i64 0)=.int .i64 (xR o es)
 |[]=>rfl
 |p::r=>by
  show(oH o ((p.1,Value.int .i64 p.2)::vE r)).getD _=_;rw[oH,xR];by_cases h:p.1=o
  ·rw[if_pos h,if_pos h];rfl
  ·rw[if_neg h,if_neg h,aad o r]
def aae(o w x:Int):∀ es,xR x (BV o w es)=if o=x then w else xR x es
 |[]=>rfl
 |p::r=>by
  rw[BV];by_cases h:p.1=o
  ·rw[if_pos h,xR,xR];by_cases h2:o=x
   ·rw[if_pos h2,if_pos h2]
   ·rw[if_neg h2,if_neg h2,if_neg Ey]
  ·rw[if_neg h,xR,xR,aae o w x r];by_cases h2:p.1=x
   ·rw[if_pos h2,if_neg Ey,if_pos h2]
   ·rw[if_neg h2,if_neg h2]
def NG(c:Int):∀ A:List nR,(oH c (gE A)=none/\∀ e∈A,e.1≠c)\/∃ e∈A,e.1=c/\oH c (gE A)=some (.map (some e.2.1))
 |[]=>.inl ⟨rfl,G9⟩
 |e::r=>by
  show(oH c ((e.1,Value.map (some e.2.1))::gE r)=none/\_)\/_;by_cases h:e.1=c
  ·right;refine⟨e,G9,h,?_⟩;show oH c ((e.1,Value.map (some e.2.1))::gE r)=_;rw[oH,if_pos h]
  ·rcases NG c r with⟨h1,h2⟩|⟨e',h1,h2,h3⟩
   ·left;refine⟨by rw[oH,if_neg h];exact h1,λx hx=>?_⟩;rcases bu.1 hx with rfl|hx
    ·exact h
    ·exact h2 x hx
   ·right;refine⟨e',by simp[h1],h2,?_⟩;show oH c ((e.1,Value.map (some e.2.1))::gE r)=_;rw[oH,if_neg h];exact h3
def aaf(c:Int)(b:Nat):∀ A:List nR,(∀ e∈A,e.1≠c)->kZ c (.map (some b)) (gE A)=gE (A++[(c,b,[])])
 |[],_=>rfl
 |e::r,h=>by
  show kZ c _ ((e.1,Value.map (some e.2.1))::gE r)=_;rw[kZ,if_neg (h e G9),aaf c b r λx hx=>h x (by simp[hx])];rfl
structure GI(R:Nat)(dn:List Ld)(A:List nR)(b0:Nat)(μ:Mem):Prop where
 top:μ b0=some (.map (iE (gE A)))
 sub:∀ e∈A,μ e.2.1=some (.map (iE (vE e.2.2)))
 DI:∀ e∈A,e.2.1≠b0
 inj:∀ e∈A,∀ e'∈A,e.2.1=e'.2.1->e=e'
 keys:(A.map (·.1)).Nodup
 val:∀ e∈A,∀ o,xR o e.2.2=gy dn e.1 o 0
 has:∀ x∈dn,∃ e∈A,e.1=x.cls
 sH:∀ e∈A,0<=e.1/\e.1<R
def GI.nil{R b0:Nat}{μ:Mem}(h:μ b0=some (.map [])):GI R [] [] b0 μ:=⟨h,G9,G9,G9,G9,G9,G9,G9⟩
def GI.new{R:Nat}{dn:List Ld}{A:List nR}{b0:Nat}{μ:Mem}(h:GI R dn A b0 μ){c:Int}(hcR:0<=c/\c<R)(hc:∀ e∈A,e.1≠c){b:Nat}(hb:μ b=none):GI R dn (A++[(c,b,[])]) b0 (iQ (iQ μ b (.map [])) b0 (.map (iE (kZ c (.map (some b)) (gE A))))):=by
 have l9:b≠b0:=λe=>by rw[e,h.top]at hb;cases hb
 have th:∀ e∈A,e.2.1≠b:=λe he e2=>by have:=h.sub e he;rw[e2,hb]at this;cases this
 refine⟨by rw[tB,aaf c b A hc],λe he=>?_,λe he=>?_,λe he e' sI hh=>?_,?_,λe he o=>?_,λx hx=>?_,λe he=>?_⟩
 ·rcases cG.1 he with he|he
  ·rw[qZ _ _ (h.DI e he),qZ _ _ (th e he)];exact h.sub e he
  ·simp only[cS]at he;subst he;rw[qZ _ _ l9,tB];rfl
 ·rcases cG.1 he with he|he
  ·exact h.DI e he
  ·simp only[cS]at he;subst he;exact l9
 ·rcases cG.1 he with he|he<;>rcases cG.1 sI with sI|sI
  ·exact h.inj e he e' sI hh
  ·simp only[cS]at sI;subst sI;exact absurd hh (th e he)
  ·simp only[cS]at he;subst he;exact absurd hh.symm (th e' sI)
  ·simp only[cS]at he sI;rw[he,sI]
 ·rw[dU,pE];refine⟨h.keys,G9,λa ha b' ba=>?_⟩;obtain⟨e,he,rfl⟩:=bY.1 ha;simp only[ez,oP,cS]at ba;rw[ba];exact hc e he
 ·rcases cG.1 he with he|he
  ·exact h.val e he o
  ·simp only[cS]at he;subst he;rw[NF]
   ·rfl
   ·intro x hx vX;obtain⟨e,he,we⟩:=h.has x hx;exact hc e he (we.trans vX)
 ·obtain⟨e,he,we⟩:=h.has x hx;exact⟨e,List.mem_append_left _ he,we⟩
 ·rcases cG.1 he with he|he
  ·exact h.sH e he
  ·simp only[cS]at he;subst he;exact hcR
def fh(c o w:Int)(A:List nR):List nR:=A.map λe=>if e.1=c then(e.1,e.2.1,BV o w e.2.2) else e
def ai7(c o w:Int)(A:List nR):gE (fh c o w A)=gE A:=by
 unfold gE fh;rw[vG];refine tZ λe _=>?_;simp only[Function.comp];split<;>rfl
def GI.put{R:Nat}{dn:List Ld}{A:List nR}{b0:Nat}{μ:Mem}(h:GI R dn A b0 μ){x:Ld}{e0:nR}(gu:e0∈A)(hc:e0.1=x.cls):GI R (dn++[x]) (fh x.cls x.opt x.wt A) b0 (iQ μ e0.2.1 (.map (iE (kZ x.opt (.int .i64 x.wt) (vE e0.2.2))))):=by
 have uniq:∀ e∈A,e.1=x.cls->e=e0:=λe he hh=>by
  have hk:=h.keys;obtain⟨i,hi,rfl⟩:=wU.1 he;obtain⟨j,hj,rfl⟩:=wU.1 gu;have:i=j:=(KO (h₀:=by simpa using hi) (h₁:=by simpa using hj) hk).1 (by simp only[EF];rw[hh,hc]);subst this;rfl
 have one:∀ e∈fh x.cls x.opt x.wt A,(e=(e0.1,e0.2.1,BV x.opt x.wt e0.2.2))\/(e∈A/\e.1≠x.cls):=λe he=>by
  obtain⟨e',sI,rfl⟩:=bY.1 he;by_cases hh:e'.1=x.cls
  ·left;rw[if_pos hh,uniq e' sI hh]
  ·right;rw[if_neg hh];exact⟨sI,hh⟩
 have th:∀ e∈A,e.1≠x.cls->e.2.1≠e0.2.1:=λe he hh e2=>hh (by rw[h.inj e he e0 gu e2,hc]);refine⟨by rw[qZ _ _ (h.DI e0 gu).symm,ai7];exact h.top,λe he=>?_,λe he=>?_,λe he e' sI hh=>?_,?_,λe he o=>?_,λy hy=>?_,λe he=>?_⟩
 ·rcases one e he with rfl|⟨h1,h2⟩
  ·rw[tB,aac]
  ·rw[qZ _ _ (th e h1 h2)];exact h.sub e h1
 ·rcases one e he with rfl|⟨h1,h2⟩
  ·exact h.DI e0 gu
  ·exact h.DI e h1
 ·rcases one e he with rfl|⟨h1,h2⟩<;>rcases one e' sI with rfl|⟨h3,h4⟩
  ·rfl
  ·exact absurd hh.symm (th e' h3 h4)
  ·exact absurd hh (th e h1 h2)
  ·exact h.inj e h1 e' h3 hh
 ·have:(fh x.cls x.opt x.wt A).map (·.1)=A.map (·.1):=by
   unfold fh;rw[vG];refine tZ λe _=>?_;simp only[Function.comp];split<;>rfl
  rw[this];exact h.keys
 ·rw[Z8];rcases one e he with rfl|⟨h1,h2⟩
  ·dsimp only;rw[aae,h.val e0 gu o];by_cases ho:x.opt=o
   ·rw[if_pos ho,if_pos ⟨hc.symm,ho⟩]
   ·rw[if_neg ho,if_neg (λe=>ho e.2)]
  ·rw[if_neg (λe=>h2 e.1.symm)];exact h.val e h1 o
 ·have mem:∀ e∈A,∃ e'∈fh x.cls x.opt x.wt A,e'.1=e.1:=λe he=>⟨_,List.mem_map_of_mem he,by split<;>rfl⟩;rcases cG.1 hy with hy|hy
  ·obtain⟨e,he,we⟩:=h.has y hy;obtain⟨e',k1,k2⟩:=mem e he;exact⟨e',k1,k2.trans we⟩
  ·simp only[cS]at hy;subst hy;obtain⟨e',k1,k2⟩:=mem e0 gu;exact⟨e',k1,k2.trans hc⟩
 ·rcases one e he with rfl|⟨h1,h2⟩
  ·exact h.sH e0 gu
  ·exact h.sH e h1
def Ai(f:Int->Int):List nR->Int
 |[]=>0
 |e::r=>f e.1+Ai f r
def NH(f:Int->Int)(n:Nat):∀ A:List nR,(A.map (·.1)).Nodup->(∀ e∈A,0<=e.1/\e.1<n)->Ai f A=bQ (λi=>if∃e∈A,e.1=(i:Int) then f i else 0) n
 |[],_,_=>by
  rw[jv (g:=λ_=>0) n (λi _=>G9)];have:∀ n,bQ (λ_=>0) n=0:=λn=>by induction n with|zero=>rfl|succ n ih=>rw[bQ,ih];rfl
  rw[this];rfl
 |e::r,hn,hr=>by
  rw[ez,List.nodup_cons]at hn;rw[Ai,NH f n r hn.2 λx hx=>hr x (by simp[hx])];have h0:=hr e G9;have ai8:¬∃x∈r,x.1=((e.1.toNat:Nat):Int):=by
   rintro⟨x,hx,hh⟩;rw[w9 h0.1]at hh;exact hn.1 (bY.2 ⟨x,hx,hh⟩)
  have:=Ag (λi=>if∃x∈r,x.1=(i:Int) then f i else 0) e.1.toNat (f e.1) n;rw[if_pos Ey]at this;rw[Int.add_comm,<- this];refine jv n λi hi=>?_;by_cases h:i=e.1.toNat
  ·subst h;rw[if_pos rfl,if_neg ai8,if_pos ⟨e,G9,Ey⟩,w9 h0.1];omega
  ·rw[if_neg h];have:(∃ x∈e::r,x.1=(i:Int))↔∃ x∈r,x.1=(i:Int):=by
    constructor
    ·rintro⟨x,hx,hh⟩;rcases bu.1 hx with rfl|hx
     ·omega
     ·exact⟨x,hx,hh⟩
    ·rintro⟨x,hx,hh⟩;exact⟨x,by simp[hx],hh⟩
   simp only[this]
def aag:∀ A:List nR,Ai (λ_=>1) A=A.length
 |[]=>rfl
 |e::r=>by rw[Ai,aag r,du];omega
def GI.len{R:Nat}{dn:List Ld}{A:List nR}{b0:Nat}{μ:Mem}(h:GI R dn A b0 μ):A.length<=R:=by
 have h1:=NH (λ_=>1) R A h.keys h.sH;rw[aag]at h1;have h2:=FF (f:=λi=>if∃e∈A,e.1=(i:Int) then(1:Int) else 0) (B:=1) R λi _=>by split<;>omega
 omega
def GI.sum{dn:List Ld}{A:List nR}{b0:Nat}{μ:Mem}{left:List (List Bool)}(h:GI left.length dn A b0 μ):Ai (λc=>k9 dn c (left.getD c.toNat [])) A=kE dn 0 left 0:=by
 rw[NH _ left.length A h.keys h.sH,BU,CP];refine jv _ λi _=>?_;simp only[Nat.zero_add,Int.toNat_natCast];by_cases hh :∃e∈A,e.1=(i:Int)
 ·rw[if_pos hh]
 ·rw[if_neg hh,aaa];intro x hx vX;obtain⟨e,he,we⟩:=h.has x hx;exact hh ⟨e,he,we.trans vX⟩
def xS(f:Nat->Int)(seen:List Nat)(n:Nat):Int:=bQ (λi=>if i∈seen then f i else 0) n
def FH(seen:List Nat)(n:Nat):Nat:=(bQ (λi=>if i∈seen then 0 else 1) n).toNat
def ai9{f:Nat->Int}{seen:List Nat}{n j:Nat}(hj:j<n)(hs:j ∉ seen):xS f (seen++[j]) n=xS f seen n+f j:=by
 unfold xS;have:=Ag (λi=>if i∈seen then f i else 0) j (f j) n;rw[if_pos hj]at this;rw[<- this];refine jv n λi _=>?_;by_cases h:i=j
 ·subst h;rw[if_pos G9,if_pos rfl,if_neg hs];omega
 ·rw[if_neg h];simp[h]
def aah{seen:List Nat}{n j:Nat}(hj:j<n)(hs:j ∉ seen):FH (seen++[j]) n<FH seen n:=by
 unfold FH;have h1:=Ag (λi=>if i∈seen then(0:Int) else 1) j (-1) n;rw[if_pos hj]at h1;have h2:bQ (λi=>if i∈seen++[j] then(0:Int) else 1) n=bQ (λi=>if i=j then(if i∈seen then 0 else 1)+-1 else if i∈seen then 0 else 1) n:=by
  refine jv n λi _=>?_;by_cases h:i=j
  ·subst h;rw[if_pos G9,if_pos rfl,if_neg hs];rfl
  ·rw[if_neg h];simp[h]
 have h3:=(FF (f:=λi=>if i∈seen++[j] then(0:Int) else 1) (B:=1) n λi _=>by split<;>omega).1;omega
def ai'{f:Nat->Int}{seen:List Nat}{n:Nat}(h:∀ j<n,j∈seen):xS f seen n=bQ f n:=jv n λi hi=>if_pos (h i hi)
def aja(f:Nat->Int)(n:Nat):xS f [] n=0:=by
 unfold xS;rw[jv (g:=λ_=>0) n (λi _=>G9)]
 induction n with|zero=>rfl|succ n ih=>rw[bQ,ih];rfl
def aai(f:Int->Int):∀ A:List nR,bQ (λj=>f (A.getD j (0,0,[])).1) A.length=Ai f A
 |[]=>rfl
 |e::r=>by
  rw[du,Ah,Ai];simp only[jc,gB];rw[aai f r]
def ajb{f:Nat->Int}{B:Int}{seen:List Nat}{n:Nat}(hB:0<=B)(h:∀ i<n,0<=f i/\f i<=B):0<=xS f seen n/\xS f seen n<=B*n :=
 FF n λi hi=>by have:=h i hi;split<;>omega
def aaj(L:List (Int×Value))(j:Nat):(iE L)[j]?=L[j]?.map λp=>(.int .i64 p.1,p.2):=by simp[iE]
def aak(A:List nR)(j:Nat):(gE A)[j]?=A[j]?.map λe=>(e.1,.map (some e.2.1)):=by simp[gE]
def IQ(A:List nR):(iE (gE A)).length=A.length:=by simp[gE,iE]
def GI.other{R:Nat}{dn:List Ld}{A:List nR}{b0:Nat}{μ:Mem}(h:GI R dn A b0 μ){r:Nat}(g:Gh)(hr:∀ l,μ r≠some (.map l)):GI R dn A b0 (iQ μ r g) :=
 ⟨by rw[qZ _ _ (λe=>hr _ (e▸h.top))];exact h.top,λe he=>by rw[qZ _ _ (λe2=>hr _ (e2▸h.sub e he))];exact h.sub e he,h.DI,h.inj,h.keys,h.val,h.has,h.sH⟩
def NI(l:List Ld)(c:Int)(is:Bool):∀ (row:List Bool) (i:Nat) (b:Int),ef l c i (row++[is]) b =
  if is=true/\(ef l c i row b<0\/gy l c (i+row.length:Nat) 0<ef l c i row b) then gy l c (i+row.length:Nat) 0 else ef l c i row b
 |[],i,b=>rfl
 |x::r,i,b=>by
  show ef l c (i+1) (r++[is]) _=_;rw[NI l c is r (i+1),ef,du,show i+1+r.length=i+(r.length+1) by omega]
def cK(m:ah)(left:List (List Bool)):Prop:=left.length=m.cls.length/\∀ i,i<left.length->(left.getD i default).length=(m.cls.getD i default).length
instance (m:ah)(left:List (List Bool)):Decidable (cK m left):=by unfold cK;infer_instance
def kj(m:ah)(left:List (List Bool)):Int:=if gv m≠0 then gv m else if cK m left then 0 else 17
def NJ{m:ah}{left:List (List Bool)}(h:kj m left=0):VM m/\cK m left:=by
 unfold kj at h;split at h
 ·omega
 split at h
 ·rename_i h1 h2;exact⟨kf.1 (Decidable.not_not.1 h1),h2⟩
 ·omega
def cK.row{m:ah}{left:List (List Bool)}(hm:VM m)(h:cK m left):∀ r∈left,r.length<=24:=λr hr=>by
 obtain⟨i,hi,rfl⟩:=wU.1 hr;have:=h.2 i hi;rw[ay,bx hi]at this;simp only[lR]at this;rw[this];exact hm.opt _ (aF (by have:=h.1;omega))
def BB(left:List (List Bool)):Prop:=left.length<9223372036854775808/\∀ r∈left,r.length<9223372036854775808
def aal(l:List Ld)(row:List Bool):∀ (L:List (List Bool)) (i:Nat) (n:Int),kE l i (L++[row]) n=kE l i L n+k9 l (i+L.length:Nat) row
 |[],i,n=>rfl
 |x::r,i,n=>by
  show kE l (i+1) (r++[row]) _=_;rw[aal l row r (i+1),kE,du,show i+1+r.length=i+(r.length+1) by omega]
def ep{α:Type}[Inhabited α]{l:List α}{k:Nat}(h:k<l.length):l.take (k+1)=l.take k++[l.getD k default]:=by
 rw[List.take_succ_eq_append_getElem h,ay,bx h];rfl
abbrev Nm:=Int×Bool
def e8(x:Int):Nm:=(x,decide (1099511627776<=x))
def bb(p:Nm):List AV:=[QM p.1,.lit (.bool p.2)]
def jG(p:Nm):List AV:=[.lit (.bool p.2),QM p.1]
instance:Row bb 2:=⟨λ_=>rfl,λp v hv=>by
 simp only[bb,bu,iI,or_false]at hv;rcases hv with rfl|rfl<;>exact .inl ⟨_,rfl,rfl⟩⟩
instance:Row jG 2:=⟨λ_=>rfl,λp v hv=>by
 simp only[jG,bu,iI,or_false]at hv;rcases hv with rfl|rfl<;>exact .inl ⟨_,rfl,rfl⟩⟩
def sJ(o:cP):Int:=(o.ch.map (·.2)).foldl eM 0
def cj(l:List cP):List Int:=l.map sJ
def dL(l:List Int):List Nm:=l.map e8
def cW:List Nm->List Bool->Int×Bool->Int×Bool
 |p::r,is::s,b=>cW r s (if is=true/\p.2=false/\(b.2=false\/p.1<b.1) then(p.1,true) else b)
 |_,_,b=>b
def IS{R:Int}{l:List (Int×Int)}(h:eT R none l=true):∀ c∈l,bX c.2:=λc hc=>wC (IM h c hc).2
def FI:∀ (l:List Int) (n:Int),(∀ x∈l,bX x)->bX n->bX (l.foldl eM n)
 |[],_,_,h=>h
 |x::r,n,hl,h=>FI r _ (λy hy=>hl y (by simp[hy])) (FC h (hl x G9))
def FJ{R:Int}{o:cP}(h:eT R none o.ch=true):bX (sJ o):=FI _ _ (λx hx=>by
 obtain⟨c,hc,rfl⟩:=bY.1 hx;exact IS h c hc) (by unfold bX;decide)
structure Mv where
 pair:Int
 side:Int
 opt:Int
 amt:Int
 deriving Inhabited
def aU(x:Mv):List AV:=[QM x.pair,QM x.side,QM x.opt,QM x.amt]
instance:Row aU 4:=⟨λ_=>rfl,λx v hv=>by
 simp only[aU,bu,iI,or_false]at hv;rcases hv with rfl|rfl|rfl|rfl<;>exact .inl ⟨_,rfl,rfl⟩⟩
def fq(m:ah)(x:Mv):Int:=if x.side=0 then(m.ae.getD x.pair.toNat default).fst else(m.ae.getD x.pair.toNat default).snd
def jx(m:ah)(x:Mv):Bool:=decide (0<=x.pair/\x.pair<m.ae.length/\0<=x.side/\x.side<=1/\-268435456<=x.amt/\x.amt<=268435456)&&iD m (fq m x) x.opt
def aam(l:List (Int×Int))(k:Nat)(h:k<l.length):(((l.take (k+1)).map (·.2)).foldl eM 0)=eM (((l.take k).map (·.2)).foldl eM 0) (l.getD k default).2:=by
 rw[ep h,dU,AU];rfl
def aan(p:Nm)(is:Bool)(b:Int×Bool):Int×Bool:=if is=true/\p.2=false/\(b.2=false\/p.1<b.1) then(p.1,true) else b
def aao(p:Nm)(is:Bool):∀ (l:List Nm) (s:List Bool) (b:Int×Bool),l.length=s.length->cW (l++[p]) (s++[is]) b=aan p is (cW l s b)
 |[],[],b,_=>rfl
 |x::r,y::s,b,h=>by
  show cW (r++[p]) (s++[is]) _=_;rw[aao p is r s _ (by simpa using h)];rfl
def kk:List Nm->List Bool->List Nm
 |p::r,is::s=>(if is=true then [p] else [])++kk r s
 |_,_=>[]
def DJ(b a:Nm):Nm:=if a.2=false/\(b.2=true\/a.1<b.1) then a else b
def u7(l:List Nm):Nm:=l.foldl DJ (0,true)
def ajc(l:List Nm)(a:Nm):u7 (l++[a])=DJ (u7 l) a:=by unfold u7;rw[AU];rfl
def NK(p:Nm)(is:Bool):∀ (l:List Nm) (s:List Bool),l.length=s.length->kk (l++[p]) (s++[is])=kk l s++(if is=true then [p] else [])
 |[],[],_=>by simp[kk]
 |x::r,y::s,h=>by
  show(if y=true then [x] else [])++kk (r++[p]) (s++[is])=_;rw[NK p is r s (by simpa using h),kk,List.append_assoc]
def NL:∀ (l:List Nm) (s:List Bool) (b:Int×Bool),(kk l s).foldl DJ (b.1,!b.2)=((cW l s b).1,!(cW l s b).2)
 |[],s,b=>by cases s<;>rfl
 |p::r,[],b=>rfl
 |p::r,is::s,b=>by
  rw[kk,cW,AU];cases is with
  |false=>simp only[Bool.false_eq_true,if_false,AW,false_and];exact NL r s b
  |true =>
   simp only[if_true,List.foldl_cons,AW,eq_self,true_and];have:DJ (b.1,!b.2) p=((if p.2=false/\(b.2=false\/p.1<b.1) then(p.1,true) else b).1,!(if p.2=false/\(b.2=false\/p.1<b.1) then(p.1,true) else b).2):=by
    unfold DJ;obtain⟨b1,b2⟩:=b;obtain⟨p1,p2⟩:=p;dsimp only;cases b2<;>cases p2<;>simp;split<;>rfl
   rw[this];exact NL r s _
def ajd(l:List Nm)(s:List Bool):u7 (kk l s)=((cW l s (0,false)).1,!(cW l s (0,false)).2):=NL l s (0,false)
def kF(os:List Ob)(x:Ob)(l:List Ob):(os++x::l)[os.length]?=some x:=G9
def lf(os l:List Ob)(k:Nat):(os++l)[os.length+k]?=l[k]?:=by rw[iq Ey,Nat.add_sub_cancel_left]
def FK(os:List Ob)(x y:Ob)(l:List Ob):(os++x::l).set os.length y=os++y::l:=by rw[List.set_append];simp
def FL(os l:List Ob)(k:Nat)(y:Ob):(os++l).set (os.length+k) y=os++l.set k y:=by rw[List.set_append_right _ _ Ey];simp
def aR{os:List Ob}{i:Nat}{o:Ob}(h:os[i]?=some o)(l:List Ob):(os++l)[i]?=some o:=by
 rw[fe (aY.1 h).1];exact h
def jm{os:List Ob}{i:Nat}{o:Ob}(h:os[i]?=some o)(l:List Ob)(y:Ob):(os++l).set i y=os.set i y++l:=by
 rw[List.set_append,if_pos (aY.1 h).1]
def DK{os:List Ob}{i j:Nat}{o o' y:Ob}(h:os[i]?=some o)(h':os[j]?=some o')(cE:o≠o'):(os.set j y)[i]?=some o:=by
 have:j≠i:=λe=>cE (by rw[e,h]at h';simpa using h');rw[gT this];exact h
def nr{os:List Ob}{i:Nat}{o y:Ob}(h:os[i]?=some o):(os.set i y)[i]?=some y:=by
 rw[bU];simp[(aY.1 h).1]
def bT:=Q4 @kF @lf @FK @FL
def cL(q:Nat×Nat):List AV:=[.ref q.1 2 0 q.2]
structure RI{α:Type}(enc:α->List AV)(os:List Ob)(D:List (Nat×Nat))(S:List (List α)):Prop where
 len:D.length=S.length
 row:∀ j,j<D.length->os[(D.getD j default).1]?=some (.arr 2 (rowsOf enc (S.getD j default)))/\(S.getD j default).length=(D.getD j default).2
def RI.nil{α:Type}{enc:α->List AV}{os:List Ob}:RI enc os [] ([]:List (List α)):=⟨rfl,G9⟩
def RI.app{α:Type}{enc:α->List AV}{os:List Ob}{D:List (Nat×Nat)}{S:List (List α)}(h:RI enc os D S)(l:List Ob):RI enc (os++l) D S :=
 ⟨h.len,λj hj=>⟨aR (h.row j hj).1 l,(h.row j hj).2⟩⟩
def RI.kill{α:Type}{enc:α->List AV}{os:List Ob}{D:List (Nat×Nat)}{S:List (List α)}(h:RI enc os D S){i:Nat}{o y:Ob}(ho:os[i]?=some o)(cE:∀ l,o≠.arr 2 l):RI enc (os.set i y) D S :=
 ⟨h.len,λj hj=>⟨DK (h.row j hj).1 ho (λe=>cE _ e.symm),(h.row j hj).2⟩⟩
def IT{α:Type}[Inhabited α](l:List α)(x:α)(j:Nat):(l++[x]).getD j default=if j<l.length then l.getD j default else if j=l.length then x else default:=by
 simp only[ay];split
 ·rename_i h;rw[fe h]
 ·rename_i h;rw[iq Ey];split
  ·rename_i h2;subst h2;simp
  ·rw[dN Hj];rfl
def RI.snoc{α:Type}{enc:α->List AV}{os:List Ob}{D:List (Nat×Nat)}{S:List (List α)}(h:RI enc os D S){p:Nat}{r:List α}(hp:os[p]?=some (.arr 2 (rowsOf enc r))):RI enc os (D++[(p,r.length)]) (S++[r]) :=
 ⟨by simp[h.len],λj hj=>by
  rw[IT,IT,<- h.len];by_cases h1:j<D.length
  ·rw[if_pos h1,if_pos h1];exact h.row j h1
  ·have:j=D.length:=by simp at hj;omega
   rw[if_neg h1,if_neg h1,if_pos this,if_pos this];exact⟨hp,rfl⟩⟩
def RI.set{α:Type}{enc:α->List AV}{os:List Ob}{D:List (Nat×Nat)}{S:List (List α)}(h:RI enc os D S)(hn:(D.map (·.1)).Nodup){j:Nat}(hj:j<D.length){r:List α}(hr:r.length=(S.getD j default).length):RI enc (os.set (D.getD j default).1 (.arr 2 (rowsOf enc r))) D (S.set j r) :=
 ⟨by rw[bJ];exact h.len,λk hk=>by
  by_cases e:k=j
  ·subst e;have:(S.set k r).getD k default=r:=by rw[ay,bU];simp[<- h.len,hk]
   rw[this];exact⟨nr (h.row k hk).1,hr.trans (h.row k hk).2⟩
  ·have:(S.set j r).getD k default=S.getD k default:=by rw[ay,gT (λe'=>e e'.symm),ay]
   rw[this];have cE:(D.getD j default).1≠(D.getD k default).1:=λhh=>e ((KO (h₀:=by simpa using hk) (h₁:=by simpa using hj) hn).1 (by
    rw[EF,EF];have a1:D[k]=D.getD k default:=by simp[hk]
    have a2:D[j]=D.getD j default:=by simp[hj]
    rw[a1,a2];exact hh.symm))
   rw[gT cE];exact h.row k hk⟩
def RI.other{α:Type}{enc:α->List AV}{os:List Ob}{D:List (Nat×Nat)}{S:List (List α)}(h:RI enc os D S){i:Nat}(hi:i ∉ D.map (·.1)){y:Ob}:RI enc (os.set i y) D S :=
 ⟨h.len,λk hk=>⟨by
  rw[gT (λe=>hi (bY.2 ⟨D.getD k default,aF hk,e.symm⟩))];exact(h.row k hk).1,(h.row k hk).2⟩⟩
def RI.fresh{α:Type}{enc:α->List AV}{os:List Ob}{D:List (Nat×Nat)}{S:List (List α)}(h:RI enc os D S){p:Nat}(hp:os.length<=p):p ∉ D.map (·.1):=λhh=>by
 obtain⟨q,hq,rfl⟩:=bY.1 hh;obtain⟨k,hk,rfl⟩:=wU.1 hq;have h1:=(h.row k hk).1;have a1:D.getD k default=D[k]:=by simp[hk]
 rw[a1]at h1;have:=(aY.1 h1).1;omega
def IU(D:List (Nat×Nat))(p n:Nat):rowsOf cL D++[[AV.ref p 2 0 n]]=rowsOf cL (D++[(p,n)]):=by simp[rowsOf,cL]
def RI.step{α:Type}{enc:α->List AV}{os:List Ob}{D:List (Nat×Nat)}{S:List (List α)}{ai:Nat}{x:Ob}(fa:os[ai]?=some x)(hx:∀ l,x≠.arr 2 l)(hR:RI enc os D S)(bG:(D.map (·.1)).Nodup)(r:List α)(t y:Ob):
  (os.set ai .gone++[.arr 2 (rowsOf enc r),t,y])[os.length+2]?=some y /\
  RI enc (os.set ai .gone++[.arr 2 (rowsOf enc r),t,y]) (D++[(os.length,r.length)]) (S++[r])/\((D++[(os.length,r.length)]).map (·.1)).Nodup /\
  ∀ k o,os[k]?=some o->k≠ai->(os.set ai .gone++[.arr 2 (rowsOf enc r),t,y])[k]?=some o:=by
 have hl:(os.set ai .gone).length=os.length:=bJ ..;refine⟨?_,?_,?_,λk o hk cE=>aR ?_ _⟩
 ·rw[<- hl,lf];rfl
 ·refine((hR.kill fa hx).app _).snoc ?_;rw[<- hl,kF]
 ·rw[dU,pE];refine⟨bG,G9,λa ha b hb=>?_⟩;simp only[ez,oP,cS]at hb;subst hb;exact λe=>hR.fresh (Nat.le_refl _) (e▸ha)
 ·rw[gT (Ne.symm cE)];exact hk
structure LO{α:Type}(enc:α->List AV)(B:List (Nat×Ob))(D E:List (Nat×Nat))(S T:List (List α))(os:List Ob):Prop where
 base:∀ b∈B,os[b.1]?=some b.2/\∀ l,b.2≠.arr 2 l
 rD:RI enc os D S
 rE:RI enc os E T
 nd:((D++E).map (·.1)).Nodup
section
variable {α:Type} {enc:α->List AV} {B:List (Nat×Ob)} {D E:List (Nat×Nat)} {S T:List (List α)} {os:List Ob}
def LO.app(h:LO enc B D E S T os)(l:List Ob):LO enc B D E S T (os++l):=⟨λb hb=>⟨aR (h.base b hb).1 l,(h.base b hb).2⟩,h.rD.app l,h.rE.app l,h.nd⟩
def LO.add(h:LO enc B D E S T os){k:Nat}{x:Ob}(hk:os[k]?=some x)(hx:∀ l,x≠.arr 2 l):LO enc ((k,x)::B) D E S T os :=
 ⟨λb hb=>by rcases bu.1 hb with rfl|hb;exact⟨hk,hx⟩;exact h.base b hb,h.rD,h.rE,h.nd⟩
def LO.sub(h:LO enc B D E S T os){C:List (Nat×Ob)}(hc:∀ b∈C,b∈B):LO enc C D E S T os:=⟨λb hb=>h.base b (hc b hb),h.rD,h.rE,h.nd⟩
def IV{D E:List (Nat×Nat)}(h:((D++E).map (·.1)).Nodup):(D.map (·.1)).Nodup/\(E.map (·.1)).Nodup/\(∀ j,j<D.length->(D.getD j default).1 ∉ E.map (·.1))/\∀ j,j<E.length->(E.getD j default).1 ∉ D.map (·.1):=by
 rw[dU,pE]at h;refine⟨h.1,h.2.1,λj hj hh=>h.2.2 _ (bY.2 ⟨_,aF hj,rfl⟩) _ hh rfl,λj hj hh=>h.2.2 _ hh _ (bY.2 ⟨_,aF hj,rfl⟩) rfl⟩
def LO.BX(h:LO enc B D E S T os){j:Nat}(hj:j<D.length){r:List α}(hr:r.length=(S.getD j default).length):LO enc B D E (S.set j r) T (os.set (D.getD j default).1 (.arr 2 (rowsOf enc r))):=by
 obtain⟨h1,h2,h3,h4⟩:=IV h.nd;exact⟨λb hb=>⟨DK (h.base b hb).1 (h.rD.row j hj).1 ((h.base b hb).2 _),(h.base b hb).2⟩,h.rD.set h1 hj hr,h.rE.other (h3 j hj),h.nd⟩
def LO.Aj(h:LO enc B D E S T os){j:Nat}(hj:j<E.length){r:List α}(hr:r.length=(T.getD j default).length):LO enc B D E S (T.set j r) (os.set (E.getD j default).1 (.arr 2 (rowsOf enc r))):=by
 obtain⟨h1,h2,h3,h4⟩:=IV h.nd;exact⟨λb hb=>⟨DK (h.base b hb).1 (h.rE.row j hj).1 ((h.base b hb).2 _),(h.base b hb).2⟩,h.rD.other (h4 j hj),h.rE.set h2 hj hr,h.nd⟩
end
def IW(xs:List Nm)(i:Nat)(b:Bool)(n:Int):(rowsOf jG xs).set i [.lit (.bool b),QM n]=rowsOf jG (xs.set i (n,b)):=by simp[rowsOf,jG,qF]
def aje(xs:List Nm)(i:Nat)(b:Bool)(n:Int):(rowsOf bb xs).set i [QM n,.lit (.bool b)]=rowsOf bb (xs.set i (n,b)):=by simp[rowsOf,bb,qF]
def LO.vars{α:Type}{enc:α->List AV}{B:List (Nat×Ob)}{D E:List (Nat×Nat)}{S T:List (List α)}{os:List Ob}(h:LO enc B D E S T os){n:Nat}(hn:os.length=n)(x y:Ob)(hx:∀ l,x≠.arr 2 l)(hy:∀ l,y≠.arr 2 l):
  LO enc ((n,x)::(n+1,y)::B) D E S T (os++[x,y]):=by
 subst hn;exact((h.app [x,y]).add (by rw[lf];rfl) hy).add (by rw[kF]) hx
def BY{α:Type}[Inhabited α](l:List α)(j:Nat):l.set j (l.getD j default)=l:=by
 apply lq;intro i;rw[bU];split
 ·rename_i h;subst h;split
  ·rename_i h2;rw[ay,bx h2];rfl
  ·rename_i h2;rw[dN Ey]
 ·rfl
def wE{α:Type}[Inhabited α](l:List α)(j:Nat)(x:α)(h:j<l.length):(l.set j x).getD j default=x:=by
 rw[ay,bU];simp[h]
def LO.kill{α:Type}{enc:α->List AV}{B:List (Nat×Ob)}{D E:List (Nat×Nat)}{S T:List (List α)}{os:List Ob}(h:LO enc B D E S T os){i:Nat}{x y:Ob}(hi:os[i]?=some x)(hx:∀ l,x≠.arr 2 l)(cE:∀ b∈B,b.1≠i):LO enc B D E S T (os.set i y) :=
 ⟨λb hb=>⟨by rw[gT (cE b hb).symm];exact(h.base b hb).1,(h.base b hb).2⟩,h.rD.kill hi hx,h.rE.kill hi hx,h.nd⟩
def q7(os l:List Ob)(i k:Nat)(y:Ob):(os.set i y++l)[os.length+k]?=l[k]?:=by
 have:=lf (os.set i y) l k;rwa [bJ]at this
def gC(m:ah)(ai bi:Nat)(D E:List (Nat×Nat)):List AV:=[.tree 1 (rowsOf aT m.cls),.tree 4 (rowsOf aI m.ae),.tree 4 (rowsOf dz m.aE),QM m.rules,.ref ai 1 0 D.length,.ref bi 1 0 E.length]
abbrev GB(m:ah)(gi ai bi:Nat)(D E:List (Nat×Nat)):List (Nat×Ob):=[(gi,.var (gC m ai bi D E)),(ai,.arr 1 (rowsOf cL D)),(bi,.arr 1 (rowsOf cL E))]
def BZ{m:ah}{gi ai bi:Nat}{D E:List (Nat×Nat)}{S T:List (List Nm)}{os:List Ob}(h:LO bb (GB m gi ai bi D E) D E S T os):
  os[gi]?=some (.var (gC m ai bi D E))/\os[ai]?=some (.arr 1 (rowsOf cL D))/\os[bi]?=some (.arr 1 (rowsOf cL E)) :=
 ⟨(h.base (gi,_) G9).1,(h.base (ai,.arr 1 (rowsOf cL D)) G9).1,(h.base (bi,.arr 1 (rowsOf cL E)) G9).1⟩
def iG(os ob:List Ob):Prop:=∀ (k:Nat) (o:Ob),os[k]?=some o->ob[k]?=some o
def iG.refl(os:List Ob):iG os os:=λ_ _ h=>h
def iG.app{os ob:List Ob}(h:iG os ob)(l:List Ob):iG os (ob++l):=λk o hk=>aR (h k o hk) l
def iG.set{os ob:List Ob}(h:iG os ob){i:Nat}(hi:os.length<=i){y:Ob}:iG os (ob.set i y):=λk o hk=>by
 have:=(aY.1 hk).1;rw[gT Ey];exact h k o hk
def iG.len{os ob:List Ob}(h:iG os ob):os.length<=ob.length:=by
 rcases Nat.eq_zero_or_pos os.length with h0|h0
 ·omega
 ·obtain⟨o,ho⟩ :∃o,os[os.length-1]?=some o:=⟨_,bx Ey⟩;have:=(aY.1 (h _ _ ho)).1;omega
section
variable {α:Type} {enc:α->List AV} {B:List (Nat×Ob)} {D E:List (Nat×Nat)} {S T:List (List α)} {os:List Ob}
def LO.swap(h:LO enc B D E S T os):LO enc B E D T S os:=⟨h.base,h.rE,h.rD,by
 have:=h.nd;rw[dU,pE]at this ⊢;exact⟨this.2.1,this.1,λa ha b hb e=>this.2.2 b hb a ha e.symm⟩⟩
def LO.IX(h:LO enc B D E S T os){i:Nat}{l:List (List AV)}(hi:i ∉ (D++E).map (·.1))(hr:os[i]?=some (.arr 2 l)){y:Ob}:LO enc B D E S T (os.set i y):=by
 rw[dU,cG,not_or]at hi;exact⟨λb hb=>⟨DK (h.base b hb).1 hr ((h.base b hb).2 _),(h.base b hb).2⟩,h.rD.other hi.1,h.rE.other hi.2,h.nd⟩
def LO.fresh(h:LO enc B D E S T os){p:Nat}(hp:os.length<=p):p ∉ (D++E).map (·.1):=by
 rw[dU,cG,not_or];exact⟨h.rD.fresh hp,h.rE.fresh hp⟩
def LO.step{gi ai:Nat}{gc:List AV}{A:List (List AV)}(h:LO enc ((gi,.var gc)::(ai,.arr 1 A)::B) D E S T os){r:List α}{oi:Nat}(hr:os[oi]?=some (.arr 2 (rowsOf enc r)))(eG:oi ∉ (D++E).map (·.1))(hB:∀ b∈B,b.1≠ai/\b.1≠gi)(DM:List AV)(A':List (List AV))(t:Ob):
  LO enc ((gi,.var DM)::(os.length+1,.arr 1 A')::B) (D++[(oi,r.length)]) E (S++[r]) T ((os.set ai .gone).set gi (.var DM)++[t,.arr 1 A']):=by
 have hg:=(h.base (gi,.var gc) G9).1;have ha:=(h.base (ai,.arr 1 A) G9).1;dsimp only at hg ha;have DN:gi≠ai:=λe=>by rw[e,ha]at hg;cases hg
 have pI:(os.set ai .gone)[gi]?=some (.var gc):=by rw[gT DN.symm];exact hg
 have hl:((os.set ai .gone).set gi (.var DM)).length=os.length:=by rw[bJ,bJ]
 have hD2:=((h.rD.kill (y:=.gone) ha G9).kill (y:=.var DM) pI G9).app [t,.arr 1 A'];have hE2:=((h.rE.kill (y:=.gone) ha G9).kill (y:=.var DM) pI G9).app [t,.arr 1 A'];have eR:((os.set ai .gone).set gi (.var DM)++[t,.arr 1 A'])[oi]?=some (.arr 2 (rowsOf enc r)):=aR (DK (DK hr ha G9) pI G9) _;refine⟨λb hb=>?_,hD2.snoc eR,hE2,?_⟩
 ·rcases bu.1 hb with rfl|hb
  ·exact⟨aR (nr pI) _,G9⟩
  rcases bu.1 hb with rfl|hb
  ·refine⟨?_,G9⟩;dsimp only;rw[<- hl,lf];rfl
  ·have h0:=h.base b (by simp[hb]);refine⟨aR ?_ _,h0.2⟩;rw[gT (hB b hb).2.symm,gT (hB b hb).1.symm];exact h0.1
 ·have bG:=h.nd;rw[dU,pE]at bG ⊢;rw[dU,cG,not_or]at eG;obtain⟨n1,n2,n3⟩:=bG;refine⟨?_,n2,λa nQ b hb=>?_⟩
  ·rw[dU,pE];refine⟨n1,G9,λa nQ b hb=>?_⟩;simp only[ez,oP,cS]at hb;subst hb;exact λe=>eG.1 (e▸nQ)
  ·rw[dU,cG]at nQ;rcases nQ with nQ|nQ
   ·exact n3 a nQ b hb
   ·simp only[ez,oP,cS]at nQ;subst nQ;exact λe=>eG.2 (e▸hb)
end
def S0(m:ah):List (List Nm):=m.cls.map λl=>dL (cj l)
def T0(m:ah):List (List Nm):=m.ae.map λp=>dL p.aB
def jZ(r:List Nm)(i:Nat)(a:Int):List Nm:=r.set i ((r.getD i default).1+a,(r.getD i default).2)
def il(f:Nat->Nat)(a:Int):Nat->List Nm->List Nm
 |0,t=>t
 |k+1,t=>jZ (il f a k t) (f k) (-a)
abbrev Lg:=List (List Nm)×List (List Nm)
def pw(m:ah)(x:Mv):(Nat->Nat)×Nat :=
 if x.side=0 then(λk=>(x.opt*(m.cls.getD (m.ae.getD x.pair.toNat default).snd.toNat default).length+k).toNat,(m.cls.getD (m.ae.getD x.pair.toNat default).snd.toNat default).length)
 else(λk=>((k:Int)*(m.cls.getD (m.ae.getD x.pair.toNat default).snd.toNat default).length+x.opt).toNat,(m.cls.getD (m.ae.getD x.pair.toNat default).fst.toNat default).length)
def kl(m:ah)(x:Mv)(g:Lg):Lg :=
 (g.1.set (fq m x).toNat (jZ (g.1.getD (fq m x).toNat default) x.opt.toNat x.amt),g.2.set x.pair.toNat (il (pw m x).1 x.amt (pw m x).2 (g.2.getD x.pair.toNat default)))
def j1(m:ah)(l:List Mv)(g:Lg):Lg:=l.foldl (λg x=>kl m x g) g
def aap(m:ah)(l:List Mv)(x:Mv)(g:Lg):j1 m (l++[x]) g=kl m x (j1 m l g):=by unfold j1;rw[AU];rfl
def sK(a b:List Bool):List Bool:=a.flatMap λx=>b.map λy=>x&&y
def PC(left:List (List Bool))(S:List (List Nm))(n:Nat):List (Int×Bool):=(bn n).map λi=>cW (S.getD i default) (left.getD i default) (0,false)
def jb(m:ah)(left:List (List Bool))(i:Nat):List Bool:=sK (left.getD (m.ae.getD i default).fst.toNat default) (left.getD (m.ae.getD i default).snd.toNat default)
def PP(m:ah)(left:List (List Bool))(T:List (List Nm))(n:Nat):List (Int×Bool):=(bn n).map λi=>cW (T.getD i default) (jb m left i) (0,false)
def PK(m:ah)(left:List (List Bool))(n:Nat):List (Int×Bool):=(bn n).map λi=>(ju left (m.aE.getD i default),!(decide ((m.aE.getD i default).cA=1099511627776)&&decide (0<ju left (m.aE.getD i default))))
def bV(l:List (Int×Bool))(z:Int×Bool):Int×Bool:=l.foldl (λz p=>(z.1+p.1,z.2||!p.2)) z
def mL(m:ah)(left:List (List Bool))(g:Lg):Int :=
 if(bV (PK m left m.aE.length) (bV (PP m left g.2 m.ae.length) (bV (PC left g.1 m.cls.length) (0,false)))).2=true then 1099511627776
 else min (bV (PK m left m.aE.length) (bV (PP m left g.2 m.ae.length) (bV (PC left g.1 m.cls.length) (0,false)))).1 1099511627776
def gZ(m:ah)(left:List (List Bool))(l:List Mv):Int×Int :=
 if 2000<l.length then(0,2) else if l.all (jx m)=false then(0,3) else(mL m left (j1 m l (S0 m,T0 m)),0)
def cp(m:ah)(left:List (List Bool))(l:List Mv):Int×Int:=if kj m left≠0 then(0,kj m left) else gZ m left l
def DO(l:List (Int×Bool))(p z:Int×Bool):bV (l++[p]) z=((bV l z).1+p.1,(bV l z).2||!p.2):=by unfold bV;rw[AU];rfl
def Ak{β:Type}(f:Nat->β)(n:Nat):(bn (n+1)).map f=(bn n).map f++[f n]:=by rw[List.range_succ,dU];rfl
def NB(B:Int)(r:List Nm):Prop:=∀ p∈r,-B<=p.1/\p.1<=B
def NB.get{B:Int}{r:List Nm}(h:NB B r)(hB:0<=B)(i:Nat): -B<=(r.getD i default).1/\(r.getD i default).1<=B:=by
 rcases dT i r.length with hi|hi
 ·exact h _ (aF hi)
 ·rw[ay,dN hi];show -B<=(0:Int)/\(0:Int)<=B;omega
def NB.mono{B C:Int}{r:List Nm}(h:NB B r)(hc:B<=C):NB C r:=λp hp=>by have:=h p hp;omega
def NB.add{B:Int}{r:List Nm}(h:NB B r)(hB:0<=B)(i:Nat){a:Int}(ha : -268435456<=a/\a<=268435456):NB (B+268435456) (jZ r i a):=λp hp=>by
 rcases sW hp with h'|h'
 ·have:=h p h';omega
 ·have:=h.get hB i;rw[h'];dsimp only;omega
def yU(r:List Nm)(i:Nat)(a:Int):(jZ r i a).length=r.length:=by simp[jZ]
def B1(f:Nat->Nat)(a:Int):∀ (k:Nat) (t:List Nm),(il f a k t).length=t.length
 |0,t=>rfl
 |k+1,t=>by rw[il,yU,B1 f a k t]
def NB.sub{B:Int}{r:List Nm}(h:NB B r)(hB:0<=B)(f:Nat->Nat){a:Int}(ha : -268435456<=a/\a<=268435456):∀ k:Nat,NB (B+268435456*k) (il f a k r)
 |0=>by simpa [il] using h
 |k+1=>by
  rw[il];have:=(NB.sub h hB f ha k).add Ey (f k) (a:=-a) Ey;exact this.mono Ey
structure LG(m:ah)(B:Int)(g:Lg):Prop where
 s:g.1.length=m.cls.length
 t:g.2.length=m.ae.length
 sl:∀ i,i<m.cls.length->(g.1.getD i default).length=(m.cls.getD i default).length
 tl:∀ i,i<m.ae.length->(g.2.getD i default).length=(m.ae.getD i default).aB.length
 sb:∀ r∈g.1,NB B r
 tb:∀ r∈g.2,NB B r
def aaq{g:List (List Nm)}{i j:Nat}{r:List Nm}(h:r.length=(g.getD i default).length):((g.set i r).getD j default).length=(g.getD j default).length:=by
 by_cases e:i=j
 ·subst e;rcases dT i g.length with hi|hi
  ·simp only[ay,bU,hi,if_true,lR];rw[h,ay]
  ·rw[List.set_eq_of_length_le hi]
 ·simp only[ay,gT e]
def u9{B:Int}{g:List (List Nm)}(h:∀ r∈g,NB B r)(i:Nat):NB B (g.getD i default):=by
 rcases dT i g.length with hi|hi
 ·exact h _ (aF hi)
 ·rw[ay,dN hi];intro p hp;cases hp
def ajh{m:ah}(hm:VM m)(x:Mv):(pw m x).2<=24:=by
 have:∀ i,(m.cls.getD i default).length<=24:=λi=>by
  rcases dT i m.cls.length with hi|hi
  ·exact hm.opt _ (aF hi)
  ·rw[ay,dN hi];exact Nat.zero_le _
 unfold pw;split<;>exact this _
def aar{m:ah}(hm:VM m){B:Int}(hB:0<=B){g:Lg}(h:LG m B g){x:Mv}(hx:jx m x=true):LG m (B+268435456*25) (kl m x g):=by
 unfold jx at hx;rw[bc,decide_eq_true_eq]at hx;have ha:=hx.1.2.2.2.2;have hk:=ajh hm x;refine⟨by rw[kl,bJ];exact h.s,by rw[kl,bJ];exact h.t,λi hi=>?_,λi hi=>?_,λr hr=>?_,λr hr=>?_⟩
 ·rw[kl];dsimp only;rw[aaq (by rw[yU])];exact h.sl i hi
 ·rw[kl];dsimp only;rw[aaq (by rw[B1])];exact h.tl i hi
 ·rcases sW hr with h'|h'
  ·exact(h.sb r h').mono Ey
  ·rw[h'];exact((u9 h.sb _).add hB _ ha).mono Ey
 ·rcases sW hr with h'|h'
  ·exact(h.tb r h').mono Ey
  ·rw[h'];exact((u9 h.tb _).sub hB _ ha _).mono Ey
def aas{l:List Int}(h:∀ x∈l,bX x):NB 1099511627776 (dL l):=λp hp=>by
 obtain⟨x,hx,rfl⟩:=bY.1 hp;have:=h x hx;unfold bX at this;show -1099511627776<=x/\x<=1099511627776;omega
def IY{m:ah}{p:Pr}(hp:iC m p=true):∀ x∈p.aB,bX x:=λx hx=>by
 unfold iC at hp;simp only[bc,kq,List.any_eq_false]at hp;have:=hp.2 _ hx;rw[p7]at this;simp only[bc,kq,decide_eq_true_eq,not_and,Bool.not_eq_false]at this;by_cases hz:x=0
 ·subst hz;unfold bX;decide
 ·exact wC (this hz)
def kD{α β:Type}[Inhabited α][Inhabited β](f:α->β)(l:List α)(i:Nat)(h:i<l.length):(l.map f).getD i default=f (l.getD i default):=by
 rw[ay,bM,ay,bx h];rfl
def aat{m:ah}(hm:VM m):LG m 1099511627776 (S0 m,T0 m):=by
 refine⟨by simp[S0],by simp[T0],λi hi=>?_,λi hi=>?_,λr hr=>?_,λr hr=>?_⟩
 ·show((S0 m).getD i default).length=_;rw[S0,kD _ _ _ hi];simp[dL,cj]
 ·show((T0 m).getD i default).length=_;rw[T0,kD _ _ _ hi];simp[dL]
 ·obtain⟨l,hl,rfl⟩:=bY.1 hr;refine aas λx hx=>?_;obtain⟨o,ho,rfl⟩:=bY.1 hx;exact FJ (hm.tA l hl o ho)
 ·obtain⟨p,hp,rfl⟩:=bY.1 hr;exact aas (IY (kC hm.pr p hp))
def IZ{m:ah}(hm:VM m)(l:List Mv)(hl:∀ x∈l,jx m x=true):LG m (1099511627776+268435456*25*l.length) (j1 m l (S0 m,T0 m)):=by
 have key:∀ (l:List Mv) (B:Int) (g:Lg),0<=B->(∀ x∈l,jx m x=true)->LG m B g->LG m (B+268435456*25*l.length) (j1 m l g):=by
  intro l
  induction l with
  |nil=>intro B g _ _ h;simpa [j1] using h
  |cons x r ih =>
   intro B g hB hx h;have h1:=aar hm hB h (hx x G9);have h2:=ih _ _ Ey (λy hy=>hx y (by simp[hy])) h1;show LG m _ (j1 m r (kl m x g));have e:B+268435456*25+268435456*25*(r.length:Int)=B+268435456*25*((x::r).length:Int):=by simp only[du];omega
   rw[e]at h2;exact h2
 exact key l _ _ Hg hl (aat hm)
def FM{B:Int}:∀ (l:List Nm) (s:List Bool) (b:Int×Bool),NB B l->(-B<=b.1/\b.1<=B)->-B<=(cW l s b).1/\(cW l s b).1<=B
 |[],s,b,_,hb=>by cases s<;>exact hb
 |p::r,[],b,_,hb=>hb
 |p::r,is::s,b,h,hb=>by
  rw[cW];refine FM r s _ (λq hq=>h q (by simp[hq])) ?_;have:=h p G9;split
  ·exact this
  ·exact hb
def Al{B:Int}:∀ (l:List (Int×Bool)) (z:Int×Bool),(∀ p∈l,-B<=p.1/\p.1<=B)->z.1-B*l.length<=(bV l z).1/\(bV l z).1<=z.1+B*l.length
 |[],z,_=>by show z.1-_<=z.1/\z.1<=z.1+_;simp
 |p::r,z,h=>by
  have h1:=Al r (z.1+p.1,z.2||!p.2) λq hq=>h q (by simp[hq]);have h2:=h p G9;show _<=(bV r (z.1+p.1,z.2||!p.2)).1/\_;rw[du,ED,Int.mul_add];dsimp only at h1;simp only[Hk,QV];show z.1-(B*r.length+B)<=(bV r (z.1+p.1,z.2||!p.2)).1/\(bV r (z.1+p.1,z.2||!p.2)).1<=z.1+(B*r.length+B);omega
def mM:Int:=1099511627776+268435456*25*2000
def NM{left:List (List Bool)}{S:List (List Nm)}{B:Int}(hB:0<=B)(h:∀ r∈S,NB B r)(n:Nat):∀ p∈PC left S n,-B<=p.1/\p.1<=B:=λp hp=>by
 obtain⟨i,_,rfl⟩:=bY.1 hp;exact FM _ _ _ (u9 h i) Hi
def NN{m:ah}{left:List (List Bool)}{T:List (List Nm)}{B:Int}(hB:0<=B)(h:∀ r∈T,NB B r)(n:Nat):∀ p∈PP m left T n,-B<=p.1/\p.1<=B:=λp hp=>by
 obtain⟨i,_,rfl⟩:=bY.1 hp;exact FM _ _ _ (u9 h i) Hi
def aau(most cA n:Int)(hm:0<=most)(hp:0<=cA):0<=l7 most cA n/\l7 most cA n<=1099511627776:=by
 unfold l7;split
 ·omega
 ·have:=Int.mul_nonneg (show 0<=n-most by omega) hp;omega
def aji{m:ah}(hm:VM m)(i:Nat):0<=(m.aE.getD i default).most/\0<=(m.aE.getD i default).cA:=by
 rcases dT i m.aE.length with hi|hi
 ·obtain⟨_,h2,h3,_⟩:=u6 (hm.ct _ (aF (d:=default) hi));exact⟨h2.1,(wC h3).1⟩
 ·rw[ay,dN hi];decide
def NO{m:ah}(hm:VM m){left:List (List Bool)}(n:Nat):∀ p∈PK m left n,-1099511627776<=p.1/\p.1<=1099511627776:=λp hp=>by
 obtain⟨i,_,rfl⟩:=bY.1 hp;have:=aji hm i;have:=aau (m.aE.getD i default).most (m.aE.getD i default).cA (kE (m.aE.getD i default).bd 0 left 0) this.1 this.2;unfold ju;dsimp only;omega
def DP(left:List (List Bool))(S:List (List Nm))(n:Nat):(PC left S n).length=n:=by simp[PC]
def FN(m:ah)(left:List (List Bool))(S:List (List Nm))(n:Nat):(PP m left S n).length=n:=by simp[PP]
def I0(m:ah)(left:List (List Bool))(n:Nat):(PK m left n).length=n:=by simp[PK]
def ajj(a:List Bool)(x:Bool)(b:List Bool):sK (a++[x]) b=sK a b++b.map (x && ·):=by unfold sK;rw[sX];simp
def DQ(b:List Bool):∀ a:List Bool,(sK a b).length=a.length*b.length
 |[]=>by simp[sK]
 |x::r=>by
  show((b.map (x && ·))++sK r b).length=_;rw[bN,DQ b r,gD,du,Nat.add_mul];omega
structure Nd where
 cls:Int
 kids:List Int
 df:List Mv
 a8:List Int
 cells:List (List (Int×Int))
 deriving Inhabited
def tF(l:List (Int×Int)):List AV:=[.tree 2 (rowsOf bf l)]
instance:Row tF 1:=⟨λ_=>rfl,λx v hv=>by
 simp only[tF,bu,iI,or_false]at hv;subst hv;exact .inr ⟨_,_,rfl⟩⟩
def ax(x:Nd):List AV:=[QM x.cls,.tree 1 (ints x.kids),.tree 4 (rowsOf aU x.df),.tree 1 (ints x.a8),.tree 1 (rowsOf tF x.cells)]
instance:Row ax 5:=⟨λ_=>rfl,λx v hv=>by
 simp only[ax,bu,iI,or_false]at hv;rcases hv with rfl|rfl|rfl|rfl|rfl
 ·exact .inl ⟨_,rfl,rfl⟩
 all_goals exact .inr ⟨_,_,rfl⟩⟩
def aJ(P:List Nd):List AV:=[.tree 5 (rowsOf ax P)]
structure PB(P:List Nd):Prop where
 z':P.length<9223372036854775808
 kids:∀ x∈P,x.kids.length<9223372036854775808
 df:∀ x∈P,x.df.length<9223372036854775808
 a8:∀ x∈P,x.a8.length<9223372036854775808
 cells:∀ x∈P,x.cells.length<9223372036854775808
 cell:∀ x∈P,∀ l∈x.cells,l.length<9223372036854775808
def mJ(m:ah)(x:Nd):Bool :=
 if x.cls = -1 then decide (x.kids.length=0/\(x.a8.length=0->x.cells.length=0)/\(0<x.a8.length->x.df.length=0))
 else decide (0<=x.cls/\x.cls<m.cls.length/\x.kids.length=(m.cls.getD x.cls.toNat default).length/\x.df.length=0/\x.a8.length=0/\x.cells.length=0)
def lE(n i:Nat)(k:Int):Bool:=decide ((i:Int)<k/\k<n)
def kY(m:ah)(n i:Nat)(x:Nd):Bool:=mJ m x&&x.kids.all (lE n i)
def fM(P:List Nd):List Int:=P.flatMap (·.kids)
def jX(n:Nat)(l:List Int):List Int:=(bn n).map λ(j:Nat)=>(l.count (j:Int):Int)
def jk(m:ah)(P:List Nd):Bool :=
 decide (1<=P.length/\P.length<=20000)&&((bn P.length).all λi=>kY m P.length i (P.getD i default))&&!((jX P.length (fM P)).drop 1).any (λx=>x != 1)
def BK(n:Nat)(l:List Int):(jX n l).length=n:=by simp[jX]
def I1{n:Nat}(l:List Int){j:Nat}(h:j<n):(jX n l).getD j 0=(l.count (j:Int):Int):=by
 unfold jX;rw[ay,bM,lk h];rfl
def aih(n:Nat)(l:List Int)(k:Nat)(h:k<n):jX n (l++[(k:Int)])=(jX n l).set k ((jX n l).getD k 0+1):=by
 apply lq;intro j;rw[bU,I1 l h];unfold jX;rw[bM,gD,List.length_range];by_cases hj:j<n
 ·rw[lk hj,fc,List.count_append];by_cases e:k=j
  ·subst e;rw[if_pos rfl,if_pos h];simp
  ·rw[if_neg e,bM,lk hj,fc];have:((k:Int)==(j:Int))=false:=by rw[beq_eq_false_iff_ne];omega
   simp[List.count_cons,this]
 ·rw[dN (by simpa using hj)];split
  ·omega
  ·rw[dN (by simpa using hj)];rfl
def aic(n:Nat):jX n []=List.replicate n 0:=by
 apply lq;intro j;unfold jX;rw[bM,List.getElem?_replicate];by_cases hj:j<n
 ·rw[lk hj,if_pos hj];rfl
 ·rw[dN (by simpa using hj),if_neg hj];rfl
def Ft{m:ah}{x:Nd}(hm:VM m)(h:mJ m x=true):x.kids.length<=24:=by
 unfold mJ at h;split at h
 ·rw[decide_eq_true_eq]at h;omega
 ·rw[decide_eq_true_eq]at h;have:=hm.opt _ (aF (l:=m.cls) (i:=x.cls.toNat) (d:=default) Ey);omega
def VR{m:ah}{n:Nat}(hm:VM m):∀ (P:List Nd),(∀ x∈P,mJ m x=true)->(fM P).length<=24*P.length
 |[],_=>by simp[fM]
 |x::r,h=>by
  have h1:=Ft hm (h x G9);have h2:=VR (n:=n) hm r λy hy=>h y (by simp[hy]);unfold fM at h2 ⊢;rw[List.flatMap_cons,bN,du];omega
def aif{n:Nat}{l:List Int}{j:Nat}(h:j<n):0<=(jX n l).getD j 0/\(jX n l).getD j 0<=l.length:=by
 rw[I1 l h];have:=List.count_le_length (a:=(j:Int)) (l:=l);omega
def Ni(P:List Nd)(x:Nd):fM (P++[x])=fM P++x.kids:=by unfold fM;rw[sX];simp
def VQ{m:ah}{P:List Nd}{i:Nat}(hi:i<P.length)(h:kY m P.length i (P.getD i default)=false):jk m P=false:=by
 unfold jk;have:((bn P.length).all λi=>kY m P.length i (P.getD i default))=false:=by
  rw[CO];intro h2;rw[gA]at h2;rw[h2 i (nB.2 hi)]at h;cases h
 rw[this,Bool.and_false,rI]
def VP{m:ah}{P:List Nd}(h:¬(1<=P.length/\P.length<=20000)):jk m P=false:=by
 unfold jk;rw[decide_eq_false h,rI,rI]
def Iy{m:ah}{P:List Nd}(h:1<=P.length/\P.length<=20000)(ha:∀ i,i<P.length->kY m P.length i (P.getD i default)=true):jk m P = !((jX P.length (fM P)).drop 1).any (λx=>x != 1):=by
 unfold jk;have:((bn P.length).all λi=>kY m P.length i (P.getD i default))=true:=by
  rw[gA];intro i hi;exact ha i (nB.1 hi)
 rw[this,decide_eq_true h,ic,ic]
def jy(c o:Int)(y:Int×Int):Bool:=decide (y=(c,o))
def tG(m:ah)(a b:Int×Int):Bool:=decide (a.1=b.1)||tH m a.1 a.2 b.1 b.2
def tI(m:ah)(g:List Int)(l:List (Int×Int))(i:Nat):Bool:=g.contains (l.getD i default).1&&iD m (l.getD i default).1 (l.getD i default).2&&(l.take i).all (tG m (l.getD i default))
def q8(m:ah)(g:List Int)(l:List (Int×Int)):Bool:=(bn l.length).all (tI m g l)
def DR(m:ah)(g:List Int):Bool:=(bn g.length).all λi=>decide (0<=g.getD i 0/\g.getD i 0<m.cls.length/\(i=0\/g.getD (i-1) 0<g.getD i 0))
def vc(left:List (List Bool))(cells:List (List (Int×Int)))(c:Int):Bool :=
 (bn (left.getD c.toNat default).length).all λo=>!(left.getD c.toNat default).getD o false||cells.any λl=>l.any (jy c o)
def ma(m:ah)(x:Nd)(left:List (List Bool)):Bool :=
 DR m x.a8&&decide (x.cells.length<x.a8.length)&&x.cells.all (q8 m x.a8)&&x.a8.all (vc left x.cells)
def B3{n:Nat}{f:Nat->Bool}:(bn n).all f=true↔∀ i,i<n->f i=true:=by
 rw[gA];exact⟨λh i hi=>h i (nB.2 hi),λh i hi=>h i (nB.1 hi)⟩
def all_false{α:Type}{l:List α}{f:α->Bool}{x:α}(hx:x∈l)(h:f x=false):l.all f=false:=by
 rw[CO];intro h2;rw[gA]at h2;rw[h2 x hx]at h;cases h
def DT{n:Nat}{f:Nat->Bool}{i:Nat}(hi:i<n)(h:f i=false):(bn n).all f=false:=all_false (nB.2 hi) h
def aav{m:ah}{g:List Int}(h:DR m g=true):∀ c∈g,0<=c/\c<m.cls.length:=λc hc=>by
 obtain⟨i,hi,rfl⟩:=List.getElem_of_mem hc;have:=B3.1 h i hi;rw[decide_eq_true_eq,ay,bx hi]at this;exact⟨this.1,this.2.1⟩
def aaw{α:Type}(f:α->Bool):∀ (l:List α),(l.any λx=>!f x) = !l.all f
 |[]=>rfl
 |x::r=>by rw[List.any_cons,List.all_cons,aaw f r,Bool.not_and]
def aax{m:ah}{x:Nd}{left:List (List Bool)}(h:DR m x.a8=false):ma m x left=false:=by unfold ma;rw[h];rfl
def aay{m:ah}{x:Nd}{left:List (List Bool)}(h:¬x.cells.length<x.a8.length):ma m x left=false:=by unfold ma;rw[decide_eq_false h];simp
def aaz{m:ah}{x:Nd}{left:List (List Bool)}(h:x.cells.all (q8 m x.a8)=false):ma m x left=false:=by unfold ma;rw[h];simp
def aaA{m:ah}{x:Nd}{left:List (List Bool)}(h:x.a8.all (vc left x.cells)=false):ma m x left=false:=by unfold ma;rw[h];simp
def aaB{m:ah}{x:Nd}{left:List (List Bool)}(h1:DR m x.a8=true)(h2:x.cells.length<x.a8.length)(h3:x.cells.all (q8 m x.a8)=true)(h4:x.a8.all (vc left x.cells)=true):ma m x left=true:=by unfold ma;rw[h1,decide_eq_true h2,h3,h4];rfl
end T

