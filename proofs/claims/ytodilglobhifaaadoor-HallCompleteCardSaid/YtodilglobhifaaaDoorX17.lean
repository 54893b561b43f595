import Derived.Test.YtodilglobhifaaaDoorX15
import Derived.Test.YtodilglobhifaaaDoorX11
set_option linter.all false
set_option maxHeartbeats 0
set_option maxRecDepth 20000
open List renaming length_cons→b8,mem_append→bn,mem_singleton→bB,map_append→kS,nodup_append→qW,mem_map→bS,map_cons→km,map_nil→pG,map_map→Ed,map_congr_left→oo,mem_iff_getElem→lJ,mem_cons→cI,getD_eq_getElem?_getD→an,getElem?_eq_getElem→aN,not_mem_nil→qO,getElem?_append_right→dk,getElem?_append_left→bL,getElem?_eq_some_iff→aF,getElem?_set_ne→cV,getElem?_set→bM,getElem?_eq_none→gI,length_set→bm,mem_or_eq_of_mem_set→qQ
open Int renaming toNat_of_nonneg→iS
open Option renaming getD_some→dg
open Nat renaming lt_or_ge→cZ
open Bool renaming and_eq_true→bb,not_eq_true'→fU
open Go Go.Am
namespace T
def qh:List Ld->Int->Int->Int->Int
 |[],_,_,w=>w
 |x::r,c,o,w=>qh r c o (if x.cls=c/\x.opt=o then x.wt else w)
def vV(l:List Ld)(c:Int):Nat->List Bool->Int->Int
 |_,[],b=>b
 |o,is::r,b=>vV l c (o+1) r (if is=true/\(b<0\/qh l c o 0<b) then qh l c o 0 else b)
def tR(l:List Ld)(c:Int)(row:List Bool):Int:=max (vV l c 0 row (-1)) 0
def vW(l:List Ld):Nat->List (List Bool)->Int->Int
 |_,[],n=>n
 |i,row::r,n=>vW l (i+1) r (n+tR l i row)
def Qa(l:List Ld)(x:Ld)(c o:Int):∀ w,qh (l++[x]) c o w=if x.cls=c/\x.opt=o then x.wt else qh l c o w:=by
 induction l with
 |nil=>intro w;rfl
 |cons y r ih=>intro w;exact ih _
def Cv:∀ {l:List Ld} {c:Int} (o w:Int),(∀ x∈l,x.cls≠c)->qh l c o w=w
 |[],_,_,_,_=>rfl
 |x::r,c,o,w,h=>by
  rw[qh,if_neg (λe=>h x Eb e.1)];exact Cv o w λy hy=>h y (by simp[hy])
def J0{l:List Ld}{c:Int}(h:∀ x∈l,x.cls≠c):∀ (row:List Bool) (o:Nat) (b:Int),-1<=b/\b<=0->-1<=vV l c o row b/\vV l c o row b<=0
 |[],_,b,hb=>hb
 |is::r,o,b,hb=>by
  rw[vV];refine J0 h r (o+1) _ ?_;rw[Cv _ _ h];split<;>omega
def Qb{l:List Ld}{c:Int}(h:∀ x∈l,x.cls≠c)(row:List Bool):tR l c row=0:=by
 have:=J0 h row 0 (-1) z8;unfold tR;omega
def cd(f:Nat->Int):Nat->Int
 |0=>0
 |n+1=>cd f n+f n
def ma{f g:Nat->Int}:∀ (n:Nat),(∀ i<n,f i=g i)->cd f n=cd g n
 |0,_=>rfl
 |n+1,h=>by rw[cd,cd,ma n λi hi=>h i z8,h n z8]
def J1{f:Nat->Int}{B:Int}:∀ (n:Nat),(∀ i<n,0<=f i/\f i<=B)->0<=cd f n/\cd f n<=B*n
 |0,_=>by simp[cd]
 |n+1,h=>by
  have h1:=J1 n λi hi=>h i z8;have h2:=h n z8;rw[cd,Int.natCast_add,Int.mul_add];simp only[Int.cast_ofNat_Int,Int.mul_one];omega
def yX(f:Nat->Int)(k:Nat)(v:Int):∀ (n:Nat),cd (λi=>if i=k then f i+v else f i) n=cd f n+if k<n then v else 0
 |0=>by simp[cd]
 |n+1=>by
  rw[cd,cd,yX f k v n];by_cases h:n=k
  ·subst h;rw[if_pos rfl,if_neg z8,if_pos z8];omega
  ·rw[if_neg h];by_cases h2:k<n
   ·rw[if_pos h2,if_pos z8];omega
   ·rw[if_neg h2,if_neg z8];omega
def vX(f:Nat->Int):∀ n,cd f (n+1)=f 0+cd (λi=>f (i+1)) n
 |0=>by simp[cd]
 |n+1=>by rw[cd,vX f n,cd];omega
def J2(l:List Ld):∀ (left:List (List Bool)) (i:Nat) (n:Int),vW l i left n=n+cd (λj=>tR l (i+j:Nat) (left.getD j [])) left.length
 |[],i,n=>by simp[vW,cd]
 |row::r,i,n=>by
  rw[vW,J2 l r (i+1),b8,vX];simp only[List.getD_cons_zero,List.getD_cons_succ,Nat.add_zero];rw[ma (g:=λj=>tR l (i+(j+1):Nat) (r.getD j [])) r.length λj _=>by rw[show i+1+j=i+(j+1) by omega]];omega
abbrev kg:=Int×Nat×List (Int×Int)
def vE(es:List (Int×Int)):List (Int×Value):=es.map λp=>(p.1,.int .i64 p.2)
def gE(A:List kg):List (Int×Value):=A.map λe=>(e.1,.map (some e.2.1))
def r8(o w:Int):List (Int×Int)->List (Int×Int)
 |[]=>[(o,w)]
 |p::r=>if p.1=o then(o,w)::r else p::r8 o w r
def qj(o:Int):List (Int×Int)->Int
 |[]=>0
 |p::r=>if p.1=o then p.2 else qj o r
def J3(o w:Int):∀ es,nM o (.int .i64 w) (vE es)=vE (r8 o w es)
 |[]=>rfl
 |p::r=>by
  show nM o _ ((p.1,Value.int .i64 p.2)::vE r)=_;rw[nM,r8];by_cases h:p.1=o
  ·rw[if_pos h,if_pos h];rfl
  ·rw[if_neg h,if_neg h,J3 o w r];rfl
def J4(o w x:Int):∀ es,qj x (r8 o w es)=if o=x then w else qj x es
 |[]=>rfl
 |p::r=>by
  rw[r8];by_cases h:p.1=o
  ·rw[if_pos h,qj,qj];by_cases h2:o=x
   ·rw[if_pos h2,if_pos h2]
   ·rw[if_neg h2,if_neg h2,if_neg z8]
  ·rw[if_neg h,qj,qj,J4 o w x r];by_cases h2:p.1=x
   ·rw[if_pos h2,if_neg z8,if_pos h2]
   ·rw[if_neg h2,if_neg h2]
def J5(c:Int)(b:Nat):∀ A:List kg,(∀ e∈A,e.1≠c)->nM c (.map (some b)) (gE A)=gE (A++[(c,b,[])])
 |[],_=>rfl
 |e::r,h=>by
  show nM c _ ((e.1,Value.map (some e.2.1))::gE r)=_;rw[nM,if_neg (h e Eb),J5 c b r λx hx=>h x (by simp[hx])];rfl
structure GI(R:Nat)(dn:List Ld)(A:List kg)(b0:Nat)(μ:Mem):Prop where
 top:μ b0=some (.map (iE (gE A)))
 sub:∀ e∈A,μ e.2.1=some (.map (iE (vE e.2.2)))
 tS:∀ e∈A,e.2.1≠b0
 inj:∀ e∈A,∀ e'∈A,e.2.1=e'.2.1->e=e'
 keys:(A.map (·.1)).Nodup
 val:∀ e∈A,∀ o,qj o e.2.2=qh dn e.1 o 0
 has:∀ x∈dn,∃ e∈A,e.1=x.cls
 fR:∀ e∈A,0<=e.1/\e.1<R
def GI.nil{R b0:Nat}{μ:Mem}(h:μ b0=some (.map [])):GI R [] [] b0 μ:=⟨h,Eb,Eb,Eb,Eb,Eb,Eb,Eb⟩
def GI.new{R:Nat}{dn:List Ld}{A:List kg}{b0:Nat}{μ:Mem}(h:GI R dn A b0 μ){c:Int}(Qd:0<=c/\c<R)(hc:∀ e∈A,e.1≠c){b:Nat}(hb:μ b=none):GI R dn (A++[(c,b,[])]) b0 (j9 (j9 μ b (.map [])) b0 (.map (iE (nM c (.map (some b)) (gE A))))):=by
 have Cw:b≠b0:=λe=>by rw[e,h.top]at hb;cases hb
 have jC:∀ e∈A,e.2.1≠b:=λe he e2=>by have:=h.sub e he;rw[e2,hb]at this;cases this
 refine⟨by rw[yC,J5 c b A hc],λe he=>?_,λe he=>?_,λe he e' kJ hh=>?_,?_,λe he o=>?_,λx hx=>?_,λe he=>?_⟩
 ·rcases bn.1 he with he|he
  ·rw[qa _ _ (h.tS e he),qa _ _ (jC e he)];exact h.sub e he
  ·simp only[bB]at he;subst he;rw[qa _ _ Cw,yC];rfl
 ·rcases bn.1 he with he|he
  ·exact h.tS e he
  ·simp only[bB]at he;subst he;exact Cw
 ·rcases bn.1 he with he|he<;>rcases bn.1 kJ with kJ|kJ
  ·exact h.inj e he e' kJ hh
  ·simp only[bB]at kJ;subst kJ;exact absurd hh (jC e he)
  ·simp only[bB]at he;subst he;exact absurd hh.symm (jC e' kJ)
  ·simp only[bB]at he kJ;rw[he,kJ]
 ·rw[kS,qW];refine⟨h.keys,Eb,λa ha b' bq=>?_⟩;obtain⟨e,he,rfl⟩:=bS.1 ha;simp only[km,pG,bB]at bq;rw[bq];exact hc e he
 ·rcases bn.1 he with he|he
  ·exact h.val e he o
  ·simp only[bB]at he;subst he;rw[Cv]
   ·rfl
   ·intro x hx lU;obtain⟨e,he,r9⟩:=h.has x hx;exact hc e he (r9.trans lU)
 ·obtain⟨e,he,r9⟩:=h.has x hx;exact⟨e,List.mem_append_left _ he,r9⟩
 ·rcases bn.1 he with he|he
  ·exact h.fR e he
  ·simp only[bB]at he;subst he;exact Qd
def bT(c o w:Int)(A:List kg):List kg:=A.map λe=>if e.1=c then(e.1,e.2.1,r8 o w e.2.2) else e
def Qe(c o w:Int)(A:List kg):gE (bT c o w A)=gE A:=by
 unfold gE bT;rw[Ed];refine oo λe _=>?_;simp only[Function.comp];split<;>rfl
def GI.put{R:Nat}{dn:List Ld}{A:List kg}{b0:Nat}{μ:Mem}(h:GI R dn A b0 μ){x:Ld}{e0:kg}(nH:e0∈A)(hc:e0.1=x.cls):GI R (dn++[x]) (bT x.cls x.opt x.wt A) b0 (j9 μ e0.2.1 (.map (iE (nM x.opt (.int .i64 x.wt) (vE e0.2.2))))):=by
 have uniq:∀ e∈A,e.1=x.cls->e=e0:=λe he hh=>by
  have hk:=h.keys;obtain⟨i,hi,rfl⟩:=lJ.1 he;obtain⟨j,hj,rfl⟩:=lJ.1 nH;have:i=j:=(List.getElem_inj (h₀:=by simpa using hi) (h₁:=by simpa using hj) hk).1 (by simp only[List.getElem_map];rw[hh,hc]);subst this;rfl
 have one:∀ e∈bT x.cls x.opt x.wt A,(e=(e0.1,e0.2.1,r8 x.opt x.wt e0.2.2))\/(e∈A/\e.1≠x.cls):=λe he=>by
  obtain⟨e',kJ,rfl⟩:=bS.1 he;by_cases hh:e'.1=x.cls
  ·left;rw[if_pos hh,uniq e' kJ hh]
  ·right;rw[if_neg hh];exact⟨kJ,hh⟩
 have jC:∀ e∈A,e.1≠x.cls->e.2.1≠e0.2.1:=λe he hh e2=>hh (by rw[h.inj e he e0 nH e2,hc]);refine⟨by rw[qa _ _ (h.tS e0 nH).symm,Qe];exact h.top,λe he=>?_,λe he=>?_,λe he e' kJ hh=>?_,?_,λe he o=>?_,λy hy=>?_,λe he=>?_⟩
 ·rcases one e he with rfl|⟨h1,h2⟩
  ·rw[yC,J3]
  ·rw[qa _ _ (jC e h1 h2)];exact h.sub e h1
 ·rcases one e he with rfl|⟨h1,h2⟩
  ·exact h.tS e0 nH
  ·exact h.tS e h1
 ·rcases one e he with rfl|⟨h1,h2⟩<;>rcases one e' kJ with rfl|⟨h3,h4⟩
  ·rfl
  ·exact absurd hh.symm (jC e' h3 h4)
  ·exact absurd hh (jC e h1 h2)
  ·exact h.inj e h1 e' h3 hh
 ·have:(bT x.cls x.opt x.wt A).map (·.1)=A.map (·.1):=by
   unfold bT;rw[Ed];refine oo λe _=>?_;simp only[Function.comp];split<;>rfl
  rw[this];exact h.keys
 ·rw[Qa];rcases one e he with rfl|⟨h1,h2⟩
  ·dsimp only;rw[J4,h.val e0 nH o];by_cases ho:x.opt=o
   ·rw[if_pos ho,if_pos ⟨hc.symm,ho⟩]
   ·rw[if_neg ho,if_neg (λe=>ho e.2)]
  ·rw[if_neg (λe=>h2 e.1.symm)];exact h.val e h1 o
 ·have mem:∀ e∈A,∃ e'∈bT x.cls x.opt x.wt A,e'.1=e.1:=λe he=>⟨_,List.mem_map_of_mem he,by split<;>rfl⟩;rcases bn.1 hy with hy|hy
  ·obtain⟨e,he,r9⟩:=h.has y hy;obtain⟨e',k1,k2⟩:=mem e he;exact⟨e',k1,k2.trans r9⟩
  ·simp only[bB]at hy;subst hy;obtain⟨e',k1,k2⟩:=mem e0 nH;exact⟨e',k1,k2.trans hc⟩
 ·rcases one e he with rfl|⟨h1,h2⟩
  ·exact h.fR e0 nH
  ·exact h.fR e h1
def tT(f:Int->Int):List kg->Int
 |[]=>0
 |e::r=>f e.1+tT f r
def Cy(f:Int->Int)(n:Nat):∀ A:List kg,(A.map (·.1)).Nodup->(∀ e∈A,0<=e.1/\e.1<n)->tT f A=cd (λi=>if∃e∈A,e.1=(i:Int) then f i else 0) n
 |[],_,_=>by
  rw[ma (g:=λ_=>0) n (λi _=>Eb)];have:∀ n,cd (λ_=>0) n=0:=λn=>by induction n with|zero=>rfl|succ n ih=>rw[cd,ih];rfl
  rw[this];rfl
 |e::r,hn,hr=>by
  rw[km,List.nodup_cons]at hn;rw[tT,Cy f n r hn.2 λx hx=>hr x (by simp[hx])];have h0:=hr e Eb;have Qf:¬∃x∈r,x.1=((e.1.toNat:Nat):Int):=by
   rintro⟨x,hx,hh⟩;rw[iS h0.1]at hh;exact hn.1 (bS.2 ⟨x,hx,hh⟩)
  have:=yX (λi=>if∃x∈r,x.1=(i:Int) then f i else 0) e.1.toNat (f e.1) n;rw[if_pos z8]at this;rw[Int.add_comm,<- this];refine ma n λi hi=>?_;by_cases h:i=e.1.toNat
  ·subst h;rw[if_pos rfl,if_neg Qf,if_pos ⟨e,Eb,z8⟩,iS h0.1];omega
  ·rw[if_neg h];have:(∃ x∈e::r,x.1=(i:Int))↔∃ x∈r,x.1=(i:Int):=by
    constructor
    ·rintro⟨x,hx,hh⟩;rcases cI.1 hx with rfl|hx
     ·omega
     ·exact⟨x,hx,hh⟩
    ·rintro⟨x,hx,hh⟩;exact⟨x,by simp[hx],hh⟩
   simp only[this]
def J6:∀ A:List kg,tT (λ_=>1) A=A.length
 |[]=>rfl
 |e::r=>by rw[tT,J6 r,b8];omega
def GI.len{R:Nat}{dn:List Ld}{A:List kg}{b0:Nat}{μ:Mem}(h:GI R dn A b0 μ):A.length<=R:=by
 have h1:=Cy (λ_=>1) R A h.keys h.fR;rw[J6]at h1;have h2:=J1 (f:=λi=>if∃e∈A,e.1=(i:Int) then(1:Int) else 0) (B:=1) R λi _=>by split<;>omega
 omega
def GI.sum{dn:List Ld}{A:List kg}{b0:Nat}{μ:Mem}{left:List (List Bool)}(h:GI left.length dn A b0 μ):tT (λc=>tR dn c (left.getD c.toNat [])) A=vW dn 0 left 0:=by
 rw[Cy _ left.length A h.keys h.fR,J2,Int.zero_add];refine ma _ λi _=>?_;simp only[Nat.zero_add,Int.toNat_natCast];by_cases hh :∃e∈A,e.1=(i:Int)
 ·rw[if_pos hh]
 ·rw[if_neg hh,Qb];intro x hx lU;obtain⟨e,he,r9⟩:=h.has x hx;exact hh ⟨e,he,r9.trans lU⟩
def GI.other{R:Nat}{dn:List Ld}{A:List kg}{b0:Nat}{μ:Mem}(h:GI R dn A b0 μ){r:Nat}(g:Gh)(hr:∀ l,μ r≠some (.map l)):GI R dn A b0 (j9 μ r g) :=
 ⟨by rw[qa _ _ (λe=>hr _ (e▸h.top))];exact h.top,λe he=>by rw[qa _ _ (λe2=>hr _ (e2▸h.sub e he))];exact h.sub e he,h.tS,h.inj,h.keys,h.val,h.has,h.fR⟩
def mX(m:ae)(left:List (List Bool)):Prop:=left.length=m.cls.length/\∀ i,i<left.length->(left.getD i default).length=(m.cls.getD i default).length
instance (m:ae)(left:List (List Bool)):Decidable (mX m left):=by unfold mX;infer_instance
def mX.row{m:ae}{left:List (List Bool)}(hm:VM m)(h:mX m left):∀ r∈left,r.length<=24:=λr hr=>by
 obtain⟨i,hi,rfl⟩:=lJ.1 hr;have:=h.2 i hi;rw[an,aN hi]at this;simp only[dg]at this;rw[this];exact hm.opt _ (aO (by have:=h.1;omega))
def ql{α:Type}[Inhabited α]{l:List α}{k:Nat}(h:k<l.length):l.take (k+1)=l.take k++[l.getD k default]:=by
 rw[List.take_succ_eq_append_getElem h,an,aN h];rfl
abbrev Nm:=Int×Bool
def CA(x:Int):Nm:=(x,decide (1099511627776<=x))
def J7(p:Nm):List AV:=[UX p.1,.lit (.bool p.2)]
def J8(p:Nm):List AV:=[.lit (.bool p.2),UX p.1]
instance:Row J7 2:=⟨λ_=>rfl,λp v hv=>by
 simp only[J7,cI,qO,or_false]at hv;rcases hv with rfl|rfl<;>exact .inl ⟨_,rfl,rfl⟩⟩
instance:Row J8 2:=⟨λ_=>rfl,λp v hv=>by
 simp only[J8,cI,qO,or_false]at hv;rcases hv with rfl|rfl<;>exact .inl ⟨_,rfl,rfl⟩⟩
def vY(o:cD):Int:=(o.ch.map (·.2)).foldl fB 0
def CC(l:List cD):List Int:=l.map vY
def sa(l:List Int):List Nm:=l.map CA
def Qg{R:Int}{l:List (Int×Int)}(h:ee R none l=true):∀ c∈l,bG c.2:=λc hc=>nP (vy h c hc).2
def J9:∀ (l:List Int) (n:Int),(∀ x∈l,bG x)->bG n->bG (l.foldl fB n)
 |[],_,_,h=>h
 |x::r,n,hl,h=>J9 r _ (λy hy=>hl y (by simp[hy])) (vx h (hl x Eb))
def J'{R:Int}{o:cD}(h:ee R none o.ch=true):bG (vY o):=J9 _ _ (λx hx=>by
 obtain⟨c,hc,rfl⟩:=bS.1 hx;exact Qg h c hc) (by unfold bG;decide)
structure Mv where
 pair:Int
 side:Int
 opt:Int
 pg:Int
 deriving Inhabited
def Cl(x:Mv):List AV:=[UX x.pair,UX x.side,UX x.opt,UX x.pg]
instance:Row Cl 4:=⟨λ_=>rfl,λx v hv=>by
 simp only[Cl,cI,qO,or_false]at hv;rcases hv with rfl|rfl|rfl|rfl<;>exact .inl ⟨_,rfl,rfl⟩⟩
def kK(m:ae)(x:Mv):Int:=if x.side=0 then(m.aj.getD x.pair.toNat default).fst else(m.aj.getD x.pair.toNat default).snd
def qm(m:ae)(x:Mv):Bool:=decide (0<=x.pair/\x.pair<m.aj.length/\0<=x.side/\x.side<=1/\-268435456<=x.pg/\x.pg<=268435456)&&gn m (kK m x) x.opt
def nW(os:List Ob)(x:Ob)(l:List Ob):(os++x::l)[os.length]?=some x:=Eb
def nX(os l:List Ob)(k:Nat):(os++l)[os.length+k]?=l[k]?:=by rw[dk z8,Nat.add_sub_cancel_left]
def Ka(os:List Ob)(x y:Ob)(l:List Ob):(os++x::l).set os.length y=os++y::l:=by rw[List.set_append];simp
def Kb(os l:List Ob)(k:Nat)(y:Ob):(os++l).set (os.length+k) y=os++l.set k y:=by rw[List.set_append_right _ _ z8];simp
def aA{os:List Ob}{i:Nat}{o:Ob}(h:os[i]?=some o)(l:List Ob):(os++l)[i]?=some o:=by
 rw[bL (aF.1 h).1];exact h
def gZ{os:List Ob}{i:Nat}{o:Ob}(h:os[i]?=some o)(l:List Ob)(y:Ob):(os++l).set i y=os.set i y++l:=by
 rw[List.set_append,if_pos (aF.1 h).1]
def cj{os:List Ob}{i j:Nat}{o o' y:Ob}(h:os[i]?=some o)(h':os[j]?=some o')(bx:o≠o'):(os.set j y)[i]?=some o:=by
 have:j≠i:=λe=>bx (by rw[e,h]at h';simpa using h');rw[cV this];exact h
def g6{os:List Ob}{i:Nat}{o y:Ob}(h:os[i]?=some o):(os.set i y)[i]?=some y:=by
 rw[bM];simp[(aF.1 h).1]
def bl:=U0 @nW @nX @Ka @Kb
def eT(q:Nat×Nat):List AV:=[.ref q.1 2 0 q.2]
structure RI{α:Type}(enc:α->List AV)(os:List Ob)(D:List (Nat×Nat))(S:List (List α)):Prop where
 len:D.length=S.length
 row:∀ j,j<D.length->os[(D.getD j default).1]?=some (.arr 2 (rowsOf enc (S.getD j default)))/\(S.getD j default).length=(D.getD j default).2
def RI.nil{α:Type}{enc:α->List AV}{os:List Ob}:RI enc os [] ([]:List (List α)):=⟨rfl,Eb⟩
def RI.app{α:Type}{enc:α->List AV}{os:List Ob}{D:List (Nat×Nat)}{S:List (List α)}(h:RI enc os D S)(l:List Ob):RI enc (os++l) D S :=
 ⟨h.len,λj hj=>⟨aA (h.row j hj).1 l,(h.row j hj).2⟩⟩
def RI.kill{α:Type}{enc:α->List AV}{os:List Ob}{D:List (Nat×Nat)}{S:List (List α)}(h:RI enc os D S){i:Nat}{o y:Ob}(ho:os[i]?=some o)(bx:∀ l,o≠.arr 2 l):RI enc (os.set i y) D S :=
 ⟨h.len,λj hj=>⟨cj (h.row j hj).1 ho (λe=>bx _ e.symm),(h.row j hj).2⟩⟩
def yY{α:Type}[Inhabited α](l:List α)(x:α)(j:Nat):(l++[x]).getD j default=if j<l.length then l.getD j default else if j=l.length then x else default:=by
 simp only[an];split
 ·rename_i h;rw[bL h]
 ·rename_i h;rw[dk z8];split
  ·rename_i h2;subst h2;simp
  ·rw[gI UU];rfl
def RI.snoc{α:Type}{enc:α->List AV}{os:List Ob}{D:List (Nat×Nat)}{S:List (List α)}(h:RI enc os D S){p:Nat}{r:List α}(hp:os[p]?=some (.arr 2 (rowsOf enc r))):RI enc os (D++[(p,r.length)]) (S++[r]) :=
 ⟨by simp[h.len],λj hj=>by
  rw[yY,yY,<- h.len];by_cases h1:j<D.length
  ·rw[if_pos h1,if_pos h1];exact h.row j h1
  ·have:j=D.length:=by simp at hj;omega
   rw[if_neg h1,if_neg h1,if_pos this,if_pos this];exact⟨hp,rfl⟩⟩
def RI.set{α:Type}{enc:α->List AV}{os:List Ob}{D:List (Nat×Nat)}{S:List (List α)}(h:RI enc os D S)(hn:(D.map (·.1)).Nodup){j:Nat}(hj:j<D.length){r:List α}(hr:r.length=(S.getD j default).length):RI enc (os.set (D.getD j default).1 (.arr 2 (rowsOf enc r))) D (S.set j r) :=
 ⟨by rw[bm];exact h.len,λk hk=>by
  by_cases e:k=j
  ·subst e;have:(S.set k r).getD k default=r:=by rw[an,bM];simp[<- h.len,hk]
   rw[this];exact⟨g6 (h.row k hk).1,hr.trans (h.row k hk).2⟩
  ·have:(S.set j r).getD k default=S.getD k default:=by rw[an,cV (λe'=>e e'.symm),an]
   rw[this];have bx:(D.getD j default).1≠(D.getD k default).1:=λhh=>e ((List.getElem_inj (h₀:=by simpa using hk) (h₁:=by simpa using hj) hn).1 (by
    rw[List.getElem_map,List.getElem_map];have a1:D[k]=D.getD k default:=by simp[hk]
    have a2:D[j]=D.getD j default:=by simp[hj]
    rw[a1,a2];exact hh.symm))
   rw[cV bx];exact h.row k hk⟩
def RI.other{α:Type}{enc:α->List AV}{os:List Ob}{D:List (Nat×Nat)}{S:List (List α)}(h:RI enc os D S){i:Nat}(hi:i ∉ D.map (·.1)){y:Ob}:RI enc (os.set i y) D S :=
 ⟨h.len,λk hk=>⟨by
  rw[cV (λe=>hi (bS.2 ⟨D.getD k default,aO hk,e.symm⟩))];exact(h.row k hk).1,(h.row k hk).2⟩⟩
def RI.fresh{α:Type}{enc:α->List AV}{os:List Ob}{D:List (Nat×Nat)}{S:List (List α)}(h:RI enc os D S){p:Nat}(hp:os.length<=p):p ∉ D.map (·.1):=λhh=>by
 obtain⟨q,hq,rfl⟩:=bS.1 hh;obtain⟨k,hk,rfl⟩:=lJ.1 hq;have h1:=(h.row k hk).1;have a1:D.getD k default=D[k]:=by simp[hk]
 rw[a1]at h1;have:=(aF.1 h1).1;omega
def CD(D:List (Nat×Nat))(p n:Nat):rowsOf eT D++[[AV.ref p 2 0 n]]=rowsOf eT (D++[(p,n)]):=by simp[rowsOf,eT]
def RI.step{α:Type}{enc:α->List AV}{os:List Ob}{D:List (Nat×Nat)}{S:List (List α)}{ai:Nat}{x:Ob}(fa:os[ai]?=some x)(hx:∀ l,x≠.arr 2 l)(hR:RI enc os D S)(cm:(D.map (·.1)).Nodup)(r:List α)(t y:Ob):
  (os.set ai .gone++[.arr 2 (rowsOf enc r),t,y])[os.length+2]?=some y /\
  RI enc (os.set ai .gone++[.arr 2 (rowsOf enc r),t,y]) (D++[(os.length,r.length)]) (S++[r])/\((D++[(os.length,r.length)]).map (·.1)).Nodup /\
  ∀ k o,os[k]?=some o->k≠ai->(os.set ai .gone++[.arr 2 (rowsOf enc r),t,y])[k]?=some o:=by
 have hl:(os.set ai .gone).length=os.length:=bm ..;refine⟨?_,?_,?_,λk o hk bx=>aA ?_ _⟩
 ·rw[<- hl,nX];rfl
 ·refine((hR.kill fa hx).app _).snoc ?_;rw[<- hl,nW]
 ·rw[kS,qW];refine⟨cm,Eb,λa ha b hb=>?_⟩;simp only[km,pG,bB]at hb;subst hb;exact λe=>hR.fresh (Nat.le_refl _) (e▸ha)
 ·rw[cV (Ne.symm bx)];exact hk
structure LO{α:Type}(enc:α->List AV)(B:List (Nat×Ob))(D E:List (Nat×Nat))(S T:List (List α))(os:List Ob):Prop where
 base:∀ b∈B,os[b.1]?=some b.2/\∀ l,b.2≠.arr 2 l
 rD:RI enc os D S
 rE:RI enc os E T
 nd:((D++E).map (·.1)).Nodup
section
variable {α:Type} {enc:α->List AV} {B:List (Nat×Ob)} {D E:List (Nat×Nat)} {S T:List (List α)} {os:List Ob}
def LO.app(h:LO enc B D E S T os)(l:List Ob):LO enc B D E S T (os++l):=⟨λb hb=>⟨aA (h.base b hb).1 l,(h.base b hb).2⟩,h.rD.app l,h.rE.app l,h.nd⟩
def LO.add(h:LO enc B D E S T os){k:Nat}{x:Ob}(hk:os[k]?=some x)(hx:∀ l,x≠.arr 2 l):LO enc ((k,x)::B) D E S T os :=
 ⟨λb hb=>by rcases cI.1 hb with rfl|hb;exact⟨hk,hx⟩;exact h.base b hb,h.rD,h.rE,h.nd⟩
def LO.sub(h:LO enc B D E S T os){C:List (Nat×Ob)}(hc:∀ b∈C,b∈B):LO enc C D E S T os:=⟨λb hb=>h.base b (hc b hb),h.rD,h.rE,h.nd⟩
end
def LO.vars{α:Type}{enc:α->List AV}{B:List (Nat×Ob)}{D E:List (Nat×Nat)}{S T:List (List α)}{os:List Ob}(h:LO enc B D E S T os){n:Nat}(hn:os.length=n)(x y:Ob)(hx:∀ l,x≠.arr 2 l)(hy:∀ l,y≠.arr 2 l):
  LO enc ((n,x)::(n+1,y)::B) D E S T (os++[x,y]):=by
 subst hn;exact((h.app [x,y]).add (by rw[nX];rfl) hy).add (by rw[nW]) hx
def LO.kill{α:Type}{enc:α->List AV}{B:List (Nat×Ob)}{D E:List (Nat×Nat)}{S T:List (List α)}{os:List Ob}(h:LO enc B D E S T os){i:Nat}{x y:Ob}(hi:os[i]?=some x)(hx:∀ l,x≠.arr 2 l)(bx:∀ b∈B,b.1≠i):LO enc B D E S T (os.set i y) :=
 ⟨λb hb=>⟨by rw[cV (bx b hb).symm];exact(h.base b hb).1,(h.base b hb).2⟩,h.rD.kill hi hx,h.rE.kill hi hx,h.nd⟩
def lv(os l:List Ob)(i k:Nat)(y:Ob):(os.set i y++l)[os.length+k]?=l[k]?:=by
 have:=nX (os.set i y) l k;rwa [bm]at this
def dM(os ob:List Ob):Prop:=∀ (k:Nat) (o:Ob),os[k]?=some o->ob[k]?=some o
def dM.refl(os:List Ob):dM os os:=λ_ _ h=>h
def dM.app{os ob:List Ob}(h:dM os ob)(l:List Ob):dM os (ob++l):=λk o hk=>aA (h k o hk) l
def dM.set{os ob:List Ob}(h:dM os ob){i:Nat}(hi:os.length<=i){y:Ob}:dM os (ob.set i y):=λk o hk=>by
 have:=(aF.1 hk).1;rw[cV z8];exact h k o hk
def dM.len{os ob:List Ob}(h:dM os ob):os.length<=ob.length:=by
 rcases Nat.eq_zero_or_pos os.length with h0|h0
 ·omega
 ·obtain⟨o,ho⟩ :∃o,os[os.length-1]?=some o:=⟨_,aN z8⟩;have:=(aF.1 (h _ _ ho)).1;omega
section
variable {α:Type} {enc:α->List AV} {B:List (Nat×Ob)} {D E:List (Nat×Nat)} {S T:List (List α)} {os:List Ob}
def LO.fresh(h:LO enc B D E S T os){p:Nat}(hp:os.length<=p):p ∉ (D++E).map (·.1):=by
 rw[kS,bn,not_or];exact⟨h.rD.fresh hp,h.rE.fresh hp⟩
def LO.step{gi ai:Nat}{gc:List AV}{A:List (List AV)}(h:LO enc ((gi,.var gc)::(ai,.arr 1 A)::B) D E S T os){r:List α}{oi:Nat}(hr:os[oi]?=some (.arr 2 (rowsOf enc r)))(eu:oi ∉ (D++E).map (·.1))(hB:∀ b∈B,b.1≠ai/\b.1≠gi)(tU:List AV)(A':List (List AV))(t:Ob):
  LO enc ((gi,.var tU)::(os.length+1,.arr 1 A')::B) (D++[(oi,r.length)]) E (S++[r]) T ((os.set ai .gone).set gi (.var tU)++[t,.arr 1 A']):=by
 have hg:=(h.base (gi,.var gc) Eb).1;have ha:=(h.base (ai,.arr 1 A) Eb).1;dsimp only at hg ha;have eB:gi≠ai:=λe=>by rw[e,ha]at hg;cases hg
 have b9:(os.set ai .gone)[gi]?=some (.var gc):=by rw[cV eB.symm];exact hg
 have hl:((os.set ai .gone).set gi (.var tU)).length=os.length:=by rw[bm,bm]
 have Qh:=((h.rD.kill (y:=.gone) ha Eb).kill (y:=.var tU) b9 Eb).app [t,.arr 1 A'];have Qi:=((h.rE.kill (y:=.gone) ha Eb).kill (y:=.var tU) b9 Eb).app [t,.arr 1 A'];have kE:((os.set ai .gone).set gi (.var tU)++[t,.arr 1 A'])[oi]?=some (.arr 2 (rowsOf enc r)):=aA (cj (cj hr ha Eb) b9 Eb) _;refine⟨λb hb=>?_,Qh.snoc kE,Qi,?_⟩
 ·rcases cI.1 hb with rfl|hb
  ·exact⟨aA (g6 b9) _,Eb⟩
  rcases cI.1 hb with rfl|hb
  ·refine⟨?_,Eb⟩;dsimp only;rw[<- hl,nX];rfl
  ·have h0:=h.base b (by simp[hb]);refine⟨aA ?_ _,h0.2⟩;rw[cV (hB b hb).2.symm,cV (hB b hb).1.symm];exact h0.1
 ·have cm:=h.nd;rw[kS,qW]at cm ⊢;rw[kS,bn,not_or]at eu;obtain⟨n1,n2,n3⟩:=cm;refine⟨?_,n2,λa mY b hb=>?_⟩
  ·rw[kS,qW];refine⟨n1,Eb,λa mY b hb=>?_⟩;simp only[km,pG,bB]at hb;subst hb;exact λe=>eu.1 (e▸mY)
  ·rw[kS,bn]at mY;rcases mY with mY|mY
   ·exact n3 a mY b hb
   ·simp only[km,pG,bB]at mY;subst mY;exact λe=>eu.2 (e▸hb)
end
def S0(m:ae):List (List Nm):=m.cls.map λl=>sa (CC l)
def T0(m:ae):List (List Nm):=m.aj.map λp=>sa p.dw
def ph(r:List Nm)(i:Nat)(a:Int):List Nm:=r.set i ((r.getD i default).1+a,(r.getD i default).2)
def mZ(f:Nat->Nat)(a:Int):Nat->List Nm->List Nm
 |0,t=>t
 |k+1,t=>ph (mZ f a k t) (f k) (-a)
abbrev Lg:=List (List Nm)×List (List Nm)
def vZ(m:ae)(x:Mv):(Nat->Nat)×Nat :=
 if x.side=0 then(λk=>(x.opt*(m.cls.getD (m.aj.getD x.pair.toNat default).snd.toNat default).length+k).toNat,(m.cls.getD (m.aj.getD x.pair.toNat default).snd.toNat default).length)
 else(λk=>((k:Int)*(m.cls.getD (m.aj.getD x.pair.toNat default).snd.toNat default).length+x.opt).toNat,(m.cls.getD (m.aj.getD x.pair.toNat default).fst.toNat default).length)
def kh(m:ae)(x:Mv)(g:Lg):Lg :=
 (g.1.set (kK m x).toNat (ph (g.1.getD (kK m x).toNat default) x.opt.toNat x.pg),g.2.set x.pair.toNat (mZ (vZ m x).1 x.pg (vZ m x).2 (g.2.getD x.pair.toNat default)))
def qn(m:ae)(l:List Mv)(g:Lg):Lg:=l.foldl (λg x=>kh m x g) g
def NB(B:Int)(r:List Nm):Prop:=∀ p∈r,-B<=p.1/\p.1<=B
def NB.get{B:Int}{r:List Nm}(h:NB B r)(hB:0<=B)(i:Nat): -B<=(r.getD i default).1/\(r.getD i default).1<=B:=by
 rcases cZ i r.length with hi|hi
 ·exact h _ (aO hi)
 ·rw[an,gI hi];show -B<=(0:Int)/\(0:Int)<=B;omega
def NB.mono{B C:Int}{r:List Nm}(h:NB B r)(hc:B<=C):NB C r:=λp hp=>by have:=h p hp;omega
def NB.add{B:Int}{r:List Nm}(h:NB B r)(hB:0<=B)(i:Nat){a:Int}(ha : -268435456<=a/\a<=268435456):NB (B+268435456) (ph r i a):=λp hp=>by
 rcases qQ hp with h'|h'
 ·have:=h p h';omega
 ·have:=h.get hB i;rw[h'];dsimp only;omega
def Kd(r:List Nm)(i:Nat)(a:Int):(ph r i a).length=r.length:=by simp[ph]
def CE(f:Nat->Nat)(a:Int):∀ (k:Nat) (t:List Nm),(mZ f a k t).length=t.length
 |0,t=>rfl
 |k+1,t=>by rw[mZ,Kd,CE f a k t]
def NB.sub{B:Int}{r:List Nm}(h:NB B r)(hB:0<=B)(f:Nat->Nat){a:Int}(ha : -268435456<=a/\a<=268435456):∀ k:Nat,NB (B+268435456*k) (mZ f a k r)
 |0=>by simpa [mZ] using h
 |k+1=>by
  rw[mZ];have:=(NB.sub h hB f ha k).add z8 (f k) (a:=-a) z8;exact this.mono z8
structure LG(m:ae)(B:Int)(g:Lg):Prop where
 s:g.1.length=m.cls.length
 t:g.2.length=m.aj.length
 sl:∀ i,i<m.cls.length->(g.1.getD i default).length=(m.cls.getD i default).length
 tl:∀ i,i<m.aj.length->(g.2.getD i default).length=(m.aj.getD i default).dw.length
 sb:∀ r∈g.1,NB B r
 tb:∀ r∈g.2,NB B r
def Ke{g:List (List Nm)}{i j:Nat}{r:List Nm}(h:r.length=(g.getD i default).length):((g.set i r).getD j default).length=(g.getD j default).length:=by
 by_cases e:i=j
 ·subst e;rcases cZ i g.length with hi|hi
  ·simp only[an,bM,hi,if_true,dg];rw[h,an]
  ·rw[List.set_eq_of_length_le hi]
 ·simp only[an,cV e]
def Kf{B:Int}{g:List (List Nm)}(h:∀ r∈g,NB B r)(i:Nat):NB B (g.getD i default):=by
 rcases cZ i g.length with hi|hi
 ·exact h _ (aO hi)
 ·rw[an,gI hi];intro p hp;cases hp
def Qj{m:ae}(hm:VM m)(x:Mv):(vZ m x).2<=24:=by
 have:∀ i,(m.cls.getD i default).length<=24:=λi=>by
  rcases cZ i m.cls.length with hi|hi
  ·exact hm.opt _ (aO hi)
  ·rw[an,gI hi];exact Nat.zero_le _
 unfold vZ;split<;>exact this _
def Kg{m:ae}(hm:VM m){B:Int}(hB:0<=B){g:Lg}(h:LG m B g){x:Mv}(hx:qm m x=true):LG m (B+268435456*25) (kh m x g):=by
 unfold qm at hx;rw[bb,decide_eq_true_eq]at hx;have ha:=hx.1.2.2.2.2;have hk:=Qj hm x;refine⟨by rw[kh,bm];exact h.s,by rw[kh,bm];exact h.t,λi hi=>?_,λi hi=>?_,λr hr=>?_,λr hr=>?_⟩
 ·rw[kh];dsimp only;rw[Ke (by rw[Kd])];exact h.sl i hi
 ·rw[kh];dsimp only;rw[Ke (by rw[CE])];exact h.tl i hi
 ·rcases qQ hr with h'|h'
  ·exact(h.sb r h').mono z8
  ·rw[h'];exact((Kf h.sb _).add hB _ ha).mono z8
 ·rcases qQ hr with h'|h'
  ·exact(h.tb r h').mono z8
  ·rw[h'];exact((Kf h.tb _).sub hB _ ha _).mono z8
def Kh{l:List Int}(h:∀ x∈l,bG x):NB 1099511627776 (sa l):=λp hp=>by
 obtain⟨x,hx,rfl⟩:=bS.1 hp;have:=h x hx;unfold bG at this;show -1099511627776<=x/\x<=1099511627776;omega
def Qk{m:ae}{p:Pr}(hp:eP m p=true):∀ x∈p.dw,bG x:=λx hx=>by
 unfold eP at hp;simp only[bb,fU,List.any_eq_false]at hp;have:=hp.2 _ hx;rw[jG]at this;simp only[bb,fU,decide_eq_true_eq,not_and,Bool.not_eq_false]at this;by_cases hz:x=0
 ·subst hz;unfold bG;decide
 ·exact nP (this hz)
def qo{α β:Type}[Inhabited α][Inhabited β](f:α->β)(l:List α)(i:Nat)(h:i<l.length):(l.map f).getD i default=f (l.getD i default):=by
 rw[an,List.getElem?_map,an,aN h];rfl
def Ki{m:ae}(hm:VM m):LG m 1099511627776 (S0 m,T0 m):=by
 refine⟨by simp[S0],by simp[T0],λi hi=>?_,λi hi=>?_,λr hr=>?_,λr hr=>?_⟩
 ·show((S0 m).getD i default).length=_;rw[S0,qo _ _ _ hi];simp[sa,CC]
 ·show((T0 m).getD i default).length=_;rw[T0,qo _ _ _ hi];simp[sa]
 ·obtain⟨l,hl,rfl⟩:=bS.1 hr;refine Kh λx hx=>?_;obtain⟨o,ho,rfl⟩:=bS.1 hx;exact J' (hm.rO l hl o ho)
 ·obtain⟨p,hp,rfl⟩:=bS.1 hr;exact Kh (Qk (mS hm.pr p hp))
def Qm{m:ae}(hm:VM m)(l:List Mv)(hl:∀ x∈l,qm m x=true):LG m (1099511627776+268435456*25*l.length) (qn m l (S0 m,T0 m)):=by
 have key:∀ (l:List Mv) (B:Int) (g:Lg),0<=B->(∀ x∈l,qm m x=true)->LG m B g->LG m (B+268435456*25*l.length) (qn m l g):=by
  intro l
  induction l with
  |nil=>intro B g _ _ h;simpa [qn] using h
  |cons x r ih =>
   intro B g hB hx h;have h1:=Kg hm hB h (hx x Eb);have h2:=ih _ _ z8 (λy hy=>hx y (by simp[hy])) h1;show LG m _ (qn m r (kh m x g));have e:B+268435456*25+268435456*25*(r.length:Int)=B+268435456*25*((x::r).length:Int):=by simp only[b8];omega
   rw[e]at h2;exact h2
 exact key l _ _ US hl (Ki hm)
end T

