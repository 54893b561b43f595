import Derived.Test.YtfoopmojjjpapaaGreatX34
import Derived.Shelf.SlSortCmp.NoneTotal
set_option linter.all false
set_option maxHeartbeats 0
set_option maxRecDepth 20000
open Nat renaming lt_or_ge→dw,le_refl→aU,reduceBEq→qZ
open List renaming getD_eq_getElem?_getD→az,getElem?_eq_none→fY,mem_map→b6,map_cons→fF,mem_cons_of_mem→dx,nodup_append→oU,mem_singleton→dI,mem_filter→xN,getElem_of_mem→pW,getElem_map→CX,nodup_nil→Jg,nodup_cons→mO,getElem?_map→bY,getElem?_eq_some_iff→aT,getElem?_eq_getElem→bS,drop→fH,append_assoc→bw,length_append→bI
open Int renaming le_refl→mP
open Option renaming map_some→im,some→cy
open Array renaming length_toList→tH
open And renaming intro→c6
open Go Go.Am Go.Proofs
namespace T
def sR(m:aj)(left:List (List Bool))(rounds:Int):Int:=if kR m left≠0 then kR m left else if rounds<0\/64<rounds then 3 else 0
def GM(m:aj)(left:List (List Bool)):bP m left []=if kR m left≠0 then(0,kR m left) else(kU m left (S0 m,T0 m),0):=by
 unfold bP gH;split
 ·rfl
 ·rw[if_neg Fl,if_neg Fl];rfl
def w7(m:aj)(left:List (List Bool)):WS:=nf m (cZ m left m.cls.length) (W0 m) 0
structure MvP(m:aj)(left:List (List Bool))(rounds:Int)(X:List Mv):Prop where
 ok:(bP m left X).2=0
 ge:(bP m left []).1<=(bP m left X).1
 fir:1<=rounds->(bP m left []).1≠1099511627776->∃ Y:List Mv,Y.Perm (eP (w7 m left).am)/\((bP m left Y).2=0->(bP m left Y).1<=(bP m left X).1)
def Lh{m:aj}:jx m (W0 m):=by
 refine⟨by simp[W0],by simp[W0],λi hi=>?_,λj hj=>?_,λq hq=>by cases hq⟩
 ·unfold W0;dsimp only;rw[gn _ _ _ hi];simp[b8,aD]
 ·unfold W0;dsimp only;rw[gn _ _ _ hj];rfl
def TF{m:aj}(hm:VM m):WB 1099511627776 (W0 m):=by
 have key:∀ (l:List (List Int)),(∀ r∈l,∀ x∈r,-1099511627776<=x/\x<=1099511627776)->∀ a b,-1099511627776<=(l.getD a default).getD b 0/\(l.getD a default).getD b 0<=1099511627776:=λl hl a b=>by
  rcases dw a l.length with h1|h1
  ·have h2:=hl _ (aF (l:=l) (i:=a) (d:=default) h1);rcases dw b (l.getD a default).length with h3|h3
   ·exact h2 _ (aF h3)
   ·rw[az,fY h3];decide
  ·have e:l.getD a default=default:=by rw[az,fY h1];rfl
   rw[e];show -1099511627776<=(0:Int)/\(0:Int)<=1099511627776;decide
 refine⟨λc o=>?_,λp j=>?_,λk=>by show -268435456<=(0:Int)/\(0:Int)<=268435456;decide,by show 12884901888*((0:Nat):Int)<=1099511627776;decide⟩
 ·refine key (m.cls.map b8) (λr hr x hx=>?_) c o;obtain⟨l,hl,rfl⟩:=b6.1 hr;obtain⟨o,ho,rfl⟩:=b6.1 hx;have:=DJ (hm.rp l hl o ho);unfold bQ at this;omega
 ·refine key (m.ae.map (·.aC)) (λr hr x hx=>?_) p j;obtain⟨q,hq,rfl⟩:=b6.1 hr;have:=GV (jV hm.pr q hq) x hx;unfold bQ at this;omega
def dZ.one{P:Program}{f:FuncId}{args:List AV}{aa:List Ob}{res:AV}{bb:List Ob}(h:dZ P f args aa (λr os=>r=res/\os=bb)):Holds P f args aa res bb:=by
 refine⟨h.1,λγ aO hs=>(h.2 γ aO hs).mono ?_⟩;rintro e w'⟨r,os,cv,aB,⟨rfl,rfl⟩,h1,h2,h3,h4,h5⟩;exact⟨cv,aB,h1,h2,h3,h4,h5⟩
def KN(W:WS):Prop:=(W.am.map (·.1)).Nodup
def TV(k:List Int)(v:Int):∀ am:List (List Int×Int),(fW k v am).map (·.1)=if k∈am.map (·.1) then am.map (·.1) else am.map (·.1)++[k]
 |[]=>rfl
 |p::r=>by
  have ih:=TV k v r;rw[fW];by_cases hp:p.1=k
  ·rw[if_pos hp,if_pos (by rw[fF,hp];exact List.mem_cons_self)];simp[hp]
  ·rw[if_neg hp,fF,ih,fF];by_cases hk:k∈r.map (·.1)
   ·rw[if_pos hk,if_pos (dx _ hk)]
   ·rw[if_neg hk,if_neg (by rw[List.mem_cons,not_or];exact⟨λe=>hp e.symm,hk⟩)];rfl
def af'{k:List Int}{v:Int}{am:List (List Int×Int)}(h:(am.map (·.1)).Nodup):((fW k v am).map (·.1)).Nodup:=by
 rw[TV];split
 ·exact h
 ·rename_i hk;exact oU.2 ⟨h,Fl,λa ha b hb=>by simp only[dI]at hb;subst hb;exact λe=>hk (e▸ha)⟩
section
variable {m:aj} {can:List (List Bool)}
def Lo{Q:WS->Prop}(h:∀ W p s o amt,Q W->Q (jI m W p s o amt))(W:WS)(hW:Q W)(p s:Nat):∀ i,Q (fi m can W p s i)
 |0=>hW
 |i+1=>by
  rw[fi];split
  ·exact h _ _ _ _ _ (Lo h W hW p s i)
  ·exact Lo h W hW p s i
def Lp{Q:WS->Prop}(h:∀ W p s o amt,Q W->Q (jI m W p s o amt))(W:WS)(hW:Q W)(p s:Nat):∀ i,Q (ec m can W p s i)
 |0=>hW
 |i+1=>by
  rw[ec];split
  ·exact h _ _ _ _ _ (Lp h W hW p s i)
  ·exact Lp h W hW p s i
def aga{Q:WS->Prop}(h:∀ W p s o amt,Q W->Q (jI m W p s o amt))(W:WS)(hW:Q W)(p s:Nat):Q (qB m can W p s):=Lp h _ (Lo h W hW p s _) p s _
def TW{α β:Type}{Q:α->Prop}{f:α->β->α}(h:∀ a b,Q a->Q (f a b)):∀ (l:List β) (a:α),Q a->Q (l.foldl f a)
 |[],a,ha=>ha
 |b::l,a,ha=>TW h l _ (h a b ha)
def TX{Q:WS->Prop}(h:∀ W p s o amt,Q W->Q (jI m W p s o amt))(bJ:List (List Int)):∀ (f:Nat) (st:WS×List Bool) (c:Nat),Q st.1->Q (gI m can bJ f st c).1
 |0,st,c,hs=>hs
 |f+1,st,c,hs=>by
  have hk:∀ (st:WS×List Bool) (p s:Nat),Q st.1->Q (uA m can (gI m can bJ f) st p s).1:=λst p s hs=>by
   unfold uA;split
   ·exact hs
   ·exact aga h _ (TX h bJ f _ _ hs) p s
  rw[gI];exact TW (Q:=λa:WS×List Bool=>Q a.1) (λa b ha=>hk _ _ _ (hk _ _ _ ha)) _ _ hs
def Lr{Q:WS->Prop}(h:∀ W p s o amt,Q W->Q (jI m W p s o amt))(bJ:List (List Int))(st:WS×List Bool)(hs:Q st.1):∀ c,Q (kW m can bJ st c).1
 |0=>hs
 |c+1=>by
  rw[kW];split
  ·exact Lr h bJ st hs c
  ·exact TX h bJ _ _ _ (Lr h bJ st hs c)
def agb{Q:WS->Prop}(h:∀ W p s o amt,Q W->Q (jI m W p s o amt))(W:WS)(hW:Q W)(r:Nat):Q (nf m can W r):=Lr h _ _ hW _
def afY(W:WS)(hW:KN W)(r:Nat):KN (nf m can W r):=agb (λW p s o amt h=>af' h) W hW r
end
def kS(l:List Mv):List Mv:=zR (Go.Proofs.ltOf sS) l []
def agc:∀ {am:List (List Int×Int)},(am.map (·.1)).Nodup->(∀ q∈am,∃ p s o:Int,q.1=[p,s,o])->∀ {x y:Mv},x∈eP am->y∈eP am->x.pair=y.pair->x.side=y.side->x.opt=y.opt->x=y:=by
 intro am hn hk x y hx hy h1 h2 h3;unfold eP at hx hy;obtain⟨q,hq,rfl⟩:=b6.1 hx;obtain⟨r,hr,rfl⟩:=b6.1 hy;have hq:=(xN.1 hq).1;have hr:=(xN.1 hr).1;obtain⟨a,b,c,e1⟩:=hk q hq;obtain⟨a',b',c',e2⟩:=hk r hr;unfold kX at h1 h2 h3;rw[e1,e2]at h1 h2 h3;change a=a' at h1;change b=b' at h2;change c=c' at h3;have e3:q.1=r.1:=by rw[e1,e2,h1,h2,h3]
 have e4:q=r:=by
  obtain⟨i,hi,rfl⟩:=pW hq;obtain⟨j,hj,rfl⟩:=pW hr;have:=(List.getElem_inj (h₀:=by simpa using hi) (h₁:=by simpa using hj) hn).1 (by rw[CX,CX];exact e3);subst this;rfl
 rw[e4]
def TY:∀ {am:List (List Int×Int)},(am.map (·.1)).Nodup->(∀ q∈am,∃ p s o:Int,q.1=[p,s,o])->(eP am).Nodup
 |[],_,_=>Jg
 |q::r,hn,hk=>by
  rw[fF,mO]at hn;have ih:=TY hn.2 (λx hx=>hk x (dx _ hx));unfold eP at ih ⊢;rw[List.filter_cons];split
  ·rw[fF,mO];refine⟨λhm=>?_,ih⟩;obtain⟨t,ht,e⟩:=b6.1 hm;have ht:=(xN.1 ht).1;obtain⟨a,b,c,e1⟩:=hk q Fl;obtain⟨a',b',c',e2⟩:=hk t (by simp[ht]);unfold kX at e;rw[e1,e2,Mv.mk.injEq]at e;have e:=(show a'=a/\b'=b/\c'=c/\t.2=q.2 from e);exact hn.1 (b6.2 ⟨t,ht,by rw[e1,e2,e.1,e.2.1,e.2.2.1]⟩)
  ·exact ih
def agd{am:List (List Int×Int)}(hn:(am.map (·.1)).Nodup)(hk:∀ q∈am,∃ p s o:Int,q.1=[p,s,o]){Y:List Mv}(hY:Y.Perm (eP am))(hs:Y.Pairwise λa b=>Go.Proofs.ltOf sS b a=false):Y=kS (eP am):=by
 have bT:=TY hn hk;have ho:GW (Go.Proofs.ltOf sS) (·∈eP am):={
  tr:=λa b c _ _ _=>by rw[qC,qC,qC];omega
  jW:=λa b ha hb eX=>by
   rw[qC,qC];refine Classical.byContradiction λh=>eX (agc hn hk ha hb ?_ ?_ ?_)<;>omega
  ir:=λa b _ _=>by rw[<- Bool.not_eq_true,qC,qC];omega }
 have hYn:Y.Nodup:=hY.nodup_iff.2 bT;refine TZ ho _ _ ?_ (T1 ho _ [] .nil Fl (λx hx=>hx) (by simpa using bT)) (λx hx=>hY.mem_iff.1 hx) λx=>(hY.mem_iff).trans (by unfold kS;exact((GU _ (eP am) []).mem_iff).symm);refine(hs.and hYn).imp_of_mem λ{a b} ha hb h=>?_;rcases ho.jW a b (hY.mem_iff.1 ha) (hY.mem_iff.1 hb) h.2 with h1|h1
 ·exact h1
 ·rw[h.1]at h1;cases h1
section
variable (m:aj) (left:List (List Bool))
def w4:Nat->Nat->List Mv->WS->List Mv
 |0,_,X,_=>X
 |n+1,k,X,V =>
  if(bP m left X).1=1099511627776 then X
  else if(bP m left (kS (eP (nf m (cZ m left m.cls.length) V k).am))).2≠0\/((bP m left (kS (eP (nf m (cZ m left m.cls.length) V k).am))).1<=(bP m left X).1/\0<k) then X
  else w4 n (k+1) (if(bP m left X).1<(bP m left (kS (eP (nf m (cZ m left m.cls.length) V k).am))).1 then kS (eP (nf m (cZ m left m.cls.length) V k).am) else X) (nf m (cZ m left m.cls.length) V k)
def jH(rounds:Int):List Mv:=w4 m left rounds.toNat 0 [] (W0 m)
end
section
variable {m:aj} {left:List (List Bool)}
def DK:∀ (n k:Nat) (X:List Mv) (V:WS),(bP m left X).2=0->(bP m left (w4 m left n k X V)).2=0/\(bP m left X).1<=(bP m left (w4 m left n k X V)).1
 |0,k,X,V,h=>⟨h,mP _⟩
 |n+1,k,X,V,h=>by
  rw[w4];split
  ·exact⟨h,mP _⟩
  ·split
   ·exact⟨h,mP _⟩
   ·rename_i h1 h2;rw[not_or,Classical.not_not]at h2;by_cases h3:(bP m left X).1<(bP m left (kS (eP (nf m (cZ m left m.cls.length) V k).am))).1
    ·rw[if_pos h3];have:=DK n (k+1) _ (nf m (cZ m left m.cls.length) V k) h2.1;exact⟨this.1,CZ⟩
    ·rw[if_neg h3];exact DK n (k+1) _ _ h
def Lm(rounds:Int)(h:(bP m left []).2=0):(bP m left (jH m left rounds)).2=0/\(bP m left []).1<=(bP m left (jH m left rounds)).1:=DK _ _ _ _ h
def agf{rounds:Int}(h:(bP m left []).2=0)(hr:1<=rounds)(hf:(bP m left []).1≠1099511627776)(hy:(bP m left (kS (eP (w7 m left).am))).2=0):(bP m left (kS (eP (w7 m left).am))).1<=(bP m left (jH m left rounds)).1:=by
 unfold jH;obtain⟨n,hn⟩:∃n,rounds.toNat=n+1:=⟨rounds.toNat-1,CZ⟩;rw[hn,w4,if_neg hf,show nf m (cZ m left m.cls.length) (W0 m) 0=w7 m left from rfl,if_neg (by rw[hy];omega)];split
 ·exact(DK n 1 _ _ hy).2
 ·have:=(DK (m:=m) (left:=left) n (0+1) [] (w7 m left) h).2;omega
end
def T2:JV Tryz.prog 73:=⟨_,Tryz.func73,Fs,rfl⟩
def agh{X:List Mv}{r c:Nat}{v:AV}(h:cellAt (rowsOf aP X) r c=some v):∃x y,X[r]?=some x/\(oD x)[c]?=some y/\v=.lit y:=by
 unfold cellAt rowsOf at h;rw[bY]at h;cases hx:X[r]? with
 |none=>rw[hx]at h;simp at h
 |some x =>
  rw[hx]at h;simp only[im,Option.bind_some,T3,bY,Option.map_eq_some_iff]at h;obtain⟨y,hy,rfl⟩:=h;exact⟨x,y,rfl,hy,rfl⟩
def T4{d:Array Mv}{r c:Nat}{x:Mv}{y:Value}(hx:d.toList[r]?=some x)(hy:(oD x)[c]?=some y):(Sort.flatK oD 4 d)[r*4+c]! = y/\r*4+c<d.size*4:=by
 have hc:c<4:=(aT.1 hy).1;have hr:r<d.size:=by have:=(aT.1 hx).1;simpa using this
 have ba:r*4+c<d.size*4:=CZ;refine⟨?_,ba⟩;rw[Sort.get_flatK _ _ _ _ ba,show(r*4+c)/4=r by omega,show(r*4+c)%4=c by omega];have e:d[r]! = x:=by
  rw[getElem!_pos d r hr];have:=(aT.1 hx).2;simpa using this
 rw[e,List.getElem!_eq_getElem?_getD,hy];rfl
def agi(v:AV):dZ Tryz.prog 73 [.lit (.slice none 0 0),.fn 74 []] [] (λres bb=>res=.bx []/\bb=[]):=by
 refine⟨T2,λγ aO hs=>?_⟩;obtain⟨v0,v1,hv⟩:∃v0 v1,γ.tmps = #[v0,v1]:=by
  match h:γ.tmps,aO with
  |⟨[a,b]⟩,_=>exact⟨a,b,rfl⟩
 have s0:=hs.ar 0;rw[hv]at s0;have e0:v0=.slice none 0 0:=aw.cz s0;subst e0;rw[hv];refine(AnyF.slices_SortFunc_none T5 none 0 v1 γ.w).mono ?_;rintro e w'⟨rfl,rfl⟩;refine⟨.bx [],[],.tuple #[],{ γ with tmps:=#[.tuple #[]] },⟨rfl,rfl⟩,rfl,rfl,rfl,⟨λk=>?_,λi o hi=>by simp at hi,hs.inj,hs.nz,hs.gk,hs.gl⟩,(Fr.refl _ _).put _⟩;rcases k with _|k
 ·exact .bx _ _ rfl (λj x hj=>by simp at hj)
 ·exact .undef _
def agj(X:List Mv)(hX:X≠[])(hXm:X.length<4611686018427387904):dZ Tryz.prog 73 [.ref 0 4 0 X.length,.fn 74 []] [.arr 4 (rowsOf aP X)] (λres bb=>res=.bx []/\∃ Y:List Mv,Y.Perm X/\Y.Pairwise (λa b=>Go.Proofs.ltOf sS b a=false)/\bb=[.arr 4 (rowsOf aP Y)]):=by
 have Tz:0<X.length:=List.length_pos_iff.2 hX;refine⟨T2,λγ aO hs=>?_⟩;obtain⟨v0,v1,hv⟩:∃v0 v1,γ.tmps = #[v0,v1]:=by
  match h:γ.tmps,aO with
  |⟨[a,b]⟩,_=>exact⟨a,b,rfl⟩
 have s0:=hs.ar 0;have s1:=hs.ar 1;rw[hv]at s0 s1 ⊢;obtain⟨wV,w8,ho⟩:=hs.dz 0 _ rfl;rcases ho with⟨_,hr⟩|⟨b,o,cap,cur,t,hb,iS,hle,jC,jT,agl⟩
 ·simp[rowsOf]at hr;exact absurd hr hX
 have hlen:(rowsOf aP X).length=X.length:=cU X;obtain⟨cap',rfl⟩:∃cap',v0=.slice (some ⟨b,o,none⟩) X.length cap':=by
  have T6:aw [.arr 4 (rowsOf aP X)] γ.w γ.Z γ.blk (.ref 0 4 0 X.length) v0:=s0;generalize X.length=L at T6 Tz ⊢;cases T6 with
  |cJ _ _ h=>cases h
  |ku _ _ _ _ _ h _=>simp at h
  |ref _ _ _ _ b' o' c1 c2 rows h aV h1 h2 h3 =>
   have h':=hb.symm.trans aV;simp only[cy.injEq,Prod.mk.injEq]at h';obtain⟨rfl,rfl,rfl⟩:=h';exact⟨c2,Fl⟩
  |lL _ _ h _=>omega
  |mo _ _ _ _ _ _ _ h _ _=>omega
 obtain rfl:v1=.func (.func 74) #[] #[]:=by
  have s1':aw [.arr 4 (rowsOf aP X)] γ.w γ.Z γ.blk (.fn 74 []) v1:=s1;cases s1' with
  |cJ _ _ h=>cases h
  |fn _ _ bg h _ =>
   have:bg = #[]:=Array.eq_empty_of_size_eq_zero h;rw[this]
 have aR:∀ j x,(Sort.flatK oD 4 X.toArray)[j]! = x->j<X.length*4->γ.w.cell? ⟨b,o+j,none⟩=some x:=by
  intro j x hx hj;rw[zo iS CZ];obtain⟨m,hm⟩:∃m,X[j/4]?=some m:=⟨_,bS CZ⟩;obtain⟨y,hy⟩:∃y,(oD m)[j%4]?=some y:=⟨_,bS (by show j%4<4;omega)⟩;have h1:=(T4 (d:=X.toArray) (by simpa using hm) hy).1;rw[show j/4*4+j%4=j by omega,hx]at h1;have h2:=agl (j/4) (j%4) (.lit y) (by
   unfold cellAt rowsOf;rw[bY,hm];simp[T3,hy])
  rw[show j/4*4+j%4=j by omega]at h2;rw[aw.cz h2,h1]
 have hH:Sort.HoldsK oD 4 γ.w b o X.toArray:=by
  intro j hj;have gx:j<X.length*4:=by simpa using hj
  exact⟨aR j _ rfl gx,by simp[World.frozen?,iS]⟩
 have hblk:b<γ.w.heap.size:=(Array.getElem?_eq_some_iff.1 iS).1;have eg:∀ args w,(callFunc 74 args).run Tryz.prog w=.ok (.enter 74 args) w:=enters_of Tryz.func74 (by kernel_rfl) rfl;have vD:=AnyQ.slices_SortFunc T5 4 Tryz.isAgg94 Tryz.sizeOf94 oD (λ_=>rfl) (λx v hv=>by simp[oD]at hv;rcases hv with rfl|rfl|rfl|rfl<;>rfl) sS agn 74 #[] b o cap' X.toArray γ.w eg (ago b o X.toArray.size γ.w) hH hblk (by simpa using hXm);rw[show X.toArray.size=X.length by simp]at vD;refine Calls.mono vD ?_;rintro e w'⟨rfl,d',n,os,hp,agp,rfl⟩;obtain⟨DM,_,T7⟩:=hp;have T8:d'.size=X.length:=by simpa using DM
 have DN:d'.toList.Perm X:=by
  have e1:d'.extract 0 X.length=d':=by rw[<- T8];exact Array.extract_size
  have e2:X.toArray.extract 0 X.length=X.toArray:=by
   have:=Array.extract_size (xs:=X.toArray);simpa using this
  rw[e1,e2]at T7;simpa using T7
 have vF:d'.toList.length=X.length:=by simpa using T8
 have agq:d'.toList.Pairwise (λa b=>Go.Proofs.ltOf sS b a=false):=by
  refine List.pairwise_iff_getElem.2 λi j hi hj zS=>?_;have h:=agp i j (Nat.zero_le _) zS CZ;rw[getElem!_pos d' i (by rw[tH]at hi;exact hi),getElem!_pos d' j (by rw[tH]at hj;exact hj)]at h;simpa using h
 let kP:=Sort.putCells id o (Sort.flatK oD 4 d') cur
 let w1:=Sort.putRowK oD 4 (Sort.ahead γ.w n) b o d'
 have Ls:w1.heap[b]?=some (.cells kP t (0,0)):=by
  show(γ.w.heap.modify b _)[b]?=_;rw[Array.getElem?_modify,if_pos rfl,iS];rfl
 have mw:∀ k,k≠b->w1.heap[k]?=γ.w.heap[k]?:=λk hk=>by
  show(γ.w.heap.modify b _)[k]?=_;rw[Array.getElem?_modify,if_neg (λe=>hk e.symm)]
 have GX:w1.heap.size=γ.w.heap.size:=by show(γ.w.heap.modify b _).size=_;simp
 have jD:kP.size=cur.size:=by simp[kP,Sort.putCells]
 have zE:sJ [.arr 4 (rowsOf aP X)] γ.w γ.Z γ.blk o cap kP (.arr 4 (rowsOf aP d'.toList)):=by
  refine⟨Fs,λrow hr=>?_,by rw[jD];exact hle,?_,jT,λr c v hv=>?_⟩
  ·simp only[rowsOf,b6]at hr;obtain⟨x,_,rfl⟩:=hr;rfl
  ·rw[cU,vF,<- hlen];exact jC
  ·obtain⟨x,y,hx,hy,rfl⟩:=agh hv;obtain⟨h1,h2⟩:=T4 hx hy;have h3:kP.getD (o+(r*4+c)) Go.undef=y:=by
    have ba:o+(r*4+c)<cur.size:=CZ;simp only[kP,Sort.putCells,Array.getD_eq_getD_getElem?,Array.getElem?_mapIdx,Array.getElem?_eq_getElem ba,im,Option.getD_some];rw[if_pos ⟨CZ,by rw[Sort.size_flatK];omega⟩,show o+(r*4+c)-o=r*4+c by omega,h1];rfl
   rw[h3];exact .lit _
 have T9:=hs.write (id:=0) (ob':=.arr 4 (rowsOf aP d'.toList)) rfl Fl ⟨rfl,by rw[cU,cU,vF]⟩ hb Ls mw GX zE;have hfw:=Fr.write (σ:=⟨λk=>[AV.ref 0 4 0 X.length,.fn 74 []].getD k .undef,[.arr 4 (rowsOf aP X)]⟩) (γ:=γ) (id:=0) (.arr 4 (rowsOf aP d'.toList)) rfl Fl ⟨rfl,by rw[cU,cU,vF]⟩ hb mw GX rfl rfl rfl (by show γ.w.drawn<=γ.w.drawn+n;omega);have hnz:¬ γ.Z w1.heap.size:=λh=>Nat.lt_irrefl _ (Nat.lt_of_lt_of_eq (hs.gk _ h) GX.symm);have qg:¬ od [.arr 4 (rowsOf aP d'.toList)] γ.blk w1.heap.size:=by
  rintro⟨i,o2,c2,hl,nG⟩;exact Nat.lt_irrefl _ (T9.blt hl nG)
 have fK:∀ k,k≠w1.heap.size->k<w1.heap.size->(Sort.grow w1 os).heap[k]?=w1.heap[k]?:=λk _ hk=>by
  show(w1.heap++os)[k]?=_;rw[Array.getElem?_append,if_pos hk]
 have GY:w1.heap.size<=(Sort.grow w1 os).heap.size:=Fl;have DO:=T9.zT (w':=Sort.grow w1 os) (b:=w1.heap.size) hnz qg fK GY;have agt:=hfw.zT (σ:=⟨λk=>[AV.ref 0 4 0 X.length,.fn 74 []].getD k .undef,[.arr 4 (rowsOf aP d'.toList)]⟩) (w':=Sort.grow w1 os) (b:=w1.heap.size) (Nat.le_of_eq GX.symm) fK GY rfl rfl rfl (aU _);refine⟨.bx [],[.arr 4 (rowsOf aP d'.toList)],.tuple #[],{ γ with w:=Sort.grow w1 os,tmps:=#[.tuple #[]] },⟨rfl,_,DN,agq,rfl⟩,rfl,rfl,rfl,⟨λk=>?_,DO.dz,DO.inj,DO.nz,DO.gk,DO.gl⟩,agt.put _⟩;rcases k with _|k
 ·exact .bx _ _ rfl (λj x hj=>by simp at hj)
 ·exact .undef _
section
variable {m:aj} {can:List (List Bool)} {gi ai bi mi:Nat} {D E:List (Nat×Nat)} {W:WS} {os:List Ob}
def T'(am:List (List Int×Int))(j:Nat):(mE am)[j]?=(am[j]?).map λp=>(p.1,OJ p.2):=by unfold mE;rw[bY]
def GZ(am:List (List Int×Int)):(mE am).length=am.length:=by unfold mE;simp
def agu:sU Tryz.prog 130:=⟨_,_,rfl⟩
end
section
variable {m:aj} {can:List (List Bool)} {gi ai bi mi:Nat} {D E:List (Nat×Nat)} {W:WS} {os:List Ob}
def af1(h:WF m can gi ai bi mi D E W os)(hs:jx m W){B:Int}(hB:B<=2305843009213693952)(hW:WB B W)(zQ:KN W):
  dZ Tryz.prog 40 [.ptr gi 0 0] os λr ob=>(∃ id,r=.ref id 4 0 (kS (eP W.am)).length/\ob[id]?=some (.arr 4 (rowsOf aP (kS (eP W.am))))/\os.length<=id)/\WF m can gi ai bi mi D E W ob/\Kp mi D E os ob:=by
 have fv:=h.v;have fm:=h.mp;have kO:=hW.al;refine dZ.aQ 32 os.length [.tmp 2] Tryz.func40 ?_;refine agv mi fm ?_;intro b0;have pA:gY vG b0 (.iO mi) b0=some (.iO mi):=rq _ _ _;repeat'(first|(((first|refine mr ?_|refine qD ?_);intro K hK) ;simp(disch:=omega)only[Ac,↓Pc,simprocAttr,fv,Mc])|(with_reducible refine gO ?_;simp(disch:=omega)only[Ac,↓Pc,simprocAttr,fv,Mc])|(refine hK _ _ ?_;clear hK K)|(with_reducible refine gS (λaV=>?_) (λaV=>?_)<;>(have hb:=aV;(try simp only[gQ,simprocAttr]at hb);simp(disch:=omega)only[Ac,↓Pc,simprocAttr,fv,Mc,aV];clear aV))|(refine mc (λht=>?_) (λht=>?_)<;>(try simp only[gQ,simprocAttr]at ht))|refine oE rfl ?_|(refine pB ?_;intro Qb dE ee fj)|(refine nH ?_;intro Q hn he)|((first|refine hn _ _ ?_|refine he _ _ _ rfl ?_);clear hn he;try clear Q)|((first|refine dE _ _ ?_|refine ee _ _ ?_|refine fj _ _ _ rfl ?_);clear dE ee fj;try clear Qb)|(refine ax _ _ _ rfl ?_;clear ao ax;try clear Ql)|with_reducible refine c6 ?_ ?_|omega|with_reducible rfl)
 refine agw (by simp only[Kc,simprocAttr]<;>exact rfl) fm agu pA λr hr=>?_;repeat'(first|(((first|refine mr ?_|refine qD ?_);intro K hK) ;simp(disch:=omega)only[Ac,↓Pc,simprocAttr,Mc])|(with_reducible refine gO ?_;simp(disch:=omega)only[Ac,↓Pc,simprocAttr,Mc])|(refine hK _ _ ?_;clear hK K)|(with_reducible refine gS (λaV=>?_) (λaV=>?_)<;>(have hb:=aV;(try simp only[gQ,simprocAttr]at hb);simp(disch:=omega)only[Ac,↓Pc,simprocAttr,Mc,aV];clear aV))|(refine mc (λht=>?_) (λht=>?_)<;>(try simp only[gQ,simprocAttr]at ht))|refine oE rfl ?_|(refine pB ?_;intro Qb dE ee fj)|(refine nH ?_;intro Q hn he)|((first|refine hn _ _ ?_|refine he _ _ _ rfl ?_);clear hn he;try clear Q)|((first|refine dE _ _ ?_|refine ee _ _ ?_|refine fj _ _ _ rfl ?_);clear dE ee fj;try clear Qb)|(refine ax _ _ _ rfl ?_;clear ao ax;try clear Ql)|with_reducible refine c6 ?_ ?_|omega|with_reducible rfl)
 have qn:w9 os.length (lv W.am [])=.lit (.slice none 0 0):=by unfold w9 lv;rfl
 refine G0 (λz:List Nat×Nat×List Ob=>(⟨ar [(3,w9 z.2.1 (lv W.am z.1)),(10,.lit (.pointer (some ⟨r,0,none⟩)))],z.2.2⟩:St))
  (λz m=>(z.1.Nodup/\∀ j∈z.1,j<W.am.length)/\(lv W.am z.1≠[]->z.2.2[z.2.1]?=some (.arr 4 (rowsOf aP (lv W.am z.1))))/\os.length<=z.2.1/\os.length<=z.2.2.length/\(∀ (i:Nat) o,os[i]?=some o->z.2.2[i]?=some o)/\m r=some (.iter b0 W.am.length z.1)/\m b0=some (.iO mi))
  (λz=>DP z.1 W.am.length) ([],os.length,os) ⟨⟨Jg,Fl⟩,λhx=>absurd rfl hx,aU _,aU _,λ_ _ h=>h,by rw[rq,GZ],by rw[pC _ _ (λe=>by rw[<- e,pA]at hr;cases hr)];exact pA⟩ (by(refine kY.ar _ _ rfl ?_;simp only[Tc,↓reduceIte,Nat.reduceEqDiff,qZ,Nat.reduceAdd,qn];try trivial)) ?_
 rintro⟨seen,id,ob⟩m1⟨⟨bT,ba⟩,hX,bV,bK,oC,jG,jf⟩Ql ao ax;dsimp only at bT ba hX bV bK oC jG jf ⊢;have Ua:=oC _ _ fm;repeat'(first|(((first|refine mr ?_|refine qD ?_);intro K hK) ;simp(disch:=omega)only[Ac,↓Pc,simprocAttr,Mc])|(with_reducible refine gO ?_;simp(disch:=omega)only[Ac,↓Pc,simprocAttr,Mc])|(refine hK _ _ ?_;clear hK K)|(with_reducible refine gS (λaV=>?_) (λaV=>?_)<;>(have hb:=aV;(try simp only[gQ,simprocAttr]at hb);simp(disch:=omega)only[Ac,↓Pc,simprocAttr,Mc,aV];clear aV))|(refine mc (λht=>?_) (λht=>?_)<;>(try simp only[gQ,simprocAttr]at ht))|refine oE rfl ?_|(refine pB ?_;intro Qb dE ee fj)|(refine nH ?_;intro Q hn he)|((first|refine hn _ _ ?_|refine he _ _ _ rfl ?_);clear hn he;try clear Q)|((first|refine dE _ _ ?_|refine ee _ _ ?_|refine fj _ _ _ rfl ?_);clear dE ee fj;try clear Qb)|with_reducible refine c6 ?_ ?_|omega|with_reducible rfl)
 refine agx (by simp only[Kc,simprocAttr]<;>exact rfl) (by rw[GZ];exact jG) Ua jf (λfk=>?_) (λj q hq hj=>?_)
 ·rw[GZ]at fk;repeat'(first|(((first|refine mr ?_|refine qD ?_);intro K hK) ;simp(disch:=omega)only[Ac,↓Pc,simprocAttr,Mc])|(with_reducible refine gO ?_;simp(disch:=omega)only[Ac,↓Pc,simprocAttr,Mc])|(refine hK _ _ ?_;clear hK K)|(with_reducible refine gS (λaV=>?_) (λaV=>?_)<;>(have hb:=aV;(try simp only[gQ,simprocAttr]at hb);simp(disch:=omega)only[Ac,↓Pc,simprocAttr,Mc,aV];clear aV))|(refine mc (λht=>?_) (λht=>?_)<;>(try simp only[gQ,simprocAttr]at ht))|refine oE rfl ?_|(refine pB ?_;intro Qb dE ee fj)|(refine nH ?_;intro Q hn he)|((first|refine hn _ _ ?_|refine he _ _ _ rfl ?_);clear hn he;try clear Q)|((first|refine dE _ _ ?_|refine ee _ _ ?_|refine fj _ _ _ rfl ?_);clear dE ee fj;try clear Qb)|with_reducible refine c6 ?_ ?_|omega|with_reducible rfl)
  refine ax _ _ _ rfl ?_;clear ao ax Ql;repeat(first|((first|refine hn _ _ ?_|refine he _ _ _ rfl ?_);clear hn he;try clear Q)|((first|refine dE _ _ ?_|refine ee _ _ ?_|refine fj _ _ _ rfl ?_);clear dE ee fj;try clear Qb)|(refine ax _ _ _ rfl ?_;clear ao ax;try clear Ql))
  have hP:=agy bT ba fk;have G2:=λY h1 h2=>agd (Y:=Y) zQ hs.ky h1 h2;have ln:seen.length<=W.am.length:=by have:=(Ub bT ba fk).length_eq;simp at this;omega
  have sV:=Uc W.am seen;refine Ud ?_;dsimp only;have Ue:=h.pre bK oC;have hKb:Kp mi D E os ob:=⟨bK,λi o _ _ hi=>oC i o hi⟩;generalize lv W.am seen=X at *;clear jG jf fk bT ba;by_cases DQ:X=[]
  ·subst DQ;refine RG 1 Fs _ rfl ?_;intro K hK;simp(disch:=omega)only[Ac,↓Pc,simprocAttr,List.take,fH,w9];repeat'(first|with_reducible refine c6 ?_ ?_|omega|with_reducible rfl)
   refine⟨rfl,(show lr Tryz.prog 73 [.lit (.slice none 0 0),.fn 74 []] (some 30) _ _ from ?_)⟩;refine KO [] (agi (.fn 74 [])) Fs trivial ⟨.pure rfl,.pure rfl,trivial⟩ ?_;rintro r lR⟨rfl,rfl⟩;simp(disch:=omega)only[Ac,↓Pc,simprocAttr,fH];refine hK _ ?_;clear hK K;have hWn:=Ue.app [.arr 4 []];have Uf:=hKb.app [.arr 4 []];refine df (aH.nil 3 4 rfl Fs) ?_;((try revert hK K);(repeat'(first|refine Vb X0 ?_|(refine V2 X0 ?_ ?_<;>try with_reducible intro hb)|(refine Xi ?_ ?_<;>try intro ht)|refine VD ?_ ?_|exact Xx|fail))<;>try with_reducible intro K hK)
   unfold lQ;simp only[gG,gv];simp(disch:=omega)only[Ac,↓Pc,simprocAttr];exact⟨_,_,⟨⟨ob.length,by rw[<- G2 [] hP .nil];rfl,by rw[<- G2 [] hP .nil];exact jX ob _ _,bK⟩,hWn,Uf⟩,dX rfl Uf.len rfl⟩
  ·refine RG 1 Fs _ rfl ?_;intro K hK;simp(disch:=omega)only[Ac,↓Pc,simprocAttr,List.take,fH,w9,DQ];repeat'(first|with_reducible refine c6 ?_ ?_|omega|with_reducible rfl)
   refine⟨rfl,(show lr Tryz.prog 73 [.ref id 4 0 X.length,.fn 74 []] (some 30) _ _ from ?_)⟩;refine KO [id] (agj X DQ CZ) Fl ⟨by rw[Dz];exact hX DQ,trivial⟩ ⟨.eq (by simp[bh,bq]),.pure rfl,trivial⟩ ?_;rintro r lR⟨rfl,Y,hY,Ug,rfl⟩;simp(disch:=omega)only[Ac,↓Pc,simprocAttr,fH];refine hK _ ?_;clear hK K;have zO:=hY.length_eq;have oF:=lS (y:=Ob.arr 4 (rowsOf aP Y)) (hX DQ);have GO:=gX h.mp;have pz:=Ue.other (i:=id) ⟨by have:=gX h.v;omega,by have:=gX h.a;omega,by have:=gX h.b;omega,CZ⟩ (λhm=>by have:=h.lt _ hm;omega) (.arr 4 (rowsOf aP Y));have dD:Kp mi D E os (ob.set id (.arr 4 (rowsOf aP Y))):=⟨by rw[List.length_set];exact bK,λi o _ _ hi=>eY (oC i o hi) (by have:=gX hi;omega)⟩;((try revert hK K);(repeat'(first|refine Vb X0 ?_|(refine V2 X0 ?_ ?_<;>try with_reducible intro hb)|(refine Xi ?_ ?_<;>try intro ht)|refine VD ?_ ?_|exact Xx|fail))<;>try with_reducible intro K hK)
   unfold lQ;simp only[gG,gv];simp(disch:=omega)only[Ac,↓Pc,simprocAttr];exact⟨_,_,⟨⟨id,by rw[<- G2 Y (hY.trans hP) Ug,zO],by rw[<- G2 Y (hY.trans hP) Ug];exact oF,bV⟩,pz,dD⟩,dX rfl dD.len rfl⟩
 ·rw[T']at hq;cases he:W.am[j]? with
  |none=>rw[he]at hq;simp at hq
  |some qa =>
   rw[he]at hq;simp only[im,cy.injEq]at hq;subst hq;have gF:=(aT.1 he).1;obtain⟨kp,ks,ko,Lt⟩:=hs.ky qa (List.mem_of_getElem? he);have BG:W.am.getD j default=qa:=by rw[az,he];rfl
   have eN:=agB W.am seen j;rw[BG]at eN;have zU:kX qa=⟨kp,ks,ko,qa.2⟩:=by unfold kX;rw[Lt];rfl
   have G3:=Uh gF hj;obtain⟨ky,amt⟩:=qa;dsimp only at Lt eN zU ⊢;subst Lt;repeat'(first|(((first|refine mr ?_|refine qD ?_);intro K hK) ;simp(disch:=omega)only[Ac,↓Pc,simprocAttr,Mc])|(with_reducible refine gO ?_;simp(disch:=omega)only[Ac,↓Pc,simprocAttr,Mc])|(refine hK _ _ ?_;clear hK K)|(with_reducible refine gS (λaV=>?_) (λaV=>?_)<;>(have hb:=aV;(try simp only[gQ,simprocAttr]at hb);simp(disch:=omega)only[Ac,↓Pc,simprocAttr,Mc,aV];clear aV))|(refine mc (λht=>?_) (λht=>?_)<;>(try simp only[gQ,simprocAttr]at ht))|refine oE rfl ?_|(refine pB ?_;intro Qb dE ee fj)|(refine nH ?_;intro Q hn he)|((first|refine hn _ _ ?_|refine he _ _ _ rfl ?_);clear hn he;try clear Q)|((first|refine dE _ _ ?_|refine ee _ _ ?_|refine fj _ _ _ rfl ?_);clear dE ee fj;try clear Qb)|with_reducible refine c6 ?_ ?_|omega|with_reducible rfl)
   refine agC (seen:=seen) (j:=j) (b:=b0) (q:=([kp,ks,ko],OJ amt)) (by simp only[Kc,simprocAttr]<;>exact rfl) (by rw[rq]) Ua (by rw[pC _ _ (λe=>by rw[e]at jf;rw[jf]at jG;cases jG)];exact jf) (by rw[T',he];rfl) ?_;have hkA:kA 3 [kp,ks,ko]=.agg [OJ kp,OJ ks,OJ ko]:=rfl;rw[hkA];have ya:gY m1 r (.iter b0 W.am.length (seen++[j])) r=_:=rq _ _ _;have Ui:gY m1 r (.iter b0 W.am.length (seen++[j])) b0=some (.iO mi):=by rw[pC _ _ (λe=>by rw[e]at jf;rw[jf]at jG;cases jG)];exact jf
   have G4:(seen++[j]).Nodup:=oU.2 ⟨bT,Fl,λa ha b hb=>by simp only[dI]at hb;subst hb;exact λe=>hj (e▸ha)⟩;have Uj:∀ i∈seen++[j],i<W.am.length:=λi hi=>by
    rcases List.mem_append.1 hi with hi|hi
    ·exact ba i hi
    ·simp only[dI]at hi;subst hi;exact gF
   rw[GZ];by_cases ha:amt=0
   ·rw[if_neg (by simpa using ha)]at eN;repeat'(first|(((first|refine mr ?_|refine qD ?_);intro K hK) ;simp(disch:=omega)only[Ac,↓Pc,simprocAttr,bF,bw,ha,Mc])|(with_reducible refine gO ?_;simp(disch:=omega)only[Ac,↓Pc,simprocAttr,bF,bw,ha,Mc])|(refine hK _ _ ?_;clear hK K)|(with_reducible refine gS (λaV=>?_) (λaV=>?_)<;>(have hb:=aV;(try simp only[gQ,simprocAttr]at hb);simp(disch:=omega)only[Ac,↓Pc,simprocAttr,bF,bw,ha,Mc,aV];clear aV))|(refine mc (λht=>?_) (λht=>?_)<;>(try simp only[gQ,simprocAttr]at ht))|refine oE rfl ?_|(refine pB ?_;intro Qb dE ee fj)|(refine nH ?_;intro Q hn he)|((first|refine hn _ _ ?_|refine he _ _ _ rfl ?_);clear hn he;try clear Q)|((first|refine dE _ _ ?_|refine ee _ _ ?_|refine fj _ _ _ rfl ?_);clear dE ee fj;try clear Qb)|with_reducible refine c6 ?_ ?_|omega|with_reducible rfl)
    all_goals try(exfalso;omega)
    refine ao _ _ (seen++[j],id,ob++[.var [OJ kp,OJ ks,OJ ko]]) ⟨⟨G4,Uj⟩,by dsimp only;rw[eN];exact λhx=>aM (hX hx) _,bV,Jo,λi o hi=>aM (oC i o hi) _,ya,Ui⟩ G3 ?_;dsimp only;rw[eN];(refine kY.ar _ _ rfl ?_;simp only[Tc,↓reduceIte,Nat.reduceEqDiff,qZ,Nat.reduceAdd];try trivial)
   ·rw[if_pos ha,zU]at eN;have dM:=agE hX;have sV:=Uc W.am seen;have ln:seen.length<=W.am.length:=by
     have h1:=(List.Nodup.length_le_of_subset bT (l₂:=List.range W.am.length) (λa ha=>List.mem_range.2 (ba a ha)));simpa using h1
    have lM:=agF id (lv W.am seen) ob;have lK:rowsOf aP (lv W.am seen)++[[OJ kp,OJ ks,OJ ko,OJ amt]]=rowsOf aP (lv W.am seen++[⟨kp,ks,ko,amt⟩]):=by unfold rowsOf;rw[List.map_append];rfl
    have jT:=λq=>agG q (lv W.am seen) ⟨kp,ks,ko,amt⟩;have kg:=λ(i:Nat) o (hi:os[i]?=some o)=>agH (oC i o hi) (X:=lv W.am seen) (id:=id) (λ_=>by have:=gX hi;omega);generalize lv W.am seen=X at *;generalize vH id X ob=w5 at *;repeat'(first|(((first|refine mr ?_|refine qD ?_);intro K hK) ;simp(disch:=omega)only[Ac,↓Pc,simprocAttr,bF,bw,Mc])|(with_reducible refine gO ?_;simp(disch:=omega)only[Ac,↓Pc,simprocAttr,bF,bw,Mc])|(refine hK _ _ ?_;clear hK K)|(with_reducible refine gS (λaV=>?_) (λaV=>?_)<;>(have hb:=aV;(try simp only[gQ,simprocAttr]at hb);simp(disch:=omega)only[Ac,↓Pc,simprocAttr,bF,bw,Mc,aV];clear aV))|(refine mc (λht=>?_) (λht=>?_)<;>(try simp only[gQ,simprocAttr]at ht))|refine oE rfl ?_|(refine pB ?_;intro Qb dE ee fj)|(refine nH ?_;intro Q hn he)|((first|refine hn _ _ ?_|refine he _ _ _ rfl ?_);clear hn he;try clear Q)|((first|refine dE _ _ ?_|refine ee _ _ ?_|refine fj _ _ _ rfl ?_);clear dE ee fj;try clear Qb)|with_reducible refine c6 ?_ ?_|omega|with_reducible rfl)
    all_goals try(exfalso;omega)
    refine Ud ?_;dsimp only;repeat'(first|((first|((first|refine rr ?_|refine qw ?_);intro K hK)|with_reducible refine gO ?_);simp(disch:=omega)only[Ac,↓Pc,simprocAttr,bF,bw,↓dM,lM,lK,cU,bI])|(refine hK _ ?_;clear hK K)|(with_reducible refine gS (λaV=>?_) (λaV=>?_)<;>(have hb:=aV;(try simp only[gQ,simprocAttr]at hb);simp(disch:=omega)only[Ac,↓Pc,simprocAttr,bF,bw,↓dM,lM,lK,cU,bI,aV];clear aV))|(refine Wc (λht=>?_) (λht=>?_)<;>(try simp only[gQ,simprocAttr]at ht))|refine Wz rfl ?_|refine Xz ?_|(simp only[Qc,Kc,simprocAttr])|with_reducible refine c6 ?_ ?_|omega|with_reducible rfl)
    refine dE _ _ ?_;refine ao _ _ (seen++[j],ob.length+2,w5++[.var [OJ kp,OJ ks,OJ ko],.arr 4 [[OJ kp,OJ ks,OJ ko,OJ amt]],.arr 4 (rowsOf aP (X++[⟨kp,ks,ko,amt⟩]))]) ⟨⟨G4,Uj⟩,?_,Ji,by dsimp only;rw[bI,lM];omega,λi o hi=>aM (kg i o hi) _,ya,Ui⟩ G3 ?_
    ·dsimp only;intro _;rw[eN,yl lM];rfl
    ·dsimp only;rw[eN,<- jT];(refine kY.ar _ _ rfl ?_;simp only[Tc,↓reduceIte,Nat.reduceEqDiff,qZ,Nat.reduceAdd];try trivial)
end
end T

