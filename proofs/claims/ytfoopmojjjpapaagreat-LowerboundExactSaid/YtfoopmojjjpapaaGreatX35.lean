import Derived.Test.YtfoopmojjjpapaaGreatX33
import Derived.Test.YtfoopmojjjpapaaGreatX34
import Derived.Shelf.SlSortCmp.NoneTotal
set_option linter.all false
set_option maxHeartbeats 0
set_option maxRecDepth 20000
open Nat renaming lt_or_ge→du,le_refl→aX
open List renaming getD_eq_getElem?_getD→ax,getElem?_eq_none→fl,mem_map→bS,perm_middle→xO,getElem?_eq_getElem→bq,pairwise_iff_getElem→IW,getElem_of_mem→kX,mem_cons→bm,nodup_cons→mJ,mem_append→cT,map_cons→fP,mem_cons_of_mem→dw,mem_filter→y9,getElem_map→CM,getElem?_map→bV,getElem?_eq_some_iff→aR
open Int renaming le_refl→kB
open Option renaming map_some→gF
open Array renaming length_toList→tN
open Go Go.Am Go.Proofs
namespace T
def yQ(m:ah)(left:List (List Bool))(rounds:Int):Int:=if jH m left≠0 then jH m left else if rounds<0\/64<rounds then 3 else 0
def Ey(m:ah)(left:List (List Bool)):b6 m left []=if jH m left≠0 then(0,jH m left) else(kk m left (S0 m,T0 m),0):=by
 unfold b6 fZ;split
 ·rfl
 ·rw[if_neg IM,if_neg IM];rfl
def ajG(m:ah)(left:List (List Bool)):WS:=pT m (dG m left m.cls.length) (W0 m) 0
structure MvP(m:ah)(left:List (List Bool))(rounds:Int)(X:List Mv):Prop where
 ok:(b6 m left X).2=0
 ge:(b6 m left []).1<=(b6 m left X).1
 fir:1<=rounds->(b6 m left []).1≠1099511627776->∃ Y:List Mv,Y.Perm (jX (ajG m left).am)/\((b6 m left Y).2=0->(b6 m left Y).1<=(b6 m left X).1)
def ajt{m:ah}:mB m (W0 m):=by
 refine⟨by simp[W0],by simp[W0],λi hi=>?_,λj hj=>?_,λq hq=>by cases hq⟩
 ·unfold W0;dsimp only;rw[gR _ _ _ hi];simp[b7,cH]
 ·unfold W0;dsimp only;rw[gR _ _ _ hj];rfl
def aju{m:ah}(hm:VM m):WB 1099511627776 (W0 m):=by
 have key:∀ (l:List (List Int)),(∀ r∈l,∀ x∈r,-1099511627776<=x/\x<=1099511627776)->∀ a b,-1099511627776<=(l.getD a default).getD b 0/\(l.getD a default).getD b 0<=1099511627776:=λl hl a b=>by
  rcases du a l.length with h1|h1
  ·have h2:=hl _ (aE (l:=l) (i:=a) (d:=default) h1);rcases du b (l.getD a default).length with h3|h3
   ·exact h2 _ (aE h3)
   ·rw[ax,fl h3];decide
  ·have e:l.getD a default=default:=by rw[ax,fl h1];rfl
   rw[e];show -1099511627776<=(0:Int)/\(0:Int)<=1099511627776;decide
 refine⟨λc o=>?_,λp j=>?_,λk=>by show -268435456<=(0:Int)/\(0:Int)<=268435456;decide,by show 12884901888*((0:Nat):Int)<=1099511627776;decide⟩
 ·refine key (m.cls.map b7) (λr hr x hx=>?_) c o;obtain⟨l,hl,rfl⟩:=bS.1 hr;obtain⟨o,ho,rfl⟩:=bS.1 hx;have:=BK (hm.qK l hl o ho);unfold bJ at this;omega
 ·refine key (m.ae.map (·.aB)) (λr hr x hx=>?_) p j;obtain⟨q,hq,rfl⟩:=bS.1 hr;have:=GU (jG hm.pr q hq) x hx;unfold bJ at this;omega
section
variable {α:Type} [Inhabited α]
def uR(lt:α->α->Bool)(x:α)(l:List α):Nat->Nat
 |0=>0
 |k+1=>if lt x (l.getD k default)=true then uR lt x l k else k+1
def aaC(lt:α->α->Bool)(x:α)(l:List α):∀ k,uR lt x l k<=k
 |0=>aX _
 |k+1=>by
  rw[uR];split
  ·have:=aaC lt x l k;omega
  ·exact aX _
def Ez(lt:α->α->Bool)(x:α)(l:List α):List α:=l.take (uR lt x l l.length)++x::l.drop (uR lt x l l.length)
def Ay(lt:α->α->Bool):List α->List α->List α
 |[],out=>out
 |x::r,out=>Ay lt r (Ez lt x out)
def M0(lt:α->α->Bool)(x:α)(l:List α):(Ez lt x l).Perm (x::l):=by
 unfold Ez;refine xO.trans ?_;rw[List.take_append_drop]
def MX(lt:α->α->Bool):∀ (l out:List α),(Ay lt l out).Perm (out++l)
 |[],out=>by rw[Ay,List.append_nil]
 |x::r,out=>by
  rw[Ay];refine(MX lt r _).trans (((M0 lt x out).append_right r).trans ?_);exact xO.symm
def aaD(lt:α->α->Bool)(x:α)(l:List α):∀ k,(∀ j,uR lt x l k<=j->j<k->lt x (l.getD j default)=true)/\(0<uR lt x l k->lt x (l.getD (uR lt x l k-1) default)=false)
 |0=>⟨λj h1 h2=>AT,λh=>by rw[uR]at h;omega⟩
 |k+1=>by
  obtain⟨a,b⟩:=aaD lt x l k;rw[uR];split
  ·rename_i h;refine⟨λj h1 h2=>?_,b⟩;by_cases hj:j=k
   ·subst hj;exact h
   ·exact a j h1 AT
  ·rename_i h;exact⟨λj h1 h2=>AT,λ_=>by simpa using h⟩
structure H7(lt:α->α->Bool)(P:α->Prop):Prop where
 tr:∀ a b c,P a->P b->P c->lt a b=true->lt b c=true->lt a c=true
 j8:∀ a b,P a->P b->a≠b->lt a b=true\/lt b a=true
 ir:∀ a b,P a->P b->lt a b=true->lt b a=false
def ajH{lt:α->α->Bool}{P:α->Prop}(ho:H7 lt P){x:α}{l:List α}(hl:l.Pairwise λa b=>lt a b=true)(hP:∀ y∈l,P y)(hx:P x)(hn:x ∉ l):(Ez lt x l).Pairwise λa b=>lt a b=true:=by
 obtain⟨a,b⟩:=aaD lt x l l.length;have hp:=aaC lt x l l.length;unfold Ez;generalize uR lt x l l.length=p at *;have hg:∀ j,j<l.length->l.getD j default∈l:=λj hj=>aE hj;have gM:∀ j (hj:j<l.length),l[j]=l.getD j default:=λj hj=>by rw[ax,bq hj];rfl
 have oM:∀ i j,i<j->j<l.length->lt (l.getD i default) (l.getD j default)=true:=λi j h1 h2=>by
  rw[<- gM i AT,<- gM j h2];exact IW.1 hl i j AT h2 h1
 have Cf:∀ y∈l.take p,lt y x=true:=λy hy=>by
  obtain⟨i,hi,rfl⟩:=kX hy;rw[List.length_take]at hi;rw[List.getElem_take,gM i AT];have h1:=b AT;have h2:l.getD (p-1) default∈l:=hg _ AT;have h3:lt (l.getD (p-1) default) x=true:=(ho.j8 _ _ (hP _ h2) hx (λe=>hn (e▸h2))).resolve_right (by rw[h1];decide);by_cases hip:i=p-1
  ·subst hip;exact h3
  ·exact ho.tr _ _ _ (hP _ (hg _ AT)) (hP _ h2) hx (oM i (p-1) AT AT) h3
 have aaE:∀ y∈l.drop p,lt x y=true:=λy hy=>by
  obtain⟨i,hi,rfl⟩:=kX hy;rw[List.length_drop]at hi;rw[List.getElem_drop,gM _ AT];exact a _ AT AT
 rw[List.pairwise_append];refine⟨hl.sublist (List.take_sublist _ _),List.pairwise_cons.2 ⟨aaE,hl.sublist (List.drop_sublist _ _)⟩,λy hy z hz=>?_⟩;rcases bm.1 hz with rfl|hz
 ·exact Cf y hy
 ·exact ho.tr _ _ _ (hP _ (List.mem_of_mem_take hy)) hx (hP _ (List.mem_of_mem_drop hz)) (Cf y hy) (aaE z hz)
def aaF{lt:α->α->Bool}{P:α->Prop}(ho:H7 lt P):∀ (l out:List α),out.Pairwise (λa b=>lt a b=true)->(∀ y∈out,P y)->(∀ y∈l,P y)->(out++l).Nodup->(Ay lt l out).Pairwise λa b=>lt a b=true
 |[],out,h,_,_,_=>h
 |x::r,out,h,h1,h2,h3=>by
  rw[Ay];have hp:(x::(out++r)).Nodup:=(xO.nodup_iff).1 h3;rw[mJ,cT,not_or]at hp;refine aaF ho r _ (ajH ho h h1 (h2 x IM) hp.1.1) (λy hy=>?_) (λy hy=>h2 y (by simp[hy])) ?_
  ·rcases bm.1 ((M0 lt x out).mem_iff.1 hy) with rfl|hy
   ·exact h2 _ IM
   ·exact h1 y hy
  ·refine((M0 lt x out).append_right r).nodup_iff.2 ?_;rw[List.cons_append,mJ,cT,not_or];exact hp
omit [Inhabited α] in
def aaG{lt:α->α->Bool}{P:α->Prop}(ho:H7 lt P):∀ (a b:List α),a.Pairwise (λx y=>lt x y=true)->b.Pairwise (λx y=>lt x y=true)->(∀ x∈a,P x)->(∀ x,x∈a↔x∈b)->a=b
 |[],b,_,_,_,h=>by
  cases b with
  |nil=>rfl
  |cons y b=>have:=(h y).2 IM;simp at this
 |x::a,[],_,_,_,h=>by have:=(h x).1 IM;simp at this
 |x::a,y::b,ha,hb,hP,h=>by
  rw[List.pairwise_cons]at ha hb;have M1:P y:=hP y ((h y).2 IM);have hir:∀ z,P z->lt z z=true->False:=λz hz hh=>by have:=ho.ir z z hz hz hh;rw[hh]at this;cases this
  have qt:x=y:=by
   rcases bm.1 ((h x).1 IM) with e|h1
   ·exact e
   ·rcases bm.1 ((h y).2 IM) with e|h2
    ·exact e.symm
    ·have:=ho.ir _ _ (hP x IM) M1 (ha.1 y h2);rw[hb.1 x h1]at this;cases this
  subst qt;congr 1;refine aaG ho a b ha.2 hb.2 (λz hz=>hP z (by simp[hz])) λz=>?_;constructor
  ·intro hz;rcases bm.1 ((h z).1 (by simp[hz])) with e|h1
   ·subst e;exact(hir _ M1 (ha.1 _ hz)).elim
   ·exact h1
  ·intro hz;rcases bm.1 ((h z).2 (by simp[hz])) with e|h1
   ·subst e;exact(hir _ M1 (hb.1 _ hz)).elim
   ·exact h1
end
def dy.one{P:Program}{f:FuncId}{args:List AV}{aa:List Ob}{res:AV}{ba:List Ob}(h:dy P f args aa (λr os=>r=res/\os=ba)):Holds P f args aa res ba:=by
 refine⟨h.1,λγ aJ hs=>(h.2 γ aJ hs).mono ?_⟩;rintro e w'⟨r,os,cv,az,⟨rfl,rfl⟩,h1,h2,h3,h4,h5⟩;exact⟨cv,az,h1,h2,h3,h4,h5⟩
def KN(W:WS):Prop:=(W.am.map (·.1)).Nodup
def aaI(k:List Int)(v:Int):∀ am:List (List Int×Int),(jL k v am).map (·.1)=if k∈am.map (·.1) then am.map (·.1) else am.map (·.1)++[k]
 |[]=>rfl
 |p::r=>by
  have ih:=aaI k v r;rw[jL];by_cases hp:p.1=k
  ·rw[if_pos hp,if_pos (by rw[fP,hp];exact List.mem_cons_self)];simp[hp]
  ·rw[if_neg hp,fP,ih,fP];by_cases hk:k∈r.map (·.1)
   ·rw[if_pos hk,if_pos (dw _ hk)]
   ·rw[if_neg hk,if_neg (by rw[bm,not_or];exact⟨λe=>hp e.symm,hk⟩)];rfl
def ajJ{k:List Int}{v:Int}{am:List (List Int×Int)}(h:(am.map (·.1)).Nodup):((jL k v am).map (·.1)).Nodup:=by
 rw[aaI];split
 ·exact h
 ·rename_i hk;exact List.nodup_append.2 ⟨h,IM,λa ha b hb=>by simp only[List.mem_singleton]at hb;subst hb;exact λe=>hk (e▸ha)⟩
section
variable {m:ah} {can:List (List Bool)}
def M3{Q:WS->Prop}(h:∀ W p s o amt,Q W->Q (pU m W p s o amt))(W:WS)(hW:Q W)(p s:Nat):∀ i,Q (kS m can W p s i)
 |0=>hW
 |i+1=>by
  rw[kS];split
  ·exact h _ _ _ _ _ (M3 h W hW p s i)
  ·exact M3 h W hW p s i
def M4{Q:WS->Prop}(h:∀ W p s o amt,Q W->Q (pU m W p s o amt))(W:WS)(hW:Q W)(p s:Nat):∀ i,Q (ju m can W p s i)
 |0=>hW
 |i+1=>by
  rw[ju];split
  ·exact h _ _ _ _ _ (M4 h W hW p s i)
  ·exact M4 h W hW p s i
def ajK{Q:WS->Prop}(h:∀ W p s o amt,Q W->Q (pU m W p s o amt))(W:WS)(hW:Q W)(p s:Nat):Q (Az m can W p s):=M4 h _ (M3 h W hW p s _) p s _
def aaJ{α β:Type}{Q:α->Prop}{f:α->β->α}(h:∀ a b,Q a->Q (f a b)):∀ (l:List β) (a:α),Q a->Q (l.foldl f a)
 |[],a,ha=>ha
 |b::l,a,ha=>aaJ h l _ (h a b ha)
def aaK{Q:WS->Prop}(h:∀ W p s o amt,Q W->Q (pU m W p s o amt))(cL:List (List Int)):∀ (f:Nat) (st:WS×List Bool) (c:Nat),Q st.1->Q (iS m can cL f st c).1
 |0,st,c,hs=>hs
 |f+1,st,c,hs=>by
  have hk:∀ (st:WS×List Bool) (p s:Nat),Q st.1->Q (AA m can (iS m can cL f) st p s).1:=λst p s hs=>by
   unfold AA;split
   ·exact hs
   ·exact ajK h _ (aaK h cL f _ _ hs) p s
  rw[iS];exact aaJ (Q:=λa:WS×List Bool=>Q a.1) (λa b ha=>hk _ _ _ (hk _ _ _ ha)) _ _ hs
def M5{Q:WS->Prop}(h:∀ W p s o amt,Q W->Q (pU m W p s o amt))(cL:List (List Int))(st:WS×List Bool)(hs:Q st.1):∀ c,Q (lY m can cL st c).1
 |0=>hs
 |c+1=>by
  rw[lY];split
  ·exact M5 h cL st hs c
  ·exact aaK h cL _ _ _ (M5 h cL st hs c)
def ajL{Q:WS->Prop}(h:∀ W p s o amt,Q W->Q (pU m W p s o amt))(W:WS)(hW:Q W)(r:Nat):Q (pT m can W r):=M5 h _ _ hW _
def ajw(W:WS)(hW:KN W)(r:Nat):KN (pT m can W r):=ajL (λW p s o amt h=>ajJ h) W hW r
end
def tF(l:List Mv):List Mv:=Ay (Go.Proofs.ltOf tG) l []
def ajM:∀ {am:List (List Int×Int)},(am.map (·.1)).Nodup->(∀ q∈am,∃ p s o:Int,q.1=[p,s,o])->∀ {x y:Mv},x∈jX am->y∈jX am->x.pair=y.pair->x.side=y.side->x.opt=y.opt->x=y:=by
 intro am hn hk x y hx hy h1 h2 h3;unfold jX at hx hy;obtain⟨q,hq,rfl⟩:=bS.1 hx;obtain⟨r,hr,rfl⟩:=bS.1 hy;have hq:=(y9.1 hq).1;have hr:=(y9.1 hr).1;obtain⟨a,b,c,e1⟩:=hk q hq;obtain⟨a',b',c',e2⟩:=hk r hr;unfold Aw at h1 h2 h3;rw[e1,e2]at h1 h2 h3;change a=a' at h1;change b=b' at h2;change c=c' at h3;have e3:q.1=r.1:=by rw[e1,e2,h1,h2,h3]
 have e4:q=r:=by
  obtain⟨i,hi,rfl⟩:=kX hq;obtain⟨j,hj,rfl⟩:=kX hr;have:=(List.getElem_inj (h₀:=by simpa using hi) (h₁:=by simpa using hj) hn).1 (by rw[CM,CM];exact e3);subst this;rfl
 rw[e4]
def aaL:∀ {am:List (List Int×Int)},(am.map (·.1)).Nodup->(∀ q∈am,∃ p s o:Int,q.1=[p,s,o])->(jX am).Nodup
 |[],_,_=>List.nodup_nil
 |q::r,hn,hk=>by
  rw[fP,mJ]at hn;have ih:=aaL hn.2 (λx hx=>hk x (dw _ hx));unfold jX at ih ⊢;rw[List.filter_cons];split
  ·rw[fP,mJ];refine⟨λhm=>?_,ih⟩;obtain⟨t,ht,e⟩:=bS.1 hm;have ht:=(y9.1 ht).1;obtain⟨a,b,c,e1⟩:=hk q IM;obtain⟨a',b',c',e2⟩:=hk t (by simp[ht]);unfold Aw at e;rw[e1,e2,Mv.mk.injEq]at e;have e:=(show a'=a/\b'=b/\c'=c/\t.2=q.2 from e);exact hn.1 (bS.2 ⟨t,ht,by rw[e1,e2,e.1,e.2.1,e.2.2.1]⟩)
  ·exact ih
def ajd{am:List (List Int×Int)}(hn:(am.map (·.1)).Nodup)(hk:∀ q∈am,∃ p s o:Int,q.1=[p,s,o]){Y:List Mv}(hY:Y.Perm (jX am))(hs:Y.Pairwise λa b=>Go.Proofs.ltOf tG b a=false):Y=tF (jX am):=by
 have bx:=aaL hn hk;have ho:H7 (Go.Proofs.ltOf tG) (·∈jX am):={
  tr:=λa b c _ _ _=>by rw[qZ,qZ,qZ];omega
  j8:=λa b ha hb eX=>by
   rw[qZ,qZ];refine Classical.byContradiction λh=>eX (ajM hn hk ha hb ?_ ?_ ?_)<;>omega
  ir:=λa b _ _=>by rw[<- Bool.not_eq_true,qZ,qZ];omega }
 have hYn:Y.Nodup:=hY.nodup_iff.2 bx;refine aaG ho _ _ ?_ (aaF ho _ [] .nil IM (λx hx=>hx) (by simpa using bx)) (λx hx=>hY.mem_iff.1 hx) λx=>(hY.mem_iff).trans (by unfold tF;exact((MX _ (jX am) []).mem_iff).symm);refine(hs.and hYn).imp_of_mem λ{a b} ha hb h=>?_;rcases ho.j8 a b (hY.mem_iff.1 ha) (hY.mem_iff.1 hb) h.2 with h1|h1
 ·exact h1
 ·rw[h.1]at h1;cases h1
section
variable (m:ah) (left:List (List Bool))
def yR:Nat->Nat->List Mv->WS->List Mv
 |0,_,X,_=>X
 |n+1,k,X,V =>
  if(b6 m left X).1=1099511627776 then X
  else if(b6 m left (tF (jX (pT m (dG m left m.cls.length) V k).am))).2≠0\/((b6 m left (tF (jX (pT m (dG m left m.cls.length) V k).am))).1<=(b6 m left X).1/\0<k) then X
  else yR n (k+1) (if(b6 m left X).1<(b6 m left (tF (jX (pT m (dG m left m.cls.length) V k).am))).1 then tF (jX (pT m (dG m left m.cls.length) V k).am) else X) (pT m (dG m left m.cls.length) V k)
def jt(rounds:Int):List Mv:=yR m left rounds.toNat 0 [] (W0 m)
end
section
variable {m:ah} {left:List (List Bool)}
def M6:∀ (n k:Nat) (X:List Mv) (V:WS),(b6 m left X).2=0->(b6 m left (yR m left n k X V)).2=0/\(b6 m left X).1<=(b6 m left (yR m left n k X V)).1
 |0,k,X,V,h=>⟨h,kB _⟩
 |n+1,k,X,V,h=>by
  rw[yR];split
  ·exact⟨h,kB _⟩
  ·split
   ·exact⟨h,kB _⟩
   ·rename_i h1 h2;rw[not_or,Classical.not_not]at h2;by_cases h3:(b6 m left X).1<(b6 m left (tF (jX (pT m (dG m left m.cls.length) V k).am))).1
    ·rw[if_pos h3];have:=M6 n (k+1) _ (pT m (dG m left m.cls.length) V k) h2.1;exact⟨this.1,AT⟩
    ·rw[if_neg h3];exact M6 n (k+1) _ _ h
def aax(rounds:Int)(h:(b6 m left []).2=0):(b6 m left (jt m left rounds)).2=0/\(b6 m left []).1<=(b6 m left (jt m left rounds)).1:=M6 _ _ _ _ h
end
def aaM:Jq Tryz.prog 73:=⟨_,Tryz.func73,IP,rfl⟩
def ajO{X:List Mv}{r c:Nat}{v:AV}(h:cellAt (rowsOf aP X) r c=some v):∃x y,X[r]?=some x/\(oR x)[c]?=some y/\v=.lit y:=by
 unfold cellAt rowsOf at h;rw[bV]at h;cases hx:X[r]? with
 |none=>rw[hx]at h;simp at h
 |some x =>
  rw[hx]at h;simp only[gF,Option.bind_some,aaN,bV,Option.map_eq_some_iff]at h;obtain⟨y,hy,rfl⟩:=h;exact⟨x,y,rfl,hy,rfl⟩
def aaO{d:Array Mv}{r c:Nat}{x:Mv}{y:Value}(hx:d.toList[r]?=some x)(hy:(oR x)[c]?=some y):(Sort.flatK oR 4 d)[r*4+c]! = y/\r*4+c<d.size*4:=by
 have hc:c<4:=(aR.1 hy).1;have hr:r<d.size:=by have:=(aR.1 hx).1;simpa using this
 have aS:r*4+c<d.size*4:=AT;refine⟨?_,aS⟩;rw[Sort.get_flatK _ _ _ _ aS,show(r*4+c)/4=r by omega,show(r*4+c)%4=c by omega];have e:d[r]! = x:=by
  rw[getElem!_pos d r hr];have:=(aR.1 hx).2;simpa using this
 rw[e,List.getElem!_eq_getElem?_getD,hy];rfl
def ajf(v:AV):dy Tryz.prog 73 [.lit (.slice none 0 0),.fn 74 []] [] (λres ba=>res=.bu []/\ba=[]):=by
 refine⟨aaM,λγ aJ hs=>?_⟩;obtain⟨v0,v1,hv⟩:∃v0 v1,γ.tmps = #[v0,v1]:=by
  match h:γ.tmps,aJ with
  |⟨[a,b]⟩,_=>exact⟨a,b,rfl⟩
 have s0:=hs.ao 0;rw[hv]at s0;have e0:v0=.slice none 0 0:=aw.cD s0;subst e0;rw[hv];refine(AnyF.slices_SortFunc_none aaP none 0 v1 γ.w).mono ?_;rintro e w'⟨rfl,rfl⟩;refine⟨.bu [],[],.tuple #[],{ γ with tmps:=#[.tuple #[]] },⟨rfl,rfl⟩,rfl,rfl,rfl,⟨λk=>?_,λi o hi=>by simp at hi,hs.inj,hs.nz,hs.fV,hs.gl⟩,(Fr.refl _ _).put _⟩;rcases k with _|k
 ·exact .bu _ _ rfl (λj x hj=>by simp at hj)
 ·exact .undef _
def ajh(X:List Mv)(hX:X≠[])(hXm:X.length<4611686018427387904):dy Tryz.prog 73 [.ref 0 4 0 X.length,.fn 74 []] [.arr 4 (rowsOf aP X)] (λres ba=>res=.bu []/\∃ Y:List Mv,Y.Perm X/\Y.Pairwise (λa b=>Go.Proofs.ltOf tG b a=false)/\ba=[.arr 4 (rowsOf aP Y)]):=by
 have hXl:0<X.length:=List.length_pos_iff.2 hX;refine⟨aaM,λγ aJ hs=>?_⟩;obtain⟨v0,v1,hv⟩:∃v0 v1,γ.tmps = #[v0,v1]:=by
  match h:γ.tmps,aJ with
  |⟨[a,b]⟩,_=>exact⟨a,b,rfl⟩
 have s0:=hs.ao 0;have s1:=hs.ao 1;rw[hv]at s0 s1 ⊢;obtain⟨Bs,xk,ho⟩:=hs.dx 0 _ rfl;rcases ho with⟨_,hr⟩|⟨b,o,cap,cur,t,hb,iL,hle,jy,jk,ajR⟩
 ·simp[rowsOf]at hr;exact absurd hr hX
 have hlen:(rowsOf aP X).length=X.length:=cr X;obtain⟨cap',rfl⟩:∃cap',v0=.slice (some ⟨b,o,none⟩) X.length cap':=by
  have s0':aw [.arr 4 (rowsOf aP X)] γ.w γ.Z γ.blk (.ref 0 4 0 X.length) v0:=s0;generalize X.length=L at s0' hXl ⊢;cases s0' with
  |cC _ _ h=>cases h
  |ki _ _ _ _ _ h _=>simp at h
  |ref _ _ _ _ b' o' c1 c2 rows h aY h1 h2 h3 =>
   have h':=hb.symm.trans aY;simp only[Option.some.injEq,Prod.mk.injEq]at h';obtain⟨rfl,rfl,rfl⟩:=h';exact⟨c2,IM⟩
  |lJ _ _ h _=>omega
  |mg _ _ _ _ _ _ _ h _ _=>omega
 obtain rfl:v1=.func (.func 74) #[] #[]:=by
  have s1':aw [.arr 4 (rowsOf aP X)] γ.w γ.Z γ.blk (.fn 74 []) v1:=s1;cases s1' with
  |cC _ _ h=>cases h
  |fn _ _ bd h _ =>
   have:bd = #[]:=Array.eq_empty_of_size_eq_zero h;rw[this]
 have aQ:∀ j x,(Sort.flatK oR 4 X.toArray)[j]! = x->j<X.length*4->γ.w.cell? ⟨b,o+j,none⟩=some x:=by
  intro j x hx hj;rw[zt iL AT];obtain⟨m,hm⟩:∃m,X[j/4]?=some m:=⟨_,bq AT⟩;obtain⟨y,hy⟩:∃y,(oR m)[j%4]?=some y:=⟨_,bq (by show j%4<4;omega)⟩;have h1:=(aaO (d:=X.toArray) (by simpa using hm) hy).1;rw[show j/4*4+j%4=j by omega,hx]at h1;have h2:=ajR (j/4) (j%4) (.lit y) (by
   unfold cellAt rowsOf;rw[bV,hm];simp[aaN,hy])
  rw[show j/4*4+j%4=j by omega]at h2;rw[aw.cD h2,h1]
 have hH:Sort.HoldsK oR 4 γ.w b o X.toArray:=by
  intro j hj;have fJ:j<X.length*4:=by simpa using hj
  exact⟨aQ j _ rfl fJ,by simp[World.frozen?,iL]⟩
 have hblk:b<γ.w.heap.size:=(Array.getElem?_eq_some_iff.1 iL).1;have eg:∀ args w,(callFunc 74 args).run Tryz.prog w=.ok (.enter 74 args) w:=enters_of Tryz.func74 (by kernel_rfl) rfl;have vJ:=AnyQ.slices_SortFunc aaP 4 Tryz.isAgg94 Tryz.sizeOf94 oR (λ_=>rfl) (λx v hv=>by simp[oR]at hv;rcases hv with rfl|rfl|rfl|rfl<;>rfl) tG ajT 74 #[] b o cap' X.toArray γ.w eg (ajU b o X.toArray.size γ.w) hH hblk (by simpa using hXm);rw[show X.toArray.size=X.length by simp]at vJ;refine Calls.mono vJ ?_;rintro e w'⟨rfl,d',n,os,hp,ajV,rfl⟩;obtain⟨Es,_,hp3⟩:=hp;have hds:d'.size=X.length:=by simpa using Es
 have ajW:d'.toList.Perm X:=by
  have e1:d'.extract 0 X.length=d':=by rw[<- hds];exact Array.extract_size
  have e2:X.toArray.extract 0 X.length=X.toArray:=by
   have:=Array.extract_size (xs:=X.toArray);simpa using this
  rw[e1,e2]at hp3;simpa using hp3
 have vK:d'.toList.length=X.length:=by simpa using hds
 have ajX:d'.toList.Pairwise (λa b=>Go.Proofs.ltOf tG b a=false):=by
  refine IW.2 λi j hi hj oM=>?_;have h:=ajV i j (Nat.zero_le _) oM AT;rw[getElem!_pos d' i (by rw[tN]at hi;exact hi),getElem!_pos d' j (by rw[tN]at hj;exact hj)]at h;simpa using h
 let kG:=Sort.putCells id o (Sort.flatK oR 4 d') cur
 let w1:=Sort.putRowK oR 4 (Sort.ahead γ.w n) b o d'
 have Cl:w1.heap[b]?=some (.cells kG t (0,0)):=by
  show(γ.w.heap.modify b _)[b]?=_;rw[Array.getElem?_modify,if_pos rfl,iL];rfl
 have ml:∀ k,k≠b->w1.heap[k]?=γ.w.heap[k]?:=λk hk=>by
  show(γ.w.heap.modify b _)[k]?=_;rw[Array.getElem?_modify,if_neg (λe=>hk e.symm)]
 have H8:w1.heap.size=γ.w.heap.size:=by show(γ.w.heap.modify b _).size=_;simp
 have gG:kG.size=cur.size:=by simp[kG,Sort.putCells]
 have zJ:sR [.arr 4 (rowsOf aP X)] γ.w γ.Z γ.blk o cap kG (.arr 4 (rowsOf aP d'.toList)):=by
  refine⟨IP,λrow hr=>?_,by rw[gG];exact hle,?_,jk,λr c v hv=>?_⟩
  ·simp only[rowsOf,bS]at hr;obtain⟨x,_,rfl⟩:=hr;rfl
  ·rw[cr,vK,<- hlen];exact jy
  ·obtain⟨x,y,hx,hy,rfl⟩:=ajO hv;obtain⟨h1,h2⟩:=aaO hx hy;have h3:kG.getD (o+(r*4+c)) Go.undef=y:=by
    have aS:o+(r*4+c)<cur.size:=AT;simp only[kG,Sort.putCells,Array.getD_eq_getD_getElem?,Array.getElem?_mapIdx,Array.getElem?_eq_getElem aS,gF,Option.getD_some];rw[if_pos ⟨AT,by rw[Sort.size_flatK];omega⟩,show o+(r*4+c)-o=r*4+c by omega,h1];rfl
   rw[h3];exact .lit _
 have hsw:=hs.write (id:=0) (ob':=.arr 4 (rowsOf aP d'.toList)) rfl IM ⟨rfl,by rw[cr,cr,vK]⟩ hb Cl ml H8 zJ;have Dy:=Fr.write (σ:=⟨λk=>[AV.ref 0 4 0 X.length,.fn 74 []].getD k .undef,[.arr 4 (rowsOf aP X)]⟩) (γ:=γ) (id:=0) (.arr 4 (rowsOf aP d'.toList)) rfl IM ⟨rfl,by rw[cr,cr,vK]⟩ hb ml H8 rfl rfl rfl (by show γ.w.drawn<=γ.w.drawn+n;omega);have hnz:¬ γ.Z w1.heap.size:=λh=>Nat.lt_irrefl _ (Nat.lt_of_lt_of_eq (hs.fV _ h) H8.symm);have qo:¬ oe [.arr 4 (rowsOf aP d'.toList)] γ.blk w1.heap.size:=by
  rintro⟨i,o2,c2,hl,oA⟩;exact Nat.lt_irrefl _ (hsw.blt hl oA)
 have cE:∀ k,k≠w1.heap.size->k<w1.heap.size->(Sort.grow w1 os).heap[k]?=w1.heap[k]?:=λk _ hk=>by
  show(w1.heap++os)[k]?=_;rw[Array.getElem?_append,if_pos hk]
 have wN:w1.heap.size<=(Sort.grow w1 os).heap.size:=IM;have EA:=hsw.z' (w':=Sort.grow w1 os) (b:=w1.heap.size) hnz qo cE wN;have ajZ:=Dy.z' (σ:=⟨λk=>[AV.ref 0 4 0 X.length,.fn 74 []].getD k .undef,[.arr 4 (rowsOf aP d'.toList)]⟩) (w':=Sort.grow w1 os) (b:=w1.heap.size) (Nat.le_of_eq H8.symm) cE wN rfl rfl rfl (aX _);refine⟨.bu [],[.arr 4 (rowsOf aP d'.toList)],.tuple #[],{ γ with w:=Sort.grow w1 os,tmps:=#[.tuple #[]] },⟨rfl,_,ajW,ajX,rfl⟩,rfl,rfl,rfl,⟨λk=>?_,EA.dx,EA.inj,EA.nz,EA.fV,EA.gl⟩,ajZ.put _⟩;rcases k with _|k
 ·exact .bu _ _ rfl (λj x hj=>by simp at hj)
 ·exact .undef _
section
variable {m:ah} {can:List (List Bool)} {gi ai bi mi:Nat} {D E:List (Nat×Nat)} {W:WS} {os:List Ob}
def aaj(am:List (List Int×Int))(j:Nat):(mE am)[j]?=(am[j]?).map λp=>(p.1,Oi p.2):=by unfold mE;rw[bV]
def H0(am:List (List Int×Int)):(mE am).length=am.length:=by unfold mE;simp
def ajb:tu Tryz.prog 130:=⟨_,_,rfl⟩
end
end T

