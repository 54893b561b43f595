import Derived.Test.YtodilglobhifaaaGreatDoorX18
set_option linter.all false
set_option maxHeartbeats 0
set_option maxRecDepth 20000
open List renaming mem_iff_getElem→oS,getD_eq_getElem?_getD→aw,getElem?_eq_getElem→bc,mem_cons→cD,not_mem_nil→qS,mem_map→cN,getElem?_append_right→dS,getElem?_append_left→cr,getElem?_eq_some_iff→ba,getElem?_set_ne→dq,getElem?_set→cj,getElem?_eq_none→iF,length_set→bt,map_append→nS,nodup_append→uk,map_cons→qR,map_nil→xM,mem_singleton→bm,mem_append→bj,mem_of_getElem?→fB,range→bD,map_congr_left→oO,mem_range→kA
open Option renaming getD_some→dK,bind_some→nN
open Nat renaming add_sub_cancel_left→um,le_refl→aM,le_trans→kY,zero_le→aN,not_lt_zero→oQ
open Go Go.Am
namespace T
def jd(m:ah)(left:List (List Bool)):Prop:=left.length=m.cls.length/\∀ i,i<left.length->(left.getD i default).length=(m.cls.getD i default).length
instance (m:ah)(left:List (List Bool)):Decidable (jd m left):=by unfold jd;infer_instance
def jd.row{m:ah}{left:List (List Bool)}(hm:VM m)(h:jd m left):∀ r∈left,r.length<=24:=λr hr=>by
 obtain⟨i,hi,rfl⟩:=oS.1 hr;have:=h.2 i hi;rw[aw,bc hi]at this;simp only[dK]at this;rw[this];exact hm.opt _ (aG (by have:=h.1;omega))
def BB(left:List (List Bool)):Prop:=left.length<9223372036854775808/\∀ r∈left,r.length<9223372036854775808
def tE{α:Type}[Inhabited α]{l:List α}{k:Nat}(h:k<l.length):l.take (k+1)=l.take k++[l.getD k default]:=by
 rw[List.take_succ_eq_append_getElem h,aw,bc h];rfl
abbrev Nm:=Int×Bool
def Fx(x:Int):Nm:=(x,decide (1099511627776<=x))
def Pe(p:Nm):List AV:=[aah p.1,.lit (.bool p.2)]
def Pf(p:Nm):List AV:=[.lit (.bool p.2),aah p.1]
instance:Row Pe 2:=⟨λ_=>rfl,λp v hv=>by
 simp only[Pe,cD,qS,or_false]at hv;rcases hv with rfl|rfl<;>exact .inl ⟨_,rfl,rfl⟩⟩
instance:Row Pf 2:=⟨λ_=>rfl,λp v hv=>by
 simp only[Pf,cD,qS,or_false]at hv;rcases hv with rfl|rfl<;>exact .inl ⟨_,rfl,rfl⟩⟩
def zq(o:bh):Int:=(o.ch.map (·.2)).foldl gX 0
def Fq(l:List bh):List Int:=l.map zq
def vo(l:List Int):List Nm:=l.map Fx
def VJ{R:Int}{l:List (Int×Int)}(h:dh R none l=true):∀ c∈l,b9 c.2:=λc hc=>qz (yU h c hc).2
def Pg:∀ (l:List Int) (n:Int),(∀ x∈l,b9 x)->b9 n->b9 (l.foldl gX n)
 |[],_,_,h=>h
 |x::r,n,hl,h=>Pg r _ (λy hy=>hl y (by simp[hy])) (yS h (hl x Dg))
def O3{R:Int}{o:bh}(h:dh R none o.ch=true):b9 (zq o):=Pg _ _ (λx hx=>by
 obtain⟨c,hc,rfl⟩:=cN.1 hx;exact VJ h c hc) (by unfold b9;decide)
structure Mv where
 pair:Int
 side:Int
 opt:Int
 rU:Int
 deriving Inhabited
def Fh(x:Mv):List AV:=[aah x.pair,aah x.side,aah x.opt,aah x.rU]
instance:Row Fh 4:=⟨λ_=>rfl,λx v hv=>by
 simp only[Fh,cD,qS,or_false]at hv;rcases hv with rfl|rfl|rfl|rfl<;>exact .inl ⟨_,rfl,rfl⟩⟩
def mQ(m:ah)(x:Mv):Int:=if x.side=0 then(m.ae.getD x.pair.toNat default).fst else(m.ae.getD x.pair.toNat default).snd
def tA(m:ah)(x:Mv):Bool:=decide (0<=x.pair/\x.pair<m.ae.length/\0<=x.side/\x.side<=1/\-268435456<=x.rU/\x.rU<=268435456)&&iN m (mQ m x) x.opt
def pG(os:List Ob)(x:Ob)(l:List Ob):(os++x::l)[os.length]?=some x:=Dg
def pH(os l:List Ob)(k:Nat):(os++l)[os.length+k]?=l[k]?:=by rw[dS Ay,um]
def Ph(os:List Ob)(x y:Ob)(l:List Ob):(os++x::l).set os.length y=os++y::l:=by rw[List.set_append];simp
def Pj(os l:List Ob)(k:Nat)(y:Ob):(os++l).set (os.length+k) y=os++l.set k y:=by rw[List.set_append_right _ _ Ay];simp
def aD{os:List Ob}{i:Nat}{o:Ob}(h:os[i]?=some o)(l:List Ob):(os++l)[i]?=some o:=by
 rw[cr (ba.1 h).1];exact h
def iq{os:List Ob}{i:Nat}{o:Ob}(h:os[i]?=some o)(l:List Ob)(y:Ob):(os++l).set i y=os.set i y++l:=by
 rw[List.set_append,if_pos (ba.1 h).1]
def cP{os:List Ob}{i j:Nat}{o o' y:Ob}(h:os[i]?=some o)(h':os[j]?=some o')(bI:o≠o'):(os.set j y)[i]?=some o:=by
 have:j≠i:=λe=>bI (by rw[e,h]at h';simpa using h');rw[dq this];exact h
def jB{os:List Ob}{i:Nat}{o y:Ob}(h:os[i]?=some o):(os.set i y)[i]?=some y:=by
 rw[cj];simp[(ba.1 h).1]
def bz:=aal @pG @pH @Ph @Pj
def gy(q:Nat×Nat):List AV:=[.ref q.1 2 0 q.2]
structure RI{α:Type}(enc:α->List AV)(os:List Ob)(D:List (Nat×Nat))(S:List (List α)):Prop where
 len:D.length=S.length
 row:∀ j,j<D.length->os[(D.getD j default).1]?=some (.arr 2 (rowsOf enc (S.getD j default)))/\(S.getD j default).length=(D.getD j default).2
def RI.nil{α:Type}{enc:α->List AV}{os:List Ob}:RI enc os [] ([]:List (List α)):=⟨rfl,Dg⟩
def RI.app{α:Type}{enc:α->List AV}{os:List Ob}{D:List (Nat×Nat)}{S:List (List α)}(h:RI enc os D S)(l:List Ob):RI enc (os++l) D S :=
 ⟨h.len,λj hj=>⟨aD (h.row j hj).1 l,(h.row j hj).2⟩⟩
def RI.kill{α:Type}{enc:α->List AV}{os:List Ob}{D:List (Nat×Nat)}{S:List (List α)}(h:RI enc os D S){i:Nat}{o y:Ob}(ho:os[i]?=some o)(bI:∀ l,o≠.arr 2 l):RI enc (os.set i y) D S :=
 ⟨h.len,λj hj=>⟨cP (h.row j hj).1 ho (λe=>bI _ e.symm),(h.row j hj).2⟩⟩
def Pk{α:Type}[Inhabited α](l:List α)(x:α)(j:Nat):(l++[x]).getD j default=if j<l.length then l.getD j default else if j=l.length then x else default:=by
 simp only[aw];split
 ·rename_i h;rw[cr h]
 ·rename_i h;rw[dS Ay];split
  ·rename_i h2;subst h2;simp
  ·rw[iF aab];rfl
def RI.snoc{α:Type}{enc:α->List AV}{os:List Ob}{D:List (Nat×Nat)}{S:List (List α)}(h:RI enc os D S){p:Nat}{r:List α}(hp:os[p]?=some (.arr 2 (rowsOf enc r))):RI enc os (D++[(p,r.length)]) (S++[r]) :=
 ⟨by simp[h.len],λj hj=>by
  rw[Pk,Pk,<- h.len];by_cases h1:j<D.length
  ·rw[if_pos h1,if_pos h1];exact h.row j h1
  ·have:j=D.length:=by simp at hj;omega
   rw[if_neg h1,if_neg h1,if_pos this,if_pos this];exact⟨hp,rfl⟩⟩
def RI.set{α:Type}{enc:α->List AV}{os:List Ob}{D:List (Nat×Nat)}{S:List (List α)}(h:RI enc os D S)(hn:(D.map (·.1)).Nodup){j:Nat}(hj:j<D.length){r:List α}(hr:r.length=(S.getD j default).length):RI enc (os.set (D.getD j default).1 (.arr 2 (rowsOf enc r))) D (S.set j r) :=
 ⟨by rw[bt];exact h.len,λk hk=>by
  by_cases e:k=j
  ·subst e;have:(S.set k r).getD k default=r:=by rw[aw,cj];simp[<- h.len,hk]
   rw[this];exact⟨jB (h.row k hk).1,hr.trans (h.row k hk).2⟩
  ·have:(S.set j r).getD k default=S.getD k default:=by rw[aw,dq (λe'=>e e'.symm),aw]
   rw[this];have bI:(D.getD j default).1≠(D.getD k default).1:=λhh=>e ((List.getElem_inj (h₀:=by simpa using hk) (h₁:=by simpa using hj) hn).1 (by
    rw[List.getElem_map,List.getElem_map];have a1:D[k]=D.getD k default:=by simp[hk]
    have a2:D[j]=D.getD j default:=by simp[hj]
    rw[a1,a2];exact hh.symm))
   rw[dq bI];exact h.row k hk⟩
def RI.other{α:Type}{enc:α->List AV}{os:List Ob}{D:List (Nat×Nat)}{S:List (List α)}(h:RI enc os D S){i:Nat}(hi:i ∉ D.map (·.1)){y:Ob}:RI enc (os.set i y) D S :=
 ⟨h.len,λk hk=>⟨by
  rw[dq (λe=>hi (cN.2 ⟨D.getD k default,aG hk,e.symm⟩))];exact(h.row k hk).1,(h.row k hk).2⟩⟩
def RI.fresh{α:Type}{enc:α->List AV}{os:List Ob}{D:List (Nat×Nat)}{S:List (List α)}(h:RI enc os D S){p:Nat}(hp:os.length<=p):p ∉ D.map (·.1):=λhh=>by
 obtain⟨q,hq,rfl⟩:=cN.1 hh;obtain⟨k,hk,rfl⟩:=oS.1 hq;have h1:=(h.row k hk).1;have a1:D.getD k default=D[k]:=by simp[hk]
 rw[a1]at h1;have:=(ba.1 h1).1;omega
def Fy(D:List (Nat×Nat))(p n:Nat):rowsOf gy D++[[AV.ref p 2 0 n]]=rowsOf gy (D++[(p,n)]):=by simp[rowsOf,gy]
def RI.step{α:Type}{enc:α->List AV}{os:List Ob}{D:List (Nat×Nat)}{S:List (List α)}{ai:Nat}{x:Ob}(fa:os[ai]?=some x)(hx:∀ l,x≠.arr 2 l)(hR:RI enc os D S)(cR:(D.map (·.1)).Nodup)(r:List α)(t y:Ob):
  (os.set ai .gone++[.arr 2 (rowsOf enc r),t,y])[os.length+2]?=some y /\
  RI enc (os.set ai .gone++[.arr 2 (rowsOf enc r),t,y]) (D++[(os.length,r.length)]) (S++[r])/\((D++[(os.length,r.length)]).map (·.1)).Nodup /\
  ∀ k o,os[k]?=some o->k≠ai->(os.set ai .gone++[.arr 2 (rowsOf enc r),t,y])[k]?=some o:=by
 have hl:(os.set ai .gone).length=os.length:=bt ..;refine⟨?_,?_,?_,λk o hk bI=>aD ?_ _⟩
 ·rw[<- hl,pH];rfl
 ·refine((hR.kill fa hx).app _).snoc ?_;rw[<- hl,pG]
 ·rw[nS,uk];refine⟨cR,Dg,λa ha b hb=>?_⟩;simp only[qR,xM,bm]at hb;subst hb;exact λe=>hR.fresh (aM _) (e▸ha)
 ·rw[dq (Ne.symm bI)];exact hk
structure LO{α:Type}(enc:α->List AV)(B:List (Nat×Ob))(D E:List (Nat×Nat))(S T:List (List α))(os:List Ob):Prop where
 base:∀ b∈B,os[b.1]?=some b.2/\∀ l,b.2≠.arr 2 l
 rD:RI enc os D S
 rE:RI enc os E T
 nd:((D++E).map (·.1)).Nodup
section
variable {α:Type} {enc:α->List AV} {B:List (Nat×Ob)} {D E:List (Nat×Nat)} {S T:List (List α)} {os:List Ob}
def LO.app(h:LO enc B D E S T os)(l:List Ob):LO enc B D E S T (os++l):=⟨λb hb=>⟨aD (h.base b hb).1 l,(h.base b hb).2⟩,h.rD.app l,h.rE.app l,h.nd⟩
def LO.add(h:LO enc B D E S T os){k:Nat}{x:Ob}(hk:os[k]?=some x)(hx:∀ l,x≠.arr 2 l):LO enc ((k,x)::B) D E S T os :=
 ⟨λb hb=>by rcases cD.1 hb with rfl|hb;exact⟨hk,hx⟩;exact h.base b hb,h.rD,h.rE,h.nd⟩
def LO.sub(h:LO enc B D E S T os){C:List (Nat×Ob)}(hc:∀ b∈C,b∈B):LO enc C D E S T os:=⟨λb hb=>h.base b (hc b hb),h.rD,h.rE,h.nd⟩
end
def LO.vars{α:Type}{enc:α->List AV}{B:List (Nat×Ob)}{D E:List (Nat×Nat)}{S T:List (List α)}{os:List Ob}(h:LO enc B D E S T os){n:Nat}(hn:os.length=n)(x y:Ob)(hx:∀ l,x≠.arr 2 l)(hy:∀ l,y≠.arr 2 l):
  LO enc ((n,x)::(n+1,y)::B) D E S T (os++[x,y]):=by
 subst hn;exact((h.app [x,y]).add (by rw[pH];rfl) hy).add (by rw[pG]) hx
def LO.kill{α:Type}{enc:α->List AV}{B:List (Nat×Ob)}{D E:List (Nat×Nat)}{S T:List (List α)}{os:List Ob}(h:LO enc B D E S T os){i:Nat}{x y:Ob}(hi:os[i]?=some x)(hx:∀ l,x≠.arr 2 l)(bI:∀ b∈B,b.1≠i):LO enc B D E S T (os.set i y) :=
 ⟨λb hb=>⟨by rw[dq (bI b hb).symm];exact(h.base b hb).1,(h.base b hb).2⟩,h.rD.kill hi hx,h.rE.kill hi hx,h.nd⟩
def mg(os l:List Ob)(i k:Nat)(y:Ob):(os.set i y++l)[os.length+k]?=l[k]?:=by
 have:=pH (os.set i y) l k;rwa [bt]at this
def eX(os ob:List Ob):Prop:=∀ (k:Nat) (o:Ob),os[k]?=some o->ob[k]?=some o
def eX.refl(os:List Ob):eX os os:=λ_ _ h=>h
def eX.app{os ob:List Ob}(h:eX os ob)(l:List Ob):eX os (ob++l):=λk o hk=>aD (h k o hk) l
def eX.set{os ob:List Ob}(h:eX os ob){i:Nat}(hi:os.length<=i){y:Ob}:eX os (ob.set i y):=λk o hk=>by
 have:=(ba.1 hk).1;rw[dq Ay];exact h k o hk
def eX.len{os ob:List Ob}(h:eX os ob):os.length<=ob.length:=by
 rcases Nat.eq_zero_or_pos os.length with h0|h0
 ·omega
 ·obtain⟨o,ho⟩ :∃o,os[os.length-1]?=some o:=⟨_,bc Ay⟩;have:=(ba.1 (h _ _ ho)).1;omega
section
variable {α:Type} {enc:α->List AV} {B:List (Nat×Ob)} {D E:List (Nat×Nat)} {S T:List (List α)} {os:List Ob}
def LO.swap(h:LO enc B D E S T os):LO enc B E D T S os:=⟨h.base,h.rE,h.rD,by
 have:=h.nd;rw[nS,uk]at this ⊢;exact⟨this.2.1,this.1,λa ha b hb e=>this.2.2 b hb a ha e.symm⟩⟩
def LO.fresh(h:LO enc B D E S T os){p:Nat}(hp:os.length<=p):p ∉ (D++E).map (·.1):=by
 rw[nS,bj,not_or];exact⟨h.rD.fresh hp,h.rE.fresh hp⟩
def LO.step{gi ai:Nat}{gc:List AV}{A:List (List AV)}(h:LO enc ((gi,.var gc)::(ai,.arr 1 A)::B) D E S T os){r:List α}{oi:Nat}(hr:os[oi]?=some (.arr 2 (rowsOf enc r)))(fI:oi ∉ (D++E).map (·.1))(hB:∀ b∈B,b.1≠ai/\b.1≠gi)(wY:List AV)(A':List (List AV))(t:Ob):
  LO enc ((gi,.var wY)::(os.length+1,.arr 1 A')::B) (D++[(oi,r.length)]) E (S++[r]) T ((os.set ai .gone).set gi (.var wY)++[t,.arr 1 A']):=by
 have hg:=(h.base (gi,.var gc) Dg).1;have ha:=(h.base (ai,.arr 1 A) Dg).1;dsimp only at hg ha;have fL:gi≠ai:=λe=>by rw[e,ha]at hg;cases hg
 have cI:(os.set ai .gone)[gi]?=some (.var gc):=by rw[dq fL.symm];exact hg
 have hl:((os.set ai .gone).set gi (.var wY)).length=os.length:=by rw[bt,bt]
 have VK:=((h.rD.kill (y:=.gone) ha Dg).kill (y:=.var wY) cI Dg).app [t,.arr 1 A'];have VL:=((h.rE.kill (y:=.gone) ha Dg).kill (y:=.var wY) cI Dg).app [t,.arr 1 A'];have mF:((os.set ai .gone).set gi (.var wY)++[t,.arr 1 A'])[oi]?=some (.arr 2 (rowsOf enc r)):=aD (cP (cP hr ha Dg) cI Dg) _;refine⟨λb hb=>?_,VK.snoc mF,VL,?_⟩
 ·rcases cD.1 hb with rfl|hb
  ·exact⟨aD (jB cI) _,Dg⟩
  rcases cD.1 hb with rfl|hb
  ·refine⟨?_,Dg⟩;dsimp only;rw[<- hl,pH];rfl
  ·have h0:=h.base b (by simp[hb]);refine⟨aD ?_ _,h0.2⟩;rw[dq (hB b hb).2.symm,dq (hB b hb).1.symm];exact h0.1
 ·have cR:=h.nd;rw[nS,uk]at cR ⊢;rw[nS,bj,not_or]at fI;obtain⟨n1,n2,n3⟩:=cR;refine⟨?_,n2,λa pI b hb=>?_⟩
  ·rw[nS,uk];refine⟨n1,Dg,λa pI b hb=>?_⟩;simp only[qR,xM,bm]at hb;subst hb;exact λe=>fI.1 (e▸pI)
  ·rw[nS,bj]at pI;rcases pI with pI|pI
   ·exact n3 a pI b hb
   ·simp only[qR,xM,bm]at pI;subst pI;exact λe=>fI.2 (e▸hb)
end
def ko(lo hi:Nat)(os os':List Ob):Prop:=∀ i,lo<=i->i<hi->os'[i]?=os[i]?
section
variable {lo hi w:Nat} {os os':List Ob} {v:AV} {X:List (List AV)}
def ko.mono(h:ko lo hi os os'){a b:Nat}(ha:lo<=a)(hb:b<=hi):ko a b os os':=λi h1 h2=>h i Ay Ay
def ko.app{os:List Ob}{hi:Nat}(h:hi<=os.length)(l:List Ob)(lo:Nat):ko lo hi os (os++l):=λi _ h2=>by rw[cr Ay]
def ko.set{os:List Ob}{k:Nat}(h:k<lo\/hi<=k)(y:Ob):ko lo hi os (os.set k y):=λi h1 h2=>by rw[dq Ay]
def ko.trans{a b c:List Ob}(h:ko lo hi a b)(k:ko lo hi b c):ko lo hi a c:=λi h1 h2=>(k i h1 h2).trans (h i h1 h2)
def pJ(w:Nat)(os:List Ob)(lo hi:Nat)(v:AV)(X:List (List AV)):Prop :=
 (v=.tree w X/\X=[])\/∃ b rows,v=.ref b w 0 X.length/\lo<=b/\b<hi/\os[b]?=some (.arr w (X++rows))/\∀ row∈X++rows,row.length=w
def pJ.same(h:pJ w os lo hi v X)(k:ko lo hi os os'):pJ w os' lo hi v X:=by
 rcases h with h|⟨b,rows,h1,h2,h3,h4,h5⟩
 ·exact .inl h
 ·exact .inr ⟨b,rows,h1,h2,h3,by rw[k b h2 h3];exact h4,h5⟩
def pJ.mono(h:pJ w os lo hi v X){a b:Nat}(ha:a<=lo)(hb:hi<=b):pJ w os a b v X:=by
 rcases h with h|⟨b,rows,h1,h2,h3,h4,h5⟩
 ·exact .inl h
 ·exact .inr ⟨b,rows,h1,Ay,Ay,h4,h5⟩
def pJ.bU(h:pJ w os lo hi v X):bU v=true:=by
 rcases h with⟨rfl,_⟩|⟨b,rows,rfl,_⟩<;>rfl
def pJ.bO{os:List Ob}{e:Nat->AV}{kp:Nat->Prop}(h:pJ w os lo hi v X)(hk:∀ i,lo<=i->i<hi->¬ kp i)(hf:∀ row∈X,∀ v∈row,(∃ x,v=AV.lit x)\/∃ s r,v=AV.tree s r):cA ⟨e,os⟩ kp (.tree w X) v:=by
 rcases h with⟨rfl,rfl⟩|⟨b,rows,rfl,h2,h3,h4,h5⟩
 ·exact .tree _ _
 ·refine .ref b w 0 X.length (X++rows) X (λr c=>(cellAt X r c).getD .undef) h4 (hk b h2 h3) Dg (λrow hr=>h5 row (by simp[hr])) (λr c v hv=>?_) (λr c v hv=>?_)
  ·simp[hv]
  ·rw[hv,dK];simp only[cellAt,Option.bind_eq_some_iff]at hv;obtain⟨row,h6,h7⟩:=hv;rcases hf row (fB h6) v (fB h7) with⟨x,rfl⟩|⟨s,r,rfl⟩
   ·exact .lit x
   ·exact .tree s r
end
structure Ce(Pd:List Ob->Nat->Nat->AV->Prop):Prop where
 same:∀ {os os' l r v},Pd os l r v->ko l r os os'->Pd os' l r v
 mono:∀ {os l r v l' r'},Pd os l r v->l'<=l->r<=r'->Pd os l' r' v
structure fM(w:Nat)(Pd:Nat->List Ob->Nat->Nat->AV->Prop)(os:List Ob)(a lo hi n:Nat)(A:Nat->List AV)(C:Nat->AV):Prop where
 arr:os[a]?=some (.arr w ((bD n).map λk=>A k++[C k]))
 at_:hi<=a
 wid:∀ k,k<n->(A k).length+1=w
 row :∃S:Nat->Nat,lo<=S 0/\S n<=hi/\(∀ k,k<n->S k<=S (k+1))/\∀ k,k<n->Pd k os (S k) (S (k+1)) (C k)
section
variable {lo hi w a n:Nat} {os os':List Ob} {A:Nat->List AV} {C:Nat->AV} {Pd:Nat->List Ob->Nat->Nat->AV->Prop}
def Pm{S:Nat->Nat}{n:Nat}(h:∀ k,k<n->S k<=S (k+1)):∀ (d i:Nat),i+d<=n->S i<=S (i+d)
 |0,i,_=>aM _
 |d+1,i,hd=>kY (Pm h d i Ay) (h (i+d) Ay)
def nA{S:Nat->Nat}{n:Nat}(h:∀ k,k<n->S k<=S (k+1)){i j:Nat}(mM:i<=j)(hj:j<=n):S i<=S j:=by
 have:=Pm h (j-i) i Ay;rwa [show i+(j-i)=j by omega]at this
def fM.same(hP:∀ k,Ce (Pd k))(h:fM w Pd os a lo hi n A C)(k:ko lo hi os os')(ha:os'[a]?=os[a]?):fM w Pd os' a lo hi n A C:=by
 obtain⟨h1,h2,h3,S,s1,s2,s3,s4⟩:=h;refine⟨by rw[ha];exact h1,h2,h3,S,s1,s2,s3,λi hi'=>(hP i).same (s4 i hi') (k.mono ?_ ?_)⟩
 ·exact kY s1 (nA s3 (aN _) Ay)
 ·exact kY (nA s3 (show i+1<=n by omega) (aM _)) s2
def fM.VN(h:fM w Pd os a lo hi n A C):lo<=hi:=by
 obtain⟨h1,h2,h3,S,s1,s2,s3,s4⟩:=h;have:=nA s3 (aN _) (aM n);omega
def fM.get(h:fM w Pd os a lo hi n A C){k:Nat}(hk:k<n):∃l r,lo<=l/\r<=hi/\Pd k os l r (C k):=by
 obtain⟨h1,h2,h3,S,s1,s2,s3,s4⟩:=h;exact⟨S k,S (k+1),kY s1 (nA s3 (aN _) Ay),kY (nA s3 (show k+1<=n by omega) (aM _)) s2,s4 k hk⟩
def fM.len(h:fM w Pd os a lo hi n A C):a<os.length:=(ba.1 h.arr).1
def Fz{α:Type}(f:Nat->α){n k:Nat}(h:k<n):((bD n).map f)[k]?=some (f k):=by rw[List.getElem?_map,List.getElem?_range h];rfl
def fM.at(hP:∀ k,Ce (Pd k))(h:fM w Pd os a lo hi n A C){k:Nat}(hk:k<n):∃l r,lo<=l/\r<=hi/\Pd k os l r (C k) /\
  ∀ (vt:Nat->List Ob->Nat->Nat->AV->Prop) (v:AV) (os':List Ob),os'[a]?=some (.arr w ((bD n).map λi=>A i++[if i=k then v else C i]))->vt k os' l r v ->
   (∀ i,lo<=i->i<hi->(i<l\/r<=i)->os'[i]?=os[i]?)->(∀ i,i≠k->i<n->∀ os l r v,Pd i os l r v->vt i os l r v)->fM w vt os' a lo hi n A (λi=>if i=k then v else C i):=by
 obtain⟨h1,h2,h3,S,s1,s2,s3,s4⟩:=h;have b1:lo<=S k:=kY s1 (nA s3 (aN _) Ay);have b2:S (k+1)<=hi:=kY (nA s3 (show k+1<=n by omega) (aM _)) s2;refine⟨S k,S (k+1),b1,b2,s4 k hk,λvt v os' ha c1 c2 eb=>⟨ha,h2,h3,S,s1,s2,s3,λi hi'=>?_⟩⟩;have e1:lo<=S i:=kY s1 (nA s3 (aN _) Ay);have e2:S (i+1)<=hi:=kY (nA s3 (show i+1<=n by omega) (aM _)) s2;by_cases e:i=k
 ·subst e;rw[if_pos rfl];exact c1
 ·rw[if_neg e];refine eb i e hi' _ _ _ _ ((hP i).same (s4 i hi') (λj j1 j2=>c2 j Ay Ay ?_));rcases Nat.lt_or_gt_of_ne e with e'|e'
  ·have:=nA s3 (show i+1<=k by omega) Ay;omega
  ·have:=nA s3 (show k+1<=i by omega) Ay;omega
def fM.push(hP:∀ k,Ce (Pd k))(h:fM w Pd os a lo hi n A C){os':List Ob}{a' hi':Nat}{R:List AV}{v:AV}(hs:ko lo hi os os')(hh:hi<=hi')(pI:hi'<=a')(hv:Pd n os' hi hi' v)(hR:R.length+1=w)(qh:os'[a']?=some (.arr w ((bD n).map (λk=>A k++[C k])++[R++[v]]))):
  fM w Pd os' a' lo hi' (n+1) (λi=>if i=n then R else A i) (λi=>if i=n then v else C i):=by
 obtain⟨h1,h2,h3,S,s1,s2,s3,s4⟩:=h;refine⟨?_,pI,λk hk=>?_,λi=>if i=n+1 then hi' else S i,?_,?_,λk hk=>?_,λk hk=>?_⟩
 ·rw[qh,List.range_succ,nS];congr 3
  ·refine oO λk hk=>?_;rw[if_neg (by have:=kA.1 hk;omega),if_neg (by have:=kA.1 hk;omega)]
  ·simp
 ·by_cases e:k=n
  ·rw[if_pos e];exact hR
  ·rw[if_neg e];exact h3 k Ay
 ·dsimp only;rw[if_neg Ay];exact s1
 ·dsimp only;rw[if_pos rfl];exact aM _
 ·dsimp only;rw[if_neg Ay];by_cases e:k=n
  ·subst e;rw[if_pos rfl];omega
  ·rw[if_neg Ay];exact s3 k Ay
 ·dsimp only;rw[if_neg (show k≠n+1 by omega)];by_cases e:k=n
  ·subst e;rw[if_pos rfl,if_pos rfl];exact(hP k).mono hv s2 (aM _)
  ·rw[if_neg e,if_neg Ay];exact(hP k).same (s4 k Ay) (hs.mono (kY s1 (nA s3 (aN _) Ay)) (kY (nA s3 (show k+1<=n by omega) (aM _)) s2))
def fM.nil{os:List Ob}{a:Nat}(h:os[a]?=some (.arr w []))(lo:Nat)(hl:lo<=a)(A:Nat->List AV)(C:Nat->AV):fM w Pd os a lo lo 0 A C :=
 ⟨by rw[h];rfl,hl,λk hk=>absurd hk (oQ _),λ_=>lo,aM _,aM _,λk hk=>absurd hk (oQ _),λk hk=>absurd hk (oQ _)⟩
def fM.VO{A':Nat->List AV}{C':Nat->AV}{vt:Nat->List Ob->Nat->Nat->AV->Prop}(h:fM w Pd os a lo hi n A C)(hA:∀ k,k<n->A' k=A k)(hC:∀ k,k<n->C' k=C k)(hp:∀ k,k<n->∀ os l r v,Pd k os l r v->vt k os l r v):fM w vt os a lo hi n A' C':=by
 obtain⟨h1,h2,h3,S,s1,s2,s3,s4⟩:=h;refine⟨?_,h2,λk hk=>by rw[hA k hk];exact h3 k hk,S,s1,s2,s3,λk hk=>by rw[hC k hk];exact hp k hk _ _ _ _ (s4 k hk)⟩;rw[h1];congr 2;exact oO λk hk=>by rw[hA k (kA.1 hk),hC k (kA.1 hk)]
def fM.app(hP:∀ k,Ce (Pd k))(h:fM w Pd os a lo hi n A C)(X:List Ob){v:AV}{l0:Nat}(ha:a<l0)(h0:l0<=os.length)(hR:(A n).length+1=w)(hv:∀ os',ko l0 (os.length+X.length) (os++X) os'->Pd n os' l0 (os.length+X.length) v):
  fM w Pd (os.set a .gone++(X++[.arr w ((bD n).map (λk=>A k++[C k])++[A n++[v]])])) (os.length+X.length) lo (os.length+X.length) (n+1) A (λi=>if i=n then v else C i):=by
 have hb:=h.len;have FA:=h.at_;refine(fM.push hP h (os':=os.set a .gone++(X++[.arr w ((bD n).map (λk=>A k++[C k])++[A n++[v]])])) (hi':=os.length+X.length) (R:=A n) (v:=v) (λi h1 h2=>?_) Ay (aM _) ((hP n).mono (hv _ (λi h1 h2=>?_)) Ay (aM _)) hR ?_).VO (λk hk=>?_) (λ_ _=>rfl) (λ_ _ _ _ _ _ h=>h)
 ·rw[cr (by rw[bt];omega),dq Ay]
 ·by_cases e:i<os.length
  ·rw[cr (by rw[bt];omega),cr e,dq Ay]
  ·rw[dS (by rw[bt];omega),dS (l₁:=os) Ay,bt,cr Ay]
 ·rw[dS (by rw[bt];omega),bt,um,dS (aM _),Nat.sub_self];rfl
 ·by_cases e:k=n
  ·rw[if_pos e,e]
  ·rw[if_neg e]
def ko.kill{m b:Nat}{ot:List Ob}(hb:m<=b)(hl:b<ot.length)(L:List Ob):ko 0 m ot (ot.set b .gone++L):=λi _ h2=>by
 rw[cr (by rw[bt];omega),dq Ay]
def fM.bO{os:List Ob}{e:Nat->AV}{kp:Nat->Prop}{T:Nat->AV}(h:fM w Pd os a lo hi n A C)(hk:∀ i,lo<=i->i<=a->¬ kp i)(hA:∀ k,k<n->∀ v∈A k,∃ x,v=AV.lit x)(hT:∀ k,k<n->∀ l r v,lo<=l->r<=hi->Pd k os l r v->cA ⟨e,os⟩ kp (T k) v):cA ⟨e,os⟩ kp (.tree w ((bD n).map λk=>A k++[T k])) (.ref a w 0 n):=by
 have Z9:=h.VN;have hr:=λk hk=>h.get (k:=k) hk;obtain⟨h1,h2,h3,S,s1,s2,s3,s4⟩:=h;refine .ref a w 0 n _ _ (λr c=>(cellAt ((bD n).map λk=>A k++[C k]) r c).getD .undef) h1 (hk a Ay (aM _)) Dg (λrow hr=>?_) (λr c v hv=>?_) (λr c v hv=>?_)
 ·obtain⟨k,hk,rfl⟩:=cN.1 hr;rw[List.length_append];exact h3 k (kA.1 hk)
 all_goals
  unfold cellAt at hv;by_cases qH:r<n;rotate_left
  ·rw[iF (by simpa using qH)]at hv;simp at hv
  rw[Fz _ qH,nN]at hv
 ·rw[List.drop_zero,List.take_of_length_le Dg];unfold cellAt;rw[Fz _ qH,nN];have cS:c<(A r++[C r]).length:=by
   have:=(ba.1 hv).1;simpa using this
  rw[bc cS];rfl
 ·unfold cellAt;rw[Fz _ qH,nN];by_cases hc:c<(A r).length
  ·rw[cr hc]at hv ⊢;rw[hv,dK];obtain⟨x,rfl⟩:=hA r qH v (fB hv);exact .lit x
  ·rw[dS Ay]at hv ⊢;have iX:c-(A r).length=0:=by
    have:=(ba.1 hv).1;simp at this;omega
   rw[iX]at hv ⊢;simp only[List.getElem?_cons_zero,Option.some.injEq]at hv;subst hv;obtain⟨l,u,u1,u2,hO⟩:=hr r qH;exact hT r qH l u _ u1 u2 hO
end
def fM.low{Pd:Nat->List Ob->Nat->Nat->AV->Prop}{w a lo hi n:Nat}{os:List Ob}{A:Nat->List AV}{C:Nat->AV}(h:fM w Pd os a lo hi n A C){iZ:Nat}(hl:iZ<=lo):fM w Pd os a iZ hi n A C:=by
 obtain⟨h1,h2,h3,S,s1,s2,s3,s4⟩:=h;exact⟨h1,h2,h3,S,Ay,s2,s3,s4⟩
end T

