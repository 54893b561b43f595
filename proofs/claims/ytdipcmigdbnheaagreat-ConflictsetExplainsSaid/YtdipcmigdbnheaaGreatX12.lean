import Derived.Test.YtdipcmigdbnheaaGreatX10
set_option linter.all false
set_option maxHeartbeats 0
set_option maxRecDepth 20000
open List renaming mem_iff_getElem→uz,getD_eq_getElem?_getD→aA,getElem?_eq_getElem→bK,length_cons→eB,take_succ_eq_append_getElem→GL,mem_cons→cB,not_mem_nil→kI,mem_map→cz,map_append→fW,foldl_append→BK,append_assoc→cM,foldl_nil→yJ,getElem?_append_right→fV,getElem?_append_left→cT,getElem?_eq_some_iff→a8,getElem?_set_ne→bR,getElem?_set→cA,getElem?_eq_none→dW,length_set→bF,getElem_map→PD,nodup_append→vX,map_cons→dg,map_nil→kJ,mem_singleton→fE,map_set→ry,ext_getElem?→kq,mem_append→cH,mem_of_getElem?→iD,range→aW,getElem?_map→cj,map_congr_left→l8,mem_range→mH,take_of_length_le→dJ,getElem?_cons_zero→vP,take_zero→kK,cons_append→dS,nodup_cons→uA,getElem?_cons_succ→vR,getD_cons_succ→fU,length→oW,set_cons_succ→vW
open Option renaming getD_some→jB,bind_some→vQ,some→dI,getD_none→Gz,isNone_none→Dy,isNone_some→GM,map_some→fl
open Nat renaming le_refl→aN,le_trans→j7,zero_le→aI,not_lt_zero→m8,reduceBEq→pE,add_zero→iS
open And renaming intro→eR
open Go Go.Am Go.Proofs
namespace T
def dD(m:aj)(left:List (List Bool)):Prop:=left.length=m.cls.length/\∀ i,i<left.length->(left.getD i default).length=(m.cls.getD i default).length
instance (m:aj)(left:List (List Bool)):Decidable (dD m left):=by unfold dD;infer_instance
def IS(m:aj)(left:List (List Bool)):Int:=if df m≠0 then df m else if dD m left then 0 else 17
def dD.row{m:aj}{left:List (List Bool)}(hm:VM m)(h:dD m left):∀ r∈left,r.length<=24:=λr hr=>by
 obtain⟨i,hi,rfl⟩:=uz.1 hr;have:=h.2 i hi;rw[aA,bK hi]at this;simp only[jB]at this;rw[this];exact hm.opt _ (ay (by have:=h.1;omega))
def BB(left:List (List Bool)):Prop:=left.length<9223372036854775808/\∀ r∈left,r.length<9223372036854775808
def aak(l:List Ld)(row:List Bool):∀ (L:List (List Bool)) (i:Nat) (n:Int),k7 l i (L++[row]) n=k7 l i L n+ny l (i+L.length:Nat) row
 |[],i,n=>rfl
 |x::r,i,n=>by
  show k7 l (i+1) (r++[row]) _=_;rw[aak l row r (i+1),k7,eB,show i+1+r.length=i+(r.length+1) by omega]
def eG{α:Type}[Inhabited α]{l:List α}{k:Nat}(h:k<l.length):l.take (k+1)=l.take k++[l.getD k default]:=by
 rw[GL h,aA,bK h];rfl
abbrev Nm:=Int×Bool
def fJ(x:Int):Nm:=(x,decide (1099511627776<=x))
def a7(p:Nm):List AV:=[aaC p.1,.lit (.bool p.2)]
def j6(p:Nm):List AV:=[.lit (.bool p.2),aaC p.1]
instance:Row a7 2:=⟨λ_=>rfl,λp v hv=>by
 simp only[a7,cB,kI,or_false]at hv;rcases hv with rfl|rfl<;>exact .inl ⟨_,rfl,rfl⟩⟩
instance:Row j6 2:=⟨λ_=>rfl,λp v hv=>by
 simp only[j6,cB,kI,or_false]at hv;rcases hv with rfl|rfl<;>exact .inl ⟨_,rfl,rfl⟩⟩
def jZ(o:bU):Int:=(o.ch.map (·.2)).foldl ee 0
def gG(l:List bU):List Int:=l.map jZ
def ep(l:List Int):List Nm:=l.map fJ
def dQ:List Nm->List Bool->Int×Bool->Int×Bool
 |p::r,is::s,b=>dQ r s (if is=true/\p.2=false/\(b.2=false\/p.1<b.1) then(p.1,true) else b)
 |_,_,b=>b
def Ib{R:Int}{l:List (Int×Int)}(h:eo R none l=true):∀ c∈l,b7 c.2:=λc hc=>lz (xZ h c hc).2
def EY:∀ (l:List Int) (n:Int),(∀ x∈l,b7 x)->b7 n->b7 (l.foldl ee n)
 |[],_,_,h=>h
 |x::r,n,hl,h=>EY r _ (λy hy=>hl y (by simp[hy])) (A2 h (hl x GF))
def EO{R:Int}{o:bU}(h:eo R none o.ch=true):b7 (jZ o):=EY _ _ (λx hx=>by
 obtain⟨c,hc,rfl⟩:=cz.1 hx;exact Ib h c hc) (by unfold b7;decide)
structure Mv where
 pair:Int
 side:Int
 opt:Int
 dR:Int
 deriving Inhabited
def ca(x:Mv):List AV:=[aaC x.pair,aaC x.side,aaC x.opt,aaC x.dR]
instance:Row ca 4:=⟨λ_=>rfl,λx v hv=>by
 simp only[ca,cB,kI,or_false]at hv;rcases hv with rfl|rfl|rfl|rfl<;>exact .inl ⟨_,rfl,rfl⟩⟩
def fR(m:aj)(x:Mv):Int:=if x.side=0 then(m.ae.getD x.pair.toNat default).fst else(m.ae.getD x.pair.toNat default).snd
def jL(m:aj)(x:Mv):Bool:=decide (0<=x.pair/\x.pair<m.ae.length/\0<=x.side/\x.side<=1/\-268435456<=x.dR/\x.dR<=268435456)&&eW m (fR m x) x.opt
def Mw(l:List (Int×Int))(k:Nat)(h:k<l.length):(((l.take (k+1)).map (·.2)).foldl ee 0)=ee (((l.take k).map (·.2)).foldl ee 0) (l.getD k default).2:=by
 rw[eG h,fW,BK];rfl
def aal(p:Nm)(is:Bool)(b:Int×Bool):Int×Bool:=if is=true/\p.2=false/\(b.2=false\/p.1<b.1) then(p.1,true) else b
def aam(p:Nm)(is:Bool):∀ (l:List Nm) (s:List Bool) (b:Int×Bool),l.length=s.length->dQ (l++[p]) (s++[is]) b=aal p is (dQ l s b)
 |[],[],b,_=>rfl
 |x::r,y::s,b,h=>by
  show dQ (r++[p]) (s++[is]) _=_;rw[aam p is r s _ (by simpa using h)];rfl
def jc:List Nm->List Bool->List Nm
 |p::r,is::s=>(if is=true then [p] else [])++jc r s
 |_,_=>[]
def CT(b a:Nm):Nm:=if a.2=false/\(b.2=true\/a.1<b.1) then a else b
def p5(l:List Nm):Nm:=l.foldl CT (0,true)
def aiW(l:List Nm)(a:Nm):p5 (l++[a])=CT (p5 l) a:=by unfold p5;rw[BK];rfl
def Nq(p:Nm)(is:Bool):∀ (l:List Nm) (s:List Bool),l.length=s.length->jc (l++[p]) (s++[is])=jc l s++(if is=true then [p] else [])
 |[],[],_=>by simp[jc]
 |x::r,y::s,h=>by
  show(if y=true then [x] else [])++jc (r++[p]) (s++[is])=_;rw[Nq p is r s (by simpa using h),jc,cM]
def Nr:∀ (l:List Nm) (s:List Bool) (b:Int×Bool),(jc l s).foldl CT (b.1,!b.2)=((dQ l s b).1,!(dQ l s b).2)
 |[],s,b=>by cases s<;>rfl
 |p::r,[],b=>rfl
 |p::r,is::s,b=>by
  rw[jc,dQ,BK];cases is with
  |false=>simp only[Bool.false_eq_true,if_false,yJ,false_and];exact Nr r s b
  |true =>
   simp only[if_true,List.foldl_cons,yJ,eq_self,true_and];have:CT (b.1,!b.2) p=((if p.2=false/\(b.2=false\/p.1<b.1) then(p.1,true) else b).1,!(if p.2=false/\(b.2=false\/p.1<b.1) then(p.1,true) else b).2):=by
    unfold CT;obtain⟨b1,b2⟩:=b;obtain⟨p1,p2⟩:=p;dsimp only;cases b2<;>cases p2<;>simp;split<;>rfl
   rw[this];exact Nr r s _
def aii(l:List Nm)(s:List Bool):p5 (jc l s)=((dQ l s (0,false)).1,!(dQ l s (0,false)).2):=Nr l s (0,false)
def kf(os:List Ob)(x:Ob)(l:List Ob):(os++x::l)[os.length]?=some x:=GF
def nX(os l:List Ob)(k:Nat):(os++l)[os.length+k]?=l[k]?:=by rw[fV GC,Nat.add_sub_cancel_left]
def zz(os:List Ob)(x y:Ob)(l:List Ob):(os++x::l).set os.length y=os++y::l:=by rw[List.set_append];simp
def IZ(os l:List Ob)(k:Nat)(y:Ob):(os++l).set (os.length+k) y=os++l.set k y:=by rw[List.set_append_right _ _ GC];simp
def bg{os:List Ob}{i:Nat}{o:Ob}(h:os[i]?=some o)(l:List Ob):(os++l)[i]?=some o:=by
 rw[cT (a8.1 h).1];exact h
def fP{os:List Ob}{i:Nat}{o:Ob}(h:os[i]?=some o)(l:List Ob)(y:Ob):(os++l).set i y=os.set i y++l:=by
 rw[List.set_append,if_pos (a8.1 h).1]
def Bb{os:List Ob}{i j:Nat}{o o' y:Ob}(h:os[i]?=some o)(h':os[j]?=some o')(dO:o≠o'):(os.set j y)[i]?=some o:=by
 have:j≠i:=λe=>dO (by rw[e,h]at h';simpa using h');rw[bR this];exact h
def kh{os:List Ob}{i:Nat}{o y:Ob}(h:os[i]?=some o):(os.set i y)[i]?=some y:=by
 rw[cA];simp[(a8.1 h).1]
def cy:=aaI @kf @nX @zz @IZ
def cW(q:Nat×Nat):List AV:=[.ref q.1 2 0 q.2]
structure RI{α:Type}(enc:α->List AV)(os:List Ob)(D:List (Nat×Nat))(S:List (List α)):Prop where
 len:D.length=S.length
 row:∀ j,j<D.length->os[(D.getD j default).1]?=some (.arr 2 (rowsOf enc (S.getD j default)))/\(S.getD j default).length=(D.getD j default).2
def RI.nil{α:Type}{enc:α->List AV}{os:List Ob}:RI enc os [] ([]:List (List α)):=⟨rfl,GF⟩
def RI.app{α:Type}{enc:α->List AV}{os:List Ob}{D:List (Nat×Nat)}{S:List (List α)}(h:RI enc os D S)(l:List Ob):RI enc (os++l) D S :=
 ⟨h.len,λj hj=>⟨bg (h.row j hj).1 l,(h.row j hj).2⟩⟩
def RI.kill{α:Type}{enc:α->List AV}{os:List Ob}{D:List (Nat×Nat)}{S:List (List α)}(h:RI enc os D S){i:Nat}{o y:Ob}(ho:os[i]?=some o)(dO:∀ l,o≠.arr 2 l):RI enc (os.set i y) D S :=
 ⟨h.len,λj hj=>⟨Bb (h.row j hj).1 ho (λe=>dO _ e.symm),(h.row j hj).2⟩⟩
def I0{α:Type}[Inhabited α](l:List α)(x:α)(j:Nat):(l++[x]).getD j default=if j<l.length then l.getD j default else if j=l.length then x else default:=by
 simp only[aA];split
 ·rename_i h;rw[cT h]
 ·rename_i h;rw[fV GC];split
  ·rename_i h2;subst h2;simp
  ·rw[dW aar];rfl
def RI.snoc{α:Type}{enc:α->List AV}{os:List Ob}{D:List (Nat×Nat)}{S:List (List α)}(h:RI enc os D S){p:Nat}{r:List α}(hp:os[p]?=some (.arr 2 (rowsOf enc r))):RI enc os (D++[(p,r.length)]) (S++[r]) :=
 ⟨by simp[h.len],λj hj=>by
  rw[I0,I0,<- h.len];by_cases h1:j<D.length
  ·rw[if_pos h1,if_pos h1];exact h.row j h1
  ·have:j=D.length:=by simp at hj;omega
   rw[if_neg h1,if_neg h1,if_pos this,if_pos this];exact⟨hp,rfl⟩⟩
def RI.set{α:Type}{enc:α->List AV}{os:List Ob}{D:List (Nat×Nat)}{S:List (List α)}(h:RI enc os D S)(hn:(D.map (·.1)).Nodup){j:Nat}(hj:j<D.length){r:List α}(hr:r.length=(S.getD j default).length):RI enc (os.set (D.getD j default).1 (.arr 2 (rowsOf enc r))) D (S.set j r) :=
 ⟨by rw[bF];exact h.len,λk hk=>by
  by_cases e:k=j
  ·subst e;have:(S.set k r).getD k default=r:=by rw[aA,cA];simp[<- h.len,hk]
   rw[this];exact⟨kh (h.row k hk).1,hr.trans (h.row k hk).2⟩
  ·have:(S.set j r).getD k default=S.getD k default:=by rw[aA,bR (λe'=>e e'.symm),aA]
   rw[this];have dO:(D.getD j default).1≠(D.getD k default).1:=λhh=>e ((List.getElem_inj (h₀:=by simpa using hk) (h₁:=by simpa using hj) hn).1 (by
    rw[PD,PD];have a1:D[k]=D.getD k default:=by simp[hk]
    have a2:D[j]=D.getD j default:=by simp[hj]
    rw[a1,a2];exact hh.symm))
   rw[bR dO];exact h.row k hk⟩
def RI.other{α:Type}{enc:α->List AV}{os:List Ob}{D:List (Nat×Nat)}{S:List (List α)}(h:RI enc os D S){i:Nat}(hi:i ∉ D.map (·.1)){y:Ob}:RI enc (os.set i y) D S :=
 ⟨h.len,λk hk=>⟨by
  rw[bR (λe=>hi (cz.2 ⟨D.getD k default,ay hk,e.symm⟩))];exact(h.row k hk).1,(h.row k hk).2⟩⟩
def RI.fresh{α:Type}{enc:α->List AV}{os:List Ob}{D:List (Nat×Nat)}{S:List (List α)}(h:RI enc os D S){p:Nat}(hp:os.length<=p):p ∉ D.map (·.1):=λhh=>by
 obtain⟨q,hq,rfl⟩:=cz.1 hh;obtain⟨k,hk,rfl⟩:=uz.1 hq;have h1:=(h.row k hk).1;have a1:D.getD k default=D[k]:=by simp[hk]
 rw[a1]at h1;have:=(a8.1 h1).1;omega
def I1(D:List (Nat×Nat))(p n:Nat):rowsOf cW D++[[AV.ref p 2 0 n]]=rowsOf cW (D++[(p,n)]):=by simp[rowsOf,cW]
def RI.step{α:Type}{enc:α->List AV}{os:List Ob}{D:List (Nat×Nat)}{S:List (List α)}{ai:Nat}{x:Ob}(fa:os[ai]?=some x)(hx:∀ l,x≠.arr 2 l)(hR:RI enc os D S)(bX:(D.map (·.1)).Nodup)(r:List α)(t y:Ob):
  (os.set ai .gone++[.arr 2 (rowsOf enc r),t,y])[os.length+2]?=some y /\
  RI enc (os.set ai .gone++[.arr 2 (rowsOf enc r),t,y]) (D++[(os.length,r.length)]) (S++[r])/\((D++[(os.length,r.length)]).map (·.1)).Nodup /\
  ∀ k o,os[k]?=some o->k≠ai->(os.set ai .gone++[.arr 2 (rowsOf enc r),t,y])[k]?=some o:=by
 have hl:(os.set ai .gone).length=os.length:=bF ..;refine⟨?_,?_,?_,λk o hk dO=>bg ?_ _⟩
 ·rw[<- hl,nX];rfl
 ·refine((hR.kill fa hx).app _).snoc ?_;rw[<- hl,kf]
 ·rw[fW,vX];refine⟨bX,GF,λa ha b hb=>?_⟩;simp only[dg,kJ,fE]at hb;subst hb;exact λe=>hR.fresh (aN _) (e▸ha)
 ·rw[bR (Ne.symm dO)];exact hk
structure LO{α:Type}(enc:α->List AV)(B:List (Nat×Ob))(D E:List (Nat×Nat))(S T:List (List α))(os:List Ob):Prop where
 base:∀ b∈B,os[b.1]?=some b.2/\∀ l,b.2≠.arr 2 l
 rD:RI enc os D S
 rE:RI enc os E T
 nd:((D++E).map (·.1)).Nodup
section
variable {α:Type} {enc:α->List AV} {B:List (Nat×Ob)} {D E:List (Nat×Nat)} {S T:List (List α)} {os:List Ob}
def LO.app(h:LO enc B D E S T os)(l:List Ob):LO enc B D E S T (os++l):=⟨λb hb=>⟨bg (h.base b hb).1 l,(h.base b hb).2⟩,h.rD.app l,h.rE.app l,h.nd⟩
def LO.add(h:LO enc B D E S T os){k:Nat}{x:Ob}(hk:os[k]?=some x)(hx:∀ l,x≠.arr 2 l):LO enc ((k,x)::B) D E S T os :=
 ⟨λb hb=>by rcases cB.1 hb with rfl|hb;exact⟨hk,hx⟩;exact h.base b hb,h.rD,h.rE,h.nd⟩
def LO.sub(h:LO enc B D E S T os){C:List (Nat×Ob)}(hc:∀ b∈C,b∈B):LO enc C D E S T os:=⟨λb hb=>h.base b (hc b hb),h.rD,h.rE,h.nd⟩
def aan{D E:List (Nat×Nat)}(h:((D++E).map (·.1)).Nodup):(D.map (·.1)).Nodup/\(E.map (·.1)).Nodup/\(∀ j,j<D.length->(D.getD j default).1 ∉ E.map (·.1))/\∀ j,j<E.length->(E.getD j default).1 ∉ D.map (·.1):=by
 rw[fW,vX]at h;refine⟨h.1,h.2.1,λj hj hh=>h.2.2 _ (cz.2 ⟨_,ay hj,rfl⟩) _ hh rfl,λj hj hh=>h.2.2 _ hh _ (cz.2 ⟨_,ay hj,rfl⟩) rfl⟩
def LO.Ns(h:LO enc B D E S T os){j:Nat}(hj:j<D.length){r:List α}(hr:r.length=(S.getD j default).length):LO enc B D E (S.set j r) T (os.set (D.getD j default).1 (.arr 2 (rowsOf enc r))):=by
 obtain⟨h1,h2,h3,h4⟩:=aan h.nd;exact⟨λb hb=>⟨Bb (h.base b hb).1 (h.rD.row j hj).1 ((h.base b hb).2 _),(h.base b hb).2⟩,h.rD.set h1 hj hr,h.rE.other (h3 j hj),h.nd⟩
def LO.I2(h:LO enc B D E S T os){j:Nat}(hj:j<E.length){r:List α}(hr:r.length=(T.getD j default).length):LO enc B D E S (T.set j r) (os.set (E.getD j default).1 (.arr 2 (rowsOf enc r))):=by
 obtain⟨h1,h2,h3,h4⟩:=aan h.nd;exact⟨λb hb=>⟨Bb (h.base b hb).1 (h.rE.row j hj).1 ((h.base b hb).2 _),(h.base b hb).2⟩,h.rD.other (h4 j hj),h.rE.set h2 hj hr,h.nd⟩
end
def I3(xs:List Nm)(i:Nat)(b:Bool)(n:Int):(rowsOf j6 xs).set i [.lit (.bool b),aaC n]=rowsOf j6 (xs.set i (n,b)):=by simp[rowsOf,j6,ry]
def aiX(xs:List Nm)(i:Nat)(b:Bool)(n:Int):(rowsOf a7 xs).set i [aaC n,.lit (.bool b)]=rowsOf a7 (xs.set i (n,b)):=by simp[rowsOf,a7,ry]
def LO.vars{α:Type}{enc:α->List AV}{B:List (Nat×Ob)}{D E:List (Nat×Nat)}{S T:List (List α)}{os:List Ob}(h:LO enc B D E S T os){n:Nat}(hn:os.length=n)(x y:Ob)(hx:∀ l,x≠.arr 2 l)(hy:∀ l,y≠.arr 2 l):
  LO enc ((n,x)::(n+1,y)::B) D E S T (os++[x,y]):=by
 subst hn;exact((h.app [x,y]).add (by rw[nX];rfl) hy).add (by rw[kf]) hx
def Ft{α:Type}[Inhabited α](l:List α)(j:Nat):l.set j (l.getD j default)=l:=by
 apply kq;intro i;rw[cA];split
 ·rename_i h;subst h;split
  ·rename_i h2;rw[aA,bK h2];rfl
  ·rename_i h2;rw[dW GC]
 ·rfl
def vz{α:Type}[Inhabited α](l:List α)(j:Nat)(x:α)(h:j<l.length):(l.set j x).getD j default=x:=by
 rw[aA,cA];simp[h]
def LO.kill{α:Type}{enc:α->List AV}{B:List (Nat×Ob)}{D E:List (Nat×Nat)}{S T:List (List α)}{os:List Ob}(h:LO enc B D E S T os){i:Nat}{x y:Ob}(hi:os[i]?=some x)(hx:∀ l,x≠.arr 2 l)(dO:∀ b∈B,b.1≠i):LO enc B D E S T (os.set i y) :=
 ⟨λb hb=>⟨by rw[bR (dO b hb).symm];exact(h.base b hb).1,(h.base b hb).2⟩,h.rD.kill hi hx,h.rE.kill hi hx,h.nd⟩
def vA(os l:List Ob)(i k:Nat)(y:Ob):(os.set i y++l)[os.length+k]?=l[k]?:=by
 have:=nX (os.set i y) l k;rwa [bF]at this
def gC(m:aj)(ai bi:Nat)(D E:List (Nat×Nat)):List AV:=[.tree 1 (rowsOf bu m.cls),.tree 4 (rowsOf aP m.ae),.tree 4 (rowsOf aV m.av),aaC m.rules,.ref ai 1 0 D.length,.ref bi 1 0 E.length]
abbrev GB(m:aj)(gi ai bi:Nat)(D E:List (Nat×Nat)):List (Nat×Ob):=[(gi,.var (gC m ai bi D E)),(ai,.arr 1 (rowsOf cW D)),(bi,.arr 1 (rowsOf cW E))]
def zL{m:aj}{gi ai bi:Nat}{D E:List (Nat×Nat)}{S T:List (List Nm)}{os:List Ob}(h:LO a7 (GB m gi ai bi D E) D E S T os):
  os[gi]?=some (.var (gC m ai bi D E))/\os[ai]?=some (.arr 1 (rowsOf cW D))/\os[bi]?=some (.arr 1 (rowsOf cW E)) :=
 ⟨(h.base (gi,_) GF).1,(h.base (ai,.arr 1 (rowsOf cW D)) GF).1,(h.base (bi,.arr 1 (rowsOf cW E)) GF).1⟩
def gI(os ob:List Ob):Prop:=∀ (k:Nat) (o:Ob),os[k]?=some o->ob[k]?=some o
def gI.refl(os:List Ob):gI os os:=λ_ _ h=>h
def gI.app{os ob:List Ob}(h:gI os ob)(l:List Ob):gI os (ob++l):=λk o hk=>bg (h k o hk) l
def gI.set{os ob:List Ob}(h:gI os ob){i:Nat}(hi:os.length<=i){y:Ob}:gI os (ob.set i y):=λk o hk=>by
 have:=(a8.1 hk).1;rw[bR GC];exact h k o hk
def gI.len{os ob:List Ob}(h:gI os ob):os.length<=ob.length:=by
 rcases Nat.eq_zero_or_pos os.length with h0|h0
 ·omega
 ·obtain⟨o,ho⟩ :∃o,os[os.length-1]?=some o:=⟨_,bK GC⟩;have:=(a8.1 (h _ _ ho)).1;omega
section
variable {α:Type} {enc:α->List AV} {B:List (Nat×Ob)} {D E:List (Nat×Nat)} {S T:List (List α)} {os:List Ob}
def LO.swap(h:LO enc B D E S T os):LO enc B E D T S os:=⟨h.base,h.rE,h.rD,by
 have:=h.nd;rw[fW,vX]at this ⊢;exact⟨this.2.1,this.1,λa ha b hb e=>this.2.2 b hb a ha e.symm⟩⟩
def LO.I4(h:LO enc B D E S T os){i:Nat}{l:List (List AV)}(hi:i ∉ (D++E).map (·.1))(hr:os[i]?=some (.arr 2 l)){y:Ob}:LO enc B D E S T (os.set i y):=by
 rw[fW,cH,not_or]at hi;exact⟨λb hb=>⟨Bb (h.base b hb).1 hr ((h.base b hb).2 _),(h.base b hb).2⟩,h.rD.other hi.1,h.rE.other hi.2,h.nd⟩
def LO.fresh(h:LO enc B D E S T os){p:Nat}(hp:os.length<=p):p ∉ (D++E).map (·.1):=by
 rw[fW,cH,not_or];exact⟨h.rD.fresh hp,h.rE.fresh hp⟩
def LO.step{gi ai:Nat}{gc:List AV}{A:List (List AV)}(h:LO enc ((gi,.var gc)::(ai,.arr 1 A)::B) D E S T os){r:List α}{oi:Nat}(hr:os[oi]?=some (.arr 2 (rowsOf enc r)))(dZ:oi ∉ (D++E).map (·.1))(hB:∀ b∈B,b.1≠ai/\b.1≠gi)(CU:List AV)(A':List (List AV))(t:Ob):
  LO enc ((gi,.var CU)::(os.length+1,.arr 1 A')::B) (D++[(oi,r.length)]) E (S++[r]) T ((os.set ai .gone).set gi (.var CU)++[t,.arr 1 A']):=by
 have hg:=(h.base (gi,.var gc) GF).1;have ha:=(h.base (ai,.arr 1 A) GF).1;dsimp only at hg ha;have hga:gi≠ai:=λe=>by rw[e,ha]at hg;cases hg
 have tE:(os.set ai .gone)[gi]?=some (.var gc):=by rw[bR hga.symm];exact hg
 have hl:((os.set ai .gone).set gi (.var CU)).length=os.length:=by rw[bF,bF]
 have hD2:=((h.rD.kill (y:=.gone) ha GF).kill (y:=.var CU) tE GF).app [t,.arr 1 A'];have hE2:=((h.rE.kill (y:=.gone) ha GF).kill (y:=.var CU) tE GF).app [t,.arr 1 A'];have gF:((os.set ai .gone).set gi (.var CU)++[t,.arr 1 A'])[oi]?=some (.arr 2 (rowsOf enc r)):=bg (Bb (Bb hr ha GF) tE GF) _;refine⟨λb hb=>?_,hD2.snoc gF,hE2,?_⟩
 ·rcases cB.1 hb with rfl|hb
  ·exact⟨bg (kh tE) _,GF⟩
  rcases cB.1 hb with rfl|hb
  ·refine⟨?_,GF⟩;dsimp only;rw[<- hl,nX];rfl
  ·have h0:=h.base b (by simp[hb]);refine⟨bg ?_ _,h0.2⟩;rw[bR (hB b hb).2.symm,bR (hB b hb).1.symm];exact h0.1
 ·have bX:=h.nd;rw[fW,vX]at bX ⊢;rw[fW,cH,not_or]at dZ;obtain⟨n1,n2,n3⟩:=bX;refine⟨?_,n2,λa nk b hb=>?_⟩
  ·rw[fW,vX];refine⟨n1,GF,λa nk b hb=>?_⟩;simp only[dg,kJ,fE]at hb;subst hb;exact λe=>dZ.1 (e▸nk)
  ·rw[fW,cH]at nk;rcases nk with nk|nk
   ·exact n3 a nk b hb
   ·simp only[dg,kJ,fE]at nk;subst nk;exact λe=>dZ.2 (e▸hb)
end
def gy(lo hi:Nat)(os os':List Ob):Prop:=∀ i,lo<=i->i<hi->os'[i]?=os[i]?
section
variable {lo hi w:Nat} {os os':List Ob} {v:AV} {X:List (List AV)}
def gy.mono(h:gy lo hi os os'){a b:Nat}(ha:lo<=a)(hb:b<=hi):gy a b os os':=λi h1 h2=>h i GC GC
def gy.app{os:List Ob}{hi:Nat}(h:hi<=os.length)(l:List Ob)(lo:Nat):gy lo hi os (os++l):=λi _ h2=>by rw[cT GC]
def gy.set{os:List Ob}{k:Nat}(h:k<lo\/hi<=k)(y:Ob):gy lo hi os (os.set k y):=λi h1 h2=>by rw[bR GC]
def gy.trans{a b c:List Ob}(h:gy lo hi a b)(k:gy lo hi b c):gy lo hi a c:=λi h1 h2=>(k i h1 h2).trans (h i h1 h2)
def iP(w:Nat)(os:List Ob)(lo hi:Nat)(v:AV)(X:List (List AV)):Prop :=
 (v=.tree w X/\X=[])\/∃ b rows,v=.ref b w 0 X.length/\lo<=b/\b<hi/\os[b]?=some (.arr w (X++rows))/\∀ row∈X++rows,row.length=w
def iP.same(h:iP w os lo hi v X)(k:gy lo hi os os'):iP w os' lo hi v X:=by
 rcases h with h|⟨b,rows,h1,h2,h3,h4,h5⟩
 ·exact .inl h
 ·exact .inr ⟨b,rows,h1,h2,h3,by rw[k b h2 h3];exact h4,h5⟩
def iP.mono(h:iP w os lo hi v X){a b:Nat}(ha:a<=lo)(hb:hi<=b):iP w os a b v X:=by
 rcases h with h|⟨b,rows,h1,h2,h3,h4,h5⟩
 ·exact .inl h
 ·exact .inr ⟨b,rows,h1,GC,GC,h4,h5⟩
def iP.cO(h:iP w os lo hi v X):cO v=true:=by
 rcases h with⟨rfl,_⟩|⟨b,rows,rfl,_⟩<;>rfl
def iP.cC{os:List Ob}{e:Nat->AV}{kp:Nat->Prop}(h:iP w os lo hi v X)(hk:∀ i,lo<=i->i<hi->¬ kp i)(hf:∀ row∈X,∀ v∈row,(∃ x,v=AV.lit x)\/∃ s r,v=AV.tree s r):cL ⟨e,os⟩ kp (.tree w X) v:=by
 rcases h with⟨rfl,rfl⟩|⟨b,rows,rfl,h2,h3,h4,h5⟩
 ·exact .tree _ _
 ·refine .ref b w 0 X.length (X++rows) X (λr c=>(cellAt X r c).getD .undef) h4 (hk b h2 h3) GF (λrow hr=>h5 row (by simp[hr])) (λr c v hv=>?_) (λr c v hv=>?_)
  ·simp[hv]
  ·rw[hv,jB];simp only[cellAt,Option.bind_eq_some_iff]at hv;obtain⟨row,h6,h7⟩:=hv;rcases hf row (iD h6) v (iD h7) with⟨x,rfl⟩|⟨s,r,rfl⟩
   ·exact .lit x
   ·exact .tree s r
end
structure yk(Pd:List Ob->Nat->Nat->AV->Prop):Prop where
 same:∀ {os os' l r v},Pd os l r v->gy l r os os'->Pd os' l r v
 mono:∀ {os l r v l' r'},Pd os l r v->l'<=l->r<=r'->Pd os l' r' v
def iP.aao(w:Nat)(X:List (List AV)):yk (λos l r v=>iP w os l r v X):=⟨λh k=>h.same k,λh a b=>h.mono a b⟩
structure cX(w:Nat)(Pd:Nat->List Ob->Nat->Nat->AV->Prop)(os:List Ob)(a lo hi n:Nat)(A:Nat->List AV)(C:Nat->AV):Prop where
 arr:os[a]?=some (.arr w ((aW n).map λk=>A k++[C k]))
 at_:hi<=a
 wid:∀ k,k<n->(A k).length+1=w
 row :∃S:Nat->Nat,lo<=S 0/\S n<=hi/\(∀ k,k<n->S k<=S (k+1))/\∀ k,k<n->Pd k os (S k) (S (k+1)) (C k)
section
variable {lo hi w a n:Nat} {os os':List Ob} {A:Nat->List AV} {C:Nat->AV} {Pd:Nat->List Ob->Nat->Nat->AV->Prop}
def aap{S:Nat->Nat}{n:Nat}(h:∀ k,k<n->S k<=S (k+1)):∀ (d i:Nat),i+d<=n->S i<=S (i+d)
 |0,i,_=>aN _
 |d+1,i,hd=>j7 (aap h d i GC) (h (i+d) GC)
def ta{S:Nat->Nat}{n:Nat}(h:∀ k,k<n->S k<=S (k+1)){i j:Nat}(tc:i<=j)(hj:j<=n):S i<=S j:=by
 have:=aap h (j-i) i GC;rwa [show i+(j-i)=j by omega]at this
def cX.same(hP:∀ k,yk (Pd k))(h:cX w Pd os a lo hi n A C)(k:gy lo hi os os')(ha:os'[a]?=os[a]?):cX w Pd os' a lo hi n A C:=by
 obtain⟨h1,h2,h3,S,s1,s2,s3,s4⟩:=h;refine⟨by rw[ha];exact h1,h2,h3,S,s1,s2,s3,λi hi'=>(hP i).same (s4 i hi') (k.mono ?_ ?_)⟩
 ·exact j7 s1 (ta s3 (aI _) GC)
 ·exact j7 (ta s3 (show i+1<=n by omega) (aN _)) s2
def cX.tZ(h:cX w Pd os a lo hi n A C):lo<=hi:=by
 obtain⟨h1,h2,h3,S,s1,s2,s3,s4⟩:=h;have:=ta s3 (aI _) (aN n);omega
def cX.get(h:cX w Pd os a lo hi n A C){k:Nat}(hk:k<n):∃l r,lo<=l/\r<=hi/\Pd k os l r (C k):=by
 obtain⟨h1,h2,h3,S,s1,s2,s3,s4⟩:=h;exact⟨S k,S (k+1),j7 s1 (ta s3 (aI _) GC),j7 (ta s3 (show k+1<=n by omega) (aN _)) s2,s4 k hk⟩
def cX.len(h:cX w Pd os a lo hi n A C):a<os.length:=(a8.1 h.arr).1
def sY{α:Type}(f:Nat->α){n k:Nat}(h:k<n):((aW n).map f)[k]?=some (f k):=by rw[cj,List.getElem?_range h];rfl
def ai1{α:Type}(f:Nat->α){n k:Nat}(y:α):((aW n).map f).set k y=(aW n).map λi=>if i=k then y else f i:=by
 apply kq;intro j;rw[cA];by_cases hj:j<n
 ·try simp only[]
  by_cases e:k=j
  ·subst e;rw[if_pos rfl,if_pos (by simpa using hj),sY _ hj,if_pos rfl]
  ·rw[if_neg e,sY _ hj,sY (λi=>if i=k then y else f i) hj,if_neg (λh=>e h.symm)]
 ·rw[dW (l:=(aW n).map λi=>if i=k then y else f i) (by simpa using hj)];split
  ·rename_i e;subst e;rw[if_neg (by simpa using hj)]
  ·exact dW (by simpa using hj)
def cX.at(hP:∀ k,yk (Pd k))(h:cX w Pd os a lo hi n A C){k:Nat}(hk:k<n):∃l r,lo<=l/\r<=hi/\Pd k os l r (C k) /\
  ∀ (Pd':Nat->List Ob->Nat->Nat->AV->Prop) (v:AV) (os':List Ob),os'[a]?=some (.arr w ((aW n).map λi=>A i++[if i=k then v else C i]))->Pd' k os' l r v ->
   (∀ i,lo<=i->i<hi->(i<l\/r<=i)->os'[i]?=os[i]?)->(∀ i,i≠k->i<n->∀ os l r v,Pd i os l r v->Pd' i os l r v)->cX w Pd' os' a lo hi n A (λi=>if i=k then v else C i):=by
 obtain⟨h1,h2,h3,S,s1,s2,s3,s4⟩:=h;have b1:lo<=S k:=j7 s1 (ta s3 (aI _) GC);have b2:S (k+1)<=hi:=j7 (ta s3 (show k+1<=n by omega) (aN _)) s2;refine⟨S k,S (k+1),b1,b2,s4 k hk,λPd' v os' ha c1 c2 dP=>⟨ha,h2,h3,S,s1,s2,s3,λi hi'=>?_⟩⟩;have e1:lo<=S i:=j7 s1 (ta s3 (aI _) GC);have e2:S (i+1)<=hi:=j7 (ta s3 (show i+1<=n by omega) (aN _)) s2;by_cases e:i=k
 ·subst e;rw[if_pos rfl];exact c1
 ·rw[if_neg e];refine dP i e hi' _ _ _ _ ((hP i).same (s4 i hi') (λj j1 j2=>c2 j GC GC ?_));rcases Nat.lt_or_gt_of_ne e with e'|e'
  ·have:=ta s3 (show i+1<=k by omega) GC;omega
  ·have:=ta s3 (show k+1<=i by omega) GC;omega
def cX.push(hP:∀ k,yk (Pd k))(h:cX w Pd os a lo hi n A C){os':List Ob}{a' hi':Nat}{R:List AV}{v:AV}(hs:gy lo hi os os')(hh:hi<=hi')(nk:hi'<=a')(hv:Pd n os' hi hi' v)(hR:R.length+1=w)(jm:os'[a']?=some (.arr w ((aW n).map (λk=>A k++[C k])++[R++[v]]))):
  cX w Pd os' a' lo hi' (n+1) (λi=>if i=n then R else A i) (λi=>if i=n then v else C i):=by
 obtain⟨h1,h2,h3,S,s1,s2,s3,s4⟩:=h;refine⟨?_,nk,λk hk=>?_,λi=>if i=n+1 then hi' else S i,?_,?_,λk hk=>?_,λk hk=>?_⟩
 ·rw[jm,List.range_succ,fW];congr 3
  ·refine l8 λk hk=>?_;rw[if_neg (by have:=mH.1 hk;omega),if_neg (by have:=mH.1 hk;omega)]
  ·simp
 ·by_cases e:k=n
  ·rw[if_pos e];exact hR
  ·rw[if_neg e];exact h3 k GC
 ·dsimp only;rw[if_neg GC];exact s1
 ·dsimp only;rw[if_pos rfl];exact aN _
 ·dsimp only;rw[if_neg GC];by_cases e:k=n
  ·subst e;rw[if_pos rfl];omega
  ·rw[if_neg GC];exact s3 k GC
 ·dsimp only;rw[if_neg (show k≠n+1 by omega)];by_cases e:k=n
  ·subst e;rw[if_pos rfl,if_pos rfl];exact(hP k).mono hv s2 (aN _)
  ·rw[if_neg e,if_neg GC];exact(hP k).same (s4 k GC) (hs.mono (j7 s1 (ta s3 (aI _) GC)) (j7 (ta s3 (show k+1<=n by omega) (aN _)) s2))
def cX.nil{os:List Ob}{a:Nat}(h:os[a]?=some (.arr w []))(lo:Nat)(hl:lo<=a)(A:Nat->List AV)(C:Nat->AV):cX w Pd os a lo lo 0 A C :=
 ⟨by rw[h];rfl,hl,λk hk=>absurd hk (m8 _),λ_=>lo,aN _,aN _,λk hk=>absurd hk (m8 _),λk hk=>absurd hk (m8 _)⟩
def cX.CV{A':Nat->List AV}{C':Nat->AV}{Pd':Nat->List Ob->Nat->Nat->AV->Prop}(h:cX w Pd os a lo hi n A C)(hA:∀ k,k<n->A' k=A k)(hC:∀ k,k<n->C' k=C k)(hp:∀ k,k<n->∀ os l r v,Pd k os l r v->Pd' k os l r v):cX w Pd' os a lo hi n A' C':=by
 obtain⟨h1,h2,h3,S,s1,s2,s3,s4⟩:=h;refine⟨?_,h2,λk hk=>by rw[hA k hk];exact h3 k hk,S,s1,s2,s3,λk hk=>by rw[hC k hk];exact hp k hk _ _ _ _ (s4 k hk)⟩;rw[h1];congr 2;exact l8 λk hk=>by rw[hA k (mH.1 hk),hC k (mH.1 hk)]
def cX.app(hP:∀ k,yk (Pd k))(h:cX w Pd os a lo hi n A C)(X:List Ob){v:AV}{l0:Nat}(ha:a<l0)(h0:l0<=os.length)(hR:(A n).length+1=w)(hv:∀ os',gy l0 (os.length+X.length) (os++X) os'->Pd n os' l0 (os.length+X.length) v):
  cX w Pd (os.set a .gone++(X++[.arr w ((aW n).map (λk=>A k++[C k])++[A n++[v]])])) (os.length+X.length) lo (os.length+X.length) (n+1) A (λi=>if i=n then v else C i):=by
 have hb:=h.len;have zm:=h.at_;refine(cX.push hP h (os':=os.set a .gone++(X++[.arr w ((aW n).map (λk=>A k++[C k])++[A n++[v]])])) (hi':=os.length+X.length) (R:=A n) (v:=v) (λi h1 h2=>?_) GC (aN _) ((hP n).mono (hv _ (λi h1 h2=>?_)) GC (aN _)) hR ?_).CV (λk hk=>?_) (λ_ _=>rfl) (λ_ _ _ _ _ _ h=>h)
 ·rw[cT (by rw[bF];omega),bR GC]
 ·by_cases e:i<os.length
  ·rw[cT (by rw[bF];omega),cT e,bR GC]
  ·rw[fV (by rw[bF];omega),fV (l₁:=os) GC,bF,cT GC]
 ·rw[fV (by rw[bF];omega),bF,Nat.add_sub_cancel_left,fV (aN _),Nat.sub_self];rfl
 ·by_cases e:k=n
  ·rw[if_pos e,e]
  ·rw[if_neg e]
def cX.EW(hP:∀ k,yk (Pd k))(h:cX w Pd os a lo hi n A C){q:Nat}(hq:q<lo)(y:Ob):cX w Pd (os.set q y) a lo hi n A C :=
 h.same hP (gy.set (.inl hq) y) (bR (by have:=h.at_;have:=h.tZ;omega))
def gy.kill{m b:Nat}{ot:List Ob}(hb:m<=b)(hl:b<ot.length)(L:List Ob):gy 0 m ot (ot.set b .gone++L):=λi _ h2=>by
 rw[cT (by rw[bF];omega),bR GC]
def cX.cC{os:List Ob}{e:Nat->AV}{kp:Nat->Prop}{T:Nat->AV}(h:cX w Pd os a lo hi n A C)(hk:∀ i,lo<=i->i<=a->¬ kp i)(hA:∀ k,k<n->∀ v∈A k,∃ x,v=AV.lit x)(hT:∀ k,k<n->∀ l r v,lo<=l->r<=hi->Pd k os l r v->cL ⟨e,os⟩ kp (T k) v):cL ⟨e,os⟩ kp (.tree w ((aW n).map λk=>A k++[T k])) (.ref a w 0 n):=by
 have hlh:=h.tZ;have hr:=λk hk=>h.get (k:=k) hk;obtain⟨h1,h2,h3,S,s1,s2,s3,s4⟩:=h;refine .ref a w 0 n _ _ (λr c=>(cellAt ((aW n).map λk=>A k++[C k]) r c).getD .undef) h1 (hk a GC (aN _)) GF (λrow hr=>?_) (λr c v hv=>?_) (λr c v hv=>?_)
 ·obtain⟨k,hk,rfl⟩:=cz.1 hr;rw[List.length_append];exact h3 k (mH.1 hk)
 all_goals
  unfold cellAt at hv;by_cases qX:r<n;rotate_left
  ·rw[dW (by simpa using qX)]at hv;simp at hv
  rw[sY _ qX,vQ]at hv
 ·rw[List.drop_zero,dJ GF];unfold cellAt;rw[sY _ qX,vQ];have cm:c<(A r++[C r]).length:=by
   have:=(a8.1 hv).1;simpa using this
  rw[bK cm];rfl
 ·unfold cellAt;rw[sY _ qX,vQ];by_cases hc:c<(A r).length
  ·rw[cT hc]at hv ⊢;rw[hv,jB];obtain⟨x,rfl⟩:=hA r qX v (iD hv);exact .lit x
  ·rw[fV GC]at hv ⊢;have oA:c-(A r).length=0:=by
    have:=(a8.1 hv).1;simp at this;omega
   rw[oA]at hv ⊢;simp only[vP,dI.injEq]at hv;subst hv;obtain⟨l,u,u1,u2,hO⟩:=hr r qX;exact hT r qX l u _ u1 u2 hO
end
def j3(o:bU):List AV:=[aaC o.wk,aaC o.day,aaC o.st,aaC o.len,aaC o.room]
def kz(p:Pr):List AV:=[aaC p.fst,aaC p.snd,aaC p.bz]
def x7(xs:List (Int×Int))(os:List Ob)(l r:Nat)(v:AV):Prop:=iP 2 os l r v (rowsOf aL xs)
def wF(xs:List Int)(os:List Ob)(l r:Nat)(v:AV):Prop:=iP 1 os l r v (ints xs)
def Ii(xs:List (Int×Int)):yk (x7 xs):=iP.aao 2 _
def ya(xs:List Int):yk (wF xs):=iP.aao 1 _
def cX.low{Pd:Nat->List Ob->Nat->Nat->AV->Prop}{w a lo hi n:Nat}{os:List Ob}{A:Nat->List AV}{C:Nat->AV}(h:cX w Pd os a lo hi n A C){mN:Nat}(hl:mN<=lo):cX w Pd os a mN hi n A C:=by
 obtain⟨h1,h2,h3,S,s1,s2,s3,s4⟩:=h;exact⟨h1,h2,h3,S,GC,s2,s3,s4⟩
def x9(L:List bU)(os:List Ob)(l r:Nat)(v:AV):Prop :=
 ∃ a hi C,v=.ref a 6 0 L.length/\a<r/\cX 6 (λk=>x7 (L.getD k default).ch) os a l hi L.length (λk=>j3 (L.getD k default)) C
def wD(L:List bU):yk (x9 L):=by
 refine⟨?_,?_⟩
 ·rintro os os' l r v ⟨a,hi,C,h1,h2,h3⟩ hs;have:=h3.at_;have:=h3.tZ;exact⟨a,hi,C,h1,h2,h3.same (λk=>Ii _) (hs.mono (aN _) GC) (hs a GC h2)⟩
 ·rintro os l r v l' r' ⟨a,hi,C,h1,h2,h3⟩ hl hr;exact⟨a,hi,C,h1,GC,h3.low hl⟩
def Cv(cls:List (List bU))(os:List Ob)(a lo hi n:Nat)(C:Nat->AV):Prop:=cX 1 (λc=>x9 (cls.getD c default)) os a lo hi n (λ_=>[]) C
def ES(ae:List Pr)(os:List Ob)(a lo hi n:Nat)(C:Nat->AV):Prop:=cX 4 (λi=>wF (ae.getD i default).aB) os a lo hi n (λi=>kz (ae.getD i default)) C
def Nt{α β:Type}[Inhabited α](xs:List α)(f:α->β):((aW xs.length).map λk=>f (xs.getD k default))=xs.map f:=by
 apply kq;intro i;by_cases h:i<xs.length
 ·rw[sY _ h,cj,aA,bK h];rfl
 ·rw[dW (by simpa using h),dW (by simpa using h)]
def ai2{L:List bU}{os:List Ob}{l r:Nat}{v:AV}{e:Nat->AV}{kp:Nat->Prop}(h:x9 L os l r v)(hk:∀ i,l<=i->i<r->¬ kp i):cL ⟨e,os⟩ kp (.tree 6 (rowsOf cQ L)) v:=by
 obtain⟨a,hi,C,rfl,h2,h3⟩:=h;have h4:=h3.at_;have e1:rowsOf cQ L=(aW L.length).map λk=>j3 (L.getD k default)++[.tree 2 (rowsOf aL (L.getD k default).ch)]:=by
  exact(Nt L λo=>j3 o++[AV.tree 2 (rowsOf aL o.ch)]).symm
 rw[e1];refine h3.cC (λi h5 h6=>hk i h5 GC) (λk hk v hv=>?_) (λk aK l' r' v h5 h6 h7=>?_)
 ·unfold j3 at hv;simp only[cB,kI,or_false]at hv;rcases hv with rfl|rfl|rfl|rfl|rfl<;>exact⟨_,rfl⟩
 ·exact iP.cC h7 (λi h8 h9=>hk i GC GC) (kW _)
def ai3{cls:List (List bU)}{os:List Ob}{a lo hi:Nat}{C:Nat->AV}{e:Nat->AV}{kp:Nat->Prop}(h:Cv cls os a lo hi cls.length C)(hk:∀ i,lo<=i->i<=a->¬ kp i):cL ⟨e,os⟩ kp (.tree 1 (rowsOf bu cls)) (.ref a 1 0 cls.length):=by
 have h4:=h.at_;have e1:rowsOf bu cls=(aW cls.length).map λk=>[]++[.tree 6 (rowsOf cQ (cls.getD k default))]:=by
  exact(Nt cls λo=>([]:List AV)++[AV.tree 6 (rowsOf cQ o)]).symm
 rw[e1];refine cX.cC h hk (λk hk v hv=>(by cases hv)) (λk aK l' r' v h5 h6 h7=>?_);exact ai2 h7 λi h8 h9=>hk i GC GC
def ai4{ae:List Pr}{os:List Ob}{a lo hi:Nat}{C:Nat->AV}{e:Nat->AV}{kp:Nat->Prop}(h:ES ae os a lo hi ae.length C)(hk:∀ i,lo<=i->i<=a->¬ kp i):cL ⟨e,os⟩ kp (.tree 4 (rowsOf aP ae)) (.ref a 4 0 ae.length):=by
 have h4:=h.at_;have e1:rowsOf aP ae=(aW ae.length).map λk=>kz (ae.getD k default)++[.tree 1 (ints (ae.getD k default).aB)]:=by
  exact(Nt ae λo=>kz o++[AV.tree 1 (ints o.aB)]).symm
 rw[e1];refine cX.cC h hk (λk hk v hv=>?_) (λk aK l' r' v h5 h6 h7=>?_)
 ·unfold kz at hv;simp only[cB,kI,or_false]at hv;rcases hv with rfl|rfl|rfl<;>exact⟨_,rfl⟩
 ·exact iP.cC h7 (λi h8 h9=>hk i GC GC) (sL _)
def aQ(l:List Bool):List AV:=[.tree 1 (aX l)]
instance:Row aQ 1:=⟨λ_=>rfl,λl v hv=>by
 simp only[aQ,fE]at hv;subst hv;exact .inr ⟨_,_,rfl⟩⟩
def I5:HZ Tryz.prog 257 (.map none):=⟨_,_,rfl,rfl,λw=>aau⟩
def ai5:HZ Tryz.prog 258 (.int .i64 0):=⟨_,_,rfl,rfl,λw=>aau⟩
def ai6:HY Tryz.prog 257:=⟨_,_,rfl,rfl⟩
def aaq:HY Tryz.prog 258:=⟨_,_,rfl,rfl⟩
def ai7:xN Tryz.prog 257:=⟨_,_,rfl⟩
def I6:xN Tryz.prog 258:=⟨_,_,rfl⟩
def ai8(c:Ct)(left:List (List Bool))(n:Nat)(anO:left.length<=n)(hc:∀ x∈c.aH,(0<=x.cls/\x.cls<left.length)/\1<=x.wt/\x.wt<=1000)(hl:left.length<=1000)(bq:∀ r∈left,r.length<=1000)(e7:c.aH.length<9223372036854775808)(hm:0<=c.most)(hp:b7 c.bM):
  ao Tryz.prog 180 [.agg (aV c),.tree 1 (rowsOf aQ left)] [] (aaC (jJ left c)) []:=by
 refine ao.aD 80 0 [.tmp 4] Tryz.func180 ?_;refine afI ?_;repeat'(first|(((refine mr ?_);intro K hK) ;simp(disch:=omega)only[Ac,↓Pc,simprocAttr,Mc])|(refine hK _ _ ?_;clear hK K))
 refine UC λb0 n7=>?_;repeat'(first|(((refine mr ?_);intro K hK) ;simp(disch:=omega)only[Ac,↓Pc,simprocAttr,Mc])|(with_reducible refine gO ?_;simp(disch:=omega)only[Ac,↓Pc,simprocAttr,Mc])|(refine hK _ _ ?_;clear hK K)|(refine zj ?_;intro Qb kU oN qR)|(refine vc ?_;intro Q hn he))
 refine LN (λk:Nat=>(⟨aw [(1,.tree 1 (rowsOf aQ left)),(2,.ptr 0 0 0),(5,.lit (.map (some b0))),(17,.tree 3 (rowsOf iM c.aH)),(18,aaC c.aH.length),(19,aaC k)],[.var (aV c)]⟩:St))
  (λk m=>k<=c.aH.length/\∃ A,GI left.length (c.aH.take k) A b0 m) (λk=>c.aH.length-k) 0 ⟨aI _,[],by rw[kK];exact GI.nil (zi _ _ _)⟩ (by(refine nV.aw _ _ rfl ?_;simp only[Tc,↓reduceIte,Nat.reduceEqDiff,pE,Nat.reduceAdd];try trivial)) ?_
 rintro k m0⟨hk,A,hA⟩Ql an ar;by_cases aK:k<c.aH.length
 ·have hx:=hc _ (ay (d:=default) aK);have im:c.aH.take (k+1)=c.aH.take k++[c.aH.getD k default]:=by
   rw[GL aK,aA,bK aK];rfl
  generalize aS:c.aH.getD k default=x at *;repeat'(first|(((refine mr ?_);intro K hK) ;simp(disch:=omega)only[Ac,↓Pc,simprocAttr,aS,Mc])|(refine hK _ _ ?_;clear hK K)|(refine mc (λht=>?_) (λht=>?_)<;>(try simp only[pP,simprocAttr]at ht))|refine xM rfl ?_|(refine zj ?_;intro Qb kU oN qR)|(refine vc ?_;intro Q hn he)|((first|refine hn _ _ ?_|refine he _ _ _ rfl ?_);clear hn he;try clear Q)|with_reducible refine eR ?_ ?_|omega)
  have fin:∀ A1 m1,GI left.length (c.aH.take k) A1 b0 m1->(∃ e∈A1,e.1=x.cls)->∃ e∈A1,e.1=x.cls/\oH x.cls (gE A1)=some (.map (some e.2.1)):=λA1 m1 h1 h2=>by
   rcases MQ x.cls A1 with⟨_,g⟩|g
   ·obtain⟨e,he,hh⟩:=h2;exact absurd hh (g e he)
   ·exact g
  rcases MQ x.cls A with⟨g1,g2⟩|⟨e0,g1,g2,g3⟩
  ·refine EB (by simp only[Kc,simprocAttr]<;>exact rfl) (by simp only[Kc,simprocAttr]<;>exact rfl) I5 hA.top ?_;rw[g1];repeat'(first|(((refine AJ ?_);intro K hK) ;simp(disch:=omega)only[Ac,↓Pc,simprocAttr,I6,Gz,Dy,Mc])|(with_reducible refine gO ?_;simp(disch:=omega)only[Ac,↓Pc,simprocAttr,I6,Gz,Dy,Mc])|(refine hK _ _ ?_;clear hK K)|(refine mc (λht=>?_) (λht=>?_)<;>(try simp only[pP,simprocAttr]at ht)))
   refine UC λb hb=>?_;(with_reducible refine gO ?_;simp(disch:=omega)only[Ac,↓Pc,simprocAttr,Mc])
   refine LQ (by simp only[Kc,simprocAttr]<;>exact rfl) (by simp only[Kc,simprocAttr]<;>exact rfl) (by simp only[Kc,simprocAttr]<;>exact rfl) ai6 (by rw[wq _ _ (λe=>by rw[<- e,hA.top]at hb;cases hb)];exact hA.top) ?_;have vB:=hA.new hx.1 g2 hb;obtain⟨e1,k1,k2,k3⟩:=fin _ _ vB ⟨(x.cls,b,[]),GF,rfl⟩;repeat'(first|(((refine AJ ?_);intro K hK) ;simp(disch:=omega)only[Ac,↓Pc,simprocAttr,aS,Mc])|(refine hK _ _ ?_;clear hK K)|((refine hn _ _ ?_);clear hn he;try clear Q))
   refine EB (by simp only[Kc,simprocAttr]<;>exact rfl) (by simp only[Kc,simprocAttr]<;>exact rfl) I5 vB.top ?_;rw[k3];(with_reducible refine gO ?_;simp(disch:=omega)only[Ac,↓Pc,simprocAttr,aS,jB,Mc])
   refine LQ (by simp only[Kc,simprocAttr]<;>exact rfl) (by simp only[Kc,simprocAttr]<;>exact rfl) (by simp only[Kc,simprocAttr]<;>exact rfl) aaq (vB.sub e1 k1) ?_;repeat'(first|(((refine AJ ?_);intro K hK) ;simp(disch:=omega)only[Ac,↓Pc,simprocAttr,Mc])|(refine hK _ _ ?_;clear hK K)|((refine hn _ _ ?_);clear hn he;try clear Q)|((refine kU _ _ ?_);clear kU oN qR;try clear Qb)|with_reducible refine eR ?_ ?_|omega)
   exact an _ _ (k+1) ⟨GC,_,by rw[im];exact vB.put k1 k2⟩ GC (by(refine nV.se [0] false (by simp only[Oc,simprocAttr]) ?_;simp only[Hr,↓reduceIte,Nat.reduceEqDiff,pE,Nat.reduceAdd];try(and_intros<;>first|exact .pure rfl|exact .eq rfl|exact .fz rfl (by simp only[Bc,Rc]))))
  ·refine EB (by simp only[Kc,simprocAttr]<;>exact rfl) (by simp only[Kc,simprocAttr]<;>exact rfl) I5 hA.top ?_;rw[g3];repeat'(first|(((refine AJ ?_);intro K hK) ;simp(disch:=omega)only[Ac,↓Pc,simprocAttr,I6,jB,GM,Mc])|(with_reducible refine gO ?_;simp(disch:=omega)only[Ac,↓Pc,simprocAttr,I6,jB,GM,Mc])|(refine hK _ _ ?_;clear hK K)|(refine mc (λht=>?_) (λht=>?_)<;>(try simp only[pP,simprocAttr]at ht))|refine xM rfl ?_|((refine hn _ _ ?_);clear hn he;try clear Q))
   refine EB (by simp only[Kc,simprocAttr]<;>exact rfl) (by simp only[Kc,simprocAttr]<;>exact rfl) I5 hA.top ?_;rw[g3];(with_reducible refine gO ?_;simp(disch:=omega)only[Ac,↓Pc,simprocAttr,aS,jB,Mc])
   refine LQ (by simp only[Kc,simprocAttr]<;>exact rfl) (by simp only[Kc,simprocAttr]<;>exact rfl) (by simp only[Kc,simprocAttr]<;>exact rfl) aaq (hA.sub e0 g1) ?_;repeat'(first|(((refine AJ ?_);intro K hK) ;simp(disch:=omega)only[Ac,↓Pc,simprocAttr,Mc])|(refine hK _ _ ?_;clear hK K)|((refine hn _ _ ?_);clear hn he;try clear Q)|((refine kU _ _ ?_);clear kU oN qR;try clear Qb)|with_reducible refine eR ?_ ?_|omega)
   exact an _ _ (k+1) ⟨GC,_,by rw[im];exact hA.put g1 g2⟩ GC (by(refine nV.se [0] false (by simp only[Oc,simprocAttr]) ?_;simp only[Hr,↓reduceIte,Nat.reduceEqDiff,pE,Nat.reduceAdd];try(and_intros<;>first|exact .pure rfl|exact .eq rfl|exact .fz rfl (by simp only[Bc,Rc]))))
 ·rw[dJ GC]at hA;repeat'(first|(((refine mr ?_);intro K hK) ;simp(disch:=omega)only[Ac,↓Pc,simprocAttr,Mc])|(refine hK _ _ ?_;clear hK K)|(refine mc (λht=>?_) (λht=>?_)<;>(try simp only[pP,simprocAttr]at ht))|refine xM rfl ?_|(refine zj ?_;intro Qb kU oN qR)|(refine vc ?_;intro Q hn he)|((first|refine hn _ _ ?_|refine he _ _ _ rfl ?_);clear hn he;try clear Q)|with_reducible refine eR ?_ ?_|omega)
  refine ar _ _ _ rfl ?_;clear an ar Ql;repeat(first|((refine hn _ _ ?_);clear hn he;try clear Q)|((refine oN _ _ ?_);clear kU oN qR;try clear Qb))
  repeat'(first|(((refine mr ?_);intro K hK) ;simp(disch:=omega)only[Ac,↓Pc,simprocAttr,Mc])|(refine hK _ _ ?_;clear hK K)|(refine vc ?_;intro Q hn he))
  have hcA:=hA.A4;have Fu:=hA.sum;have zN:∀ x∈c.aH,1<=x.wt/\x.wt<=1000:=λx hx=>(hc x hx).2;have nh:=E5 zN left;generalize hf:(λj:Nat=>ny c.aH (A.getD j (0,0,[])).1 (left.getD (A.getD j (0,0,[])).1.toNat []))=f;have Ef:∀ j,ny c.aH (A.getD j (0,0,[])).1 (left.getD (A.getD j (0,0,[])).1.toNat [])=f j:=λj=>by rw[<- hf]
  have dZ:∀ j,0<=f j/\f j<=1000:=λj=>by rw[<- Ef];exact YQ zN _ _
  have hAl:A.length<=left.length:=hA.len;refine afV (by simp only[Kc,simprocAttr]<;>exact rfl) ai7 hA.top λr hr=>?_;repeat'(first|(refine hK _ _ ?_;clear hK K)|(refine zj ?_;intro Qb kU oN qR))
  refine LN (λseen:List Nat=>(⟨aw [(1,.tree 1 (rowsOf aQ left)),(2,.ptr 0 0 0),(8,aaC (wI f seen A.length)),(42,.lit (.pointer (some ⟨r,0,none⟩)))],[.var (aV c)]⟩:St))
   (λseen m=>GI left.length c.aH A b0 m/\m r=some (.iter b0 A.length seen)) (λseen=>IA seen A.length) [] ⟨hA.other _ (λl=>by rw[hr];simp),by rw[zi,IB]⟩ (by(refine nV.aw _ _ rfl ?_;simp only[Tc,↓reduceIte,Nat.reduceEqDiff,pE,Nat.reduceAdd,ahL];try trivial)) ?_
  rintro seen m1⟨vB,y8⟩Ql an ar;(((refine mr ?_);intro K hK) ;simp(disch:=omega)only[Ac,↓Pc,simprocAttr,Mc])
  refine afW (b:=b0) (seen:=seen) (ents:=iE (gE A)) (by simp only[Kc,simprocAttr]<;>exact rfl) (by rw[IB];exact y8) vB.top (λdF=>?_) (λj p hp hj=>?_)
  ·rw[IB]at dF;rw[ahK dF,<- hf,YW (λc'=>ny c.aH c' (left.getD c'.toNat [])),Fu];repeat'(first|(with_reducible refine gO ?_;simp(disch:=omega)only[Ac,↓Pc,simprocAttr,Mc])|(refine hK _ _ ?_;clear hK K)|(refine mc (λht=>?_) (λht=>?_)<;>(try simp only[pP,simprocAttr]at ht))|refine xM rfl ?_|(refine vc ?_;intro Q hn he)|((refine he _ _ _ rfl ?_);clear hn he;try clear Q))
   refine ar _ _ _ rfl ?_;clear an ar Ql;repeat(first|((refine hn _ _ ?_);clear hn he;try clear Q)|((refine oN _ _ ?_);clear kU oN qR;try clear Qb))
   repeat'(first|(((refine mr ?_);intro K hK) ;simp(disch:=omega)only[Ac,↓Pc,simprocAttr,Mc])|(refine cF (Yv c (k7 c.aH 0 left 0) hm GC nh.1 hp) rfl rfl ?_)|(refine hK _ _ ?_;clear hK K)|refine xM rfl ?_)
   refine Xe ?_;first|refine aE rfl ?_|refine Xl ?_ ?_
   rfl
  ·rw[YX,YY]at hp;cases he:A[j]? with
   |none=>rw[he]at hp;simp at hp
   |some e =>
    rw[he]at hp;simp only[fl,dI.injEq]at hp;subst hp;have lK:=(a8.1 he).1;have I7:A.getD j (0,0,[])=e:=by rw[aA,he];rfl
    have I8:e∈A:=iD he;obtain⟨oA,lN⟩:=hcA e I8;have Fv:=Ef j;rw[I7]at Fv;have hval:=vB.val e I8;have ai9:=vB.sub e I8;have cD:=bq _ (ay (l:=left) (i:=e.1.toNat) (d:=[]) GC);have hsi:=ahM (f:=f) (B:=1000) (seen:=seen) (n:=A.length) GC λi _=>dZ i;have dP:=ahI (f:=f) lK hj;have br:=ahJ lK hj;generalize CO:left.getD e.1.toNat []=row at *;have aas:left.getD e.1.toNat default=row:=CO;repeat'(first|(((refine mr ?_);intro K hK) ;simp(disch:=omega)only[Ac,↓Pc,simprocAttr,Mc])|(with_reducible refine gO ?_;simp(disch:=omega)only[Ac,↓Pc,simprocAttr,Mc])|(refine hK _ _ ?_;clear hK K)|(refine mc (λht=>?_) (λht=>?_)<;>(try simp only[pP,simprocAttr]at ht))|refine xM rfl ?_|(refine zj ?_;intro Qb kU oN qR)|(refine vc ?_;intro Q hn he)|((refine hn _ _ ?_);clear hn he;try clear Q))
    refine afX (seen:=seen) (j:=j) (b:=b0) (ents:=iE (gE A)) (q:=(.int .i64 e.1,.map (some e.2.1))) (by simp only[Kc,simprocAttr]<;>exact rfl) (zi _ _ _) (by rw[wq _ _ (λe2=>by rw[<- e2,vB.top]at y8;cases y8)];exact vB.top) (by rw[YX,YY,he];rfl) ?_;repeat'(first|(((refine mr ?_);intro K hK) ;simp(disch:=omega)only[Ac,↓Pc,simprocAttr,aas,aQ,Mc])|(with_reducible refine gO ?_;simp(disch:=omega)only[Ac,↓Pc,simprocAttr,aas,aQ,Mc])|(refine hK _ _ ?_;clear hK K)|(refine zj ?_;intro Qb kU oN qR)|(refine vc ?_;intro Q hn he)|with_reducible refine eR ?_ ?_|omega)
    generalize rS:mo m1 r (.iter b0 (iE (gE A)).length (seen++[j]))=m2;have gF:m2 r=some (.iter b0 A.length (seen++[j])):=by rw[<- rS,zi,IB]
    have I9:GI left.length c.aH A b0 m2:=by rw[<- rS];exact vB.other _ λl=>by rw[y8];simp
    have ai':=I9.sub e I8;clear ai9;refine LN (λo:Nat=>(⟨aw [(1,.tree 1 (rowsOf aQ left)),(2,.ptr 0 0 0),(8,aaC (wI f seen A.length)),(42,.lit (.pointer (some ⟨r,0,none⟩))),(10,.lit (.map (some e.2.1))),(11,aaC (eM c.aH e.1 0 (row.take o) (-1))),(51,.tree 1 (aX row)),(52,aaC row.length),(53,aaC o)],[.var (aV c)]⟩:St))
     (λo m=>o<=row.length/\m=m2) (λo=>row.length-o) 0 ⟨aI _,rfl⟩ (by(refine nV.aw _ _ rfl ?_;simp only[Tc,↓reduceIte,Nat.reduceEqDiff,pE,Nat.reduceAdd,kK,eM];try trivial)) ?_
    rintro o m3⟨ho,rfl⟩cJ ba bd;have hb:=Iz zN e.1 (row.take o) 0 (-1) GC;by_cases cG:o<row.length
    ·have im:eM c.aH e.1 0 (row.take (o+1)) (-1)=if row.getD o false=true/\(eM c.aH e.1 0 (row.take o) (-1)<0\/gP c.aH e.1 o 0<eM c.aH e.1 0 (row.take o) (-1)) then gP c.aH e.1 o 0 else eM c.aH e.1 0 (row.take o) (-1):=by
      rw[GL cG,MS,aA,bK cG,List.length_take,Nat.min_eq_left GC,Nat.zero_add];rfl
     have hw:=zC zN e.1 o 0 GC;have hv:=hval o;generalize eM c.aH e.1 0 (row.take o) (-1)=b at *;generalize gP c.aH e.1 o 0=w at *;generalize Bd:row.getD o false=is at *;repeat'(first|(((refine mr ?_);intro K hK) ;simp(disch:=omega)only[Ac,↓Pc,simprocAttr,Bd,Mc])|(refine hK _ _ ?_;clear hK K)|(refine mc (λht=>?_) (λht=>?_)<;>(try simp only[pP,simprocAttr]at ht))|refine xM rfl ?_|(refine zj ?_;intro Qb kU oN qR)|(refine vc ?_;intro Q hn he)|((first|refine hn _ _ ?_|refine he _ _ _ rfl ?_);clear hn he;try clear Q)|with_reducible refine eR ?_ ?_|omega)
     refine EB (by simp only[Kc,simprocAttr]<;>exact rfl) (by simp only[Kc,simprocAttr]<;>exact rfl) ai5 ai' ?_;rw[YS,hv];repeat'(first|(((first|refine mr ?_|refine AJ ?_);intro K hK) ;simp(disch:=omega)only[Ac,↓Pc,simprocAttr,Bd,Mc])|(with_reducible refine gO ?_;simp(disch:=omega)only[Ac,↓Pc,simprocAttr,Bd,Mc])|(refine hK _ _ ?_;clear hK K)|(with_reducible refine gS (λdu=>?_) (λdu=>?_)<;>(have hb:=du;(try simp only[pP,simprocAttr]at hb);simp(disch:=omega)only[Ac,↓Pc,simprocAttr,Bd,Mc,du];clear du))|(refine mc (λht=>?_) (λht=>?_)<;>(try simp only[pP,simprocAttr]at ht))|refine xM rfl ?_|((refine hn _ _ ?_);clear hn he;try clear Q)|((refine kU _ _ ?_);clear kU oN qR;try clear Qb)|with_reducible refine eR ?_ ?_|omega)
     all_goals
      refine ba _ _ (o+1) ⟨GC,rfl⟩ GC ?_;simp only[im];first
       |rw[if_pos ⟨by assumption,GC⟩]
       |rw[if_neg (by rintro⟨h1,h2⟩;first|omega|(simp only[h1]at *;contradiction)|simp_all)]
      (refine nV.aw _ _ rfl ?_;simp only[Tc,↓reduceIte,Nat.reduceEqDiff,pE,Nat.reduceAdd];try trivial)
    ·rw[dJ GC]at hb;have lh:max (eM c.aH e.1 0 row (-1)) 0=f j:=Fv;repeat'(first|(((refine mr ?_);intro K hK) ;simp(disch:=omega)only[Ac,↓Pc,simprocAttr,dJ (show row.length<=o by omega),Mc])|(refine hK _ _ ?_;clear hK K)|(refine mc (λht=>?_) (λht=>?_)<;>(try simp only[pP,simprocAttr]at ht))|refine xM rfl ?_|(refine zj ?_;intro Qb kU oN qR)|(refine vc ?_;intro Q hn he)|((first|refine hn _ _ ?_|refine he _ _ _ rfl ?_);clear hn he;try clear Q)|with_reducible refine eR ?_ ?_|omega)
     refine bd _ _ _ rfl ?_;clear ba bd cJ;repeat(first|((refine hn _ _ ?_);clear hn he;try clear Q)|((refine oN _ _ ?_);clear kU oN qR;try clear Qb))
     repeat'(first|(((refine AJ ?_);intro K hK) ;simp(disch:=omega)only[Ac,↓Pc,simprocAttr,Mc])|(refine hK _ _ ?_;clear hK K)|((refine kU _ _ ?_);clear kU oN qR;try clear Qb)|with_reducible refine eR ?_ ?_|omega)
     exact an _ _ (seen++[j]) ⟨I9,gF⟩ br (by simp only[dP,<- lh];(refine nV.aw _ _ rfl ?_;simp only[Tc,↓reduceIte,Nat.reduceEqDiff,pE,Nat.reduceAdd];try trivial))
def nA(q:Nat×Nat):List AV:=[.ref q.1 1 0 q.2]
def aat(D:List (Nat×Nat))(p n:Nat):rowsOf nA D++[[AV.ref p 1 0 n]]=rowsOf nA (D++[(p,n)]):=by simp[rowsOf,nA]
structure eA(B:List (Nat×Ob))(D:List (Nat×Nat))(S:List (List Bool))(os:List Ob):Prop where
 base:∀ b∈B,os[b.1]?=some b.2
 len:D.length=S.length
 row:∀ j,j<D.length->os[(D.getD j default).1]?=some (.arr 1 (aX (S.getD j default)))/\(S.getD j default).length=(D.getD j default).2
 nd:(B.map (·.1)++D.map (·.1)).Nodup
section
variable {B:List (Nat×Ob)} {D:List (Nat×Nat)} {S:List (List Bool)} {os:List Ob}
def eA.app(h:eA B D S os)(l:List Ob):eA B D S (os++l):=⟨λb hb=>bg (h.base b hb) l,h.len,λj hj=>⟨bg (h.row j hj).1 l,(h.row j hj).2⟩,h.nd⟩
def eA.fresh(h:eA B D S os){p:Nat}(hp:os.length<=p):p ∉ B.map (·.1)++D.map (·.1):=λhh=>by
 rw[cH]at hh;rcases hh with hh|hh
 ·obtain⟨q,hq,rfl⟩:=cz.1 hh;have:=(a8.1 (h.base q hq)).1;omega
 ·obtain⟨q,hq,rfl⟩:=cz.1 hh;obtain⟨k,hk,rfl⟩:=uz.1 hq;have h1:=(h.row k hk).1;have a1:D.getD k default=D[k]:=by simp[hk]
  rw[a1]at h1;have:=(a8.1 h1).1;omega
def eA.other(h:eA B D S os){i:Nat}(hi:i ∉ B.map (·.1)++D.map (·.1))(y:Ob):eA B D S (os.set i y):=by
 rw[cH,not_or]at hi;refine⟨λb hb=>?_,h.len,λk hk=>⟨?_,(h.row k hk).2⟩,h.nd⟩
 ·rw[bR (λe=>hi.1 (cz.2 ⟨b,hb,e.symm⟩))];exact h.base b hb
 ·rw[bR (λe=>hi.2 (cz.2 ⟨D.getD k default,ay hk,e.symm⟩))];exact(h.row k hk).1
def eA.add(h:eA B D S os){k:Nat}{x:Ob}(hk:os[k]?=some x)(hf:k ∉ B.map (·.1)++D.map (·.1)):eA ((k,x)::B) D S os :=
 ⟨λb hb=>by rcases cB.1 hb with rfl|hb;exact hk;exact h.base b hb,h.len,h.row,by
  rw[dg,dS,uA];exact⟨hf,h.nd⟩⟩
def eA.b0{a:Nat×Ob}(h:eA (a::B) D S os):os[a.1]?=some a.2:=h.base a GF
def eA.b1{a b:Nat×Ob}(h:eA (a::b::B) D S os):os[b.1]?=some b.2:=h.base b GF
def eA.b2{a b c:Nat×Ob}(h:eA (a::b::c::B) D S os):os[c.1]?=some c.2:=h.base c GF
def eA.b3{a b c d:Nat×Ob}(h:eA (a::b::c::d::B) D S os):os[d.1]?=some d.2:=h.base d GF
def eA.put{i:Nat}{x:Ob}(h:eA ((i,x)::B) D S os)(y:Ob):eA ((i,y)::B) D S (os.set i y):=by
 have hn:=h.nd;rw[dg,dS,uA]at hn;have hx:=h.base (i,x) GF;have h2:eA B D S os:=⟨λb hb=>h.base b (by simp[hb]),h.len,h.row,hn.2⟩;exact(h2.other hn.1 y).add (kh hx) hn.1
def eA.drop{i:Nat}{x:Ob}(h:eA ((i,x)::B) D S os):eA B D S os/\i ∉ B.map (·.1)++D.map (·.1):=by
 have hn:=h.nd;rw[dg,dS,uA]at hn;exact⟨⟨λb hb=>h.base b (by simp[hb]),h.len,h.row,hn.2⟩,hn.1⟩
def eA.swap{a b:Nat×Ob}(h:eA (a::b::B) D S os):eA (b::a::B) D S os :=
 ⟨λc hc=>h.base c (by simp only[cB]at hc ⊢;rcases hc with hc|hc|hc<;>simp[hc]),h.len,h.row,by
  have:=h.nd;simp only[dg,dS,uA,cB,not_or]at this ⊢;exact⟨⟨Ne.symm this.1.1,this.2.1⟩,this.1.2,this.2.2⟩⟩
def eA.snoc{p:Nat}{r:List Bool}(h:eA ((p,.arr 1 (aX r))::B) D S os):eA B (D++[(p,r.length)]) (S++[r]) os:=by
 obtain⟨h2,hf⟩:=h.drop;have hp:=h.base (p,.arr 1 (aX r)) GF;refine⟨h2.base,by simp[h2.len],λj hj=>?_,?_⟩
 ·rw[I0,I0,<- h2.len];by_cases h1:j<D.length
  ·rw[if_pos h1,if_pos h1];exact h2.row j h1
  ·have:j=D.length:=by simp at hj;omega
   rw[if_neg h1,if_neg h1,if_pos this,if_pos this];exact⟨hp,rfl⟩
 ·rw[fW,<- cM,vX];refine⟨h2.nd,GF,λa ha b hb=>?_⟩;simp only[dg,kJ,fE]at hb;subst hb;exact λe=>hf (e▸ha)
end
def lD(p:Nat):List (List Bool)->List (List AV)
 |[]=>[]
 |r::t=>[.ref p 1 0 r.length]::lD (p+1) t
def qY(S:List (List Bool)):List Ob:=S.map λr=>.arr 1 (aX r)
def I'(S:List (List Bool)):(qY S).length=S.length:=List.length_map _
def Ja:∀ (p:Nat) (S:List (List Bool)),(lD p S).length=S.length
 |_,[]=>rfl
 |p,r::t=>by simp only[lD,eB,Ja (p+1) t]
def Fw:∀ (p:Nat) (S:List (List Bool)) (j:Nat),j<S.length->(lD p S)[j]?=some [.ref (p+j) 1 0 (S.getD j default).length]
 |_,[],j,h=>by simp at h
 |p,r::t,0,h=>rfl
 |p,r::t,j+1,h=>by
  rw[lD,vR,Fw (p+1) t j (by simpa using h)];rw[show p+1+j=p+(j+1) by omega,fU]
def aja{S T:List (List Bool)}(p:Nat)(h:S.map oW=T.map oW):lD p S=lD p T:=by
 induction S generalizing T p with
 |nil=>cases T with
  |nil=>rfl
  |cons=>simp at h
 |cons r S ih=>cases T with
  |nil=>simp at h
  |cons t T =>
   simp only[dg,List.cons.injEq]at h;rw[lD,lD,h.1,ih (p+1) h.2]
def ajb(ρ:Nat->Nat)(S:List (List Bool)):∀ (q p:Nat),(∀ j,j<S.length->ρ (p+j)=q+j)->(lD p S).map (List.map (bC ρ))=lD q S:=by
 induction S with
 |nil=>intro q p _;rfl
 |cons r t ih =>
  intro q p h;have h0:=h 0 GF;rw[iS,iS]at h0;rw[lD,lD,dg,dg,kJ,bC,h0];refine congrArg _ (ih (q+1) (p+1) λj hj=>?_);have:=h (j+1) (by simpa using hj);rw[show p+1+j=p+(j+1) by omega,this];omega
def ajc(ρ:Nat->Nat)(S:List (List Bool)):(qY S).map (cg ρ)=qY S:=by
 unfold qY;rw[List.map_map];refine l8 λr _=>?_;show cg ρ (.arr 1 (aX r))=_;exact Aj _ _ _
def Jb{B:List (Nat×Ob)}{D:List (Nat×Nat)}{S:List (List Bool)}{os:List Ob}(h:eA B D S os){j:Nat}(hj:j<S.length):(rowsOf nA D)[j]?=some [.ref (D.getD j default).1 1 0 (S.getD j default).length]:=by
 have hd:=h.len;have h2:=(h.row j GC).2;rw[h2];unfold rowsOf;rw[cj,aA,bK GC];rfl
def eA.ret{D:List (Nat×Nat)}{S:List (List Bool)}{os:List Ob}{x:Ob}{oi:Nat}(h:eA [(0,x),(oi,.arr 1 (rowsOf nA D))] D S os)(hx:∀ ρ,cg ρ x=x)(hg:x≠.gone)(e:Nat->AV):
  pF 1 ⟨e,os⟩ (.ref oi 1 0 S.length) (.ref 1 1 0 S.length) (x::.arr 1 (lD 2 S)::qY S):=by
 have hd:=h.len;have h0:=h.base (0,x) GF;have h1:=h.base (oi,.arr 1 (rowsOf nA D)) GF;dsimp only at h0 h1;have hl:∀ i∈0::oi::D.map (·.1),i<os.length:=λi hi=>by
  rcases cB.1 hi with rfl|hi
  ·exact(a8.1 h0).1
  rcases cB.1 hi with rfl|hi
  ·exact(a8.1 h1).1
  obtain⟨q,hq,rfl⟩:=cz.1 hi;obtain⟨k,hk,rfl⟩:=uz.1 hq;have h3:=(h.row k hk).1;have a1:D.getD k default=D[k]:=by simp[hk]
  rw[a1]at h3;exact(a8.1 h3).1
 have Nu:∀ j,j<S.length->bL os.length (0::oi::D.map (·.1)) (2+j)=(D.getD j default).1:=λj hj=>by
  unfold bL;rw[if_pos aar,show 2+j=j+1+1 by omega,fU,fU,aA,cj,aA,bK GC];rfl
 refine⟨0::oi::D.map (·.1),false,by simpa using h.nd,by simp[I',hd],λj o hj=>.inr ?_,hl,GF,λi hi=>?_,.eq ?_⟩
 ·match j with
  |0 =>
   simp only[vP,dI.injEq]at hj;subst hj;rw[hx];exact h0
  |1 =>
   simp only[vR,vP,dI.injEq]at hj;subst hj;refine h1.trans (congrArg some ?_);rw[cg];refine congrArg _ (kq λi=>?_);rw[cj];by_cases hi:i<S.length
   ·rw[Jb h hi,Fw 2 S i hi,fl,dg,kJ,bC,Nu i hi]
   ·rw[dW (by simp[rowsOf];omega),dW (by rw[Ja];omega)];rfl
  |j+2 =>
   simp only[vR]at hj;have lK:j<S.length:=by have:=(a8.1 hj).1;rwa [I']at this
   have h3:=(h.row j GC).1;unfold qY at hj;rw[cj,bK lK]at hj;simp only[fl,dI.injEq]at hj;subst hj;rw[Aj];have e1:(0::oi::D.map (·.1)).getD (j+2) 0=(D.getD j default).1:=by
    rw[fU,fU,aA,cj,aA,bK GC];rfl
   have e2:S.getD j default=S[j]:=by rw[aA,bK lK];rfl
   rw[e1,<- e2];exact h3
 ·have:i=0:=GC;subst this;rfl
 ·rw[bC];have:bL os.length (0::oi::D.map (·.1)) 1=oi:=by unfold bL;rw[if_pos GF];rfl
  rw[this]
def nO(x:Ob)(A:List (List AV))(Y:List (List Bool)):List Ob:=x::.arr 1 A::qY Y
def nOk(x:Ob)(A:List (List AV)){Y:List (List Bool)}{i:Nat}(h:i<Y.length):(nO x A Y)[2+i]?=some (.arr 1 (aX (Y.getD i default))):=by
 unfold nO;rw[show 2+i=i+1+1 by omega,vR,vR];unfold qY;rw[cj,aA,bK h];rfl
def nOs(x:Ob)(A:List (List AV))(Y:List (List Bool))(i:Nat)(r:List Bool):(nO x A Y).set (2+i) (.arr 1 (aX r))=nO x A (Y.set i r):=by
 unfold nO qY;rw[show 2+i=i+1+1 by omega,vW,vW,ry]
def kQ.AY{R:AV->AV->Prop}{f:Nat->List AV}{g:Nat->List AV}:∀ {cs ds:List (List AV)},cs.length=ds.length->(∀ (j:Nat) c d,cs[j]?=some c->ds[j]?=some d->fF R c d)->kQ R cs ds
 |[],[],_,_=>trivial
 |[],_::_,h,_=>by simp at h
 |_::_,[],h,_=>by simp at h
 |c::cs,d::ds,h,k=>⟨k 0 c d rfl rfl,kQ.AY (f:=f) (g:=g) (by simpa using h) λj c d hc hd=>k (j+1) c d (by simpa using hc) (by simpa using hd)⟩
def Vn{σ:St}{kp:Nat->Prop}{id:Nat}{bs:List Bool}(ho:σ.aa[id]?=some (.arr 1 (aX bs)))(hk:¬ kp id):cL σ kp (.tree 1 (aX bs)) (.ref id 1 0 bs.length) :=
 cL.mk ho (by simp[aX]) hk (DQ _) (kQ.AY (f:=λ_=>[]) (g:=λ_=>[]) rfl λj c d hc hd=>by
  rw[hc]at hd;cases hd;unfold aX at hc;rw[cj]at hc;cases hb:bs[j]? with
  |none=>rw[hb]at hc;cases hc
  |some b=>rw[hb]at hc;simp only[fl,dI.injEq]at hc;subst hc;exact⟨.lit _,trivial⟩)
theorem ajf{σ:St}{kp:Nat->Prop}{oi:Nat}{A:List (List AV)}{S:List (List Bool)}(ho:σ.aa[oi]?=some (.arr 1 A))(hk:¬ kp oi)(hA:A.length=S.length)(h:∀ j,j<S.length->∃ id,A[j]?=some [.ref id 1 0 (S.getD j default).length]/\σ.aa[id]?=some (.arr 1 (aX (S.getD j default)))/\¬ kp id):cL σ kp (.tree 1 (rowsOf aQ S)) (.ref oi 1 0 S.length) :=
 cL.mk ho hA.symm hk (gr _) (kQ.AY (f:=fun _=>[]) (g:=fun _=>[]) (by simp[rowsOf,hA]) fun j c d hc hd=>by
  unfold rowsOf at hc;rw[List.getElem?_map]at hc;have hj:j<S.length:=by
   cases hb:S[j]? with
   |none=>rw[hb]at hc;cases hc
   |some b=>exact(List.getElem?_eq_some_iff.1 hb).1
  obtain⟨id,h1,h2,h3⟩:=h j hj;rw[h1]at hd;simp only[Option.some.injEq]at hd;subst hd;rw[List.getElem?_eq_getElem hj]at hc;simp only[Option.map_some,Option.some.injEq]at hc;subst hc;have e2:S.getD j default=S[j]:=by rw[List.getD_eq_getElem?_getD,List.getElem?_eq_getElem hj];rfl
  rw[e2]at h2 ⊢;exact⟨Vn h2 h3,trivial⟩)
def eA.ajg(x:Ob):eA [(1,.arr 1 []),(0,x)] [] [] [x,.arr 1 []]:=⟨GF,rfl,GF,(show([1,0]:List Nat).Nodup by decide)⟩
def eA.Cu{D:List (Nat×Nat)}{S:List (List Bool)}{os:List Ob}{oi:Nat}(h:eA [(oi,.arr 1 (rowsOf nA D))] D S os)(e:Nat->AV):
  pF 0 ⟨e,os⟩ (.ref oi 1 0 S.length) (.ref 0 1 0 S.length) (.arr 1 (lD 1 S)::qY S):=by
 have hd:=h.len;have h1:=h.base (oi,.arr 1 (rowsOf nA D)) GF;dsimp only at h1;have hl:∀ i∈oi::D.map (·.1),i<os.length:=λi hi=>by
  rcases cB.1 hi with rfl|hi
  ·exact(a8.1 h1).1
  obtain⟨q,hq,rfl⟩:=cz.1 hi;obtain⟨k,hk,rfl⟩:=uz.1 hq;have h3:=(h.row k hk).1;have a1:D.getD k default=D[k]:=by simp[hk]
  rw[a1]at h3;exact(a8.1 h3).1
 have Nu:∀ j,j<S.length->bL os.length (oi::D.map (·.1)) (1+j)=(D.getD j default).1:=λj hj=>by
  unfold bL;rw[if_pos aar,show 1+j=j+1 by omega,fU,aA,cj,aA,bK GC];rfl
 refine⟨oi::D.map (·.1),false,by simpa using h.nd,by simp[I',hd],λj o hj=>.inr ?_,hl,GF,λi hi=>?_,.eq ?_⟩
 ·match j with
  |0 =>
   simp only[vP,dI.injEq]at hj;subst hj;refine h1.trans (congrArg some ?_);rw[cg];refine congrArg _ (kq λi=>?_);rw[cj];by_cases hi:i<S.length
   ·rw[Jb h hi,Fw 1 S i hi,fl,dg,kJ,bC,Nu i hi]
   ·rw[dW (by simp[rowsOf];omega),dW (by rw[Ja];omega)];rfl
  |j+1 =>
   simp only[vR]at hj;have lK:j<S.length:=by have:=(a8.1 hj).1;rwa [I']at this
   have h3:=(h.row j GC).1;unfold qY at hj;rw[cj,bK lK]at hj;simp only[fl,dI.injEq]at hj;subst hj;rw[Aj];have e1:(oi::D.map (·.1)).getD (j+1) 0=(D.getD j default).1:=by
    rw[fU,aA,cj,aA,bK GC];rfl
   have e2:S.getD j default=S[j]:=by rw[aA,bK lK];rfl
   rw[e1,<- e2];exact h3
 ·omega
 ·rw[bC];have:bL os.length (oi::D.map (·.1)) 0=oi:=by unfold bL;rw[if_pos GF];rfl
  rw[this]
def eA.setRow{B:List (Nat×Ob)}{D:List (Nat×Nat)}{S:List (List Bool)}{os:List Ob}(h:eA B D S os){j:Nat}(hj:j<S.length){r:List Bool}(hr:r.length=(S.getD j default).length):
  eA B D (S.set j r) (os.set (D.getD j default).1 (.arr 1 (aX r))):=by
 have tG:j<D.length:=by rw[h.len];exact hj
 have bX:=vX.1 h.nd;have hDj:D.getD j default=D[j]:=by simp[tG]
 have bO:(D.getD j default).1∈D.map (·.1):=by rw[hDj];exact cz.2 ⟨_,List.getElem_mem tG,rfl⟩
 refine⟨λb hb=>?_,by rw[bF];exact h.len,λk hk=>?_,h.nd⟩
 ·rw[bR ?_]
  ·exact h.base b hb
  ·intro e;exact bX.2.2 _ (cz.2 ⟨b,hb,rfl⟩) _ bO e.symm
 ·obtain⟨h1,h2⟩:=h.row k hk;by_cases e:k=j
  ·subst e;have br:=(a8.1 h1).1;have hg:(S.set k r).getD k default=r:=by rw[aA,cA,if_pos rfl,if_pos hj];rfl
   rw[cA,if_pos rfl,if_pos br,hg];exact⟨rfl,hr.trans h2⟩
  ·have hg:(S.set j r).getD k default=S.getD k default:=by rw[aA,bR (Ne.symm e),<- aA]
   rw[hg,bR ?_]
   ·exact⟨h1,h2⟩
   ·intro e2;have hDk:D.getD k default=D[k]:=by simp[hk]
    rw[hDj,hDk]at e2;have hp:=List.pairwise_iff_getElem.1 bX.2.1;rcases Nat.lt_or_gt_of_ne e with hl|hl
    ·exact hp k j (by simpa using hk) (by simpa using tG) hl (by simpa using e2.symm)
    ·exact hp j k (by simpa using tG) (by simpa using hk) hl (by simpa using e2)
end T

