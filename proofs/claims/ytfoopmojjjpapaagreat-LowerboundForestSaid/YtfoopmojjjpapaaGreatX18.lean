import Derived.Test.YtfoopmojjjpapaaGreatX17
import Derived.Test.YtfoopmojjjpapaaGreatX15
set_option linter.all false
set_option maxHeartbeats 0
set_option maxRecDepth 20000
open Nat renaming le_refl→aU,sub_zero→tJ,le_trans→tP,lt_or_ge→dw,zero_le→aS,mul_le_mul_right→lh,add_mul→eT,one_mul→uU,mul_le_mul→xM
open List renaming replicate→aI,getElem?_set_ne→fN,mem_map→b6,length_set→bH,getD_eq_getElem?_getD→az,getElem?_set→bU,getElem_map→CX,length_append→bI,mem_cons→a8,mem_append_left→CY,mem_append_right→xP,map_append→dJ,mem_cons_of_mem→dx,length_cons→cV,getElem?_eq_none→fY,append_assoc→bw
open Int renaming mul_nonneg→tQ
open Go Go.Am Go.Proofs
namespace T
structure WS where
 own:List (List Int)
 aC:List (List Int)
 am:List (List Int×Int)
 deriving Inhabited
def eZ(k:List Int):List (List Int×Int)->Int
 |[]=>0
 |p::r=>if p.1=k then p.2 else eZ k r
def fW(k:List Int)(v:Int):List (List Int×Int)->List (List Int×Int)
 |[]=>[(k,v)]
 |p::r=>if p.1=k then(k,v)::r else p::fW k v r
def mE(am:List (List Int×Int)):List (List Int×AV):=am.map λp=>(p.1,OJ p.2)
def L9(k:List Int):∀ (am:List (List Int×Int)) (i:Nat),
  (∀ j,iz k (mE am) i=some j->i<=j/\∃ p,am[j-i]?=some p/\p.1=k/\p.2=eZ k am/\∀ v,(mE am).set (j-i) (k,OJ v)=mE (fW k v am)) /\
  (iz k (mE am) i=none->eZ k am=0/\∀ v,mE am++[(k,OJ v)]=mE (fW k v am))
 |[],i=>⟨λj h=>(by cases h),λ_=>⟨rfl,λ_=>rfl⟩⟩
 |p::r,i=>by
  obtain⟨h1,h2⟩:=L9 k r (i+1);have e:iz k (mE (p::r)) i=if p.1=k then some i else iz k (mE r) (i+1):=rfl;rw[e];by_cases hp:p.1=k
  ·rw[if_pos hp];refine⟨λj hj=>?_,λh=>(by cases h)⟩;cases hj;refine⟨aU _,p,Fl,hp,by rw[eZ,if_pos hp],λv=>?_⟩;rw[Nat.sub_self,fW,if_pos hp];rfl
  ·rw[if_neg hp];refine⟨λj hj=>?_,λh=>?_⟩
   ·obtain⟨a1,q,a2,a3,a4,a5⟩:=h1 j hj;have e2:j-i=(j-(i+1))+1:=CZ;refine⟨CZ,q,by rw[e2,List.getElem?_cons_succ];exact a2,a3,by rw[eZ,if_neg hp];exact a4,λv=>?_⟩;rw[e2,fW,if_neg hp];show _::(mE r).set _ _=_::mE _;rw[a5]
   ·obtain⟨b1,b2⟩:=h2 h;refine⟨by rw[eZ,if_neg hp];exact b1,λv=>?_⟩;rw[fW,if_neg hp];show _::(mE r++_)=_::mE _;rw[b2]
def ahO(k:List Int)(am:List (List Int×Int)):(mn k (mE am)).getD (OJ 0)=OJ (eZ k am):=by
 obtain⟨h1,h2⟩:=L9 k am 0;unfold mn;cases h:iz k (mE am) 0 with
 |none=>rw[(h2 h).1];rfl
 |some j =>
  obtain⟨_,p,a2,a3,a4,_⟩:=h1 j h;rw[tJ]at a2;simp[mE,a2,a4]
def ahP(k:List Int)(v:Int)(am:List (List Int×Int)):Am.eU k (OJ v) (mE am)=mE (fW k v am):=by
 obtain⟨h1,h2⟩:=L9 k am 0;unfold Am.eU;cases h:iz k (mE am) 0 with
 |none=>exact(h2 h).2 v
 |some j =>
  obtain⟨_,p,_,_,_,a5⟩:=h1 j h;rw[tJ]at a5;exact a5 v
section
variable (m:aj)
def bN(p:Nat):Pr:=m.ae.getD p default
def ah(p s:Nat):Nat:=(if s=0 then(bN m p).fst else(bN m p).snd).toNat
def aD(c:Nat):Nat:=(m.cls.getD c default).length
def gJ(p s o k:Nat):Nat:=if s=1 then k*aD m (ah m p 1)+o else o*aD m (ah m p 1)+k
def ef(p s o:Nat):List Int:=[(p:Int),(s:Int),(o:Int)]
def oI(W:WS)(p s o:Nat)(amt:Int):Int:=min (max (eZ (ef p s o) W.am+amt) (-268435456)) 268435456
def iC(p s o:Nat)(d:Int):Nat->List Int->List Int
 |0,t=>t
 |k+1,t=>if(bN m p).aC.getD (gJ m p s o k) 0≠1099511627776 then(iC p s o d k t).set (gJ m p s o k) ((iC p s o d k t).getD (gJ m p s o k) 0-d) else iC p s o d k t
def dv(W:WS)(c o:Nat):Int:=(W.own.getD c default).getD o 0
def kG(W:WS)(p j:Nat):Int:=(W.aC.getD p default).getD j 0
def jI(W:WS)(p s o:Nat)(amt:Int):WS :=
  ⟨W.own.set (ah m p s) ((W.own.getD (ah m p s) default).set o (dv W (ah m p s) o+(oI W p s o amt-eZ (ef p s o) W.am))),
   W.aC.set p (iC m p s o (oI W p s o amt-eZ (ef p s o) W.am) (aD m (ah m p (1-s))) (W.aC.getD p default)),
   fW (ef p s o) (oI W p s o amt) W.am⟩
variable (can:List (List Bool))
def c4(c i:Nat):Bool:=(can.getD c default).getD i false
def fi(W:WS)(p s:Nat):Nat->WS
 |0=>W
 |i+1=>if c4 can (ah m p s) i=true then jI m (fi W p s i) p s i (-(dv (fi W p s i) (ah m p s) i)) else fi W p s i
def fl(W:WS)(p s k:Nat):Nat->Int
 |0=>1099511627776
 |i+1=>if c4 can (ah m p s) i=true/\(bN m p).aC.getD (gJ m p s i k) 0≠1099511627776 then min (fl W p s k i) (kG W p (gJ m p s i k)) else fl W p s k i
def yv(n:Int):Int:=if n=1099511627776 then 134217728 else n
def ec(W:WS)(p s:Nat):Nat->WS
 |0=>W
 |k+1=>if c4 can (ah m p (1-s)) k=true then jI m (ec W p s k) p (1-s) k (yv (fl m can (ec W p s k) p s k (aD m (ah m p s)))) else ec W p s k
def qB(W:WS)(p s:Nat):WS:=ec m can (fi m can W p s (aD m (ah m p s))) p s (aD m (ah m p (1-s)))
def lU(t:List Int)(a:Nat)(dV:Int):Nat->List Int
 |0=>t
 |i+1=>if(lU t a dV i).getD i 0=dV then(lU t a dV i).set i ((lU t a dV i).getD a 0) else lU t a dV i
def BH(t:List Int×List (List Int))(p:Nat):List Int×List (List Int) :=
 let a:=ah m p 0
 let b:=ah m p 1
 if t.1.getD a 0=t.1.getD b 0 then t else(lU t.1 a (t.1.getD b 0) t.1.length,(t.2.set a (t.2.getD a default++[(p:Int)])).set b (t.2.getD b default++[(p:Int)]))
def jY(round:Nat):Nat->List Int×List (List Int)
 |0=>((List.range m.cls.length).map λ(i:Nat)=>(i:Int),aI m.cls.length [])
 |k+1=>BH m (jY round k) ((k+round)%m.ae.length)
def uA(up:WS×List Bool->Nat->WS×List Bool)(st:WS×List Bool)(p s:Nat):WS×List Bool :=
 if st.2.getD (ah m p s) false=true then st else(qB m can (up st (ah m p s)).1 p s,(up st (ah m p s)).2)
def gI(bJ:List (List Int)):Nat->WS×List Bool->Nat->WS×List Bool
 |0,st,_=>st
 |f+1,st,c=>(bJ.getD c default).foldl (λst p=>uA m can (gI bJ f) (uA m can (gI bJ f) st p.toNat 0) p.toNat 1) (st.1,st.2.set c true)
def kW(bJ:List (List Int))(st:WS×List Bool):Nat->WS×List Bool
 |0=>st
 |c+1=>let q:=kW bJ st c
  if q.2.getD c false=true then q else gI m can bJ (m.cls.length+1) q c
def nf(W:WS)(round:Nat):WS:=(kW m can (jY m round m.ae.length).2 (W,aI m.cls.length false) m.cls.length).1
end
def dF(q:Nat×Nat):List AV:=[if q.2=0 then .tree 1 [] else .ref q.1 1 0 q.2]
def L3{q:Nat×Nat}(h:q.2=0):dF q=[.tree 1 []]:=by unfold dF;rw[if_pos h]
def z'{q:Nat×Nat}(h:0<q.2):dF q=[.ref q.1 1 0 q.2]:=by unfold dF;rw[if_neg CZ]
structure R1(os:List Ob)(D:List (Nat×Nat))(S:List (List Int)):Prop where
 len:D.length=S.length
 row:∀ j,j<D.length->(S.getD j default).length=(D.getD j default).2/\(0<(D.getD j default).2->os[(D.getD j default).1]?=some (.arr 1 (ints (S.getD j default))))
def R1.nil{os:List Ob}:R1 os [] []:=⟨rfl,Fl⟩
def R1.app{os:List Ob}{D:List (Nat×Nat)}{S:List (List Int)}(h:R1 os D S)(l:List Ob):R1 (os++l) D S :=
 ⟨h.len,λj hj=>⟨(h.row j hj).1,λh0=>aM ((h.row j hj).2 h0) l⟩⟩
def R1.other{os:List Ob}{D:List (Nat×Nat)}{S:List (List Int)}(h:R1 os D S){i:Nat}(hi:i ∉ D.map (·.1)){y:Ob}:R1 (os.set i y) D S :=
 ⟨h.len,λk hk=>⟨(h.row k hk).1,λh0=>by
  rw[fN (λe=>hi (b6.2 ⟨D.getD k default,aF hk,e.symm⟩))];exact(h.row k hk).2 h0⟩⟩
def R1.set{os:List Ob}{D:List (Nat×Nat)}{S:List (List Int)}(h:R1 os D S)(hn:(D.map (·.1)).Nodup){j:Nat}(hj:j<D.length)(h0:0<(D.getD j default).2){r:List Int}(hr:r.length=(S.getD j default).length):R1 (os.set (D.getD j default).1 (.arr 1 (ints r))) D (S.set j r) :=
 ⟨by rw[bH];exact h.len,λk hk=>by
  by_cases e:k=j
  ·subst e;have:(S.set k r).getD k default=r:=by rw[az,bU];simp[<- h.len,hk]
   rw[this];exact⟨hr.trans (h.row k hk).1,λh0=>lS ((h.row k hk).2 h0)⟩
  ·have:(S.set j r).getD k default=S.getD k default:=by rw[az,fN (λe'=>e e'.symm),az]
   rw[this];have bX:(D.getD j default).1≠(D.getD k default).1:=λhh=>e ((List.getElem_inj (h₀:=by simpa using hk) (h₁:=by simpa using hj) hn).1 (by
    rw[CX,CX];have a1:D[k]=D.getD k default:=by simp[hk]
    have a2:D[j]=D.getD j default:=by simp[hj]
    rw[a1,a2];exact hh.symm))
   rw[fN bX];exact h.row k hk⟩
structure WF(m:aj)(can:List (List Bool))(gi ai bi mi:Nat)(D E:List (Nat×Nat))(W:WS)(os:List Ob):Prop where
 v:os[gi]?=some (.var (ay m++[.tree 1 (rowsOf aE can),.ref ai 1 0 D.length,.ref bi 1 0 E.length,.db mi]))
 a:os[ai]?=some (.arr 1 (rowsOf dF D))
 b:os[bi]?=some (.arr 1 (rowsOf dF E))
 mp:os[mi]?=some (.mp 3 (mE W.am))
 rD:R1 os D W.own
 rE:R1 os E W.aC
 nd:(gi::ai::bi::mi::(D++E).map (·.1)).Nodup
 lt:∀ i∈(D++E).map (·.1),i<os.length
section
variable {m:aj} {can:List (List Bool)} {gi ai bi mi:Nat} {D E:List (Nat×Nat)} {W:WS} {os:List Ob}
def WF.app(h:WF m can gi ai bi mi D E W os)(l:List Ob):WF m can gi ai bi mi D E W (os++l):=⟨aM h.v l,aM h.a l,aM h.b l,aM h.mp l,h.rD.app l,h.rE.app l,h.nd,λi hi=>by rw[bI];have:=h.lt i hi;omega⟩
def WF.out(h:WF m can gi ai bi mi D E W os):gi≠mi/\ai≠mi/\bi≠mi/\(∀ j,j<D.length->∀ k,k=gi\/k=ai\/k=bi\/k=mi->(D.getD j default).1≠k)/\(∀ j,j<E.length->∀ k,k=gi\/k=ai\/k=bi\/k=mi->(E.getD j default).1≠k) /\
  mi ∉ D.map (·.1)/\mi ∉ E.map (·.1)/\((D++E).map (·.1)).Nodup:=by
 have hn:=h.nd;simp only[List.nodup_cons,a8,not_or]at hn;obtain⟨⟨g1,g2,g3,g4⟩,⟨a1,a2,a3⟩,⟨b1,b2⟩,m1,hr⟩:=hn;have inD:∀ j,j<D.length->(D.getD j default).1∈(D++E).map (·.1):=λj hj=>b6.2 ⟨_,CY _ (aF hj),rfl⟩;have inE:∀ j,j<E.length->(E.getD j default).1∈(D++E).map (·.1):=λj hj=>b6.2 ⟨_,xP _ (aF hj),rfl⟩;refine⟨g3,a2,b1,λj hj k hk e=>?_,λj hj k hk e=>?_,λhh=>m1 ?_,λhh=>m1 ?_,hr⟩
 ·have:=inD j hj;rw[e]at this;rcases hk with rfl|rfl|rfl|rfl
  ·exact g4 this
  ·exact a3 this
  ·exact b2 this
  ·exact m1 this
 ·have:=inE j hj;rw[e]at this;rcases hk with rfl|rfl|rfl|rfl
  ·exact g4 this
  ·exact a3 this
  ·exact b2 this
  ·exact m1 this
 ·rw[dJ];exact CY _ hh
 ·rw[dJ];exact xP _ hh
def eY{os:List Ob}{i j:Nat}{o y:Ob}(h:os[i]?=some o)(bX:j≠i):(os.set j y)[i]?=some o:=by rw[fN bX];exact h
def WF.LW(h:WF m can gi ai bi mi D E W os)(am:List (List Int×Int)):WF m can gi ai bi mi D E { W with am:=am } (os.set mi (.mp 3 (mE am))):=by
 obtain⟨h1,h2,h3,h4,h5,h6,h7,h8⟩:=h.out;exact⟨eY h.v h1.symm,eY h.a h2.symm,eY h.b h3.symm,lS h.mp,h.rD.other h6,h.rE.other h7,h.nd,λi hi=>by rw[bH];exact h.lt i hi⟩
def WF.Aa(h:WF m can gi ai bi mi D E W os){j:Nat}(hj:j<D.length)(h0:0<(D.getD j default).2){r:List Int}(hr:r.length=(W.own.getD j default).length):WF m can gi ai bi mi D E { W with own:=W.own.set j r } (os.set (D.getD j default).1 (.arr 1 (ints r))):=by
 obtain⟨h1,h2,h3,h4,h5,h6,h7,h8⟩:=h.out;obtain⟨n1,n2,n3,n4⟩:=Hz h8;have k:=h4 j hj;exact⟨eY h.v (k _ Fl),eY h.a (k _ Fl),eY h.b (k _ Fl),eY h.mp (k _ Fl),h.rD.set n1 hj h0 hr,h.rE.other (n3 j hj),h.nd,λi hi=>by rw[bH];exact h.lt i hi⟩
def WF.yu(h:WF m can gi ai bi mi D E W os){j:Nat}(hj:j<E.length)(h0:0<(E.getD j default).2){r:List Int}(hr:r.length=(W.aC.getD j default).length):WF m can gi ai bi mi D E { W with aC:=W.aC.set j r } (os.set (E.getD j default).1 (.arr 1 (ints r))):=by
 obtain⟨h1,h2,h3,h4,h5,h6,h7,h8⟩:=h.out;obtain⟨n1,n2,n3,n4⟩:=Hz h8;have k:=h5 j hj;exact⟨eY h.v (k _ Fl),eY h.a (k _ Fl),eY h.b (k _ Fl),eY h.mp (k _ Fl),h.rD.other (n4 j hj),h.rE.set n2 hj h0 hr,h.nd,λi hi=>by rw[bH];exact h.lt i hi⟩
end
structure Kp(mi:Nat)(D E:List (Nat×Nat))(os ob:List Ob):Prop where
 len:os.length<=ob.length
 same:∀ i o,i≠mi->i ∉ (D++E).map (·.1)->os[i]?=some o->ob[i]?=some o
def Kp.refl(mi:Nat)(D E:List (Nat×Nat))(os:List Ob):Kp mi D E os os:=⟨aU _,λ_ _ _ _ h=>h⟩
def Kp.trans{mi:Nat}{D E:List (Nat×Nat)}{os o1 o2:List Ob}(h:Kp mi D E os o1)(k:Kp mi D E o1 o2):Kp mi D E os o2 :=
 ⟨tP h.len k.len,λi o h1 h2 h3=>k.same i o h1 h2 (h.same i o h1 h2 h3)⟩
def Kp.app{mi:Nat}{D E:List (Nat×Nat)}{os o1:List Ob}(h:Kp mi D E os o1)(l:List Ob):Kp mi D E os (o1++l) :=
 ⟨by rw[bI];exact tP h.len (Nat.le_add_right _ _),λi o h1 h2 h3=>aM (h.same i o h1 h2 h3) l⟩
def Kp.LW{mi:Nat}{D E:List (Nat×Nat)}{os o1:List Ob}(h:Kp mi D E os o1)(y:Ob):Kp mi D E os (o1.set mi y) :=
 ⟨by rw[bH];exact h.len,λi o h1 h2 h3=>eY (h.same i o h1 h2 h3) (λe=>h1 e.symm)⟩
def Kp.Aa{mi:Nat}{D E:List (Nat×Nat)}{os o1:List Ob}(h:Kp mi D E os o1){j:Nat}(hj:j<D.length)(y:Ob):Kp mi D E os (o1.set (D.getD j default).1 y) :=
 ⟨by rw[bH];exact h.len,λi o h1 h2 h3=>eY (h.same i o h1 h2 h3) (λe=>h2 (b6.2 ⟨_,CY _ (aF hj),e⟩))⟩
def Kp.yu{mi:Nat}{D E:List (Nat×Nat)}{os o1:List Ob}(h:Kp mi D E os o1){j:Nat}(hj:j<E.length)(y:Ob):Kp mi D E os (o1.set (E.getD j default).1 y) :=
 ⟨by rw[bH];exact h.len,λi o h1 h2 h3=>eY (h.same i o h1 h2 h3) (λe=>h2 (b6.2 ⟨_,xP _ (aF hj),e⟩))⟩
structure jx(m:aj)(W:WS):Prop where
 ol:W.own.length=m.cls.length
 tl:W.aC.length=m.ae.length
 or:∀ i,i<m.cls.length->(W.own.getD i default).length=aD m i
 tr:∀ j,j<m.ae.length->(W.aC.getD j default).length=(bN m j).aC.length
 ky:∀ q∈W.am,∃ p s o:Int,q.1=[p,s,o]
structure WB(B:Int)(W:WS):Prop where
 ob:∀ c o,-B<=dv W c o/\dv W c o<=B
 tb:∀ p j,-B<=kG W p j/\kG W p j<=B
 ab:∀ k,-268435456<=eZ k W.am/\eZ k W.am<=268435456
 al:12884901888*(W.am.length:Int)<=B
def WB.mono{B C:Int}{W:WS}(h:WB B W)(hBC:B<=C):WB C W:=⟨λc o=>by have:=h.ob c o;omega,λp j=>by have:=h.tb p j;omega,h.ab,by have:=h.al;omega⟩
section
variable {m:aj} {can:List (List Bool)} {W:WS}
def BS(p s o:Nat)(d:Int):∀ (k:Nat) (t:List Int),(iC m p s o d k t).length=t.length
 |0,t=>rfl
 |k+1,t=>by
  rw[iC];split
  ·rw[bH,BS]
  ·exact BS p s o d k t
def BO(l:List Int)(i j:Nat)(x:Int):(l.set i x).getD j 0=if i=j/\j<l.length then x else l.getD j 0:=by
 simp only[az,bU];by_cases h:i=j
 ·subst h;by_cases h2:i<l.length
  ·simp[h2]
  ·simp[h2]
 ·simp[h]
def LY{p s o:Nat}{d B:Int}(hB:0<=B)(hd : -536870912<=d/\d<=536870912):∀ (k:Nat) (t:List Int),(∀ j,-B<=t.getD j 0/\t.getD j 0<=B)->∀ j,-(B+536870912*k)<=(iC m p s o d k t).getD j 0/\(iC m p s o d k t).getD j 0<=B+536870912*k
 |0,t,h,j=>by have:=h j;rw[iC];omega
 |k+1,t,h,j=>by
  have h1:=LY (p:=p) (s:=s) (o:=o) hB hd k t h;rw[iC];split
  ·rw[BO];split
   ·have:=h1 (gJ m p s o k);push_cast;omega
   ·have:=h1 j;push_cast;omega
  ·have:=h1 j;push_cast;omega
def HA(k k':List Int)(v:Int):∀ am:List (List Int×Int),eZ k' (fW k v am)=if k'=k then v else eZ k' am
 |[]=>by
  show(if k=k' then v else 0)=_;by_cases h:k'=k
  ·rw[if_pos h,if_pos h.symm]
  ·rw[if_neg h,if_neg (λe=>h e.symm)];rfl
 |p::r=>by
  rw[fW];split
  ·rename_i hp;show(if k=k' then v else eZ k' r)=_;by_cases h:k'=k
   ·rw[if_pos h,if_pos h.symm]
   ·rw[if_neg h,if_neg (λe=>h e.symm),eZ,if_neg (λe=>h (e.symm.trans hp))]
  ·rename_i hp;show(if p.1=k' then p.2 else eZ k' (fW k v r))=_;rw[HA k k' v r];by_cases h:k'=k
   ·rw[if_pos h,if_neg (λe=>hp (e.trans h)),if_pos h]
   ·rw[if_neg h,if_neg h];rfl
def Vn{k:List Int}{v:Int}:∀ {am:List (List Int×Int)} {q:List Int×Int},q∈fW k v am->q∈am\/q.1=k
 |[],q,h=>by rw[fW,List.mem_singleton]at h;subst h;exact .inr rfl
 |p::r,q,h=>by
  rw[fW]at h;split at h
  ·rcases a8.1 h with rfl|h
   ·exact .inr rfl
   ·exact .inl (dx _ h)
  ·rcases a8.1 h with rfl|h
   ·exact .inl (List.mem_cons_self ..)
   ·rcases Vn h with h|h
    ·exact .inl (dx _ h)
    ·exact .inr h
def Vo(k:List Int)(v:Int):∀ am:List (List Int×Int),(fW k v am).length<=am.length+1
 |[]=>aU _
 |p::r=>by
  rw[fW];split
  ·simp
  ·have:=Vo k v r;simp only[cV];omega
def LV(W:WS)(p s o:Nat)(amt:Int): -268435456<=oI W p s o amt/\oI W p s o amt<=268435456:=by unfold oI;omega
def vN{α:Type}(l:List α)(i j:Nat)(x d:α):(l.set i x).getD j d=if i=j/\j<l.length then x else l.getD j d:=by
 simp only[az,bU];by_cases h:i=j
 ·subst h;by_cases h2:i<l.length
  ·simp[h2]
  ·simp[h2]
 ·simp[h]
def jx.move(h:jx m W)(p s o:Nat)(amt:Int):jx m (jI m W p s o amt):=by
 unfold jI;refine⟨by simp[h.ol],by simp[h.tl],λi hi=>?_,λj hj=>?_,λq hq=>?_⟩
 ·dsimp only;rw[vN];split
  ·rename_i e;rw[bH,e.1];exact h.or i hi
  ·exact h.or i hi
 ·dsimp only;rw[vN];split
  ·rename_i e;rw[BS,e.1];exact h.tr j hj
  ·exact h.tr j hj
 ·rcases Vn hq with h1|h1
  ·exact h.ky q h1
  ·exact⟨_,_,_,h1⟩
def WB.move{B:Int}(hm:VM m)(hB:0<=B)(h:WB B W)(p s o:Nat)(amt:Int):WB (B+12884901888) (jI m W p s o amt):=by
 have hn:=LV W p s o amt;have ha:=h.ab (ef p s o);have aO:aD m (ah m p (1-s))<=24:=by
  unfold aD;rcases dw (ah m p (1-s)) m.cls.length with h1|h1
  ·exact hm.opt _ (aF h1)
  ·rw[az,fY h1];exact aS _
 unfold jI;generalize oI W p s o amt=n at *;refine⟨λc o'=>?_,λq j=>?_,λk=>?_,by have h1:=Vo (ef p s o) n W.am;have h2:=h.al;dsimp only;omega⟩
 ·unfold dv;dsimp only;rw[vN];split
  ·rw[BO];split
   ·have:=h.ob (ah m p s) o;unfold dv at this;omega
   ·have:=h.ob (ah m p s) o';unfold dv at this;omega
  ·have:=h.ob c o';unfold dv at this;omega
 ·unfold kG;dsimp only;rw[vN];split
  ·have:=LY (m:=m) (p:=p) (s:=s) (o:=o) (d:=n-eZ (ef p s o) W.am) hB CZ (aD m (ah m p (1-s))) (W.aC.getD p default) (λj=>h.tb p j) j;omega
  ·have:=h.tb q j;unfold kG at this;omega
 ·dsimp only;rw[HA];split
  ·exact hn
  ·exact h.ab k
def BU(h:jx m W)(p s:Nat):∀ i,jx m (fi m can W p s i)
 |0=>h
 |i+1=>by
  rw[fi];split
  ·exact(BU h p s i).move _ _ _ _
  ·exact BU h p s i
def L1(hm:VM m){B:Int}(hB:0<=B)(h:WB B W)(p s:Nat):∀ i:Nat,WB (B+12884901888*i) (fi m can W p s i)
 |0=>h.mono CZ
 |i+1=>by
  have h1:=L1 hm hB h p s i;rw[fi];split
  ·exact(h1.move hm CZ _ _ _ _).mono (by push_cast;omega)
  ·exact h1.mono (by push_cast;omega)
def Ea(h:jx m W)(p s:Nat):∀ i,jx m (ec m can W p s i)
 |0=>h
 |i+1=>by
  rw[ec];split
  ·exact(Ea h p s i).move _ _ _ _
  ·exact Ea h p s i
def L5(hm:VM m){B:Int}(hB:0<=B)(h:WB B W)(p s:Nat):∀ i:Nat,WB (B+12884901888*i) (ec m can W p s i)
 |0=>h.mono CZ
 |i+1=>by
  have h1:=L5 hm hB h p s i;rw[ec];split
  ·exact(h1.move hm CZ _ _ _ _).mono (by push_cast;omega)
  ·exact h1.mono (by push_cast;omega)
def U'{B:Int}(hB:0<=B)(h:WB B W)(p s k:Nat):∀ i:Nat,-B<=fl m can W p s k i/\fl m can W p s k i<=1099511627776
 |0=>by rw[fl];omega
 |i+1=>by
  have h1:=U' hB h p s k i;rw[fl];split
  ·have:=h.tb p (gJ m p s i k);omega
  ·exact h1
def Vl(h:jx m W)(p s:Nat):jx m (qB m can W p s):=Ea (BU h p s _) p s _
def z7(hm:VM m)(c:Nat):aD m c<=24:=by
 unfold aD;rcases dw c m.cls.length with h1|h1
 ·exact hm.opt _ (aF h1)
 ·rw[az,fY h1];exact aS _
def Vm(hm:VM m){B:Int}(hB:0<=B)(h:WB B W)(p s:Nat):WB (B+618475290624) (qB m can W p s):=by
 have h1:=z7 hm (ah m p s);have h2:=z7 hm (ah m p (1-s));exact(L5 hm CZ (L1 (can:=can) hm hB h p s _) p s _).mono CZ
end
def Vp{k k' i i' n:Nat}(hi:i<n)(aq:i'<n)(h:k*n+i=k'*n+i'):k=k'/\i=i':=by
 have h1:k=k':=by
  rcases Nat.lt_trichotomy k k' with h2|h2|h2
  ·have:=lh n (show k+1<=k' by omega);rw[eT,uU]at this;omega
  ·exact h2
  ·have:=lh n (show k'+1<=k by omega);rw[eT,uU]at this;omega
 subst h1;exact⟨rfl,CZ⟩
def Vq{k i a n:Nat}(hk:k<a)(hi:i<n):k*n+i<a*n:=by
 have:=lh n (show k+1<=a by omega);rw[eT,uU]at this;omega
def Vr{p s o p' s' o':Nat}(h:ef p s o=ef p' s' o'):p=p'/\s=s'/\o=o':=by
 unfold ef at h;simp only[List.cons.injEq,and_true]at h;omega
structure ni(m:aj)(p:Nat):Prop where
 tl:(bN m p).aC.length=aD m (ah m p 0)*aD m (ah m p 1)
 tb:∀ j,0<=(bN m p).aC.getD j 0/\(bN m p).aC.getD j 0<=38
 hp:p<m.ae.length
 ha:ah m p 0<m.cls.length
 hb:ah m p 1<m.cls.length
 ab:ah m p 0≠ah m p 1
def ek(m:aj)(W:WS)(p k i:Nat):Int:=kG W p (k*aD m (ah m p 1)+i)
def Ed(W:WS)(p s o:Nat)(amt:Int):Int:=oI W p s o amt-eZ (ef p s o) W.am
def Vs{W:WS}{p s o:Nat}{amt:Int}(h:eZ (ef p s o) W.am=0)(hb : -268435456<=amt/\amt<=268435456):Ed W p s o amt=amt:=by
 unfold Ed oI;rw[h];omega
section
variable {m:aj} {can:List (List Bool)} {W:WS} {p:Nat}
def HB(o j:Nat):gJ m p 1 o j=j*aD m (ah m p 1)+o:=by unfold gJ;rw[if_pos rfl]
def ah8(o j:Nat):gJ m p 0 o j=o*aD m (ah m p 1)+j:=by unfold gJ;rw[if_neg Fs]
def Vt(h:ni m p)(d:Int){o:Nat}(ho:o<aD m (ah m p 1)):∀ n,n<=aD m (ah m p 0)->∀ t:List Int,t.length=aD m (ah m p 0)*aD m (ah m p 1)->∀ k i,k<aD m (ah m p 0)->i<aD m (ah m p 1) ->
  (iC m p 1 o d n t).getD (k*aD m (ah m p 1)+i) 0=t.getD (k*aD m (ah m p 1)+i) 0-if i=o/\k<n then d else 0
 |0,_,t,_,k,i,_,_=>by rw[iC,if_neg CZ];omega
 |n+1,hn,t,ht,k,i,hk,hi=>by
  have hl:=Vq hk hi;have ih:=Vt h d ho n CZ t ht;rw[iC,if_pos (by have:=h.tb (gJ m p 1 o n);omega),HB,BO,BS,ht];by_cases e:n*aD m (ah m p 1)+o=k*aD m (ah m p 1)+i
  ·rw[if_pos ⟨e,hl⟩];obtain⟨rfl,rfl⟩:=Vp ho hi e;rw[ih n o hk hi,if_neg CZ,if_pos ⟨rfl,CZ⟩];omega
  ·rw[if_neg (λq=>e q.1),ih k i hk hi];congr 1;by_cases e1:i=o/\k<n
   ·rw[if_pos e1,if_pos ⟨e1.1,CZ⟩]
   ·rw[if_neg e1,if_neg];rintro⟨e2,e3⟩;have:k=n:=CZ;subst this;subst e2;exact e rfl
def Vu(h:ni m p)(d:Int){o:Nat}(ho:o<aD m (ah m p 0)):∀ n,n<=aD m (ah m p 1)->∀ t:List Int,t.length=aD m (ah m p 0)*aD m (ah m p 1)->∀ k i,k<aD m (ah m p 0)->i<aD m (ah m p 1) ->
  (iC m p 0 o d n t).getD (k*aD m (ah m p 1)+i) 0=t.getD (k*aD m (ah m p 1)+i) 0-if k=o/\i<n then d else 0
 |0,_,t,_,k,i,_,_=>by rw[iC,if_neg CZ];omega
 |n+1,hn,t,ht,k,i,hk,hi=>by
  have hl:=Vq hk hi;have ih:=Vu h d ho n CZ t ht;rw[iC,if_pos (by have:=h.tb (gJ m p 0 o n);omega),ah8,BO,BS,ht];by_cases e:o*aD m (ah m p 1)+n=k*aD m (ah m p 1)+i
  ·rw[if_pos ⟨e,hl⟩];obtain⟨rfl,rfl⟩:=Vp CZ hi e;rw[ih o n hk hi,if_neg CZ,if_pos ⟨rfl,CZ⟩];omega
  ·rw[if_neg (λq=>e q.1),ih k i hk hi];congr 1;by_cases e1:k=o/\i<n
   ·rw[if_pos e1,if_pos ⟨e1.1,CZ⟩]
   ·rw[if_neg e1,if_neg];rintro⟨e2,e3⟩;have:i=n:=CZ;subst this;subst e2;exact e rfl
def Ma(hW:jx m W){s o:Nat}(hc:ah m p s<m.cls.length)(ho:o<aD m (ah m p s))(amt:Int)(c i:Nat):
  dv (jI m W p s o amt) c i=dv W c i+if c=ah m p s/\i=o then Ed W p s o amt else 0:=by
 unfold dv jI;dsimp only;rw[vN];by_cases e:ah m p s=c
 ·subst e;rw[if_pos ⟨rfl,by rw[hW.ol];exact hc⟩,BO,hW.or _ hc];by_cases e2:o=i
  ·subst e2;rw[if_pos ⟨rfl,ho⟩,if_pos ⟨rfl,rfl⟩];rfl
  ·rw[if_neg (λq=>e2 q.1),if_neg (λq=>e2 q.2.symm)];omega
 ·rw[if_neg (λq=>e q.1),if_neg (λq=>e q.1.symm)];omega
def Mb{s o:Nat}(amt:Int){q:Nat}(hq:q≠p)(j:Nat):kG (jI m W p s o amt) q j=kG W q j:=by
 unfold kG jI;dsimp only;rw[vN,if_neg (λe=>hq e.1.symm)]
def Vv(h:ni m p)(hW:jx m W){o:Nat}(ho:o<aD m (ah m p 1))(amt:Int){k i:Nat}(hk:k<aD m (ah m p 0))(hi:i<aD m (ah m p 1)):
  ek m (jI m W p 1 o amt) p k i=ek m W p k i-if i=o then Ed W p 1 o amt else 0:=by
 have hp:=h.hp;unfold ek kG jI;dsimp only;rw[vN,if_pos ⟨rfl,by rw[hW.tl];exact hp⟩,Vt h _ ho _ (aU _) _ (by rw[hW.tr p hp];exact h.tl) k i hk hi];congr 1;by_cases e:i=o
 ·rw[if_pos ⟨e,hk⟩,if_pos e];rfl
 ·rw[if_neg (λq=>e q.1),if_neg e]
def Vw(h:ni m p)(hW:jx m W){o:Nat}(ho:o<aD m (ah m p 0))(amt:Int){k i:Nat}(hk:k<aD m (ah m p 0))(hi:i<aD m (ah m p 1)):
  ek m (jI m W p 0 o amt) p k i=ek m W p k i-if k=o then Ed W p 0 o amt else 0:=by
 have hp:=h.hp;unfold ek kG jI;dsimp only;rw[vN,if_pos ⟨rfl,by rw[hW.tl];exact hp⟩,Vu h _ ho _ (aU _) _ (by rw[hW.tr p hp];exact h.tl) k i hk hi];congr 1;by_cases e:k=o
 ·rw[if_pos ⟨e,hi⟩,if_pos e];rfl
 ·rw[if_neg (λq=>e q.1),if_neg e]
def Vx(h:ni m p)(hW:jx m W)(cX:∀ i,eZ (ef p 1 i) W.am=0)(hB:∀ i,i<aD m (ah m p 1)->c4 can (ah m p 1) i=true->-268435456<=dv W (ah m p 1) i/\dv W (ah m p 1) i<=268435456):
  ∀ n,n<=aD m (ah m p 1) ->
  (∀ c i,dv (fi m can W p 1 n) c i=if c=ah m p 1/\i<n/\c4 can (ah m p 1) i=true then 0 else dv W c i) /\
  (∀ k i,k<aD m (ah m p 0)->i<aD m (ah m p 1)->ek m (fi m can W p 1 n) p k i=ek m W p k i+if i<n/\c4 can (ah m p 1) i=true then dv W (ah m p 1) i else 0) /\
  (∀ q j,q≠p->kG (fi m can W p 1 n) q j=kG W q j) /\
  (∀ q s o,¬ (q=p/\s=1/\o<n)->eZ (ef q s o) (fi m can W p 1 n).am=eZ (ef q s o) W.am)
 |0,_=>⟨λc i=>by rw[fi,if_neg CZ],λk i _ _=>by rw[fi,if_neg CZ];omega,λ_ _ _=>rfl,λ_ _ _ _=>rfl⟩
 |n+1,hn=>by
  obtain⟨h1,h2,h3,h4⟩:=Vx h hW cX hB n CZ;have hV:=BU (can:=can) hW p 1 n;rw[fi];by_cases hc:c4 can (ah m p 1) n=true
  ·rw[if_pos hc];have e1:=h1 (ah m p 1) n;rw[if_neg CZ]at e1;rw[e1];have e2:=h4 p 1 n CZ;rw[cX n]at e2;have hb:=hB n CZ hc;generalize fi m can W p 1 n=V at *;have ed:=Vs (W:=V) (amt:=-dv W (ah m p 1) n) e2 CZ;refine⟨λc i=>?_,λk i hk hi=>?_,λq j hq=>?_,λq s o hq=>?_⟩
   ·rw[Ma hV h.hb CZ,ed,h1];by_cases e3:c=ah m p 1/\i=n
    ·obtain⟨rfl,rfl⟩:=e3;rw[if_neg CZ,if_pos ⟨rfl,rfl⟩,if_pos ⟨rfl,CZ,hc⟩];omega
    ·rw[if_neg e3];by_cases e4:c=ah m p 1/\i<n/\c4 can (ah m p 1) i=true
     ·rw[if_pos e4,if_pos ⟨e4.1,CZ,e4.2.2⟩];rfl
     ·rw[if_neg e4,if_neg]
      ·omega
      ·rintro⟨a1,a2,a3⟩;by_cases a4:i=n
       ·exact e3 ⟨a1,a4⟩
       ·exact e4 ⟨a1,CZ,a3⟩
   ·rw[Vv h hV CZ _ hk hi,ed,h2 k i hk hi];by_cases e3:i=n
    ·subst e3;rw[if_neg CZ,if_pos rfl,if_pos ⟨CZ,hc⟩];omega
    ·rw[if_neg e3];by_cases e4:i<n/\c4 can (ah m p 1) i=true
     ·rw[if_pos e4,if_pos ⟨CZ,e4.2⟩];omega
     ·rw[if_neg e4,if_neg]
      ·omega
      ·rintro⟨a1,a2⟩;exact e4 ⟨CZ,a2⟩
   ·rw[Mb _ hq,h3 q j hq]
   ·show eZ _ (fW _ _ _)=_;rw[HA,if_neg (λe=>by have:=Vr e;omega),h4 q s o CZ]
  ·rw[if_neg hc];refine⟨λc i=>?_,λk i hk hi=>?_,h3,λq s o hq=>h4 q s o CZ⟩
   ·rw[h1];by_cases e4:c=ah m p 1/\i<n/\c4 can (ah m p 1) i=true
    ·rw[if_pos e4,if_pos ⟨e4.1,CZ,e4.2.2⟩]
    ·rw[if_neg e4,if_neg];rintro⟨a1,a2,a3⟩;by_cases a4:i=n
     ·subst a4;exact hc a3
     ·exact e4 ⟨a1,CZ,a3⟩
   ·rw[h2 k i hk hi];congr 1;by_cases e4:i<n/\c4 can (ah m p 1) i=true
    ·rw[if_pos e4,if_pos ⟨CZ,e4.2⟩]
    ·rw[if_neg e4,if_neg];rintro⟨a2,a3⟩;by_cases a4:i=n
     ·subst a4;exact hc a3
     ·exact e4 ⟨CZ,a3⟩
def Md(h:ni m p)(V:WS)(k:Nat):∀ n i,i<n->c4 can (ah m p 1) i=true->fl m can V p 1 k n<=ek m V p k i
 |0,i,hi,_=>CZ
 |n+1,i,hi,hc=>by
  rw[fl];by_cases e:i=n
  ·subst e;rw[if_pos ⟨hc,by have:=h.tb (gJ m p 1 i k);omega⟩,HB];unfold ek;omega
  ·have:=Md h V k n i CZ hc;split<;>omega
def Me(h:ni m p)(V:WS)(k:Nat):∀ n,fl m can V p 1 k n=1099511627776\/∃ i,i<n/\c4 can (ah m p 1) i=true/\fl m can V p 1 k n=ek m V p k i
 |0=>.inl rfl
 |n+1=>by
  rw[fl];by_cases hc:c4 can (ah m p 1) n=true
  ·rw[if_pos ⟨hc,by have:=h.tb (gJ m p 1 n k);omega⟩,HB];change min _ (ek m V p k n)=_\/∃ i,_/\_/\min _ (ek m V p k n)=_;rcases Me h V k n with h1|⟨i,h1,h2,h3⟩
   ·rw[h1];rcases Int.le_total 1099511627776 (ek m V p k n) with h4|h4
    ·exact .inl CZ
    ·exact .inr ⟨n,CZ,hc,CZ⟩
   ·rcases Int.le_total (fl m can V p 1 k n) (ek m V p k n) with h4|h4
    ·exact .inr ⟨i,CZ,h2,CZ⟩
    ·exact .inr ⟨n,CZ,hc,CZ⟩
  ·rw[if_neg (λe=>hc e.1)];rcases Me h V k n with h1|⟨i,h1,h2,h3⟩
   ·exact .inl h1
   ·exact .inr ⟨i,CZ,h2,h3⟩
def Vy(h:ni m p){U V:WS}(k:Nat):∀ n,n<=aD m (ah m p 1)->(∀ i,i<n->ek m U p k i=ek m V p k i)->fl m can U p 1 k n=fl m can V p 1 k n
 |0,_,_=>rfl
 |n+1,hn,he=>by
  rw[fl,fl,Vy h k n CZ λi hi=>he i CZ,HB];change (if _ then min _ (ek m U p k n) else _)=(if _ then min _ (ek m V p k n) else _);rw[he n CZ]
def Vz(h:ni m p){V:WS}(hV:jx m V)(cX:∀ k,eZ (ef p 0 k) V.am=0)(hL:∀ k,k<aD m (ah m p 0)->c4 can (ah m p 0) k=true->-268435456<=fl m can V p 1 k (aD m (ah m p 1))/\fl m can V p 1 k (aD m (ah m p 1))<=268435456):
  ∀ n,n<=aD m (ah m p 0) ->
  (∀ c k,dv (ec m can V p 1 n) c k=dv V c k+if c=ah m p 0/\k<n/\c4 can (ah m p 0) k=true then fl m can V p 1 k (aD m (ah m p 1)) else 0) /\
  (∀ k i,k<aD m (ah m p 0)->i<aD m (ah m p 1)->ek m (ec m can V p 1 n) p k i=ek m V p k i-if k<n/\c4 can (ah m p 0) k=true then fl m can V p 1 k (aD m (ah m p 1)) else 0) /\
  (∀ q j,q≠p->kG (ec m can V p 1 n) q j=kG V q j) /\
  (∀ q s o,¬ (q=p/\s=0/\o<n)->eZ (ef q s o) (ec m can V p 1 n).am=eZ (ef q s o) V.am)
 |0,_=>⟨λc i=>by rw[ec,if_neg CZ];omega,λk i _ _=>by rw[ec,if_neg CZ];omega,λ_ _ _=>rfl,λ_ _ _ _=>rfl⟩
 |n+1,hn=>by
  obtain⟨h1,h2,h3,h4⟩:=Vz h hV cX hL n CZ;have hU:=Ea (can:=can) hV p 1 n;rw[ec,show(1:Nat)-1=0 from rfl];by_cases hc:c4 can (ah m p 0) n=true
  ·rw[if_pos hc];have e1:fl m can (ec m can V p 1 n) p 1 n (aD m (ah m p 1))=fl m can V p 1 n (aD m (ah m p 1)):=Vy h n _ (aU _) λi hi=>by
    rw[h2 n i CZ hi,if_neg CZ];omega
   have hb:=hL n CZ hc;have e5:yv (fl m can V p 1 n (aD m (ah m p 1)))=fl m can V p 1 n (aD m (ah m p 1)):=by unfold yv;rw[if_neg CZ]
   rw[e1,e5];have e2:=h4 p 0 n CZ;rw[cX n]at e2;generalize ec m can V p 1 n=U at *;have ed:=Vs (W:=U) (amt:=fl m can V p 1 n (aD m (ah m p 1))) e2 CZ;refine⟨λc i=>?_,λk i hk hi=>?_,λq j hq=>?_,λq s o hq=>?_⟩
   ·rw[Ma hU h.ha CZ,ed,h1];by_cases e3:c=ah m p 0/\i=n
    ·obtain⟨rfl,rfl⟩:=e3;rw[if_neg CZ,if_pos ⟨rfl,rfl⟩,if_pos ⟨rfl,CZ,hc⟩];omega
    ·rw[if_neg e3];by_cases e4:c=ah m p 0/\i<n/\c4 can (ah m p 0) i=true
     ·rw[if_pos e4,if_pos ⟨e4.1,CZ,e4.2.2⟩];omega
     ·rw[if_neg e4,if_neg]
      ·omega
      ·rintro⟨a1,a2,a3⟩;by_cases a4:i=n
       ·exact e3 ⟨a1,a4⟩
       ·exact e4 ⟨a1,CZ,a3⟩
   ·rw[Vw h hU CZ _ hk hi,ed,h2 k i hk hi];by_cases e3:k=n
    ·subst e3;rw[if_neg CZ,if_pos rfl,if_pos ⟨CZ,hc⟩];omega
    ·rw[if_neg e3];by_cases e4:k<n/\c4 can (ah m p 0) k=true
     ·rw[if_pos e4,if_pos ⟨CZ,e4.2⟩];omega
     ·rw[if_neg e4,if_neg]
      ·omega
      ·rintro⟨a1,a2⟩;exact e4 ⟨CZ,a2⟩
   ·rw[Mb _ hq,h3 q j hq]
   ·show eZ _ (fW _ _ _)=_;rw[HA,if_neg (λe=>by have:=Vr e;omega),h4 q s o CZ]
  ·rw[if_neg hc];refine⟨λc i=>?_,λk i hk hi=>?_,h3,λq s o hq=>h4 q s o CZ⟩
   ·rw[h1];congr 1;by_cases e4:c=ah m p 0/\i<n/\c4 can (ah m p 0) i=true
    ·rw[if_pos e4,if_pos ⟨e4.1,CZ,e4.2.2⟩]
    ·rw[if_neg e4,if_neg];rintro⟨a1,a2,a3⟩;by_cases a4:i=n
     ·subst a4;exact hc a3
     ·exact e4 ⟨a1,CZ,a3⟩
   ·rw[h2 k i hk hi];congr 1;by_cases e4:k<n/\c4 can (ah m p 0) k=true
    ·rw[if_pos e4,if_pos ⟨CZ,e4.2⟩]
    ·rw[if_neg e4,if_neg];rintro⟨a2,a3⟩;by_cases a4:k=n
     ·subst a4;exact hc a3
     ·exact e4 ⟨CZ,a3⟩
structure ah9(m:aj)(can:List (List Bool))(W U:WS)(p:Nat)(B:Int):Prop where
 VA:∀ c i,c≠ah m p 0->c≠ah m p 1->dv U c i=dv W c i
 HC:∀ i,i<aD m (ah m p 1)->c4 can (ah m p 1) i=true->dv U (ah m p 1) i=0
 par:∀ k,k<aD m (ah m p 0)->c4 can (ah m p 0) k=true->∃ l,(0<=l/\l<=B+38)/\dv U (ah m p 0) k=dv W (ah m p 0) k+l
 col:∀ k,k<aD m (ah m p 0)->c4 can (ah m p 0) k=true->(∀ i,i<aD m (ah m p 1)->c4 can (ah m p 1) i=true->0<=ek m U p k i)/\∃ i,i<aD m (ah m p 1)/\c4 can (ah m p 1) i=true/\ek m U p k i=0
 aC:∀ q j,q≠p->kG U q j=kG W q j
 am:∀ q s o,q≠p->eZ (ef q s o) U.am=eZ (ef q s o) W.am
def aia(h:ni m p)(hW:jx m W)(cX:∀ s o,eZ (ef p s o) W.am=0){B:Int}(hB:0<=B/\B<=100000000)(VB:∀ i,i<aD m (ah m p 1)->c4 can (ah m p 1) i=true->0<=dv W (ah m p 1) i/\dv W (ah m p 1) i<=B)(hen:∀ k i,k<aD m (ah m p 0)->i<aD m (ah m p 1)->0<=ek m W p k i/\ek m W p k i<=38)(hex :∃i,i<aD m (ah m p 1)/\c4 can (ah m p 1) i=true):ah9 m can W (qB m can W p 1) p B:=by
 obtain⟨a1,a2,a3,a4⟩:=Vx (can:=can) h hW (λi=>cX 1 i) (λi hi hc=>by have:=VB i hi hc;omega) _ (aU _);have hV:=BU (can:=can) hW p 1 (aD m (ah m p 1));have e:qB m can W p 1=ec m can (fi m can W p 1 (aD m (ah m p 1))) p 1 (aD m (ah m p 0)):=rfl;rw[e];generalize fi m can W p 1 (aD m (ah m p 1))=V at *;have VC:∀ k i,k<aD m (ah m p 0)->i<aD m (ah m p 1)->c4 can (ah m p 1) i=true->0<=ek m V p k i/\ek m V p k i<=B+38:=λk i hk hi hc=>by
  rw[a2 k i hk hi,if_pos ⟨hi,hc⟩];have:=VB i hi hc;have:=hen k i hk hi;omega
 have qA:∀ k,k<aD m (ah m p 0)->(0<=fl m can V p 1 k (aD m (ah m p 1))/\fl m can V p 1 k (aD m (ah m p 1))<=B+38)/\∃ i,i<aD m (ah m p 1)/\c4 can (ah m p 1) i=true/\fl m can V p 1 k (aD m (ah m p 1))=ek m V p k i:=λk hk=>by
  obtain⟨i0,g1,g2⟩:=hex;have g3:=Md (can:=can) h V k _ i0 g1 g2;have g4:=VC k i0 hk g1 g2;rcases Me (can:=can) h V k (aD m (ah m p 1)) with g5|⟨i,g5,g6,g7⟩
  ·omega
  ·have:=VC k i hk g5 g6;exact⟨CZ,i,g5,g6,g7⟩
 obtain⟨b1,b2,b3,b4⟩:=Vz (can:=can) h hV (λk=>by rw[a4 p 0 k CZ];exact cX 0 k) (λk hk hc=>by have:=(qA k hk).1;omega) _ (aU _);generalize ec m can V p 1 (aD m (ah m p 0))=U at *;have eX:=h.ab;refine⟨λc i h1 h2=>?_,λi hi hc=>?_,λk hk hc=>?_,λk hk hc=>?_,λq j hq=>?_,λq s o hq=>?_⟩
 ·rw[b1,if_neg (λe=>h1 e.1),a1,if_neg (λe=>h2 e.1)];omega
 ·rw[b1,if_neg (λe=>eX e.1.symm),a1,if_pos ⟨rfl,hi,hc⟩];rfl
 ·refine⟨_,(qA k hk).1,?_⟩;rw[b1,if_pos ⟨rfl,hk,hc⟩,a1,if_neg (λe=>eX e.1)]
 ·refine⟨λi hi qG=>?_,?_⟩
  ·rw[b2 k i hk hi,if_pos ⟨hk,hc⟩];have:=Md (can:=can) h V k _ i hi qG;omega
  ·obtain⟨i,g1,g2,g3⟩:=(qA k hk).2;refine⟨i,g1,g2,?_⟩;rw[b2 k i hk g1,if_pos ⟨hk,hc⟩];omega
 ·rw[b3 q j hq,a3 q j hq]
 ·rw[b4 q s o CZ,a4 q s o CZ]
end
section
variable {m:aj} {can:List (List Bool)} {gi ai bi mi:Nat} {D E:List (Nat×Nat)} {W:WS} {os:List Ob}
def yo(hm:VM m){p:Nat}(hp:p<m.ae.length):iD m (bN m p)=true/\(bN m p).fst.toNat<m.cls.length/\(bN m p).snd.toNat<m.cls.length/\0<=(bN m p).fst/\0<=(bN m p).snd/\(bN m p).fst<(bN m p).snd:=by
 have dj:=jV hm.pr _ (aF (l:=m.ae) (i:=p) (d:=default) hp);obtain⟨_,h1,h2,h3,_⟩:=qI dj;exact⟨dj,by unfold bN;omega,by unfold bN;omega,h1,by unfold bN;omega,h2⟩
def U4(hm:VM m)(h:WF m can gi ai bi mi D E W os){p s o k:Nat}(hp:p<m.ae.length)(ho:o<24)(hk:k<24):
  Holds Tryz.prog 104 [.ptr gi 0 0,OJ p,OJ s,OJ o,OJ k] os (OJ (gJ m p s o k:Nat)) os:=by
 obtain⟨dj,q1,q2,q3,q4,q5⟩:=yo hm hp;have fv:=h.v;have pD:=hm.ae;have qE:=hm.cls;have hS:=hm.opt _ (aF (l:=m.cls) (i:=(bN m p).snd.toNat) (d:=default) q2);have eK:m.ae.getD p default=bN m p:=rfl;have e1:(if s=1 then k*(m.cls.getD (bN m p).snd.toNat default).length+o else o*(m.cls.getD (bN m p).snd.toNat default).length+k)=gJ m p s o k:=rfl;generalize gJ m p s o k=r at *;generalize og:(m.cls.getD (bN m p).snd.toNat default).length=n2 at *;generalize bN m p=pp at *;have b1:(k:Int)*n2<=24*24:=by
  have:=xM (Nat.le_of_lt hk) hS
  exact_mod_cast this
 have b2:(o:Int)*n2<=24*24:=by
  have:=xM (Nat.le_of_lt ho) hS
  exact_mod_cast this
 have b3:(0:Int)<=(k:Int)*n2:=tQ CZ CZ;have b4:(0:Int)<=(o:Int)*n2:=tQ CZ CZ;refine Holds.aQ 36 os.length [.tmp 10] Tryz.func104 ?_;((try revert hK K);(repeat'(first|refine Vb (X5 @fv @ay.eq_1 @aL.eq_1 @eK @og) ?_|(refine V2 (X5 @fv @ay.eq_1 @aL.eq_1 @eK @og) ?_ ?_<;>try with_reducible intro hb)|(refine Xi ?_ ?_<;>try intro ht)|refine VD ?_ ?_|exact Xx|fail))<;>try with_reducible intro K hK)
 all_goals try omega
 ·have e:(k:Int)*n2+o=(r:Nat):=by rw[<- e1,if_pos CZ];push_cast;rfl
  rw[e];exact dX rfl (aU _) rfl
 ·have e:(o:Int)*n2+k=(r:Nat):=by rw[<- e1,if_neg CZ];push_cast;rfl
  rw[e];exact dX rfl (aU _) rfl
def D8(hm:VM m)(h:WF m can gi ai bi mi D E W os){p:Nat}(hp:p<m.ae.length):
  Holds Tryz.prog 71 [.ptr gi 0 0,OJ p] os (.tree 1 [[.tree 1 (ints [(bN m p).fst])],[.tree 1 (ints [(bN m p).snd])]]) (os++[.gone,.gone,.gone,.gone]):=by
 obtain⟨dj,q1,q2,q3,q4,q5⟩:=yo hm hp;have fv:=h.v;have eg:=aM fv;have pD:=hm.ae;have qE:=hm.cls;have eK:m.ae.getD p default=bN m p:=rfl;generalize bN m p=pp at *;refine Holds.aQ 21 os.length [.tmp 4] Tryz.func71 ?_;repeat'(first|((fail_if_success (first|refine eH 2 ?_|refine eI 2 ?_));refine Xr (X5 @fv @ay.eq_1 @aL.eq_1 @eK (X2 @bF @bw.{0})) ?_;intro K hK)|refine Xo (X5 @fv @ay.eq_1 @aL.eq_1 @eK (X2 @bF @bw.{0})) ?_|(refine hK _ ?_;clear hK K)|(refine Xg (X5 @fv @ay.eq_1 @aL.eq_1 @eK (X2 @bF @bw.{0})) ?_ ?_<;>try intro hb)|(refine Xi ?_ ?_<;>try intro ht)|refine Xy ?_|refine Xd ?_ ?_|exact Xx|fail)
 all_goals try(exfalso;omega)
 refine Ln 7 Fs ?_;intro K K1 hK yk;simp(disch:=omega)only[Ac,↓Pc,simprocAttr,bF,bw,aL];repeat'(first|with_reducible refine And.intro ?_ ?_|omega|with_reducible rfl)
 refine yk _ ⟨ar [(20,.tree 1 [[.tree 1 (ints [pp.fst])],[.tree 1 (ints [pp.snd])]])],os++[.gone,.gone,.gone,.gone]⟩ ?_ ?_
 ·refine aH.trans (σ1:=⟨ar [(20,.ref (os.length+3) 1 0 2)],os++[.var (aL pp),.arr 1 [[OJ pp.fst]],.arr 1 [[OJ pp.snd]],.arr 1 [[.ref (os.length+1) 1 0 1],[.ref (os.length+2) 1 0 1]]]⟩) (Xv @aL.eq_1) ?_;refine aH.trans (aH.Tp 20 (λi=>i<os.length) (v:=.tree 1 [[.tree 1 (ints [pp.fst])],[.tree 1 (ints [pp.snd])]]) (os2:=os++[.gone,.gone,.gone,.gone]) Fl (λi o hi=>?_) ?_) (Xv X0)
  ·dsimp only at hi;by_cases ba:i<os.length
   ·left;rw[List.getElem?_append_left ba]at hi ⊢;exact⟨ba,hi⟩
   ·right;have h4:=(List.getElem?_eq_some_iff.1 hi).1;simp only[bI,cV,List.length_nil]at h4;refine⟨ba,?_⟩;rw[List.getElem?_append_right CZ];rcases(by omega:i-os.length=0\/i-os.length=1\/i-os.length=2\/i-os.length=3) with e|e|e|e<;>rw[e]<;>rfl
  ·refine dU.mk (rows:=[[.ref (os.length+1) 1 0 1],[.ref (os.length+2) 1 0 1]]) (by rw[kC];rfl) rfl CZ Fl ?_;exact⟨⟨dU.mk (rows:=[[OJ pp.fst]]) (by rw[kC];rfl) rfl CZ (by simp[ints]) ⟨⟨.lit _,trivial⟩,trivial⟩,trivial⟩,⟨dU.mk (rows:=[[OJ pp.snd]]) (by rw[kC];rfl) rfl CZ (by simp[ints]) ⟨⟨.lit _,trivial⟩,trivial⟩,trivial⟩,trivial⟩
 clear yk K1;simp(disch:=omega)only[Ac,↓Pc,simprocAttr];refine hK _ ?_;repeat(first|refine Xu ?_)
 ((try revert hK K);(repeat'(first|refine Vb X0 ?_|(refine V2 X0 ?_ ?_<;>try with_reducible intro hb)|(refine Xi ?_ ?_<;>try intro ht)|refine VD ?_ ?_|exact Xx|fail))<;>try with_reducible intro K hK)
 exact dX rfl Fl rfl
end
end T

