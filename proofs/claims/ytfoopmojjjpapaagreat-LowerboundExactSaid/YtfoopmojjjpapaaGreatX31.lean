import Derived.Test.YtfoopmojjjpapaaGreatX15
import Derived.Test.YtfoopmojjjpapaaGreatX23
set_option linter.all false
set_option maxHeartbeats 0
set_option maxRecDepth 20000
open Nat renaming le_refl→aX,sub_zero→uZ,le_trans→sr,lt_or_ge→du,zero_le→aW,mul_le_mul→xM,lt_of_lt_of_le→CG,succ_mul→IZ,mul_le_mul_right→l8,eq_zero_or_pos→q9
open List renaming replicate→aO,getElem?_set_ne→fD,mem_map→bS,length_set→bw,getD_eq_getElem?_getD→ax,getElem?_set→bP,getElem_map→CM,length_append→bL,mem_cons→bm,mem_append_left→CJ,mem_append_right→xN,map_append→dH,mem_cons_of_mem→dw,length_cons→cX,getElem?_eq_none→fl,append_assoc→bz,drop→eV
open Int renaming mul_nonneg→re
open And renaming intro→cQ
open Go Go.Am Go.Proofs
namespace T
structure WS where
 own:List (List Int)
 aB:List (List Int)
 am:List (List Int×Int)
 deriving Inhabited
def lB(k:List Int):List (List Int×Int)->Int
 |[]=>0
 |p::r=>if p.1=k then p.2 else lB k r
def jL(k:List Int)(v:Int):List (List Int×Int)->List (List Int×Int)
 |[]=>[(k,v)]
 |p::r=>if p.1=k then(k,v)::r else p::jL k v r
def mE(am:List (List Int×Int)):List (List Int×AV):=am.map λp=>(p.1,Oi p.2)
def Nw(k:List Int):∀ (am:List (List Int×Int)) (i:Nat),
  (∀ j,fX k (mE am) i=some j->i<=j/\∃ p,am[j-i]?=some p/\p.1=k/\p.2=lB k am/\∀ v,(mE am).set (j-i) (k,Oi v)=mE (jL k v am)) /\
  (fX k (mE am) i=none->lB k am=0/\∀ v,mE am++[(k,Oi v)]=mE (jL k v am))
 |[],i=>⟨λj h=>(by cases h),λ_=>⟨rfl,λ_=>rfl⟩⟩
 |p::r,i=>by
  obtain⟨h1,h2⟩:=Nw k r (i+1);have e:fX k (mE (p::r)) i=if p.1=k then some i else fX k (mE r) (i+1):=rfl;rw[e];by_cases hp:p.1=k
  ·rw[if_pos hp];refine⟨λj hj=>?_,λh=>(by cases h)⟩;cases hj;refine⟨aX _,p,IM,hp,by rw[lB,if_pos hp],λv=>?_⟩;rw[Nat.sub_self,jL,if_pos hp];rfl
  ·rw[if_neg hp];refine⟨λj hj=>?_,λh=>?_⟩
   ·obtain⟨a1,q,a2,a3,a4,a5⟩:=h1 j hj;have e2:j-i=(j-(i+1))+1:=AT;refine⟨AT,q,by rw[e2,List.getElem?_cons_succ];exact a2,a3,by rw[lB,if_neg hp];exact a4,λv=>?_⟩;rw[e2,jL,if_neg hp];show _::(mE r).set _ _=_::mE _;rw[a5]
   ·obtain⟨b1,b2⟩:=h2 h;refine⟨by rw[lB,if_neg hp];exact b1,λv=>?_⟩;rw[jL,if_neg hp];show _::(mE r++_)=_::mE _;rw[b2]
def ale(k:List Int)(am:List (List Int×Int)):(kY k (mE am)).getD (Oi 0)=Oi (lB k am):=by
 obtain⟨h1,h2⟩:=Nw k am 0;unfold kY;cases h:fX k (mE am) 0 with
 |none=>rw[(h2 h).1];rfl
 |some j =>
  obtain⟨_,p,a2,a3,a4,_⟩:=h1 j h;rw[uZ]at a2;simp[mE,a2,a4]
def alf(k:List Int)(v:Int)(am:List (List Int×Int)):Am.eB k (Oi v) (mE am)=mE (jL k v am):=by
 obtain⟨h1,h2⟩:=Nw k am 0;unfold Am.eB;cases h:fX k (mE am) 0 with
 |none=>exact(h2 h).2 v
 |some j =>
  obtain⟨_,p,_,_,_,a5⟩:=h1 j h;rw[uZ]at a5;exact a5 v
section
variable (m:ah)
def cM(p:Nat):Pr:=m.ae.getD p default
def aD(p s:Nat):Nat:=(if s=0 then(cM m p).fst else(cM m p).snd).toNat
def cH(c:Nat):Nat:=(m.cls.getD c default).length
def j1(p s o k:Nat):Nat:=if s=1 then k*cH m (aD m p 1)+o else o*cH m (aD m p 1)+k
def nq(p s o:Nat):List Int:=[(p:Int),(s:Int),(o:Int)]
def tK(W:WS)(p s o:Nat)(amt:Int):Int:=min (max (lB (nq p s o) W.am+amt) (-268435456)) 268435456
def j2(p s o:Nat)(d:Int):Nat->List Int->List Int
 |0,t=>t
 |k+1,t=>if(cM m p).aB.getD (j1 m p s o k) 0≠1099511627776 then(j2 p s o d k t).set (j1 m p s o k) ((j2 p s o d k t).getD (j1 m p s o k) 0-d) else j2 p s o d k t
def nV(W:WS)(c o:Nat):Int:=(W.own.getD c default).getD o 0
def AH(W:WS)(p j:Nat):Int:=(W.aB.getD p default).getD j 0
def pU(W:WS)(p s o:Nat)(amt:Int):WS :=
  ⟨W.own.set (aD m p s) ((W.own.getD (aD m p s) default).set o (nV W (aD m p s) o+(tK W p s o amt-lB (nq p s o) W.am))),
   W.aB.set p (j2 m p s o (tK W p s o amt-lB (nq p s o) W.am) (cH m (aD m p (1-s))) (W.aB.getD p default)),
   jL (nq p s o) (tK W p s o amt) W.am⟩
variable (can:List (List Bool))
def xA(c i:Nat):Bool:=(can.getD c default).getD i false
def kS(W:WS)(p s:Nat):Nat->WS
 |0=>W
 |i+1=>if xA can (aD m p s) i=true then pU m (kS W p s i) p s i (-(nV (kS W p s i) (aD m p s) i)) else kS W p s i
def oT(W:WS)(p s k:Nat):Nat->Int
 |0=>1099511627776
 |i+1=>if xA can (aD m p s) i=true/\(cM m p).aB.getD (j1 m p s i k) 0≠1099511627776 then min (oT W p s k i) (AH W p (j1 m p s i k)) else oT W p s k i
def Cw(n:Int):Int:=if n=1099511627776 then 134217728 else n
def ju(W:WS)(p s:Nat):Nat->WS
 |0=>W
 |k+1=>if xA can (aD m p (1-s)) k=true then pU m (ju W p s k) p (1-s) k (Cw (oT m can (ju W p s k) p s k (cH m (aD m p s)))) else ju W p s k
def Az(W:WS)(p s:Nat):WS:=ju m can (kS m can W p s (cH m (aD m p s))) p s (cH m (aD m p (1-s)))
def mD(t:List Int)(a:Nat)(dV:Int):Nat->List Int
 |0=>t
 |i+1=>if(mD t a dV i).getD i 0=dV then(mD t a dV i).set i ((mD t a dV i).getD a 0) else mD t a dV i
def Co(t:List Int×List (List Int))(p:Nat):List Int×List (List Int) :=
 let a:=aD m p 0
 let b:=aD m p 1
 if t.1.getD a 0=t.1.getD b 0 then t else(mD t.1 a (t.1.getD b 0) t.1.length,(t.2.set a (t.2.getD a default++[(p:Int)])).set b (t.2.getD b default++[(p:Int)]))
def kv(round:Nat):Nat->List Int×List (List Int)
 |0=>((List.range m.cls.length).map λ(i:Nat)=>(i:Int),aO m.cls.length [])
 |k+1=>Co m (kv round k) ((k+round)%m.ae.length)
def AA(up:WS×List Bool->Nat->WS×List Bool)(st:WS×List Bool)(p s:Nat):WS×List Bool :=
 if st.2.getD (aD m p s) false=true then st else(Az m can (up st (aD m p s)).1 p s,(up st (aD m p s)).2)
def iS(cL:List (List Int)):Nat->WS×List Bool->Nat->WS×List Bool
 |0,st,_=>st
 |f+1,st,c=>(cL.getD c default).foldl (λst p=>AA m can (iS cL f) (AA m can (iS cL f) st p.toNat 0) p.toNat 1) (st.1,st.2.set c true)
def lY(cL:List (List Int))(st:WS×List Bool):Nat->WS×List Bool
 |0=>st
 |c+1=>let q:=lY cL st c
  if q.2.getD c false=true then q else iS m can cL (m.cls.length+1) q c
def pT(W:WS)(round:Nat):WS:=(lY m can (kv m round m.ae.length).2 (W,aO m.cls.length false) m.cls.length).1
end
def dE(q:Nat×Nat):List AV:=[if q.2=0 then .tree 1 [] else .ref q.1 1 0 q.2]
def Nx{q:Nat×Nat}(h:q.2=0):dE q=[.tree 1 []]:=by unfold dE;rw[if_pos h]
def AI{q:Nat×Nat}(h:0<q.2):dE q=[.ref q.1 1 0 q.2]:=by unfold dE;rw[if_neg AT]
structure R1(os:List Ob)(D:List (Nat×Nat))(S:List (List Int)):Prop where
 len:D.length=S.length
 row:∀ j,j<D.length->(S.getD j default).length=(D.getD j default).2/\(0<(D.getD j default).2->os[(D.getD j default).1]?=some (.arr 1 (ints (S.getD j default))))
def R1.nil{os:List Ob}:R1 os [] []:=⟨rfl,IM⟩
def R1.app{os:List Ob}{D:List (Nat×Nat)}{S:List (List Int)}(h:R1 os D S)(l:List Ob):R1 (os++l) D S :=
 ⟨h.len,λj hj=>⟨(h.row j hj).1,λh0=>aK ((h.row j hj).2 h0) l⟩⟩
def R1.other{os:List Ob}{D:List (Nat×Nat)}{S:List (List Int)}(h:R1 os D S){i:Nat}(hi:i ∉ D.map (·.1)){y:Ob}:R1 (os.set i y) D S :=
 ⟨h.len,λk hk=>⟨(h.row k hk).1,λh0=>by
  rw[fD (λe=>hi (bS.2 ⟨D.getD k default,aE hk,e.symm⟩))];exact(h.row k hk).2 h0⟩⟩
def R1.set{os:List Ob}{D:List (Nat×Nat)}{S:List (List Int)}(h:R1 os D S)(hn:(D.map (·.1)).Nodup){j:Nat}(hj:j<D.length)(h0:0<(D.getD j default).2){r:List Int}(hr:r.length=(S.getD j default).length):R1 (os.set (D.getD j default).1 (.arr 1 (ints r))) D (S.set j r) :=
 ⟨by rw[bw];exact h.len,λk hk=>by
  by_cases e:k=j
  ·subst e;have:(S.set k r).getD k default=r:=by rw[ax,bP];simp[<- h.len,hk]
   rw[this];exact⟨hr.trans (h.row k hk).1,λh0=>lS ((h.row k hk).2 h0)⟩
  ·have:(S.set j r).getD k default=S.getD k default:=by rw[ax,fD (λe'=>e e'.symm),ax]
   rw[this];have bZ:(D.getD j default).1≠(D.getD k default).1:=λhh=>e ((List.getElem_inj (h₀:=by simpa using hk) (h₁:=by simpa using hj) hn).1 (by
    rw[CM,CM];have a1:D[k]=D.getD k default:=by simp[hk]
    have a2:D[j]=D.getD j default:=by simp[hj]
    rw[a1,a2];exact hh.symm))
   rw[fD bZ];exact h.row k hk⟩
structure WF(m:ah)(can:List (List Bool))(gi ai bi mi:Nat)(D E:List (Nat×Nat))(W:WS)(os:List Ob):Prop where
 v:os[gi]?=some (.var (aq m++[.tree 1 (rowsOf ay can),.ref ai 1 0 D.length,.ref bi 1 0 E.length,.c9 mi]))
 a:os[ai]?=some (.arr 1 (rowsOf dE D))
 b:os[bi]?=some (.arr 1 (rowsOf dE E))
 mp:os[mi]?=some (.mp 3 (mE W.am))
 rD:R1 os D W.own
 rE:R1 os E W.aB
 nd:(gi::ai::bi::mi::(D++E).map (·.1)).Nodup
 lt:∀ i∈(D++E).map (·.1),i<os.length
section
variable {m:ah} {can:List (List Bool)} {gi ai bi mi:Nat} {D E:List (Nat×Nat)} {W:WS} {os:List Ob}
def WF.app(h:WF m can gi ai bi mi D E W os)(l:List Ob):WF m can gi ai bi mi D E W (os++l):=⟨aK h.v l,aK h.a l,aK h.b l,aK h.mp l,h.rD.app l,h.rE.app l,h.nd,λi hi=>by rw[bL];have:=h.lt i hi;omega⟩
def WF.out(h:WF m can gi ai bi mi D E W os):gi≠mi/\ai≠mi/\bi≠mi/\(∀ j,j<D.length->∀ k,k=gi\/k=ai\/k=bi\/k=mi->(D.getD j default).1≠k)/\(∀ j,j<E.length->∀ k,k=gi\/k=ai\/k=bi\/k=mi->(E.getD j default).1≠k) /\
  mi ∉ D.map (·.1)/\mi ∉ E.map (·.1)/\((D++E).map (·.1)).Nodup:=by
 have hn:=h.nd;simp only[List.nodup_cons,bm,not_or]at hn;obtain⟨⟨g1,g2,g3,g4⟩,⟨a1,a2,a3⟩,⟨b1,b2⟩,m1,hr⟩:=hn;have inD:∀ j,j<D.length->(D.getD j default).1∈(D++E).map (·.1):=λj hj=>bS.2 ⟨_,CJ _ (aE hj),rfl⟩;have inE:∀ j,j<E.length->(E.getD j default).1∈(D++E).map (·.1):=λj hj=>bS.2 ⟨_,xN _ (aE hj),rfl⟩;refine⟨g3,a2,b1,λj hj k hk e=>?_,λj hj k hk e=>?_,λhh=>m1 ?_,λhh=>m1 ?_,hr⟩
 ·have:=inD j hj;rw[e]at this;rcases hk with rfl|rfl|rfl|rfl
  ·exact g4 this
  ·exact a3 this
  ·exact b2 this
  ·exact m1 this
 ·have:=inE j hj;rw[e]at this;rcases hk with rfl|rfl|rfl|rfl
  ·exact g4 this
  ·exact a3 this
  ·exact b2 this
  ·exact m1 this
 ·rw[dH];exact CJ _ hh
 ·rw[dH];exact xN _ hh
def eU{os:List Ob}{i j:Nat}{o y:Ob}(h:os[i]?=some o)(bZ:j≠i):(os.set j y)[i]?=some o:=by rw[fD bZ];exact h
def WF.Ny(h:WF m can gi ai bi mi D E W os)(am:List (List Int×Int)):WF m can gi ai bi mi D E { W with am:=am } (os.set mi (.mp 3 (mE am))):=by
 obtain⟨h1,h2,h3,h4,h5,h6,h7,h8⟩:=h.out;exact⟨eU h.v h1.symm,eU h.a h2.symm,eU h.b h3.symm,lS h.mp,h.rD.other h6,h.rE.other h7,h.nd,λi hi=>by rw[bw];exact h.lt i hi⟩
def WF.z6(h:WF m can gi ai bi mi D E W os){j:Nat}(hj:j<D.length)(h0:0<(D.getD j default).2){r:List Int}(hr:r.length=(W.own.getD j default).length):WF m can gi ai bi mi D E { W with own:=W.own.set j r } (os.set (D.getD j default).1 (.arr 1 (ints r))):=by
 obtain⟨h1,h2,h3,h4,h5,h6,h7,h8⟩:=h.out;obtain⟨n1,n2,n3,n4⟩:=G6 h8;have k:=h4 j hj;exact⟨eU h.v (k _ IM),eU h.a (k _ IM),eU h.b (k _ IM),eU h.mp (k _ IM),h.rD.set n1 hj h0 hr,h.rE.other (n3 j hj),h.nd,λi hi=>by rw[bw];exact h.lt i hi⟩
def WF.yA(h:WF m can gi ai bi mi D E W os){j:Nat}(hj:j<E.length)(h0:0<(E.getD j default).2){r:List Int}(hr:r.length=(W.aB.getD j default).length):WF m can gi ai bi mi D E { W with aB:=W.aB.set j r } (os.set (E.getD j default).1 (.arr 1 (ints r))):=by
 obtain⟨h1,h2,h3,h4,h5,h6,h7,h8⟩:=h.out;obtain⟨n1,n2,n3,n4⟩:=G6 h8;have k:=h5 j hj;exact⟨eU h.v (k _ IM),eU h.a (k _ IM),eU h.b (k _ IM),eU h.mp (k _ IM),h.rD.other (n4 j hj),h.rE.set n2 hj h0 hr,h.nd,λi hi=>by rw[bw];exact h.lt i hi⟩
end
structure Kp(mi:Nat)(D E:List (Nat×Nat))(os ob:List Ob):Prop where
 len:os.length<=ob.length
 same:∀ i o,i≠mi->i ∉ (D++E).map (·.1)->os[i]?=some o->ob[i]?=some o
def Kp.refl(mi:Nat)(D E:List (Nat×Nat))(os:List Ob):Kp mi D E os os:=⟨aX _,λ_ _ _ _ h=>h⟩
def Kp.trans{mi:Nat}{D E:List (Nat×Nat)}{os o1 o2:List Ob}(h:Kp mi D E os o1)(k:Kp mi D E o1 o2):Kp mi D E os o2 :=
 ⟨sr h.len k.len,λi o h1 h2 h3=>k.same i o h1 h2 (h.same i o h1 h2 h3)⟩
def Kp.app{mi:Nat}{D E:List (Nat×Nat)}{os o1:List Ob}(h:Kp mi D E os o1)(l:List Ob):Kp mi D E os (o1++l) :=
 ⟨by rw[bL];exact sr h.len (Nat.le_add_right _ _),λi o h1 h2 h3=>aK (h.same i o h1 h2 h3) l⟩
def Kp.Ny{mi:Nat}{D E:List (Nat×Nat)}{os o1:List Ob}(h:Kp mi D E os o1)(y:Ob):Kp mi D E os (o1.set mi y) :=
 ⟨by rw[bw];exact h.len,λi o h1 h2 h3=>eU (h.same i o h1 h2 h3) (λe=>h1 e.symm)⟩
def Kp.z6{mi:Nat}{D E:List (Nat×Nat)}{os o1:List Ob}(h:Kp mi D E os o1){j:Nat}(hj:j<D.length)(y:Ob):Kp mi D E os (o1.set (D.getD j default).1 y) :=
 ⟨by rw[bw];exact h.len,λi o h1 h2 h3=>eU (h.same i o h1 h2 h3) (λe=>h2 (bS.2 ⟨_,CJ _ (aE hj),e⟩))⟩
def Kp.yA{mi:Nat}{D E:List (Nat×Nat)}{os o1:List Ob}(h:Kp mi D E os o1){j:Nat}(hj:j<E.length)(y:Ob):Kp mi D E os (o1.set (E.getD j default).1 y) :=
 ⟨by rw[bw];exact h.len,λi o h1 h2 h3=>eU (h.same i o h1 h2 h3) (λe=>h2 (bS.2 ⟨_,xN _ (aE hj),e⟩))⟩
structure mB(m:ah)(W:WS):Prop where
 ol:W.own.length=m.cls.length
 tl:W.aB.length=m.ae.length
 or:∀ i,i<m.cls.length->(W.own.getD i default).length=cH m i
 tr:∀ j,j<m.ae.length->(W.aB.getD j default).length=(cM m j).aB.length
 ky:∀ q∈W.am,∃ p s o:Int,q.1=[p,s,o]
structure WB(B:Int)(W:WS):Prop where
 ob:∀ c o,-B<=nV W c o/\nV W c o<=B
 tb:∀ p j,-B<=AH W p j/\AH W p j<=B
 ab:∀ k,-268435456<=lB k W.am/\lB k W.am<=268435456
 al:12884901888*(W.am.length:Int)<=B
def WB.mono{B C:Int}{W:WS}(h:WB B W)(hBC:B<=C):WB C W:=⟨λc o=>by have:=h.ob c o;omega,λp j=>by have:=h.tb p j;omega,h.ab,by have:=h.al;omega⟩
section
variable {m:ah} {can:List (List Bool)} {W:WS}
def Ip(p s o:Nat)(d:Int):∀ (k:Nat) (t:List Int),(j2 m p s o d k t).length=t.length
 |0,t=>rfl
 |k+1,t=>by
  rw[j2];split
  ·rw[bw,Ip]
  ·exact Ip p s o d k t
def Ns(l:List Int)(i j:Nat)(x:Int):(l.set i x).getD j 0=if i=j/\j<l.length then x else l.getD j 0:=by
 simp only[ax,bP];by_cases h:i=j
 ·subst h;by_cases h2:i<l.length
  ·simp[h2]
  ·simp[h2]
 ·simp[h]
def Nz{p s o:Nat}{d B:Int}(hB:0<=B)(hd : -536870912<=d/\d<=536870912):∀ (k:Nat) (t:List Int),(∀ j,-B<=t.getD j 0/\t.getD j 0<=B)->∀ j,-(B+536870912*k)<=(j2 m p s o d k t).getD j 0/\(j2 m p s o d k t).getD j 0<=B+536870912*k
 |0,t,h,j=>by have:=h j;rw[j2];omega
 |k+1,t,h,j=>by
  have h1:=Nz (p:=p) (s:=s) (o:=o) hB hd k t h;rw[j2];split
  ·rw[Ns];split
   ·have:=h1 (j1 m p s o k);push_cast;omega
   ·have:=h1 j;push_cast;omega
  ·have:=h1 j;push_cast;omega
def abu(k k':List Int)(v:Int):∀ am:List (List Int×Int),lB k' (jL k v am)=if k'=k then v else lB k' am
 |[]=>by
  show(if k=k' then v else 0)=_;by_cases h:k'=k
  ·rw[if_pos h,if_pos h.symm]
  ·rw[if_neg h,if_neg (λe=>h e.symm)];rfl
 |p::r=>by
  rw[jL];split
  ·rename_i hp;show(if k=k' then v else lB k' r)=_;by_cases h:k'=k
   ·rw[if_pos h,if_pos h.symm]
   ·rw[if_neg h,if_neg (λe=>h e.symm),lB,if_neg (λe=>h (e.symm.trans hp))]
  ·rename_i hp;show(if p.1=k' then p.2 else lB k' (jL k v r))=_;rw[abu k k' v r];by_cases h:k'=k
   ·rw[if_pos h,if_neg (λe=>hp (e.trans h)),if_pos h]
   ·rw[if_neg h,if_neg h];rfl
def abv{k:List Int}{v:Int}:∀ {am:List (List Int×Int)} {q:List Int×Int},q∈jL k v am->q∈am\/q.1=k
 |[],q,h=>by rw[jL,List.mem_singleton]at h;subst h;exact .inr rfl
 |p::r,q,h=>by
  rw[jL]at h;split at h
  ·rcases bm.1 h with rfl|h
   ·exact .inr rfl
   ·exact .inl (dw _ h)
  ·rcases bm.1 h with rfl|h
   ·exact .inl (List.mem_cons_self ..)
   ·rcases abv h with h|h
    ·exact .inl (dw _ h)
    ·exact .inr h
def abw(k:List Int)(v:Int):∀ am:List (List Int×Int),(jL k v am).length<=am.length+1
 |[]=>aX _
 |p::r=>by
  rw[jL];split
  ·simp
  ·have:=abw k v r;simp only[cX];omega
def abx(W:WS)(p s o:Nat)(amt:Int): -268435456<=tK W p s o amt/\tK W p s o amt<=268435456:=by unfold tK;omega
def Cv{α:Type}(l:List α)(i j:Nat)(x d:α):(l.set i x).getD j d=if i=j/\j<l.length then x else l.getD j d:=by
 simp only[ax,bP];by_cases h:i=j
 ·subst h;by_cases h2:i<l.length
  ·simp[h2]
  ·simp[h2]
 ·simp[h]
def mB.move(h:mB m W)(p s o:Nat)(amt:Int):mB m (pU m W p s o amt):=by
 unfold pU;refine⟨by simp[h.ol],by simp[h.tl],λi hi=>?_,λj hj=>?_,λq hq=>?_⟩
 ·dsimp only;rw[Cv];split
  ·rename_i e;rw[bw,e.1];exact h.or i hi
  ·exact h.or i hi
 ·dsimp only;rw[Cv];split
  ·rename_i e;rw[Ip,e.1];exact h.tr j hj
  ·exact h.tr j hj
 ·rcases abv hq with h1|h1
  ·exact h.ky q h1
  ·exact⟨_,_,_,h1⟩
def WB.move{B:Int}(hm:VM m)(hB:0<=B)(h:WB B W)(p s o:Nat)(amt:Int):WB (B+12884901888) (pU m W p s o amt):=by
 have hn:=abx W p s o amt;have ha:=h.ab (nq p s o);have aJ:cH m (aD m p (1-s))<=24:=by
  unfold cH;rcases du (aD m p (1-s)) m.cls.length with h1|h1
  ·exact hm.opt _ (aE h1)
  ·rw[ax,fl h1];exact aW _
 unfold pU;generalize tK W p s o amt=n at *;refine⟨λc o'=>?_,λq j=>?_,λk=>?_,by have h1:=abw (nq p s o) n W.am;have h2:=h.al;dsimp only;omega⟩
 ·unfold nV;dsimp only;rw[Cv];split
  ·rw[Ns];split
   ·have:=h.ob (aD m p s) o;unfold nV at this;omega
   ·have:=h.ob (aD m p s) o';unfold nV at this;omega
  ·have:=h.ob c o';unfold nV at this;omega
 ·unfold AH;dsimp only;rw[Cv];split
  ·have:=Nz (m:=m) (p:=p) (s:=s) (o:=o) (d:=n-lB (nq p s o) W.am) hB AT (cH m (aD m p (1-s))) (W.aB.getD p default) (λj=>h.tb p j) j;omega
  ·have:=h.tb q j;unfold AH at this;omega
 ·dsimp only;rw[abu];split
  ·exact hn
  ·exact h.ab k
def Iq(h:mB m W)(p s:Nat):∀ i,mB m (kS m can W p s i)
 |0=>h
 |i+1=>by
  rw[kS];split
  ·exact(Iq h p s i).move _ _ _ _
  ·exact Iq h p s i
def NA(hm:VM m){B:Int}(hB:0<=B)(h:WB B W)(p s:Nat):∀ i:Nat,WB (B+12884901888*i) (kS m can W p s i)
 |0=>h.mono AT
 |i+1=>by
  have h1:=NA hm hB h p s i;rw[kS];split
  ·exact(h1.move hm AT _ _ _ _).mono (by push_cast;omega)
  ·exact h1.mono (by push_cast;omega)
def Ir(h:mB m W)(p s:Nat):∀ i,mB m (ju m can W p s i)
 |0=>h
 |i+1=>by
  rw[ju];split
  ·exact(Ir h p s i).move _ _ _ _
  ·exact Ir h p s i
def NC(hm:VM m){B:Int}(hB:0<=B)(h:WB B W)(p s:Nat):∀ i:Nat,WB (B+12884901888*i) (ju m can W p s i)
 |0=>h.mono AT
 |i+1=>by
  have h1:=NC hm hB h p s i;rw[ju];split
  ·exact(h1.move hm AT _ _ _ _).mono (by push_cast;omega)
  ·exact h1.mono (by push_cast;omega)
def aby{B:Int}(hB:0<=B)(h:WB B W)(p s k:Nat):∀ i:Nat,-B<=oT m can W p s k i/\oT m can W p s k i<=1099511627776
 |0=>by rw[oT];omega
 |i+1=>by
  have h1:=aby hB h p s k i;rw[oT];split
  ·have:=h.tb p (j1 m p s i k);omega
  ·exact h1
def alc(h:mB m W)(p s:Nat):mB m (Az m can W p s):=Ir (Iq h p s _) p s _
def AG(hm:VM m)(c:Nat):cH m c<=24:=by
 unfold cH;rcases du c m.cls.length with h1|h1
 ·exact hm.opt _ (aE h1)
 ·rw[ax,fl h1];exact aW _
def ald(hm:VM m){B:Int}(hB:0<=B)(h:WB B W)(p s:Nat):WB (B+618475290624) (Az m can W p s):=by
 have h1:=AG hm (aD m p s);have h2:=AG hm (aD m p (1-s));exact(NC hm AT (NA (can:=can) hm hB h p s _) p s _).mono AT
end
section
variable {m:ah} {can:List (List Bool)} {gi ai bi mi:Nat} {D E:List (Nat×Nat)} {W:WS} {os:List Ob}
def yU(hm:VM m){p:Nat}(hp:p<m.ae.length):gA m (cM m p)=true/\(cM m p).fst.toNat<m.cls.length/\(cM m p).snd.toNat<m.cls.length/\0<=(cM m p).fst/\0<=(cM m p).snd/\(cM m p).fst<(cM m p).snd:=by
 have dp:=jG hm.pr _ (aE (l:=m.ae) (i:=p) (d:=default) hp);obtain⟨_,h1,h2,h3,_⟩:=qI dp;exact⟨dp,by unfold cM;omega,by unfold cM;omega,h1,by unfold cM;omega,h2⟩
def abz(hm:VM m)(h:WF m can gi ai bi mi D E W os){p s o k:Nat}(hp:p<m.ae.length)(ho:o<24)(hk:k<24):
  Holds Tryz.prog 104 [.ptr gi 0 0,Oi p,Oi s,Oi o,Oi k] os (Oi (j1 m p s o k:Nat)) os:=by
 obtain⟨dp,q1,q2,q3,q4,q5⟩:=yU hm hp;have fv:=h.v;have oO:=hm.ae;have qV:=hm.cls;have hS:=hm.opt _ (aE (l:=m.cls) (i:=(cM m p).snd.toNat) (d:=default) q2);have gp:m.ae.getD p default=cM m p:=rfl;have e1:(if s=1 then k*(m.cls.getD (cM m p).snd.toNat default).length+o else o*(m.cls.getD (cM m p).snd.toNat default).length+k)=j1 m p s o k:=rfl;generalize j1 m p s o k=r at *;generalize nI:(m.cls.getD (cM m p).snd.toNat default).length=n2 at *;generalize cM m p=pp at *;have b1:(k:Int)*n2<=24*24:=by
  have:=xM (Nat.le_of_lt hk) hS
  exact_mod_cast this
 have b2:(o:Int)*n2<=24*24:=by
  have:=xM (Nat.le_of_lt ho) hS
  exact_mod_cast this
 have b3:(0:Int)<=(k:Int)*n2:=re AT AT;have b4:(0:Int)<=(o:Int)*n2:=re AT AT;refine Holds.aN 36 os.length [.tmp 10] Tryz.func104 ?_;((try revert hK K);(repeat'(first|refine Vb (X5 @fv @aq.eq_1 @aG.eq_1 @gp @nI) ?_|(refine V2 (X5 @fv @aq.eq_1 @aG.eq_1 @gp @nI) ?_ ?_<;>try with_reducible intro hb)|(refine Xi ?_ ?_<;>try intro ht)|refine VD ?_ ?_|exact Xx|fail))<;>try with_reducible intro K hK)
 all_goals try omega
 ·have e:(k:Int)*n2+o=(r:Nat):=by rw[<- e1,if_pos AT];push_cast;rfl
  rw[e];exact dX rfl (aX _) rfl
 ·have e:(o:Int)*n2+k=(r:Nat):=by rw[<- e1,if_neg AT];push_cast;rfl
  rw[e];exact dX rfl (aX _) rfl
def EJ(hm:VM m)(h:WF m can gi ai bi mi D E W os){p:Nat}(hp:p<m.ae.length):
  Holds Tryz.prog 71 [.ptr gi 0 0,Oi p] os (.tree 1 [[.tree 1 (ints [(cM m p).fst])],[.tree 1 (ints [(cM m p).snd])]]) (os++[.gone,.gone,.gone,.gone]):=by
 obtain⟨dp,q1,q2,q3,q4,q5⟩:=yU hm hp;have fv:=h.v;have eg:=aK fv;have oO:=hm.ae;have qV:=hm.cls;have gp:m.ae.getD p default=cM m p:=rfl;generalize cM m p=pp at *;refine Holds.aN 21 os.length [.tmp 4] Tryz.func71 ?_;repeat'(first|((fail_if_success (first|refine eO 2 ?_|refine eP 2 ?_));refine Xr (X5 @fv @aq.eq_1 @aG.eq_1 @gp (X2 @bH @bz.{0})) ?_;intro K hK)|refine Xo (X5 @fv @aq.eq_1 @aG.eq_1 @gp (X2 @bH @bz.{0})) ?_|(refine hK _ ?_;clear hK K)|(refine Xg (X5 @fv @aq.eq_1 @aG.eq_1 @gp (X2 @bH @bz.{0})) ?_ ?_<;>try intro hb)|(refine Xi ?_ ?_<;>try intro ht)|refine Xy ?_|refine Xd ?_ ?_|exact Xx|fail)
 all_goals try(exfalso;omega)
 refine Hz 7 IP ?_;intro K K1 hK uL;simp(disch:=omega)only[Ac,↓Pc,simprocAttr,bH,bz,aG];repeat'(first|with_reducible refine cQ ?_ ?_|omega|with_reducible rfl)
 refine uL _ ⟨ao [(20,.tree 1 [[.tree 1 (ints [pp.fst])],[.tree 1 (ints [pp.snd])]])],os++[.gone,.gone,.gone,.gone]⟩ ?_ ?_
 ·refine aF.trans (σ1:=⟨ao [(20,.ref (os.length+3) 1 0 2)],os++[.var (aG pp),.arr 1 [[Oi pp.fst]],.arr 1 [[Oi pp.snd]],.arr 1 [[.ref (os.length+1) 1 0 1],[.ref (os.length+2) 1 0 1]]]⟩) (Xv @aG.eq_1) ?_;refine aF.trans (aF.aiP 20 (λi=>i<os.length) (v:=.tree 1 [[.tree 1 (ints [pp.fst])],[.tree 1 (ints [pp.snd])]]) (os2:=os++[.gone,.gone,.gone,.gone]) IM (λi o hi=>?_) ?_) (Xv X0)
  ·dsimp only at hi;by_cases aS:i<os.length
   ·left;rw[List.getElem?_append_left aS]at hi ⊢;exact⟨aS,hi⟩
   ·right;have h4:=(List.getElem?_eq_some_iff.1 hi).1;simp only[bL,cX,List.length_nil]at h4;refine⟨aS,?_⟩;rw[List.getElem?_append_right AT];rcases(by omega:i-os.length=0\/i-os.length=1\/i-os.length=2\/i-os.length=3) with e|e|e|e<;>rw[e]<;>rfl
  ·refine dF.mk (rows:=[[.ref (os.length+1) 1 0 1],[.ref (os.length+2) 1 0 1]]) (by rw[kN];rfl) rfl AT IM ?_;exact⟨⟨dF.mk (rows:=[[Oi pp.fst]]) (by rw[kN];rfl) rfl AT (by simp[ints]) ⟨⟨.lit _,trivial⟩,trivial⟩,trivial⟩,⟨dF.mk (rows:=[[Oi pp.snd]]) (by rw[kN];rfl) rfl AT (by simp[ints]) ⟨⟨.lit _,trivial⟩,trivial⟩,trivial⟩,trivial⟩
 clear uL K1;simp(disch:=omega)only[Ac,↓Pc,simprocAttr];refine hK _ ?_;repeat(first|refine Xu ?_)
 ((try revert hK K);(repeat'(first|refine Vb X0 ?_|(refine V2 X0 ?_ ?_<;>try with_reducible intro hb)|(refine Xi ?_ ?_<;>try intro ht)|refine VD ?_ ?_|exact Xx|fail))<;>try with_reducible intro K hK)
 exact dX rfl IM rfl
end
section
variable {m:ah} {can:List (List Bool)} {gi ai bi mi:Nat} {D E:List (Nat×Nat)} {W:WS} {os:List Ob}
def abA(hm:VM m){p s o k:Nat}(hp:p<m.ae.length)(hs:s<=1)(ho:o<cH m (aD m p s))(hk:k<cH m (aD m p (1-s))):j1 m p s o k<(cM m p).aB.length:=by
 obtain⟨dp,_⟩:=yU hm hp;obtain⟨_,_,_,_,hl⟩:=qI dp;have jO:((cM m p).aB.length:Int)=(cH m (aD m p 0):Nat)*(cH m (aD m p 1):Nat):=hl;have ry:(cM m p).aB.length=cH m (aD m p 0)*cH m (aD m p 1):=by exact_mod_cast jO
 rw[ry];rcases(show s=0\/s=1 by omega) with rfl|rfl
 ·show o*cH m (aD m p 1)+k<_;exact CG (Nat.add_lt_add_left hk _) (by rw[<- IZ];exact l8 _ ho)
 ·show k*cH m (aD m p 1)+o<_;exact CG (Nat.add_lt_add_left ho _) (by rw[<- IZ];exact l8 _ hk)
def abB(hm:VM m)(h:WF m can gi ai bi mi D E W os)(hs:mB m W){B:Int}(hB:0<=B/\B<=2305843009213693952)(hW:WB B W){p s o:Nat}(hp:p<m.ae.length)(jx:s<=1)(ho:o<cH m (aD m p s)){amt:Int}(ham : -2305843009213693952<=amt/\amt<=2305843009213693952):
  dy Tryz.prog 103 [.ptr gi 0 0,Oi p,Oi s,Oi o,Oi amt] os λr ob=>r=.bu []/\WF m can gi ai bi mi D E (pU m W p s o amt) ob/\Kp mi D E os ob:=by
 obtain⟨dp,q1,q2,q3,q4,q5⟩:=yU hm hp;have fv:=h.v;have ev:=aK fv;have fm:=h.mp;have em:=aK fm;have oO:=hm.ae;have qV:=hm.cls;have bR:=abx W p s o amt;have eX:=hW.ab (nq p s o);have ij:(kY [(p:Int),(s:Int),(o:Int)] (mE W.am)).getD (Oi 0)=Oi (lB (nq p s o) W.am):=ale _ _;have zJ:min (max (lB (nq p s o) W.am+amt) (-268435456)) 268435456=tK W p s o amt:=rfl;have gQ:Am.eB [(p:Int),(s:Int),(o:Int)] (Oi (tK W p s o amt)) (mE W.am)=mE (jL (nq p s o) (tK W p s o amt) W.am):=alf _ _ _;have hM:=h.Ny (jL (nq p s o) (tK W p s o amt) W.am);have sm:=iG fm;refine dy.aN 119 os.length [] Tryz.func103 ?_;refine Xk ?_;refine Ku ?_;intro K hK;simp(disch:=omega)only[Ac,↓Pc,simprocAttr,bH];repeat'(first|with_reducible refine cQ ?_ ?_|omega|with_reducible rfl)
 refine hK _ ?_;clear hK K;refine hn _ ?_;(try clear hn;try clear he)
 refine cd (aF.vt 10 os.length (cells:=[Oi p,Oi s,Oi o]) (by rw[ka]) (by simp only[Kc,simprocAttr]) IM) ?_;refine cd (σ':=⟨ao [(0,.ptr gi 0 0),(1,Oi p),(2,Oi s),(3,Oi o),(4,Oi amt),(10,.bY [Oi p,Oi s,Oi o])],os++[.gone]⟩) (by rw[DU];exact Xv X0) ?_;generalize KE:lB (nq p s o) W.am=a at *;generalize Bf:tK W p s o amt=n at *;refine Xk ?_;refine uM ?_;intro Q hn he;refine sv ⟨ao [(0,.ptr gi 0 0),(1,Oi p),(2,Oi s),(3,Oi o),(4,Oi amt),(10,.bY [Oi p,Oi s,Oi o]),(11,Oi n)],os++[.gone]⟩ hn ?_ (λkey=>?_);rotate_left
 ·refine lI [] (.take 0 (.take 1 (.take 2 (.take 3 (.take 4 (.take 5 (.take 6 (.take 7 (.take 8 (.take 9 (.take 10 .nil))))))))))) rfl IP (by decide +kernel) ?_;simp(disch:=omega)only[Ac,↓Pc,simprocAttr,ux,uw,uv,uu,s9,ql,mM,lF,lG,cj,↓Lq,fv,ev,fm,em,aq,ij,zJ,bH];repeat'(first|with_reducible refine cQ ?_ ?_|omega|with_reducible rfl)
  all_goals
   refine key _ ?_;exact Xv X0
 (try clear hn;try clear he)
 try(try clear Q)
 refine Xk ?_;refine uM ?_;intro Q hn he;refine sv ⟨ao [(0,.ptr gi 0 0),(1,Oi p),(2,Oi s),(3,Oi o),(4,Oi (n-a)),(10,.bY [Oi p,Oi s,Oi o]),(11,Oi n)],os++[.gone]⟩ hn ?_ (λkey=>?_);rotate_left
 ·refine lI [] (.take 0 (.take 1 (.take 2 (.take 3 (.take 4 (.take 5 (.take 6 (.take 7 (.take 8 .nil))))))))) rfl IP (by decide +kernel) ?_;simp(disch:=omega)only[Ac,↓Pc,simprocAttr,ux,uw,uv,uu,s9,ql,mM,lF,lG,cj,↓Lq,fv,ev,fm,em,aq,ij,zJ,bH];repeat'(first|with_reducible refine cQ ?_ ?_|omega|with_reducible rfl)
  all_goals
   refine key _ ?_;exact Xv X0
 (try clear hn;try clear he)
 try(try clear Q)
 refine Xk ?_;refine uM ?_;intro Q hn he;refine sv ⟨ao [(0,.ptr gi 0 0),(1,Oi p),(2,Oi s),(3,Oi o),(4,Oi (n-a))],os.set mi (.mp 3 (mE (jL (nq p s o) n W.am)))++[.gone]⟩ hn ?_ (λkey=>?_);rotate_left
 ·refine lI [] (.take 0 (.take 1 (.take 2 (.take 3 (.take 4 (.take 5 (.take 6 .nil))))))) rfl IP (by decide +kernel) ?_;simp(disch:=omega)only[Ac,↓Pc,simprocAttr,ux,uw,uv,uu,s9,ql,mM,lF,lG,cj,↓Lq,fv,ev,fm,em,aq,ij,zJ,bH,gQ,sm];repeat'(first|with_reducible refine cQ ?_ ?_|omega|with_reducible rfl)
  all_goals
   refine key _ ?_;exact Xv X0
 (try clear hn;try clear he)
 try(try clear Q)
 have rZ:=hM.app [.gone];have eY:Kp mi D E os (os.set mi (.mp 3 (mE (jL (nq p s o) n W.am)))++[Ob.gone]):=((Kp.refl mi D E os).Ny _).app _;have hWm:pU m W p s o amt=⟨W.own.set (aD m p s) ((W.own.getD (aD m p s) default).set o (nV W (aD m p s) o+(n-a))),W.aB.set p (j2 m p s o (n-a) (cH m (aD m p (1-s))) (W.aB.getD p default)),jL (nq p s o) n W.am⟩:=by unfold pU;rw[Bf,KE]
 rw[hWm];clear hM fv ev fm em sm ij gQ hWm;generalize os.set mi (.mp 3 (mE (jL (nq p s o) n W.am)))++[Ob.gone]=tA at *;have vn:=EJ hm rZ hp;have mU:=EJ hm (rZ.app [.gone,.gone,.gone,.gone]) hp;have e0:(cM m p).fst=((aD m p 0:Nat):Int):=by show _=((cM m p).fst.toNat:Int);omega
 have e1:(cM m p).snd=((aD m p 1:Nat):Int):=by show _=((cM m p).snd.toNat:Int);omega
 rw[e0,e1]at vn mU;refine Xk ?_;refine uM ?_;intro Q hn he;refine sv ⟨ao [(0,.ptr gi 0 0),(1,Oi p),(2,Oi s),(3,Oi o),(4,Oi (n-a)),(12,Oi (aD m p s:Nat)),(13,Oi (aD m p (1-s):Nat))],tA++[.gone,.gone,.gone,.gone,.gone,.gone,.gone,.gone]⟩ hn ?_ (λkey=>?_);rotate_left
 ·refine lI [] (.take 0 (.take 1 (.take 2 (.take 3 (.take 8 (.take 9 (.take 11 (.take 12 (.both 4 (.both 5 (.both 6 (.both 7 (.take 10 (.take 13 (.take 14 (.take 15 (.take 16 (.take 17 (.take 18 .nil))))))) 10 (.take 7 (.take 13 (.take 14 (.take 15 (.take 16 (.take 17 (.take 18 .nil)))))))) 10 (.take 6 (.take 7 (.take 13 (.take 14 (.take 15 (.take 16 (.take 17 (.take 18 .nil))))))))) 10 (.take 5 (.take 6 (.take 7 (.take 13 (.take 14 (.take 15 (.take 16 (.take 17 (.take 18 .nil)))))))))) 10 (.take 4 (.take 5 (.take 6 (.take 7 (.take 13 (.take 14 (.take 15 (.take 16 (.take 17 (.take 18 .nil))))))))))))))))))) rfl IP (by decide +kernel) ?_;simp(disch:=omega)only[Ac,↓Pc,simprocAttr,ux,uw,uv,uu,s9,ql,mM,lF,lG,cj,↓Lq];repeat'(first|with_reducible refine cQ ?_ ?_|omega|with_reducible rfl)
  all_goals
   refine fi vn IM ?_;rcases(show s=0\/s=1 by omega) with rfl|rfl;all_goals
    simp(disch:=omega)only[Ac,↓Pc,simprocAttr,ux,uw,uv,uu,s9,ql,mM,lF,lG,cj,↓Lq,bz];repeat'(first|with_reducible refine cQ ?_ ?_|omega|with_reducible rfl)
   all_goals
    refine fi mU IM ?_;simp(disch:=omega)only[Ac,↓Pc,simprocAttr,ux,uw,uv,uu,s9,ql,mM,lF,lG,cj,↓Lq,bz];repeat'(first|with_reducible refine cQ ?_ ?_|omega|with_reducible rfl)
   all_goals
    refine key _ ?_;exact Xv X0
 (try clear hn;try clear he)
 try(try clear Q)
 have AJ:=rZ.app [.gone,.gone,.gone,.gone,.gone,.gone,.gone,.gone];have dC:Kp mi D E os (tA++[.gone,.gone,.gone,.gone,.gone,.gone,.gone,.gone]):=eY.app _;clear rZ eY vn mU h;generalize tA++[Ob.gone,Ob.gone,Ob.gone,Ob.gone,Ob.gone,Ob.gone,Ob.gone,Ob.gone]=os2 at *;have bn:∀ s,s<=1->aD m p s<m.cls.length:=λs hs=>by
  rcases(show s=0\/s=1 by omega) with rfl|rfl
  ·exact q1
  ·exact q2
 have hc:=bn s jx;have nj:∀ k,k<cH m (aD m p (1-s))->j1 m p s o k<(cM m p).aB.length:=λk hk=>abA hm hp jx ho hk;have iK:=bn (1-s) AT;have hD:D.length=m.cls.length:=AJ.rD.len.trans hs.ol;have hE:E.length=m.ae.length:=AJ.rE.len.trans hs.tl;obtain⟨rl,ro⟩:=AJ.rD.row (aD m p s) AT;dsimp only at rl ro;have nM:=hs.or _ hc;have ro:=ro AT;have eD:=AI (q:=D.getD (aD m p s) default) AT;have fv:=AJ.v;have fa:=AJ.a;have bI:=hW.ob (aD m p s) o;have xB:=AJ.z6 (j:=aD m p s) AT AT (r:=(W.own.getD (aD m p s) default).set o (nV W (aD m p s) o+(n-a))) IM;have Cn:=dC.z6 (j:=aD m p s) AT (.arr 1 (ints ((W.own.getD (aD m p s) default).set o (nV W (aD m p s) o+(n-a)))));have Aj:(W.own.getD (aD m p s) default).getD o 0=nV W (aD m p s) o:=rfl;have sD:=lS (y:=Ob.arr 1 (ints ((W.own.getD (aD m p s) default).set o (nV W (aD m p s) o+(n-a))))) ro;generalize anv:W.own.getD (aD m p s) default=row at *;generalize nV W (aD m p s) o=ow at *;generalize aD m p s=c at *;have Is:=xB.v;repeat'(first|((fail_if_success (first|refine eO 6 ?_|refine eP 6 ?_));refine Xr (X5 @fv @fa @eD @ro (X2 @Aj @Is)) ?_;intro K hK)|refine Xo (X5 @fv @fa @eD @ro (X2 @Aj @Is)) ?_|(refine hK _ ?_;clear hK K)|(refine Xg (X5 @fv @fa @eD @ro (X2 @Aj @Is)) ?_ ?_<;>try intro hb)|(refine Xi ?_ ?_<;>try intro ht)|refine Xy ?_|refine Xd ?_ ?_|exact Xx|fail)
 refine cd (σ':=⟨ao [(0,.ptr gi 0 0),(1,Oi p),(2,Oi s),(3,Oi o),(4,Oi (n-a)),(13,Oi (aD m p (1-s):Nat))],os2.set (D.getD c default).1 (.arr 1 (ints (row.set o (ow+(n-a)))))⟩) (Xv X0) ?_;clear AJ dC fv fa sD ro rl Is;dsimp only at xB;generalize os2.set (D.getD c default).1 (.arr 1 (ints (row.set o (ow+(n-a)))))=os3 at *;generalize W.own.set c (row.set o (ow+(n-a)))=alj at *;have gp:m.ae.getD p default=cM m p:=rfl;have aJ:(m.cls.getD (aD m p (1-s)) default).length=cH m (aD m p (1-s)):=rfl;have anw:cH m (aD m p (1-s))<=24:=hm.opt _ (aE iK);have pG:=λk=>Nz (m:=m) (p:=p) (s:=s) (o:=o) (d:=n-a) hB.1 AT k (W.aB.getD p default) (λj=>hW.tb p j);have MD:=hs.tr p hp;have gQ:W.aB.set p (W.aB.getD p default)=W.aB:=yi W.aB p;have jl:=λk=>Ip (m:=m) p s o (n-a) k (W.aB.getD p default);have Fq:∀ k,j2 m p s o (n-a) (k+1) (W.aB.getD p default)=_:=λk=>j2.eq_2 ..;have Cd:j2 m p s o (n-a) 0 (W.aB.getD p default)=W.aB.getD p default:=rfl;have HA:o<24:=CG ho (AG hm c);generalize W.aB.getD p default=aB at *;generalize abD:cH m (aD m p (1-s))=sz at *;generalize cB:cM m p=pp at *;have fv:=xB.v;((try revert hK K);(repeat'(first|refine Va (X3 @fv @aJ @abD) ?_|(refine V2 (X3 @fv @aJ @abD) ?_ ?_<;>try with_reducible intro hb)|(refine Xi ?_ ?_<;>try intro ht)|refine VD ?_ ?_|exact Xx|fail))<;>try with_reducible intro K hK)
 refine bb (λz:Nat×List Ob=>(⟨ao [(0,.ptr gi 0 0),(1,Oi p),(2,Oi s),(3,Oi o),(4,Oi (n-a)),(82,Oi sz),(83,Oi z.1)],z.2⟩:St))
  (λz=>z.1<=sz/\WF m can gi ai bi mi D E { own:=alj,aB:=W.aB.set p (j2 m p s o (n-a) z.1 aB),am:=jL (nq p s o) n W.am } z.2/\Kp mi D E os z.2)
  (λz=>sz-z.1) (0,os3) ⟨aW _,by dsimp only;rw[Cd,gQ];exact xB,Cn⟩ (Xv X0) ?_
 clear xB Cn fv;rintro⟨k,ok⟩⟨hk,hM,a7⟩Ql ak au;dsimp only at hk hM a7 ⊢;have fv:=hM.v;have fb:=hM.b;by_cases bf:k<sz
 ·have hA:=abz hm hM hp (s:=s) HA (show k<24 by omega);obtain⟨tl,tr⟩:=hM.rE.row p AT;have Cy:p<W.aB.length:=by have:=hs.tl;omega
  have pP:(W.aB.set p (j2 m p s o (n-a) k aB)).getD p default=j2 m p s o (n-a) k aB:=rJ _ _ _ Cy;dsimp only at tl tr;rw[pP]at tl tr;have zN:=nj k bf;have jP:=jl k;have tr:=tr AT;have eE:=AI (q:=E.getD p default) AT;have It:=hM.yA (j:=p) AT AT (r:=(j2 m p s o (n-a) k aB).set (j1 m p s o k) ((j2 m p s o (n-a) k aB).getD (j1 m p s o k) 0-(n-a))) (by rw[pP,bw]);have hK4:=a7.yA (j:=p) AT (.arr 1 (ints ((j2 m p s o (n-a) k aB).set (j1 m p s o k) ((j2 m p s o (n-a) k aB).getD (j1 m p s o k) 0-(n-a)))));have fI:=pG k (j1 m p s o k);have Av:=Fq k;dsimp only at It;rw[List.set_set]at It;have sE:=lS (y:=Ob.arr 1 (ints ((j2 m p s o (n-a) k aB).set (j1 m p s o k) ((j2 m p s o (n-a) k aB).getD (j1 m p s o k) 0-(n-a))))) tr;have fv4:=It.v;generalize abF:j2 m p s o (n-a) (k+1) aB=tk1 at *;generalize j2 m p s o (n-a) k aB=tk at *;generalize ov:j1 m p s o k=av at *;generalize vh:pp.aB.getD av 0=pe at *;((try revert hK K);(repeat'(first|refine Va @fv ?_|(refine V2 @fv ?_ ?_<;>try with_reducible intro hb)|(refine Xi ?_ ?_<;>try intro ht)|refine VD ?_ ?_|exact Xx|fail))<;>try with_reducible intro K hK)
  refine fi hA IM ?_;((try revert hK K);(repeat'(first|refine Va (X5 @fv @fb @eE @tr (X4 @gp @aG.eq_1 @vh @fv4)) ?_|(refine V2 (X5 @fv @fb @eE @tr (X4 @gp @aG.eq_1 @vh @fv4)) ?_ ?_<;>try with_reducible intro hb)|(refine Xi ?_ ?_<;>try intro ht)|refine VD ?_ ?_|exact Xx|fail))<;>try with_reducible intro K hK)
  ·rw[if_pos (by assumption)]at Av;exact ak _ (k+1,_) ⟨NZ,by dsimp only;rw[abF,Av];exact It,hK4⟩ NZ (Xv X0)
  ·rw[if_neg (by simpa using ‹pe=_›)]at Av;exact ak _ (k+1,_) ⟨NZ,by dsimp only;rw[abF,Av];exact hM,a7⟩ NZ (Xv X0)
 ·obtain rfl:k=sz:=AT;((try revert hK K);(repeat'(first|refine Va X0 ?_|(refine V2 X0 ?_ ?_<;>try with_reducible intro hb)|(refine Xi ?_ ?_<;>try intro ht)|refine VD ?_ ?_|exact Xx|fail))<;>try with_reducible intro K hK)
  refine au _ _ rfl ?_;clear ak au Ql;repeat(first|refine Xu ?_)
  ((try revert hK K);(repeat'(first|refine Vb X0 ?_|(refine V2 X0 ?_ ?_<;>try with_reducible intro hb)|(refine Xi ?_ ?_<;>try intro ht)|refine VD ?_ ?_|exact Xx|fail))<;>try with_reducible intro K hK)
  unfold kJ;simp only[gm,fW];exact⟨.bu [],_,⟨rfl,hM,a7⟩,dX rfl a7.len rfl⟩
end
section
variable {m:ah} {can:List (List Bool)} {gi ai bi mi:Nat} {D E:List (Nat×Nat)} {W:WS} {os:List Ob}
def Nj{X:List (List Bool)}{c:Nat}(hc:c<X.length):(rowsOf ay X)[c]?=some [.tree 1 (a8 (X.getD c default))]:=by
 unfold rowsOf;rw[List.getElem?_map,ax,List.getElem?_eq_getElem hc];rfl
def ak7(hm:VM m)(hf:cp m can)(h:WF m can gi ai bi mi D E W os)(hs:mB m W){B:Int}(hB:0<=B/\B<=1152921504606846976)(hW:WB B W){p s:Nat}(hp:p<m.ae.length)(jx:s<=1):
  dy Tryz.prog 72 [.ptr gi 0 0,Oi p,Oi s] os λr ob=>r=.bu []/\WF m can gi ai bi mi D E (Az m can W p s) ob/\Kp mi D E os ob:=by
 obtain⟨dp,q1,q2,q3,q4,q5⟩:=yU hm hp;have oO:=hm.ae;have qV:=hm.cls;have bn:∀ s,s<=1->aD m p s<m.cls.length:=λs hs=>by
  rcases(show s=0\/s=1 by omega) with rfl|rfl
  ·exact q1
  ·exact q2
 have vn:=EJ hm h hp;have mU:=EJ hm (h.app [.gone,.gone,.gone,.gone]) hp;have e0:(cM m p).fst=((aD m p 0:Nat):Int):=by show _=((cM m p).fst.toNat:Int);omega
 have e1:(cM m p).snd=((aD m p 1:Nat):Int):=by show _=((cM m p).snd.toNat:Int);omega
 rw[e0,e1]at vn mU;refine dy.aN 155 os.length [] Tryz.func72 ?_;refine Xk ?_;refine uM ?_;intro Q hn he;refine sv ⟨ao [(0,.ptr gi 0 0),(1,Oi p),(2,Oi s),(6,Oi (aD m p s:Nat)),(7,Oi (aD m p (1-s):Nat))],os++[.gone,.gone,.gone,.gone,.gone,.gone,.gone,.gone]⟩ hn ?_ (λkey=>?_);rotate_left
 ·refine lI [] (.take 0 (.take 1 (.take 2 (.take 3 (.take 8 (.take 9 (.take 11 (.take 12 (.both 4 (.both 5 (.both 6 (.both 7 (.take 10 (.take 13 (.take 14 (.take 15 (.take 16 (.take 17 (.take 18 .nil))))))) 10 (.take 7 (.take 13 (.take 14 (.take 15 (.take 16 (.take 17 (.take 18 .nil)))))))) 10 (.take 6 (.take 7 (.take 13 (.take 14 (.take 15 (.take 16 (.take 17 (.take 18 .nil))))))))) 10 (.take 5 (.take 6 (.take 7 (.take 13 (.take 14 (.take 15 (.take 16 (.take 17 (.take 18 .nil)))))))))) 10 (.take 4 (.take 5 (.take 6 (.take 7 (.take 13 (.take 14 (.take 15 (.take 16 (.take 17 (.take 18 .nil))))))))))))))))))) rfl IP (by decide +kernel) ?_;simp(disch:=omega)only[Ac,↓Pc,simprocAttr,ux,uw,uv,uu,s9,ql,mM,lF,lG,cj,↓Lq];repeat'(first|with_reducible refine cQ ?_ ?_|omega|with_reducible rfl)
  all_goals
   refine fi vn IM ?_;rcases(show s=0\/s=1 by omega) with rfl|rfl;all_goals
    simp(disch:=omega)only[Ac,↓Pc,simprocAttr,ux,uw,uv,uu,s9,ql,mM,lF,lG,cj,↓Lq,bz];repeat'(first|with_reducible refine cQ ?_ ?_|omega|with_reducible rfl)
   all_goals
    refine fi mU IM ?_;simp(disch:=omega)only[Ac,↓Pc,simprocAttr,ux,uw,uv,uu,s9,ql,mM,lF,lG,cj,↓Lq,bz];repeat'(first|with_reducible refine cQ ?_ ?_|omega|with_reducible rfl)
   all_goals
    refine key _ ?_;exact Xv X0
 (try clear hn;try clear he)
 try(try clear Q)
 have rZ:=h.app [.gone,.gone,.gone,.gone,.gone,.gone,.gone,.gone];have eY:Kp mi D E os (os++[.gone,.gone,.gone,.gone,.gone,.gone,.gone,.gone]):=(Kp.refl mi D E os).app _;clear vn mU h;generalize os++[Ob.gone,Ob.gone,Ob.gone,Ob.gone,Ob.gone,Ob.gone,Ob.gone,Ob.gone]=tA at *;have hc:=bn s jx;have iK:=bn (1-s) AT;have nS:1-(1-s)=s:=AT;have V4:((1:Int)-(s:Int))=((1-s:Nat):Int):=AT;have hD:D.length=m.cls.length:=rZ.rD.len.trans hs.ol;have z1:=AG hm (aD m p s);have z2:=AG hm (aD m p (1-s));have Br:=hf.1;have hfc:_=cH m (aD m p s):=hf.2 (aD m p s) AT;have hfk:_=cH m (aD m p (1-s)):=hf.2 (aD m p (1-s)) AT;have xC:=Nj (X:=can) (c:=aD m p s) AT;have EL:=Nj (X:=can) (c:=aD m p (1-s)) AT;have hwp:Az m can W p s=ju m can (kS m can W p s (cH m (aD m p s))) p s (cH m (aD m p (1-s))):=rfl;have ND:=λi=>Iq (can:=can) hs p s i;have bA:=λi=>NA (can:=can) hm hB.1 hW p s i;have sA:∀ i,kS m can W p s (i+1)=_:=λi=>kS.eq_2 ..;have s0:kS m can W p s 0=W:=rfl;have fv:=rZ.v;have fa:=rZ.a;have Iu:(D.getD (aD m p s) default).2=cH m (aD m p s):=((rZ.rD.row _ AT).1).symm.trans (hs.or _ hc);have Iv:(D.getD (aD m p (1-s)) default).2=cH m (aD m p (1-s)):=((rZ.rD.row _ AT).1).symm.trans (hs.or _ iK);refine Xk ?_;refine Xk ?_;refine uM ?_;intro Q hn he;refine sv ⟨ao [(0,.ptr gi 0 0),(1,Oi p),(2,Oi s),(6,Oi (aD m p s:Nat)),(7,Oi (aD m p (1-s):Nat)),(37,Oi (cH m (aD m p s):Nat)),(38,Oi 0)],tA⟩ hn ?_ (λkey=>?_);rotate_left
 ·(try clear hn;try clear he)
  have fr:=(rZ.rD.row _ (show aD m p s<D.length by omega)).2;rcases q9 (D.getD (aD m p s) default).2 with h0|h0
  ·have e:=Nx h0;rw[Iu]at h0;rw[h0]at key;((try revert hK K);(repeat'(first|refine Va (X3 @fv @fa @e) ?_|(refine V2 (X3 @fv @fa @e) ?_ ?_<;>try with_reducible intro hb)|(refine Xi ?_ ?_<;>try intro ht)|refine VD ?_ ?_|exact Xx|fail))<;>try with_reducible intro K hK)
   refine key _ ?_;exact Xv X0
  ·have e:=AI h0;have fr:=fr h0;rw[Iu]at e;((try revert hK K);(repeat'(first|refine Va (X4 @fv @fa @e @fr) ?_|(refine V2 (X4 @fv @fa @e @fr) ?_ ?_<;>try with_reducible intro hb)|(refine Xi ?_ ?_<;>try intro ht)|refine VD ?_ ?_|exact Xx|fail))<;>try with_reducible intro K hK)
   refine key _ ?_;exact Xv X0
 (try clear hn;try clear he)
 try(try clear Q)
 clear fv fa;((try revert hK K);(repeat'(first|refine Va X0 ?_|(refine V2 X0 ?_ ?_<;>try with_reducible intro hb)|(refine Xi ?_ ?_<;>try intro ht)|refine VD ?_ ?_|exact Xx|fail))<;>try with_reducible intro K hK)
 refine bb (λz:Nat×List Ob=>(⟨ao [(0,.ptr gi 0 0),(1,Oi p),(2,Oi s),(6,Oi (aD m p s:Nat)),(7,Oi (aD m p (1-s):Nat)),(37,Oi (cH m (aD m p s):Nat)),(38,Oi z.1)],z.2⟩:St))
  (λz=>z.1<=cH m (aD m p s)/\WF m can gi ai bi mi D E (kS m can W p s z.1) z.2/\Kp mi D E os z.2)
  (λz=>cH m (aD m p s)-z.1) (0,tA) ⟨aW _,rZ,eY⟩ (Xv X0) ?_
 clear rZ eY tA;rintro⟨i,ok⟩⟨hi,hM,a7⟩Ql ak au;dsimp only at hi hM a7 ⊢;have fv:=hM.v;have fa:=hM.a;obtain⟨rl,rr⟩:=hM.rD.row (aD m p s) AT;by_cases ar:i<cH m (aD m p s)
 ·have rr:=rr AT;have eD:=AI (q:=D.getD (aD m p s) default) AT;have ep:=(bA i).ob (aD m p s) i;have oC:=abB hm hM (ND i) (B:=B+12884901888*i) AT (bA i) hp jx ar (amt:=-nV (kS m can W p s i) (aD m p s) i) AT;have Iw:=sA i;have Aj:((kS m can W p s i).own.getD (aD m p s) default).getD i 0=nV (kS m can W p s i) (aD m p s) i:=rfl;generalize tJ:kS m can W p s (i+1)=W1 at *;have KP:i<24:=AT;by_cases gn:xA can (aD m p s) i=true
  ·rw[if_pos gn]at Iw;have aQ:(can.getD (aD m p s) default).getD i false=true:=gn;generalize nV (kS m can W p s i) (aD m p s) i=ow at *;generalize (kS m can W p s i).own.getD (aD m p s) default=row at *;repeat'(first|((fail_if_success (first|refine eO 5 ?_|refine eP 5 ?_));refine Xr (X4 @fv @xC @aQ @ay.eq_1) ?_;intro K hK)|refine Xo (X4 @fv @xC @aQ @ay.eq_1) ?_|(refine hK _ ?_;clear hK K)|(refine Xg (X4 @fv @xC @aQ @ay.eq_1) ?_ ?_<;>try intro hb)|(refine Xi ?_ ?_<;>try intro ht)|refine Xy ?_|refine Xd ?_ ?_|exact Xx|fail)
   refine ox 15 IP _ rfl ?_;intro K hK;simp(disch:=omega)only[Ac,↓Pc,simprocAttr,List.take,eV,fv,fa,eD,rr,Aj];repeat'(first|with_reducible refine cQ ?_ ?_|omega|with_reducible rfl)
   refine⟨rfl,(show kK Tryz.prog 103 [.ptr gi 0 0,Oi p,Oi s,Oi i,Oi (-ow)] (some 66) _ _ from ?_)⟩;refine qW oC ?_;rintro r jV⟨rfl,xB,mX⟩;refine⟨mX.len,?_⟩;simp(disch:=omega)only[Ac,↓Pc,simprocAttr,eV];refine hK _ ?_;clear hK K;repeat(first|refine Xu ?_)
   ((try revert hK K);(repeat'(first|refine Va X0 ?_|(refine V2 X0 ?_ ?_<;>try with_reducible intro hb)|(refine Xi ?_ ?_<;>try intro ht)|refine VD ?_ ?_|exact Xx|fail))<;>try with_reducible intro K hK)
   exact ak _ (i+1,jV) ⟨NZ,by dsimp only;rw[tJ,Iw];exact xB,a7.trans mX⟩ NZ (Xv X0)
  ·rw[if_neg gn]at Iw;have aQ:(can.getD (aD m p s) default).getD i false=false:=by simpa [xA] using gn
   ((try revert hK K);(repeat'(first|refine Va (X4 @fv @xC @aQ @ay.eq_1) ?_|(refine V2 (X4 @fv @xC @aQ @ay.eq_1) ?_ ?_<;>try with_reducible intro hb)|(refine Xi ?_ ?_<;>try intro ht)|refine VD ?_ ?_|exact Xx|fail))<;>try with_reducible intro K hK)
   exact ak _ (i+1,ok) ⟨NZ,by dsimp only;rw[tJ,Iw];exact hM,a7⟩ NZ (Xv X0)
 ·obtain rfl:i=cH m (aD m p s):=AT;((try revert hK K);(repeat'(first|refine Va X0 ?_|(refine V2 X0 ?_ ?_<;>try with_reducible intro hb)|(refine Xi ?_ ?_<;>try intro ht)|refine VD ?_ ?_|exact Xx|fail))<;>try with_reducible intro K hK)
  refine au _ _ rfl ?_;clear ak au Ql;repeat(first|refine Xu ?_)
  clear fv fa rl rr;have alm:=ND (cH m (aD m p s));have aln:=(bA (cH m (aD m p s))).mono (C:=B+309237645312) AT;rw[hwp];clear sA s0 hwp ND bA hs hW;generalize kS m can W p s (cH m (aD m p s))=WA at *;have shB:=λi=>Ir (can:=can) alm p s i;have bB:=λi=>NC (can:=can) hm AT aln p s i;have sB:∀ i,ju m can WA p s (i+1)=_:=λi=>ju.eq_2 ..;have fv:=hM.v;have fa:=hM.a;refine Xk ?_;refine uM ?_;intro Q hn he;refine sv ⟨ao [(0,.ptr gi 0 0),(1,Oi p),(2,Oi s),(6,Oi (aD m p s:Nat)),(7,Oi (aD m p (1-s):Nat)),(75,Oi (cH m (aD m p (1-s)):Nat)),(76,Oi 0)],ok⟩ hn ?_ (λkey=>?_);rotate_left
  ·(try clear hn;try clear he)
   have fr:=(hM.rD.row _ (show aD m p (1-s)<D.length by omega)).2;rcases q9 (D.getD (aD m p (1-s)) default).2 with h0|h0
   ·have e:=Nx h0;rw[Iv]at h0;rw[h0]at key;((try revert hK K);(repeat'(first|refine Va (X3 @fv @fa @e) ?_|(refine V2 (X3 @fv @fa @e) ?_ ?_<;>try with_reducible intro hb)|(refine Xi ?_ ?_<;>try intro ht)|refine VD ?_ ?_|exact Xx|fail))<;>try with_reducible intro K hK)
    refine key _ ?_;exact Xv X0
   ·have e:=AI h0;have fr:=fr h0;rw[Iv]at e;((try revert hK K);(repeat'(first|refine Va (X4 @fv @fa @e @fr) ?_|(refine V2 (X4 @fv @fa @e @fr) ?_ ?_<;>try with_reducible intro hb)|(refine Xi ?_ ?_<;>try intro ht)|refine VD ?_ ?_|exact Xx|fail))<;>try with_reducible intro K hK)
    refine key _ ?_;exact Xv X0
  (try clear hn;try clear he)
  try(try clear Q)
  clear fv fa;((try revert hK K);(repeat'(first|refine Va X0 ?_|(refine V2 X0 ?_ ?_<;>try with_reducible intro hb)|(refine Xi ?_ ?_<;>try intro ht)|refine VD ?_ ?_|exact Xx|fail))<;>try with_reducible intro K hK)
  refine bb (λz:Nat×List Ob=>(⟨ao [(0,.ptr gi 0 0),(1,Oi p),(2,Oi s),(6,Oi (aD m p s:Nat)),(7,Oi (aD m p (1-s):Nat)),(75,Oi (cH m (aD m p (1-s)):Nat)),(76,Oi z.1)],z.2⟩:St))
   (λz=>z.1<=cH m (aD m p (1-s))/\WF m can gi ai bi mi D E (ju m can WA p s z.1) z.2/\Kp mi D E os z.2)
   (λz=>cH m (aD m p (1-s))-z.1) (0,ok) ⟨aW _,hM,a7⟩ (Xv X0) ?_
  clear hM a7 ok;rintro⟨k,ok⟩⟨hk,hM,a7⟩Ql ak au;dsimp only at hk hM a7 ⊢;by_cases bf:k<cH m (aD m p (1-s))
  ·have KP:k<24:=AT;have Ix:=sB k;have NF:=λi=>aby (can:=can) (m:=m) AT (bB k) p s k i;have oC:=abB hm hM (shB k) (B:=B+309237645312+12884901888*k) AT (bB k) hp (s:=1-s) AT bf (amt:=Cw (oT m can (ju m can WA p s k) p s k (cH m (aD m p s)))) (by have:=NF (cH m (aD m p s));unfold Cw;split<;>omega);have hsk:=shB k;generalize tJ:ju m can WA p s (k+1)=W1 at *;have fv:=hM.v;have fa:=hM.a;by_cases gn:xA can (aD m p (1-s)) k=true
   ·rw[if_pos gn]at Ix;have aQ:(can.getD (aD m p (1-s)) default).getD k false=true:=gn;repeat'(first|((fail_if_success (first|refine eO 12 ?_|refine eP 12 ?_));refine Xr (X4 @fv @EL @aQ @ay.eq_1) ?_;intro K hK)|refine Xo (X4 @fv @EL @aQ @ay.eq_1) ?_|(refine hK _ ?_;clear hK K)|(refine Xg (X4 @fv @EL @aQ @ay.eq_1) ?_ ?_<;>try intro hb)|(refine Xi ?_ ?_<;>try intro ht)|refine Xy ?_|refine Xd ?_ ?_|exact Xx|fail)
    refine uM ?_;intro Q hn he;refine sv ⟨ao [(0,.ptr gi 0 0),(1,Oi p),(2,Oi s),(6,Oi (aD m p s:Nat)),(7,Oi (aD m p (1-s):Nat)),(9,Oi k),(10,Oi 1099511627776),(75,Oi (cH m (aD m p (1-s)):Nat)),(76,Oi k),(97,Oi (cH m (aD m p s):Nat)),(98,Oi 0)],ok⟩ hn ?_ (λkey=>?_);rotate_left
    ·(try clear hn;try clear he)
     have fr:=(hM.rD.row _ (show aD m p s<D.length by omega)).2;rcases q9 (D.getD (aD m p s) default).2 with h0|h0
     ·have e:=Nx h0;rw[Iu]at h0;rw[h0]at key;((try revert hK K);(repeat'(first|refine Va (X3 @fv @fa @e) ?_|(refine V2 (X3 @fv @fa @e) ?_ ?_<;>try with_reducible intro hb)|(refine Xi ?_ ?_<;>try intro ht)|refine VD ?_ ?_|exact Xx|fail))<;>try with_reducible intro K hK)
      refine key _ ?_;exact Xv X0
     ·have e:=AI h0;have fr:=fr h0;rw[Iu]at e;((try revert hK K);(repeat'(first|refine Va (X4 @fv @fa @e @fr) ?_|(refine V2 (X4 @fv @fa @e @fr) ?_ ?_<;>try with_reducible intro hb)|(refine Xi ?_ ?_<;>try intro ht)|refine VD ?_ ?_|exact Xx|fail))<;>try with_reducible intro K hK)
      refine key _ ?_;exact Xv X0
    (try clear hn;try clear he)
    try(try clear Q)
    ((try revert hK K);(repeat'(first|refine Va X0 ?_|(refine V2 X0 ?_ ?_<;>try with_reducible intro hb)|(refine Xi ?_ ?_<;>try intro ht)|refine VD ?_ ?_|exact Xx|fail))<;>try with_reducible intro K hK)
    have hl0:oT m can (ju m can WA p s k) p s k 0=1099511627776:=rfl;have vV:∀ i,oT m can (ju m can WA p s k) p s k (i+1)=_:=λi=>oT.eq_2 ..;have nj:∀ i,i<cH m (aD m p s)->j1 m p s i k<(cM m p).aB.length:=λi hi=>abA hm hp jx hi bf;have hE:E.length=m.ae.length:=hM.rE.len.trans hsk.tl;obtain⟨tl,tr⟩:=hM.rE.row p AT;have nk:=hsk.tr p hp;have Ej:=(bB k).tb p;have gp:m.ae.getD p default=cM m p:=rfl;have Al:∀ j,((ju m can WA p s k).aB.getD p default).getD j 0=AH (ju m can WA p s k) p j:=λj=>rfl;have fb:=hM.b;refine bb (λi:Nat=>(⟨ao [(0,.ptr gi 0 0),(1,Oi p),(2,Oi s),(6,Oi (aD m p s:Nat)),(7,Oi (aD m p (1-s):Nat)),(9,Oi k),(10,Oi (oT m can (ju m can WA p s k) p s k i)),(75,Oi (cH m (aD m p (1-s)):Nat)),(76,Oi k),(97,Oi (cH m (aD m p s):Nat)),(98,Oi i)],ok⟩:St))
     (λi=>i<=cH m (aD m p s)) (λi=>cH m (aD m p s)-i) 0 (aW _) (by rw[hl0];exact Xv X0) ?_
    rintro i pk dL bO bQ;have anB:=NF i;by_cases hi3:i<cH m (aD m p s)
    ·have hA:=abz hm hM hp (s:=s) (o:=i) (k:=k) AT KP;have zN:=nj i hi3;have k8:=vV i;have tr:=tr AT;have eE:=AI (q:=E.getD p default) AT;have htj:=Ej (j1 m p s i k);have Iy:=Al (j1 m p s i k);generalize wV:oT m can (ju m can WA p s k) p s k (i+1)=l1 at *;generalize oT m can (ju m can WA p s k) p s k i=l0 at *;generalize AH (ju m can WA p s k) p (j1 m p s i k)=tj at *;generalize (ju m can WA p s k).aB.getD p default=anD at *;generalize j1 m p s i k=av at *;generalize cM m p=pp at *;generalize vh:pp.aB.getD av 0=pe at *;have Iz:(can.getD (aD m p s) default).getD i false=xA can (aD m p s) i:=rfl;generalize xA can (aD m p s) i=cb at *;by_cases hq:cb=true/\pe≠1099511627776
     ·rw[if_pos hq]at k8;obtain⟨rfl,VP⟩:=hq;((try revert hK K);(repeat'(first|refine Va X0 ?_|(refine V2 X0 ?_ ?_<;>try with_reducible intro hb)|(refine Xi ?_ ?_<;>try intro ht)|refine VD ?_ ?_|exact Xx|fail))<;>try with_reducible intro K hK)
      refine fi hA IM ?_;((try revert hK K);(repeat'(first|refine Va (X5 @fv @fb @eE @tr (X5 @gp @aG.eq_1 @vh @Iy (X3 @xC @Iz @ay.eq_1))) ?_|(refine V2 (X5 @fv @fb @eE @tr (X5 @gp @aG.eq_1 @vh @Iy (X3 @xC @Iz @ay.eq_1))) ?_ ?_<;>try with_reducible intro hb)|(refine Xi ?_ ?_<;>try intro ht)|refine VD ?_ ?_|exact Xx|fail))<;>try with_reducible intro K hK)
      all_goals try(exfalso;omega)
      all_goals exact bO _ (i+1) AT AT (by rw[wV,k8];exact Xv X0)
     ·rw[if_neg hq]at k8;((try revert hK K);(repeat'(first|refine Va X0 ?_|(refine V2 X0 ?_ ?_<;>try with_reducible intro hb)|(refine Xi ?_ ?_<;>try intro ht)|refine VD ?_ ?_|exact Xx|fail))<;>try with_reducible intro K hK)
      refine fi hA IM ?_;((try revert hK K);(repeat'(first|refine Va (X5 @fv @fb @eE @tr (X5 @gp @aG.eq_1 @vh @Iy (X3 @xC @Iz @ay.eq_1))) ?_|(refine V2 (X5 @fv @fb @eE @tr (X5 @gp @aG.eq_1 @vh @Iy (X3 @xC @Iz @ay.eq_1))) ?_ ?_<;>try with_reducible intro hb)|(refine Xi ?_ ?_<;>try intro ht)|refine VD ?_ ?_|exact Xx|fail))<;>try with_reducible intro K hK)
      all_goals first
       |exact bO _ (i+1) AT AT (by rw[wV,k8];exact Xv X0)
       |exact absurd ⟨by assumption,by assumption⟩ hq
    ·obtain rfl:i=cH m (aD m p s):=AT;((try revert hK K);(repeat'(first|refine Va X0 ?_|(refine V2 X0 ?_ ?_<;>try with_reducible intro hb)|(refine Xi ?_ ?_<;>try intro ht)|refine VD ?_ ?_|exact Xx|fail))<;>try with_reducible intro K hK)
     refine bQ _ _ rfl ?_;clear bO bQ dL;repeat(first|refine Xu ?_)
     clear NF hl0 vV nj Ej Al fv fa fb tl tr;have gN:Cw (oT m can (ju m can WA p s k) p s k (cH m (aD m p s)))=_:=Cw.eq_1 _;generalize oT m can (ju m can WA p s k) p s k (cH m (aD m p s))=L at *;generalize Cw L=amt at *;by_cases hL:L=1099511627776;all_goals
      first|rw[if_pos hL]at gN|rw[if_neg hL]at gN
      repeat'(first|((fail_if_success (first|refine eO 21 ?_|refine eP 21 ?_));refine Xr @hL ?_;intro K hK)|refine Xo @hL ?_|(refine hK _ ?_;clear hK K)|(refine Xg @hL ?_ ?_<;>try intro hb)|(refine Xi ?_ ?_<;>try intro ht)|refine Xy ?_|refine Xd ?_ ?_|exact Xx|fail)
      all_goals try(exfalso;omega)
      refine ox 6 IP _ rfl ?_;intro K hK;simp(disch:=omega)only[Ac,↓Pc,simprocAttr,List.take,eV,V4];repeat'(first|with_reducible refine cQ ?_ ?_|omega|with_reducible rfl)
      rw[<- gN];refine⟨rfl,(show kK Tryz.prog 103 [.ptr gi 0 0,Oi p,Oi (1-s:Nat),Oi k,Oi amt] (some 153) _ _ from ?_)⟩;refine qW oC ?_;rintro r jV⟨rfl,xB,mX⟩;refine⟨mX.len,?_⟩;simp(disch:=omega)only[Ac,↓Pc,simprocAttr,eV];refine hK _ ?_;clear hK K;repeat(first|refine Xu ?_)
      ((try revert hK K);(repeat'(first|refine Va X0 ?_|(refine V2 X0 ?_ ?_<;>try with_reducible intro hb)|(refine Xi ?_ ?_<;>try intro ht)|refine VD ?_ ?_|exact Xx|fail))<;>try with_reducible intro K hK)
      exact ak _ (k+1,jV) ⟨NZ,by dsimp only;rw[tJ,Ix];exact xB,a7.trans mX⟩ NZ (Xv X0)
   ·rw[if_neg gn]at Ix;have aQ:(can.getD (aD m p (1-s)) default).getD k false=false:=by simpa [xA] using gn
    ((try revert hK K);(repeat'(first|refine Va (X4 @fv @EL @aQ @ay.eq_1) ?_|(refine V2 (X4 @fv @EL @aQ @ay.eq_1) ?_ ?_<;>try with_reducible intro hb)|(refine Xi ?_ ?_<;>try intro ht)|refine VD ?_ ?_|exact Xx|fail))<;>try with_reducible intro K hK)
    exact ak _ (k+1,ok) ⟨NZ,by dsimp only;rw[tJ,Ix];exact hM,a7⟩ NZ (Xv X0)
  ·obtain rfl:k=cH m (aD m p (1-s)):=AT;((try revert hK K);(repeat'(first|refine Va X0 ?_|(refine V2 X0 ?_ ?_<;>try with_reducible intro hb)|(refine Xi ?_ ?_<;>try intro ht)|refine VD ?_ ?_|exact Xx|fail))<;>try with_reducible intro K hK)
   refine au _ _ rfl ?_;clear ak au Ql;repeat(first|refine Xu ?_)
   ((try revert hK K);(repeat'(first|refine Vb X0 ?_|(refine V2 X0 ?_ ?_<;>try with_reducible intro hb)|(refine Xi ?_ ?_<;>try intro ht)|refine VD ?_ ?_|exact Xx|fail))<;>try with_reducible intro K hK)
   unfold kJ;simp only[gm,fW];exact⟨.bu [],_,⟨rfl,hM,a7⟩,dX rfl a7.len rfl⟩
end
end T

