import Derived.Test.YtfoopmojjjpapaaGreatX20
import Derived.Test.YtfoopmojjjpapaaGreatX31
set_option linter.all false
set_option maxHeartbeats 0
set_option maxRecDepth 20000
open Nat renaming le_refl→aZ,sub_zero→w6,le_trans→ud,lt_or_ge→dT,zero_le→aP,mul_le_mul→w8,le_of_lt→Q3,lt_of_lt_of_le→Ez,succ_mul→KU,mul_le_mul_right→nE
open List renaming replicate→aK,getElem?_set_ne→gT,mem_map→bY,length_set→bJ,getD_eq_getElem?_getD→ay,getElem?_set→bU,getElem_map→EF,length_append→bN,mem_cons→bu,mem_append_left→EE,mem_append_right→zz,map_append→dU,mem_cons_of_mem→dZ,length_cons→du,getElem?_eq_none→dN,append_assoc→bH
open Int renaming mul_nonneg→sY
open And renaming intro→cD
open Go Go.Am Go.Proofs
namespace T
structure WS where
 own:List (List Int)
 aB:List (List Int)
 am:List (List Int×Int)
 deriving Inhabited
def mS(k:List Int):List (List Int×Int)->Int
 |[]=>0
 |p::r=>if p.1=k then p.2 else mS k r
def km(k:List Int)(v:Int):List (List Int×Int)->List (List Int×Int)
 |[]=>[(k,v)]
 |p::r=>if p.1=k then(k,v)::r else p::km k v r
def mE(am:List (List Int×Int)):List (List Int×AV):=am.map λp=>(p.1,QM p.2)
def P7(k:List Int):∀ (am:List (List Int×Int)) (i:Nat),
  (∀ j,gX k (mE am) i=some j->i<=j/\∃ p,am[j-i]?=some p/\p.1=k/\p.2=mS k am/\∀ v,(mE am).set (j-i) (k,QM v)=mE (km k v am)) /\
  (gX k (mE am) i=none->mS k am=0/\∀ v,mE am++[(k,QM v)]=mE (km k v am))
 |[],i=>⟨λj h=>(by cases h),λ_=>⟨rfl,λ_=>rfl⟩⟩
 |p::r,i=>by
  obtain⟨h1,h2⟩:=P7 k r (i+1);have e:gX k (mE (p::r)) i=if p.1=k then some i else gX k (mE r) (i+1):=rfl;rw[e];by_cases hp:p.1=k
  ·rw[if_pos hp];refine⟨λj hj=>?_,λh=>(by cases h)⟩;cases hj;refine⟨aZ _,p,G9,hp,by rw[mS,if_pos hp],λv=>?_⟩;rw[Nat.sub_self,km,if_pos hp];rfl
  ·rw[if_neg hp];refine⟨λj hj=>?_,λh=>?_⟩
   ·obtain⟨a1,q,a2,a3,a4,a5⟩:=h1 j hj;have e2:j-i=(j-(i+1))+1:=Ey;refine⟨Ey,q,by rw[e2,List.getElem?_cons_succ];exact a2,a3,by rw[mS,if_neg hp];exact a4,λv=>?_⟩;rw[e2,km,if_neg hp];show _::(mE r).set _ _=_::mE _;rw[a5]
   ·obtain⟨b1,b2⟩:=h2 h;refine⟨by rw[mS,if_neg hp];exact b1,λv=>?_⟩;rw[km,if_neg hp];show _::(mE r++_)=_::mE _;rw[b2]
def aoj(k:List Int)(am:List (List Int×Int)):(mA k (mE am)).getD (QM 0)=QM (mS k am):=by
 obtain⟨h1,h2⟩:=P7 k am 0;unfold mA;cases h:gX k (mE am) 0 with
 |none=>rw[(h2 h).1];rfl
 |some j =>
  obtain⟨_,p,a2,a3,a4,_⟩:=h1 j h;rw[w6]at a2;simp[mE,a2,a4]
def aok(k:List Int)(v:Int)(am:List (List Int×Int)):Am.fh k (QM v) (mE am)=mE (km k v am):=by
 obtain⟨h1,h2⟩:=P7 k am 0;unfold Am.fh;cases h:gX k (mE am) 0 with
 |none=>exact(h2 h).2 v
 |some j =>
  obtain⟨_,p,_,_,_,a5⟩:=h1 j h;rw[w6]at a5;exact a5 v
section
variable (m:ah)
def c7(p:Nat):Pr:=m.ae.getD p default
def aG(p s:Nat):Nat:=(if s=0 then(c7 m p).fst else(c7 m p).snd).toNat
def cU(c:Nat):Nat:=(m.cls.getD c default).length
def kM(p s o k:Nat):Nat:=if s=1 then k*cU m (aG m p 1)+o else o*cU m (aG m p 1)+k
def oM(p s o:Nat):List Int:=[(p:Int),(s:Int),(o:Int)]
def vv(W:WS)(p s o:Nat)(amt:Int):Int:=min (max (mS (oM p s o) W.am+amt) (-268435456)) 268435456
def kO(p s o:Nat)(d:Int):Nat->List Int->List Int
 |0,t=>t
 |k+1,t=>if(c7 m p).aB.getD (kM m p s o k) 0≠1099511627776 then(kO p s o d k t).set (kM m p s o k) ((kO p s o d k t).getD (kM m p s o k) 0-d) else kO p s o d k t
def pB(W:WS)(c o:Nat):Int:=(W.own.getD c default).getD o 0
def CE(W:WS)(p j:Nat):Int:=(W.aB.getD p default).getD j 0
def ry(W:WS)(p s o:Nat)(amt:Int):WS :=
  ⟨W.own.set (aG m p s) ((W.own.getD (aG m p s) default).set o (pB W (aG m p s) o+(vv W p s o amt-mS (oM p s o) W.am))),
   W.aB.set p (kO m p s o (vv W p s o amt-mS (oM p s o) W.am) (cU m (aG m p (1-s))) (W.aB.getD p default)),
   km (oM p s o) (vv W p s o amt) W.am⟩
variable (can:List (List Bool))
def zr(c i:Nat):Bool:=(can.getD c default).getD i false
def mo(W:WS)(p s:Nat):Nat->WS
 |0=>W
 |i+1=>if zr can (aG m p s) i=true then ry m (mo W p s i) p s i (-(pB (mo W p s i) (aG m p s) i)) else mo W p s i
def qA(W:WS)(p s k:Nat):Nat->Int
 |0=>1099511627776
 |i+1=>if zr can (aG m p s) i=true/\(c7 m p).aB.getD (kM m p s i k) 0≠1099511627776 then min (qA W p s k i) (CE W p (kM m p s i k)) else qA W p s k i
def Ei(n:Int):Int:=if n=1099511627776 then 134217728 else n
def j3(W:WS)(p s:Nat):Nat->WS
 |0=>W
 |k+1=>if zr can (aG m p (1-s)) k=true then ry m (j3 W p s k) p (1-s) k (Ei (qA m can (j3 W p s k) p s k (cU m (aG m p s)))) else j3 W p s k
def Cu(W:WS)(p s:Nat):WS:=j3 m can (mo m can W p s (cU m (aG m p s))) p s (cU m (aG m p (1-s)))
def nY(t:List Int)(a:Nat)(eK:Int):Nat->List Int
 |0=>t
 |i+1=>if(nY t a eK i).getD i 0=eK then(nY t a eK i).set i ((nY t a eK i).getD a 0) else nY t a eK i
def Ec(t:List Int×List (List Int))(p:Nat):List Int×List (List Int) :=
 let a:=aG m p 0
 let b:=aG m p 1
 if t.1.getD a 0=t.1.getD b 0 then t else(nY t.1 a (t.1.getD b 0) t.1.length,(t.2.set a (t.2.getD a default++[(p:Int)])).set b (t.2.getD b default++[(p:Int)]))
def lL(round:Nat):Nat->List Int×List (List Int)
 |0=>((List.range m.cls.length).map λ(i:Nat)=>(i:Int),aK m.cls.length [])
 |k+1=>Ec m (lL round k) ((k+round)%m.ae.length)
def Cv(up:WS×List Bool->Nat->WS×List Bool)(st:WS×List Bool)(p s:Nat):WS×List Bool :=
 if st.2.getD (aG m p s) false=true then st else(Cu m can (up st (aG m p s)).1 p s,(up st (aG m p s)).2)
def jz(c6:List (List Int)):Nat->WS×List Bool->Nat->WS×List Bool
 |0,st,_=>st
 |f+1,st,c=>(c6.getD c default).foldl (λst p=>Cv m can (jz c6 f) (Cv m can (jz c6 f) st p.toNat 0) p.toNat 1) (st.1,st.2.set c true)
def nw(c6:List (List Int))(st:WS×List Bool):Nat->WS×List Bool
 |0=>st
 |c+1=>let q:=nw c6 st c
  if q.2.getD c false=true then q else jz m can c6 (m.cls.length+1) q c
def rq(W:WS)(round:Nat):WS:=(nw m can (lL m round m.ae.length).2 (W,aK m.cls.length false) m.cls.length).1
end
def eh(q:Nat×Nat):List AV:=[if q.2=0 then .tree 1 [] else .ref q.1 1 0 q.2]
def P2{q:Nat×Nat}(h:q.2=0):eh q=[.tree 1 []]:=by unfold eh;rw[if_pos h]
def CD{q:Nat×Nat}(h:0<q.2):eh q=[.ref q.1 1 0 q.2]:=by unfold eh;rw[if_neg Ey]
structure R1(os:List Ob)(D:List (Nat×Nat))(S:List (List Int)):Prop where
 len:D.length=S.length
 row:∀ j,j<D.length->(S.getD j default).length=(D.getD j default).2/\(0<(D.getD j default).2->os[(D.getD j default).1]?=some (.arr 1 (ints (S.getD j default))))
def R1.nil{os:List Ob}:R1 os [] []:=⟨rfl,G9⟩
def R1.app{os:List Ob}{D:List (Nat×Nat)}{S:List (List Int)}(h:R1 os D S)(l:List Ob):R1 (os++l) D S :=
 ⟨h.len,λj hj=>⟨(h.row j hj).1,λh0=>aR ((h.row j hj).2 h0) l⟩⟩
def R1.other{os:List Ob}{D:List (Nat×Nat)}{S:List (List Int)}(h:R1 os D S){i:Nat}(hi:i ∉ D.map (·.1)){y:Ob}:R1 (os.set i y) D S :=
 ⟨h.len,λk hk=>⟨(h.row k hk).1,λh0=>by
  rw[gT (λe=>hi (bY.2 ⟨D.getD k default,aF hk,e.symm⟩))];exact(h.row k hk).2 h0⟩⟩
def R1.set{os:List Ob}{D:List (Nat×Nat)}{S:List (List Int)}(h:R1 os D S)(hn:(D.map (·.1)).Nodup){j:Nat}(hj:j<D.length)(h0:0<(D.getD j default).2){r:List Int}(hr:r.length=(S.getD j default).length):R1 (os.set (D.getD j default).1 (.arr 1 (ints r))) D (S.set j r) :=
 ⟨by rw[bJ];exact h.len,λk hk=>by
  by_cases e:k=j
  ·subst e;have:(S.set k r).getD k default=r:=by rw[ay,bU];simp[<- h.len,hk]
   rw[this];exact⟨hr.trans (h.row k hk).1,λh0=>nr ((h.row k hk).2 h0)⟩
  ·have:(S.set j r).getD k default=S.getD k default:=by rw[ay,gT (λe'=>e e'.symm),ay]
   rw[this];have cE:(D.getD j default).1≠(D.getD k default).1:=λhh=>e ((List.getElem_inj (h₀:=by simpa using hk) (h₁:=by simpa using hj) hn).1 (by
    rw[EF,EF];have a1:D[k]=D.getD k default:=by simp[hk]
    have a2:D[j]=D.getD j default:=by simp[hj]
    rw[a1,a2];exact hh.symm))
   rw[gT cE];exact h.row k hk⟩
structure WF(m:ah)(can:List (List Bool))(gi ai bi mi:Nat)(D E:List (Nat×Nat))(W:WS)(os:List Ob):Prop where
 v:os[gi]?=some (.var (ao m++[.tree 1 (rowsOf aA can),.ref ai 1 0 D.length,.ref bi 1 0 E.length,.dD mi]))
 a:os[ai]?=some (.arr 1 (rowsOf eh D))
 b:os[bi]?=some (.arr 1 (rowsOf eh E))
 mp:os[mi]?=some (.mp 3 (mE W.am))
 rD:R1 os D W.own
 rE:R1 os E W.aB
 nd:(gi::ai::bi::mi::(D++E).map (·.1)).Nodup
 lt:∀ i∈(D++E).map (·.1),i<os.length
section
variable {m:ah} {can:List (List Bool)} {gi ai bi mi:Nat} {D E:List (Nat×Nat)} {W:WS} {os:List Ob}
def WF.app(h:WF m can gi ai bi mi D E W os)(l:List Ob):WF m can gi ai bi mi D E W (os++l):=⟨aR h.v l,aR h.a l,aR h.b l,aR h.mp l,h.rD.app l,h.rE.app l,h.nd,λi hi=>by rw[bN];have:=h.lt i hi;omega⟩
def WF.out(h:WF m can gi ai bi mi D E W os):gi≠mi/\ai≠mi/\bi≠mi/\(∀ j,j<D.length->∀ k,k=gi\/k=ai\/k=bi\/k=mi->(D.getD j default).1≠k)/\(∀ j,j<E.length->∀ k,k=gi\/k=ai\/k=bi\/k=mi->(E.getD j default).1≠k) /\
  mi ∉ D.map (·.1)/\mi ∉ E.map (·.1)/\((D++E).map (·.1)).Nodup:=by
 have hn:=h.nd;simp only[List.nodup_cons,bu,not_or]at hn;obtain⟨⟨g1,g2,g3,g4⟩,⟨a1,a2,a3⟩,⟨b1,b2⟩,m1,hr⟩:=hn;have inD:∀ j,j<D.length->(D.getD j default).1∈(D++E).map (·.1):=λj hj=>bY.2 ⟨_,EE _ (aF hj),rfl⟩;have inE:∀ j,j<E.length->(E.getD j default).1∈(D++E).map (·.1):=λj hj=>bY.2 ⟨_,zz _ (aF hj),rfl⟩;refine⟨g3,a2,b1,λj hj k hk e=>?_,λj hj k hk e=>?_,λhh=>m1 ?_,λhh=>m1 ?_,hr⟩
 ·have:=inD j hj;rw[e]at this;rcases hk with rfl|rfl|rfl|rfl
  ·exact g4 this
  ·exact a3 this
  ·exact b2 this
  ·exact m1 this
 ·have:=inE j hj;rw[e]at this;rcases hk with rfl|rfl|rfl|rfl
  ·exact g4 this
  ·exact a3 this
  ·exact b2 this
  ·exact m1 this
 ·rw[dU];exact EE _ hh
 ·rw[dU];exact zz _ hh
def fW{os:List Ob}{i j:Nat}{o y:Ob}(h:os[i]?=some o)(cE:j≠i):(os.set j y)[i]?=some o:=by rw[gT cE];exact h
def WF.P8(h:WF m can gi ai bi mi D E W os)(am:List (List Int×Int)):WF m can gi ai bi mi D E { W with am:=am } (os.set mi (.mp 3 (mE am))):=by
 obtain⟨h1,h2,h3,h4,h5,h6,h7,h8⟩:=h.out;exact⟨fW h.v h1.symm,fW h.a h2.symm,fW h.b h3.symm,nr h.mp,h.rD.other h6,h.rE.other h7,h.nd,λi hi=>by rw[bJ];exact h.lt i hi⟩
def WF.BX(h:WF m can gi ai bi mi D E W os){j:Nat}(hj:j<D.length)(h0:0<(D.getD j default).2){r:List Int}(hr:r.length=(W.own.getD j default).length):WF m can gi ai bi mi D E { W with own:=W.own.set j r } (os.set (D.getD j default).1 (.arr 1 (ints r))):=by
 obtain⟨h1,h2,h3,h4,h5,h6,h7,h8⟩:=h.out;obtain⟨n1,n2,n3,n4⟩:=IV h8;have k:=h4 j hj;exact⟨fW h.v (k _ G9),fW h.a (k _ G9),fW h.b (k _ G9),fW h.mp (k _ G9),h.rD.set n1 hj h0 hr,h.rE.other (n3 j hj),h.nd,λi hi=>by rw[bJ];exact h.lt i hi⟩
def WF.Aj(h:WF m can gi ai bi mi D E W os){j:Nat}(hj:j<E.length)(h0:0<(E.getD j default).2){r:List Int}(hr:r.length=(W.aB.getD j default).length):WF m can gi ai bi mi D E { W with aB:=W.aB.set j r } (os.set (E.getD j default).1 (.arr 1 (ints r))):=by
 obtain⟨h1,h2,h3,h4,h5,h6,h7,h8⟩:=h.out;obtain⟨n1,n2,n3,n4⟩:=IV h8;have k:=h5 j hj;exact⟨fW h.v (k _ G9),fW h.a (k _ G9),fW h.b (k _ G9),fW h.mp (k _ G9),h.rD.other (n4 j hj),h.rE.set n2 hj h0 hr,h.nd,λi hi=>by rw[bJ];exact h.lt i hi⟩
end
structure Kp(mi:Nat)(D E:List (Nat×Nat))(os ob:List Ob):Prop where
 len:os.length<=ob.length
 same:∀ i o,i≠mi->i ∉ (D++E).map (·.1)->os[i]?=some o->ob[i]?=some o
def Kp.refl(mi:Nat)(D E:List (Nat×Nat))(os:List Ob):Kp mi D E os os:=⟨aZ _,λ_ _ _ _ h=>h⟩
def Kp.trans{mi:Nat}{D E:List (Nat×Nat)}{os o1 o2:List Ob}(h:Kp mi D E os o1)(k:Kp mi D E o1 o2):Kp mi D E os o2 :=
 ⟨ud h.len k.len,λi o h1 h2 h3=>k.same i o h1 h2 (h.same i o h1 h2 h3)⟩
def Kp.app{mi:Nat}{D E:List (Nat×Nat)}{os o1:List Ob}(h:Kp mi D E os o1)(l:List Ob):Kp mi D E os (o1++l) :=
 ⟨by rw[bN];exact ud h.len (Nat.le_add_right _ _),λi o h1 h2 h3=>aR (h.same i o h1 h2 h3) l⟩
def Kp.P8{mi:Nat}{D E:List (Nat×Nat)}{os o1:List Ob}(h:Kp mi D E os o1)(y:Ob):Kp mi D E os (o1.set mi y) :=
 ⟨by rw[bJ];exact h.len,λi o h1 h2 h3=>fW (h.same i o h1 h2 h3) (λe=>h1 e.symm)⟩
def Kp.BX{mi:Nat}{D E:List (Nat×Nat)}{os o1:List Ob}(h:Kp mi D E os o1){j:Nat}(hj:j<D.length)(y:Ob):Kp mi D E os (o1.set (D.getD j default).1 y) :=
 ⟨by rw[bJ];exact h.len,λi o h1 h2 h3=>fW (h.same i o h1 h2 h3) (λe=>h2 (bY.2 ⟨_,EE _ (aF hj),e⟩))⟩
def Kp.Aj{mi:Nat}{D E:List (Nat×Nat)}{os o1:List Ob}(h:Kp mi D E os o1){j:Nat}(hj:j<E.length)(y:Ob):Kp mi D E os (o1.set (E.getD j default).1 y) :=
 ⟨by rw[bJ];exact h.len,λi o h1 h2 h3=>fW (h.same i o h1 h2 h3) (λe=>h2 (bY.2 ⟨_,zz _ (aF hj),e⟩))⟩
structure nV(m:ah)(W:WS):Prop where
 ol:W.own.length=m.cls.length
 tl:W.aB.length=m.ae.length
 or:∀ i,i<m.cls.length->(W.own.getD i default).length=cU m i
 tr:∀ j,j<m.ae.length->(W.aB.getD j default).length=(c7 m j).aB.length
 ky:∀ q∈W.am,∃ p s o:Int,q.1=[p,s,o]
structure WB(B:Int)(W:WS):Prop where
 ob:∀ c o,-B<=pB W c o/\pB W c o<=B
 tb:∀ p j,-B<=CE W p j/\CE W p j<=B
 ab:∀ k,-268435456<=mS k W.am/\mS k W.am<=268435456
 al:12884901888*(W.am.length:Int)<=B
def WB.mono{B C:Int}{W:WS}(h:WB B W)(hBC:B<=C):WB C W:=⟨λc o=>by have:=h.ob c o;omega,λp j=>by have:=h.tb p j;omega,h.ab,by have:=h.al;omega⟩
section
variable {m:ah} {can:List (List Bool)} {W:WS}
def Kt(p s o:Nat)(d:Int):∀ (k:Nat) (t:List Int),(kO m p s o d k t).length=t.length
 |0,t=>rfl
 |k+1,t=>by
  rw[kO];split
  ·rw[bJ,Kt]
  ·exact Kt p s o d k t
def PY(l:List Int)(i j:Nat)(x:Int):(l.set i x).getD j 0=if i=j/\j<l.length then x else l.getD j 0:=by
 simp only[ay,bU];by_cases h:i=j
 ·subst h;by_cases h2:i<l.length
  ·simp[h2]
  ·simp[h2]
 ·simp[h]
def P9{p s o:Nat}{d B:Int}(hB:0<=B)(hd : -536870912<=d/\d<=536870912):∀ (k:Nat) (t:List Int),(∀ j,-B<=t.getD j 0/\t.getD j 0<=B)->∀ j,-(B+536870912*k)<=(kO m p s o d k t).getD j 0/\(kO m p s o d k t).getD j 0<=B+536870912*k
 |0,t,h,j=>by have:=h j;rw[kO];omega
 |k+1,t,h,j=>by
  have h1:=P9 (p:=p) (s:=s) (o:=o) hB hd k t h;rw[kO];split
  ·rw[PY];split
   ·have:=h1 (kM m p s o k);push_cast;omega
   ·have:=h1 j;push_cast;omega
  ·have:=h1 j;push_cast;omega
def aeB(k k':List Int)(v:Int):∀ am:List (List Int×Int),mS k' (km k v am)=if k'=k then v else mS k' am
 |[]=>by
  show(if k=k' then v else 0)=_;by_cases h:k'=k
  ·rw[if_pos h,if_pos h.symm]
  ·rw[if_neg h,if_neg (λe=>h e.symm)];rfl
 |p::r=>by
  rw[km];split
  ·rename_i hp;show(if k=k' then v else mS k' r)=_;by_cases h:k'=k
   ·rw[if_pos h,if_pos h.symm]
   ·rw[if_neg h,if_neg (λe=>h e.symm),mS,if_neg (λe=>h (e.symm.trans hp))]
  ·rename_i hp;show(if p.1=k' then p.2 else mS k' (km k v r))=_;rw[aeB k k' v r];by_cases h:k'=k
   ·rw[if_pos h,if_neg (λe=>hp (e.trans h)),if_pos h]
   ·rw[if_neg h,if_neg h];rfl
def aeC{k:List Int}{v:Int}:∀ {am:List (List Int×Int)} {q:List Int×Int},q∈km k v am->q∈am\/q.1=k
 |[],q,h=>by rw[km,List.mem_singleton]at h;subst h;exact .inr rfl
 |p::r,q,h=>by
  rw[km]at h;split at h
  ·rcases bu.1 h with rfl|h
   ·exact .inr rfl
   ·exact .inl (dZ _ h)
  ·rcases bu.1 h with rfl|h
   ·exact .inl (List.mem_cons_self ..)
   ·rcases aeC h with h|h
    ·exact .inl (dZ _ h)
    ·exact .inr h
def aeD(k:List Int)(v:Int):∀ am:List (List Int×Int),(km k v am).length<=am.length+1
 |[]=>aZ _
 |p::r=>by
  rw[km];split
  ·simp
  ·have:=aeD k v r;simp only[du];omega
def aeE(W:WS)(p s o:Nat)(amt:Int): -268435456<=vv W p s o amt/\vv W p s o amt<=268435456:=by unfold vv;omega
def Eh{α:Type}(l:List α)(i j:Nat)(x d:α):(l.set i x).getD j d=if i=j/\j<l.length then x else l.getD j d:=by
 simp only[ay,bU];by_cases h:i=j
 ·subst h;by_cases h2:i<l.length
  ·simp[h2]
  ·simp[h2]
 ·simp[h]
def nV.move(h:nV m W)(p s o:Nat)(amt:Int):nV m (ry m W p s o amt):=by
 unfold ry;refine⟨by simp[h.ol],by simp[h.tl],λi hi=>?_,λj hj=>?_,λq hq=>?_⟩
 ·dsimp only;rw[Eh];split
  ·rename_i e;rw[bJ,e.1];exact h.or i hi
  ·exact h.or i hi
 ·dsimp only;rw[Eh];split
  ·rename_i e;rw[Kt,e.1];exact h.tr j hj
  ·exact h.tr j hj
 ·rcases aeC hq with h1|h1
  ·exact h.ky q h1
  ·exact⟨_,_,_,h1⟩
def WB.move{B:Int}(hm:VM m)(hB:0<=B)(h:WB B W)(p s o:Nat)(amt:Int):WB (B+12884901888) (ry m W p s o amt):=by
 have hn:=aeE W p s o amt;have ha:=h.ab (oM p s o);have aO:cU m (aG m p (1-s))<=24:=by
  unfold cU;rcases dT (aG m p (1-s)) m.cls.length with h1|h1
  ·exact hm.opt _ (aF h1)
  ·rw[ay,dN h1];exact aP _
 unfold ry;generalize vv W p s o amt=n at *;refine⟨λc o'=>?_,λq j=>?_,λk=>?_,by have h1:=aeD (oM p s o) n W.am;have h2:=h.al;dsimp only;omega⟩
 ·unfold pB;dsimp only;rw[Eh];split
  ·rw[PY];split
   ·have:=h.ob (aG m p s) o;unfold pB at this;omega
   ·have:=h.ob (aG m p s) o';unfold pB at this;omega
  ·have:=h.ob c o';unfold pB at this;omega
 ·unfold CE;dsimp only;rw[Eh];split
  ·have:=P9 (m:=m) (p:=p) (s:=s) (o:=o) (d:=n-mS (oM p s o) W.am) hB Ey (cU m (aG m p (1-s))) (W.aB.getD p default) (λj=>h.tb p j) j;omega
  ·have:=h.tb q j;unfold CE at this;omega
 ·dsimp only;rw[aeB];split
  ·exact hn
  ·exact h.ab k
def Kk(h:nV m W)(p s:Nat):∀ i,nV m (mo m can W p s i)
 |0=>h
 |i+1=>by
  rw[mo];split
  ·exact(Kk h p s i).move _ _ _ _
  ·exact Kk h p s i
def P1(hm:VM m){B:Int}(hB:0<=B)(h:WB B W)(p s:Nat):∀ i:Nat,WB (B+12884901888*i) (mo m can W p s i)
 |0=>h.mono Ey
 |i+1=>by
  have h1:=P1 hm hB h p s i;rw[mo];split
  ·exact(h1.move hm Ey _ _ _ _).mono (by push_cast;omega)
  ·exact h1.mono (by push_cast;omega)
def Kn(h:nV m W)(p s:Nat):∀ i,nV m (j3 m can W p s i)
 |0=>h
 |i+1=>by
  rw[j3];split
  ·exact(Kn h p s i).move _ _ _ _
  ·exact Kn h p s i
def P3(hm:VM m){B:Int}(hB:0<=B)(h:WB B W)(p s:Nat):∀ i:Nat,WB (B+12884901888*i) (j3 m can W p s i)
 |0=>h.mono Ey
 |i+1=>by
  have h1:=P3 hm hB h p s i;rw[j3];split
  ·exact(h1.move hm Ey _ _ _ _).mono (by push_cast;omega)
  ·exact h1.mono (by push_cast;omega)
def aer{B:Int}(hB:0<=B)(h:WB B W)(p s k:Nat):∀ i:Nat,-B<=qA m can W p s k i/\qA m can W p s k i<=1099511627776
 |0=>by rw[qA];omega
 |i+1=>by
  have h1:=aer hB h p s k i;rw[qA];split
  ·have:=h.tb p (kM m p s i k);omega
  ·exact h1
def aoh(h:nV m W)(p s:Nat):nV m (Cu m can W p s):=Kn (Kk h p s _) p s _
def CC(hm:VM m)(c:Nat):cU m c<=24:=by
 unfold cU;rcases dT c m.cls.length with h1|h1
 ·exact hm.opt _ (aF h1)
 ·rw[ay,dN h1];exact aP _
def aoi(hm:VM m){B:Int}(hB:0<=B)(h:WB B W)(p s:Nat):WB (B+618475290624) (Cu m can W p s):=by
 have h1:=CC hm (aG m p s);have h2:=CC hm (aG m p (1-s));exact(P3 hm Ey (P1 (can:=can) hm hB h p s _) p s _).mono Ey
end
section
variable {m:ah} {can:List (List Bool)} {gi ai bi mi:Nat} {D E:List (Nat×Nat)} {W:WS} {os:List Ob}
def AF(hm:VM m){p:Nat}(hp:p<m.ae.length):iC m (c7 m p)=true/\(c7 m p).fst.toNat<m.cls.length/\(c7 m p).snd.toNat<m.cls.length/\0<=(c7 m p).fst/\0<=(c7 m p).snd/\(c7 m p).fst<(c7 m p).snd:=by
 have dY:=kC hm.pr _ (aF (l:=m.ae) (i:=p) (d:=default) hp);obtain⟨_,h1,h2,h3,_⟩:=rZ dY;exact⟨dY,by unfold c7;omega,by unfold c7;omega,h1,by unfold c7;omega,h2⟩
def aeu(hm:VM m)(h:WF m can gi ai bi mi D E W os){p s o k:Nat}(hp:p<m.ae.length)(ho:o<24)(hk:k<24):
  Holds Tryz.prog 104 [.ptr gi 0 0,QM p,QM s,QM o,QM k] os (QM (kM m p s o k:Nat)) os:=by
 obtain⟨dY,q1,q2,q3,q4,q5⟩:=AF hm hp;have fv:=h.v;have p6:=hm.ae;have sL:=hm.cls;have hS:=hm.opt _ (aF (l:=m.cls) (i:=(c7 m p).snd.toNat) (d:=default) q2);have gj:m.ae.getD p default=c7 m p:=rfl;have e1:(if s=1 then k*(m.cls.getD (c7 m p).snd.toNat default).length+o else o*(m.cls.getD (c7 m p).snd.toNat default).length+k)=kM m p s o k:=rfl;generalize kM m p s o k=r at *;generalize pd:(m.cls.getD (c7 m p).snd.toNat default).length=n2 at *;generalize c7 m p=pp at *;have b1:(k:Int)*n2<=24*24:=by
  have:=w8 (Q3 hk) hS
  exact_mod_cast this
 have b2:(o:Int)*n2<=24*24:=by
  have:=w8 (Q3 ho) hS
  exact_mod_cast this
 have b3:(0:Int)<=(k:Int)*n2:=sY Ey Ey;have b4:(0:Int)<=(o:Int)*n2:=sY Ey Ey;refine Holds.aM 36 os.length [.tmp 10] Tryz.func104 ?_;((try revert hK K);(repeat'(first|refine Vb (X5 @fv @ao.eq_1 @aI.eq_1 @gj @pd) ?_|(refine V2 (X5 @fv @ao.eq_1 @aI.eq_1 @gj @pd) ?_ ?_<;>try with_reducible intro hb)|(refine Xi ?_ ?_<;>try intro ht)|refine VD ?_ ?_|exact Xx|fail))<;>try with_reducible intro K hK)
 all_goals try omega
 ·have e:(k:Int)*n2+o=(r:Nat):=by rw[<- e1,if_pos Ey];push_cast;rfl
  rw[e];exact eN rfl (aZ _) rfl
 ·have e:(o:Int)*n2+k=(r:Nat):=by rw[<- e1,if_neg Ey];push_cast;rfl
  rw[e];exact eN rfl (aZ _) rfl
def GS(hm:VM m)(h:WF m can gi ai bi mi D E W os){p:Nat}(hp:p<m.ae.length):
  Holds Tryz.prog 71 [.ptr gi 0 0,QM p] os (.tree 1 [[.tree 1 (ints [(c7 m p).fst])],[.tree 1 (ints [(c7 m p).snd])]]) (os++[.gone,.gone,.gone,.gone]):=by
 obtain⟨dY,q1,q2,q3,q4,q5⟩:=AF hm hp;have fv:=h.v;have eg:=aR fv;have p6:=hm.ae;have sL:=hm.cls;have gj:m.ae.getD p default=c7 m p:=rfl;generalize c7 m p=pp at *;refine Holds.aM 21 os.length [.tmp 4] Tryz.func71 ?_;repeat'(first|((fail_if_success (first|refine dW 2 ?_|refine dX 2 ?_));refine Xr (X5 @fv @ao.eq_1 @aI.eq_1 @gj (X2 @bT @bH.{0})) ?_;intro K hK)|refine Xo (X5 @fv @ao.eq_1 @aI.eq_1 @gj (X2 @bT @bH.{0})) ?_|(refine hK _ ?_;clear hK K)|(refine Xg (X5 @fv @ao.eq_1 @aI.eq_1 @gj (X2 @bT @bH.{0})) ?_ ?_<;>try intro hb)|(refine Xi ?_ ?_<;>try intro ht)|refine Xy ?_|refine Xd ?_ ?_|exact Xx|fail)
 all_goals try(exfalso;omega)
 refine IG 7 Hg ?_;intro K K1 hK wG;simp(disch:=omega)only[Ac,↓Pc,simprocAttr,bT,bH,aI];repeat'(first|with_reducible refine cD ?_ ?_|omega|with_reducible rfl)
 refine wG _ ⟨ar [(20,.tree 1 [[.tree 1 (ints [pp.fst])],[.tree 1 (ints [pp.snd])]])],os++[.gone,.gone,.gone,.gone]⟩ ?_ ?_
 ·refine aD.trans (σ1:=⟨ar [(20,.ref (os.length+3) 1 0 2)],os++[.var (aI pp),.arr 1 [[QM pp.fst]],.arr 1 [[QM pp.snd]],.arr 1 [[.ref (os.length+1) 1 0 1],[.ref (os.length+2) 1 0 1]]]⟩) (Xv @aI.eq_1) ?_;refine aD.trans (aD.aky 20 (λi=>i<os.length) (v:=.tree 1 [[.tree 1 (ints [pp.fst])],[.tree 1 (ints [pp.snd])]]) (os2:=os++[.gone,.gone,.gone,.gone]) G9 (λi o hi=>?_) ?_) (Xv X0)
  ·dsimp only at hi;by_cases aX:i<os.length
   ·left;rw[List.getElem?_append_left aX]at hi ⊢;exact⟨aX,hi⟩
   ·right;have h4:=(List.getElem?_eq_some_iff.1 hi).1;simp only[bN,du,List.length_nil]at h4;refine⟨aX,?_⟩;rw[List.getElem?_append_right Ey];rcases(by omega:i-os.length=0\/i-os.length=1\/i-os.length=2\/i-os.length=3) with e|e|e|e<;>rw[e]<;>rfl
  ·refine cX.mk (rows:=[[.ref (os.length+1) 1 0 1],[.ref (os.length+2) 1 0 1]]) (by rw[lf];rfl) rfl Ey G9 ?_;exact⟨⟨cX.mk (rows:=[[QM pp.fst]]) (by rw[lf];rfl) rfl Ey (by simp[ints]) ⟨⟨.lit _,trivial⟩,trivial⟩,trivial⟩,⟨cX.mk (rows:=[[QM pp.snd]]) (by rw[lf];rfl) rfl Ey (by simp[ints]) ⟨⟨.lit _,trivial⟩,trivial⟩,trivial⟩,trivial⟩
 clear wG K1;simp(disch:=omega)only[Ac,↓Pc,simprocAttr];refine hK _ ?_;repeat(first|refine Xu ?_)
 ((try revert hK K);(repeat'(first|refine Vb X0 ?_|(refine V2 X0 ?_ ?_<;>try with_reducible intro hb)|(refine Xi ?_ ?_<;>try intro ht)|refine VD ?_ ?_|exact Xx|fail))<;>try with_reducible intro K hK)
 exact eN rfl G9 rfl
end
section
variable {m:ah} {can:List (List Bool)} {gi ai bi mi:Nat} {D E:List (Nat×Nat)} {W:WS} {os:List Ob}
def aet(hm:VM m){p s o k:Nat}(hp:p<m.ae.length)(hs:s<=1)(ho:o<cU m (aG m p s))(hk:k<cU m (aG m p (1-s))):kM m p s o k<(c7 m p).aB.length:=by
 obtain⟨dY,_⟩:=AF hm hp;obtain⟨_,_,_,_,hl⟩:=rZ dY;have kx:((c7 m p).aB.length:Int)=(cU m (aG m p 0):Nat)*(cU m (aG m p 1):Nat):=hl;have tg:(c7 m p).aB.length=cU m (aG m p 0)*cU m (aG m p 1):=by exact_mod_cast kx
 rw[tg];rcases(show s=0\/s=1 by omega) with rfl|rfl
 ·show o*cU m (aG m p 1)+k<_;exact Ez (Nat.add_lt_add_left hk _) (by rw[<- KU];exact nE _ ho)
 ·show k*cU m (aG m p 1)+o<_;exact Ez (Nat.add_lt_add_left ho _) (by rw[<- KU];exact nE _ hk)
def aep(hm:VM m)(h:WF m can gi ai bi mi D E W os)(hs:nV m W){B:Int}(hB:0<=B/\B<=2305843009213693952)(hW:WB B W){p s o:Nat}(hp:p<m.ae.length)(jD:s<=1)(ho:o<cU m (aG m p s)){amt:Int}(ham : -2305843009213693952<=amt/\amt<=2305843009213693952):
  dv Tryz.prog 103 [.ptr gi 0 0,QM p,QM s,QM o,QM amt] os λr ob=>r=.bC []/\WF m can gi ai bi mi D E (ry m W p s o amt) ob/\Kp mi D E os ob:=by
 obtain⟨dY,q1,q2,q3,q4,q5⟩:=AF hm hp;have fv:=h.v;have ev:=aR fv;have fm:=h.mp;have em:=aR fm;have p6:=hm.ae;have sL:=hm.cls;have da:=aeE W p s o amt;have gN:=hW.ab (oM p s o);have jF:(mA [(p:Int),(s:Int),(o:Int)] (mE W.am)).getD (QM 0)=QM (mS (oM p s o) W.am):=aoj _ _;have Bu:min (max (mS (oM p s o) W.am+amt) (-268435456)) 268435456=vv W p s o amt:=rfl;have iP:Am.fh [(p:Int),(s:Int),(o:Int)] (QM (vv W p s o amt)) (mE W.am)=mE (km (oM p s o) (vv W p s o amt) W.am):=aok _ _ _;have hM:=h.P8 (km (oM p s o) (vv W p s o amt) W.am);have sm:=jm fm;refine dv.aM 119 os.length [] Tryz.func103 ?_;refine Xk ?_;refine Np ?_;intro K hK;simp(disch:=omega)only[Ac,↓Pc,simprocAttr,bT];repeat'(first|with_reducible refine cD ?_ ?_|omega|with_reducible rfl)
 refine hK _ ?_;clear hK K;refine hn _ ?_;(try clear hn;try clear he)
 refine bP (aD.uK 10 os.length (cells:=[QM p,QM s,QM o]) (by rw[kF]) (by simp only[Kc,simprocAttr]) G9) ?_;refine bP (σ':=⟨ar [(0,.ptr gi 0 0),(1,QM p),(2,QM s),(3,QM o),(4,QM amt),(10,.b6 [QM p,QM s,QM o])],os++[.gone]⟩) (by rw[FK];exact Xv X0) ?_;generalize Oz:mS (oM p s o) W.am=a at *;generalize HJ:vv W p s o amt=n at *;refine Xk ?_;refine wo ?_;intro Q hn he;refine pH ⟨ar [(0,.ptr gi 0 0),(1,QM p),(2,QM s),(3,QM o),(4,QM amt),(10,.b6 [QM p,QM s,QM o]),(11,QM n)],os++[.gone]⟩ hn ?_ (λkey=>?_);rotate_left
 ·refine nf [] (.take 0 (.take 1 (.take 2 (.take 3 (.take 4 (.take 5 (.take 6 (.take 7 (.take 8 (.take 9 (.take 10 .nil))))))))))) rfl Hg (by decide +kernel) ?_;simp(disch:=omega)only[Ac,↓Pc,simprocAttr,wB,wA,wz,wy,uY,rO,od,mX,mY,cy,↓Lq,fv,ev,fm,em,ao,jF,Bu,bT];repeat'(first|with_reducible refine cD ?_ ?_|omega|with_reducible rfl)
  all_goals
   refine key _ ?_;exact Xv X0
 (try clear hn;try clear he)
 try(try clear Q)
 refine Xk ?_;refine wo ?_;intro Q hn he;refine pH ⟨ar [(0,.ptr gi 0 0),(1,QM p),(2,QM s),(3,QM o),(4,QM (n-a)),(10,.b6 [QM p,QM s,QM o]),(11,QM n)],os++[.gone]⟩ hn ?_ (λkey=>?_);rotate_left
 ·refine nf [] (.take 0 (.take 1 (.take 2 (.take 3 (.take 4 (.take 5 (.take 6 (.take 7 (.take 8 .nil))))))))) rfl Hg (by decide +kernel) ?_;simp(disch:=omega)only[Ac,↓Pc,simprocAttr,wB,wA,wz,wy,uY,rO,od,mX,mY,cy,↓Lq,fv,ev,fm,em,ao,jF,Bu,bT];repeat'(first|with_reducible refine cD ?_ ?_|omega|with_reducible rfl)
  all_goals
   refine key _ ?_;exact Xv X0
 (try clear hn;try clear he)
 try(try clear Q)
 refine Xk ?_;refine wo ?_;intro Q hn he;refine pH ⟨ar [(0,.ptr gi 0 0),(1,QM p),(2,QM s),(3,QM o),(4,QM (n-a))],os.set mi (.mp 3 (mE (km (oM p s o) n W.am)))++[.gone]⟩ hn ?_ (λkey=>?_);rotate_left
 ·refine nf [] (.take 0 (.take 1 (.take 2 (.take 3 (.take 4 (.take 5 (.take 6 .nil))))))) rfl Hg (by decide +kernel) ?_;simp(disch:=omega)only[Ac,↓Pc,simprocAttr,wB,wA,wz,wy,uY,rO,od,mX,mY,cy,↓Lq,fv,ev,fm,em,ao,jF,Bu,bT,iP,sm];repeat'(first|with_reducible refine cD ?_ ?_|omega|with_reducible rfl)
  all_goals
   refine key _ ?_;exact Xv X0
 (try clear hn;try clear he)
 try(try clear Q)
 have tV:=hM.app [.gone];have gf:Kp mi D E os (os.set mi (.mp 3 (mE (km (oM p s o) n W.am)))++[Ob.gone]):=((Kp.refl mi D E os).P8 _).app _;have hWm:ry m W p s o amt=⟨W.own.set (aG m p s) ((W.own.getD (aG m p s) default).set o (pB W (aG m p s) o+(n-a))),W.aB.set p (kO m p s o (n-a) (cU m (aG m p (1-s))) (W.aB.getD p default)),km (oM p s o) n W.am⟩:=by unfold ry;rw[HJ,Oz]
 rw[hWm];clear hM fv ev fm em sm jF iP hWm;generalize os.set mi (.mp 3 (mE (km (oM p s o) n W.am)))++[Ob.gone]=lI at *;have vY:=GS hm tV hp;have ka:=GS hm (tV.app [.gone,.gone,.gone,.gone]) hp;have e0:(c7 m p).fst=((aG m p 0:Nat):Int):=by show _=((c7 m p).fst.toNat:Int);omega
 have e1:(c7 m p).snd=((aG m p 1:Nat):Int):=by show _=((c7 m p).snd.toNat:Int);omega
 rw[e0,e1]at vY ka;refine Xk ?_;refine wo ?_;intro Q hn he;refine pH ⟨ar [(0,.ptr gi 0 0),(1,QM p),(2,QM s),(3,QM o),(4,QM (n-a)),(12,QM (aG m p s:Nat)),(13,QM (aG m p (1-s):Nat))],lI++[.gone,.gone,.gone,.gone,.gone,.gone,.gone,.gone]⟩ hn ?_ (λkey=>?_);rotate_left
 ·refine nf [] (.take 0 (.take 1 (.take 2 (.take 3 (.take 8 (.take 9 (.take 11 (.take 12 (.both 4 (.both 5 (.both 6 (.both 7 (.take 10 (.take 13 (.take 14 (.take 15 (.take 16 (.take 17 (.take 18 .nil))))))) 10 (.take 7 (.take 13 (.take 14 (.take 15 (.take 16 (.take 17 (.take 18 .nil)))))))) 10 (.take 6 (.take 7 (.take 13 (.take 14 (.take 15 (.take 16 (.take 17 (.take 18 .nil))))))))) 10 (.take 5 (.take 6 (.take 7 (.take 13 (.take 14 (.take 15 (.take 16 (.take 17 (.take 18 .nil)))))))))) 10 (.take 4 (.take 5 (.take 6 (.take 7 (.take 13 (.take 14 (.take 15 (.take 16 (.take 17 (.take 18 .nil))))))))))))))))))) rfl Hg (by decide +kernel) ?_;simp(disch:=omega)only[Ac,↓Pc,simprocAttr,wB,wA,wz,wy,uY,rO,od,mX,mY,cy,↓Lq];repeat'(first|with_reducible refine cD ?_ ?_|omega|with_reducible rfl)
  all_goals
   refine gr vY G9 ?_;rcases(show s=0\/s=1 by omega) with rfl|rfl;all_goals
    simp(disch:=omega)only[Ac,↓Pc,simprocAttr,wB,wA,wz,wy,uY,rO,od,mX,mY,cy,↓Lq,bH];repeat'(first|with_reducible refine cD ?_ ?_|omega|with_reducible rfl)
   all_goals
    refine gr ka G9 ?_;simp(disch:=omega)only[Ac,↓Pc,simprocAttr,wB,wA,wz,wy,uY,rO,od,mX,mY,cy,↓Lq,bH];repeat'(first|with_reducible refine cD ?_ ?_|omega|with_reducible rfl)
   all_goals
    refine key _ ?_;exact Xv X0
 (try clear hn;try clear he)
 try(try clear Q)
 have CF:=tV.app [.gone,.gone,.gone,.gone,.gone,.gone,.gone,.gone];have ed:Kp mi D E os (lI++[.gone,.gone,.gone,.gone,.gone,.gone,.gone,.gone]):=gf.app _;clear tV gf vY ka h;generalize lI++[Ob.gone,Ob.gone,Ob.gone,Ob.gone,Ob.gone,Ob.gone,Ob.gone,Ob.gone]=os2 at *;have bI:∀ s,s<=1->aG m p s<m.cls.length:=λs hs=>by
  rcases(show s=0\/s=1 by omega) with rfl|rfl
  ·exact q1
  ·exact q2
 have hc:=bI s jD;have oI:∀ k,k<cU m (aG m p (1-s))->kM m p s o k<(c7 m p).aB.length:=λk hk=>aet hm hp jD ho hk;have gq:=bI (1-s) Ey;have hD:D.length=m.cls.length:=CF.rD.len.trans hs.ol;have hE:E.length=m.ae.length:=CF.rE.len.trans hs.tl;obtain⟨rl,ro⟩:=CF.rD.row (aG m p s) Ey;dsimp only at rl ro;have nN:=hs.or _ hc;have ro:=ro Ey;have eD:=CD (q:=D.getD (aG m p s) default) Ey;have fv:=CF.v;have fa:=CF.a;have bS:=hW.ob (aG m p s) o;have zs:=CF.BX (j:=aG m p s) Ey Ey (r:=(W.own.getD (aG m p s) default).set o (pB W (aG m p s) o+(n-a))) G9;have Ea:=ed.BX (j:=aG m p s) Ey (.arr 1 (ints ((W.own.getD (aG m p s) default).set o (pB W (aG m p s) o+(n-a)))));have B7:(W.own.getD (aG m p s) default).getD o 0=pB W (aG m p s) o:=rfl;have sD:=nr (y:=Ob.arr 1 (ints ((W.own.getD (aG m p s) default).set o (pB W (aG m p s) o+(n-a))))) ro;generalize aq6:W.own.getD (aG m p s) default=row at *;generalize pB W (aG m p s) o=ow at *;generalize aG m p s=c at *;have Ku:=zs.v;repeat'(first|((fail_if_success (first|refine dW 6 ?_|refine dX 6 ?_));refine Xr (X5 @fv @fa @eD @ro (X2 @B7 @Ku)) ?_;intro K hK)|refine Xo (X5 @fv @fa @eD @ro (X2 @B7 @Ku)) ?_|(refine hK _ ?_;clear hK K)|(refine Xg (X5 @fv @fa @eD @ro (X2 @B7 @Ku)) ?_ ?_<;>try intro hb)|(refine Xi ?_ ?_<;>try intro ht)|refine Xy ?_|refine Xd ?_ ?_|exact Xx|fail)
 refine bP (σ':=⟨ar [(0,.ptr gi 0 0),(1,QM p),(2,QM s),(3,QM o),(4,QM (n-a)),(13,QM (aG m p (1-s):Nat))],os2.set (D.getD c default).1 (.arr 1 (ints (row.set o (ow+(n-a)))))⟩) (Xv X0) ?_;clear CF ed fv fa sD ro rl Ku;dsimp only at zs;generalize os2.set (D.getD c default).1 (.arr 1 (ints (row.set o (ow+(n-a)))))=Kv at *;generalize W.own.set c (row.set o (ow+(n-a)))=aon at *;have gj:m.ae.getD p default=c7 m p:=rfl;have aO:(m.cls.getD (aG m p (1-s)) default).length=cU m (aG m p (1-s)):=rfl;have aq7:cU m (aG m p (1-s))<=24:=hm.opt _ (aF gq);have l9:=λk=>P9 (m:=m) (p:=p) (s:=s) (o:=o) (d:=n-a) hB.1 Ey k (W.aB.getD p default) (λj=>hW.tb p j);have Dt:=hs.tr p hp;have iP:W.aB.set p (W.aB.getD p default)=W.aB:=BY W.aB p;have nm:=λk=>Kt (m:=m) p s o (n-a) k (W.aB.getD p default);have C5:∀ k,kO m p s o (n-a) (k+1) (W.aB.getD p default)=_:=λk=>kO.eq_2 ..;have yJ:kO m p s o (n-a) 0 (W.aB.getD p default)=W.aB.getD p default:=rfl;have I2:o<24:=Ez ho (CC hm c);generalize W.aB.getD p default=aB at *;generalize aeG:cU m (aG m p (1-s))=sz at *;generalize cu:c7 m p=pp at *;have fv:=zs.v;((try revert hK K);(repeat'(first|refine Va (X3 @fv @aO @aeG) ?_|(refine V2 (X3 @fv @aO @aeG) ?_ ?_<;>try with_reducible intro hb)|(refine Xi ?_ ?_<;>try intro ht)|refine VD ?_ ?_|exact Xx|fail))<;>try with_reducible intro K hK)
 refine aQ (λz:Nat×List Ob=>(⟨ar [(0,.ptr gi 0 0),(1,QM p),(2,QM s),(3,QM o),(4,QM (n-a)),(82,QM sz),(83,QM z.1)],z.2⟩:St))
  (λz=>z.1<=sz/\WF m can gi ai bi mi D E { own:=aon,aB:=W.aB.set p (kO m p s o (n-a) z.1 aB),am:=km (oM p s o) n W.am } z.2/\Kp mi D E os z.2)
  (λz=>sz-z.1) (0,Kv) ⟨aP _,by dsimp only;rw[yJ,iP];exact zs,Ea⟩ (Xv X0) ?_
 clear zs Ea fv;rintro⟨k,ok⟩⟨hk,hM,bk⟩Ql ak aq;dsimp only at hk hM bk ⊢;have fv:=hM.v;have fb:=hM.b;by_cases bj:k<sz
 ·have hA:=aeu hm hM hp (s:=s) I2 (show k<24 by omega);obtain⟨tl,tr⟩:=hM.rE.row p Ey;have pZ:p<W.aB.length:=by have:=hs.tl;omega
  have q9:(W.aB.set p (kO m p s o (n-a) k aB)).getD p default=kO m p s o (n-a) k aB:=wE _ _ _ pZ;dsimp only at tl tr;rw[q9]at tl tr;have By:=oI k bj;have gH:=nm k;have tr:=tr Ey;have eE:=CD (q:=E.getD p default) Ey;have Kw:=hM.Aj (j:=p) Ey Ey (r:=(kO m p s o (n-a) k aB).set (kM m p s o k) ((kO m p s o (n-a) k aB).getD (kM m p s o k) 0-(n-a))) (by rw[q9,bJ]);have hK4:=bk.Aj (j:=p) Ey (.arr 1 (ints ((kO m p s o (n-a) k aB).set (kM m p s o k) ((kO m p s o (n-a) k aB).getD (kM m p s o k) 0-(n-a)))));have gG:=l9 k (kM m p s o k);have Cn:=C5 k;dsimp only at Kw;rw[List.set_set]at Kw;have sE:=nr (y:=Ob.arr 1 (ints ((kO m p s o (n-a) k aB).set (kM m p s o k) ((kO m p s o (n-a) k aB).getD (kM m p s o k) 0-(n-a))))) tr;have fv4:=Kw.v;generalize aeI:kO m p s o (n-a) (k+1) aB=tk1 at *;generalize kO m p s o (n-a) k aB=tk at *;generalize pU:kM m p s o k=av at *;generalize xq:pp.aB.getD av 0=pe at *;((try revert hK K);(repeat'(first|refine Va @fv ?_|(refine V2 @fv ?_ ?_<;>try with_reducible intro hb)|(refine Xi ?_ ?_<;>try intro ht)|refine VD ?_ ?_|exact Xx|fail))<;>try with_reducible intro K hK)
  refine gr hA G9 ?_;((try revert hK K);(repeat'(first|refine Va (X5 @fv @fb @eE @tr (X4 @gj @aI.eq_1 @xq @fv4)) ?_|(refine V2 (X5 @fv @fb @eE @tr (X4 @gj @aI.eq_1 @xq @fv4)) ?_ ?_<;>try with_reducible intro hb)|(refine Xi ?_ ?_<;>try intro ht)|refine VD ?_ ?_|exact Xx|fail))<;>try with_reducible intro K hK)
  ·rw[if_pos (by assumption)]at Cn;exact ak _ (k+1,_) ⟨Hi,by dsimp only;rw[aeI,Cn];exact Kw,hK4⟩ Hi (Xv X0)
  ·rw[if_neg (by simpa using ‹pe=_›)]at Cn;exact ak _ (k+1,_) ⟨Hi,by dsimp only;rw[aeI,Cn];exact hM,bk⟩ Hi (Xv X0)
 ·obtain rfl:k=sz:=Ey;((try revert hK K);(repeat'(first|refine Va X0 ?_|(refine V2 X0 ?_ ?_<;>try with_reducible intro hb)|(refine Xi ?_ ?_<;>try intro ht)|refine VD ?_ ?_|exact Xx|fail))<;>try with_reducible intro K hK)
  refine aq _ _ rfl ?_;clear ak aq Ql;repeat(first|refine Xu ?_)
  ((try revert hK K);(repeat'(first|refine Vb X0 ?_|(refine V2 X0 ?_ ?_<;>try with_reducible intro hb)|(refine Xi ?_ ?_<;>try intro ht)|refine VD ?_ ?_|exact Xx|fail))<;>try with_reducible intro K hK)
  unfold fU;simp only[dV,dP];exact⟨.bC [],_,⟨rfl,hM,bk⟩,eN rfl bk.len rfl⟩
end
end T

