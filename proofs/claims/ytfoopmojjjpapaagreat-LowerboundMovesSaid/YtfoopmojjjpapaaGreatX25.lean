import Derived.Test.YtfoopmojjjpapaaGreatX24
set_option linter.all false
set_option maxHeartbeats 0
set_option maxRecDepth 20000
open Nat renaming le_refl→bb,sub_zero→u3,le_trans→rY,lt_or_ge→dE,zero_le→aT
open List renaming replicate→aJ,getElem?_set_ne→gV,mem_map→b8,length_set→bK,getD_eq_getElem?_getD→aB,getElem?_set→bY,getElem_map→Cv,length_append→bF,mem_cons→bj,mem_append_left→Cu,mem_append_right→xK,map_append→dS,mem_cons_of_mem→dI,mem_cons_self→wH,getElem?_eq_none→gj,cons_append→dh,map_cons→fV
open Go Go.Am
namespace T
structure WS where
 own:List (List Int)
 ax:List (List Int)
 am:List (List Int×Int)
 deriving Inhabited
def lB(k:List Int):List (List Int×Int)->Int
 |[]=>0
 |p::r=>if p.1=k then p.2 else lB k r
def jF(k:List Int)(v:Int):List (List Int×Int)->List (List Int×Int)
 |[]=>[(k,v)]
 |p::r=>if p.1=k then(k,v)::r else p::jF k v r
def mE(am:List (List Int×Int)):List (List Int×AV):=am.map λp=>(p.1,N0 p.2)
def MG(k:List Int):∀ (am:List (List Int×Int)) (i:Nat),
  (∀ j,ic k (mE am) i=some j->i<=j/\∃ p,am[j-i]?=some p/\p.1=k/\p.2=lB k am/\∀ v,(mE am).set (j-i) (k,N0 v)=mE (jF k v am)) /\
  (ic k (mE am) i=none->lB k am=0/\∀ v,mE am++[(k,N0 v)]=mE (jF k v am))
 |[],i=>⟨λj h=>(by cases h),λ_=>⟨rfl,λ_=>rfl⟩⟩
 |p::r,i=>by
  obtain⟨h1,h2⟩:=MG k r (i+1);have e:ic k (mE (p::r)) i=if p.1=k then some i else ic k (mE r) (i+1):=rfl;rw[e];by_cases hp:p.1=k
  ·rw[if_pos hp];refine⟨λj hj=>?_,λh=>(by cases h)⟩;cases hj;refine⟨bb _,p,Iy,hp,by rw[lB,if_pos hp],λv=>?_⟩;rw[Nat.sub_self,jF,if_pos hp];rfl
  ·rw[if_neg hp];refine⟨λj hj=>?_,λh=>?_⟩
   ·obtain⟨a1,q,a2,a3,a4,a5⟩:=h1 j hj;have e2:j-i=(j-(i+1))+1:=Ix;refine⟨Ix,q,by rw[e2,List.getElem?_cons_succ];exact a2,a3,by rw[lB,if_neg hp];exact a4,λv=>?_⟩;rw[e2,jF,if_neg hp];show _::(mE r).set _ _=_::mE _;rw[a5]
   ·obtain⟨b1,b2⟩:=h2 h;refine⟨by rw[lB,if_neg hp];exact b1,λv=>?_⟩;rw[jF,if_neg hp];show _::(mE r++_)=_::mE _;rw[b2]
def aji(k:List Int)(am:List (List Int×Int)):(mn k (mE am)).getD (N0 0)=N0 (lB k am):=by
 obtain⟨h1,h2⟩:=MG k am 0;unfold mn;cases h:ic k (mE am) 0 with
 |none=>rw[(h2 h).1];rfl
 |some j =>
  obtain⟨_,p,a2,a3,a4,_⟩:=h1 j h;rw[u3]at a2;simp[mE,a2,a4]
def ajj(k:List Int)(v:Int)(am:List (List Int×Int)):Am.eT k (N0 v) (mE am)=mE (jF k v am):=by
 obtain⟨h1,h2⟩:=MG k am 0;unfold Am.eT;cases h:ic k (mE am) 0 with
 |none=>exact(h2 h).2 v
 |some j =>
  obtain⟨_,p,_,_,_,a5⟩:=h1 j h;rw[u3]at a5;exact a5 v
section
variable (m:ah)
def cN(p:Nat):Pr:=m.ae.getD p default
def aD(p s:Nat):Nat:=(if s=0 then(cN m p).fst else(cN m p).snd).toNat
def cF(c:Nat):Nat:=(m.cls.getD c default).length
def jT(p s o k:Nat):Nat:=if s=1 then k*cF m (aD m p 1)+o else o*cF m (aD m p 1)+k
def np(p s o:Nat):List Int:=[(p:Int),(s:Int),(o:Int)]
def tE(W:WS)(p s o:Nat)(amt:Int):Int:=min (max (lB (np p s o) W.am+amt) (-268435456)) 268435456
def jU(p s o:Nat)(d:Int):Nat->List Int->List Int
 |0,t=>t
 |k+1,t=>if(cN m p).ax.getD (jT m p s o k) 0≠1099511627776 then(jU p s o d k t).set (jT m p s o k) ((jU p s o d k t).getD (jT m p s o k) 0-d) else jU p s o d k t
def nP(W:WS)(c o:Nat):Int:=(W.own.getD c default).getD o 0
def As(W:WS)(p j:Nat):Int:=(W.ax.getD p default).getD j 0
def pN(W:WS)(p s o:Nat)(amt:Int):WS :=
  ⟨W.own.set (aD m p s) ((W.own.getD (aD m p s) default).set o (nP W (aD m p s) o+(tE W p s o amt-lB (np p s o) W.am))),
   W.ax.set p (jU m p s o (tE W p s o amt-lB (np p s o) W.am) (cF m (aD m p (1-s))) (W.ax.getD p default)),
   jF (np p s o) (tE W p s o amt) W.am⟩
variable (can:List (List Bool))
def xw(c i:Nat):Bool:=(can.getD c default).getD i false
def kX(W:WS)(p s:Nat):Nat->WS
 |0=>W
 |i+1=>if xw can (aD m p s) i=true then pN m (kX W p s i) p s i (-(nP (kX W p s i) (aD m p s) i)) else kX W p s i
def oP(W:WS)(p s k:Nat):Nat->Int
 |0=>1099511627776
 |i+1=>if xw can (aD m p s) i=true/\(cN m p).ax.getD (jT m p s i k) 0≠1099511627776 then min (oP W p s k i) (As W p (jT m p s i k)) else oP W p s k i
def Ca(n:Int):Int:=if n=1099511627776 then 134217728 else n
def jq(W:WS)(p s:Nat):Nat->WS
 |0=>W
 |k+1=>if xw can (aD m p (1-s)) k=true then pN m (jq W p s k) p (1-s) k (Ca (oP m can (jq W p s k) p s k (cF m (aD m p s)))) else jq W p s k
def Ar(W:WS)(p s:Nat):WS:=jq m can (kX m can W p s (cF m (aD m p s))) p s (cF m (aD m p (1-s)))
def mG(t:List Int)(a:Nat)(dY:Int):Nat->List Int
 |0=>t
 |i+1=>if(mG t a dY i).getD i 0=dY then(mG t a dY i).set i ((mG t a dY i).getD a 0) else mG t a dY i
def B4(t:List Int×List (List Int))(p:Nat):List Int×List (List Int) :=
 let a:=aD m p 0
 let b:=aD m p 1
 if t.1.getD a 0=t.1.getD b 0 then t else(mG t.1 a (t.1.getD b 0) t.1.length,(t.2.set a (t.2.getD a default++[(p:Int)])).set b (t.2.getD b default++[(p:Int)]))
def kE(round:Nat):Nat->List Int×List (List Int)
 |0=>((List.range m.cls.length).map λ(i:Nat)=>(i:Int),aJ m.cls.length [])
 |k+1=>B4 m (kE round k) ((k+round)%m.ae.length)
def Au(up:WS×List Bool->Nat->WS×List Bool)(st:WS×List Bool)(p s:Nat):WS×List Bool :=
 if st.2.getD (aD m p s) false=true then st else(Ar m can (up st (aD m p s)).1 p s,(up st (aD m p s)).2)
def iQ(cO:List (List Int)):Nat->WS×List Bool->Nat->WS×List Bool
 |0,st,_=>st
 |f+1,st,c=>(cO.getD c default).foldl (λst p=>Au m can (iQ cO f) (Au m can (iQ cO f) st p.toNat 0) p.toNat 1) (st.1,st.2.set c true)
def ma(cO:List (List Int))(st:WS×List Bool):Nat->WS×List Bool
 |0=>st
 |c+1=>let q:=ma cO st c
  if q.2.getD c false=true then q else iQ m can cO (m.cls.length+1) q c
def pL(W:WS)(round:Nat):WS:=(ma m can (kE m round m.ae.length).2 (W,aJ m.cls.length false) m.cls.length).1
end
def dH(q:Nat×Nat):List AV:=[if q.2=0 then .tree 1 [] else .ref q.1 1 0 q.2]
def My{q:Nat×Nat}(h:q.2=0):dH q=[.tree 1 []]:=by unfold dH;rw[if_pos h]
def Ap{q:Nat×Nat}(h:0<q.2):dH q=[.ref q.1 1 0 q.2]:=by unfold dH;rw[if_neg Ix]
structure R1(os:List Ob)(D:List (Nat×Nat))(S:List (List Int)):Prop where
 len:D.length=S.length
 row:∀ j,j<D.length->(S.getD j default).length=(D.getD j default).2/\(0<(D.getD j default).2->os[(D.getD j default).1]?=some (.arr 1 (ints (S.getD j default))))
def R1.nil{os:List Ob}:R1 os [] []:=⟨rfl,Iy⟩
def R1.app{os:List Ob}{D:List (Nat×Nat)}{S:List (List Int)}(h:R1 os D S)(l:List Ob):R1 (os++l) D S :=
 ⟨h.len,λj hj=>⟨(h.row j hj).1,λh0=>aL ((h.row j hj).2 h0) l⟩⟩
def R1.other{os:List Ob}{D:List (Nat×Nat)}{S:List (List Int)}(h:R1 os D S){i:Nat}(hi:i ∉ D.map (·.1)){y:Ob}:R1 (os.set i y) D S :=
 ⟨h.len,λk hk=>⟨(h.row k hk).1,λh0=>by
  rw[gV (λe=>hi (b8.2 ⟨D.getD k default,aG hk,e.symm⟩))];exact(h.row k hk).2 h0⟩⟩
def R1.set{os:List Ob}{D:List (Nat×Nat)}{S:List (List Int)}(h:R1 os D S)(hn:(D.map (·.1)).Nodup){j:Nat}(hj:j<D.length)(h0:0<(D.getD j default).2){r:List Int}(hr:r.length=(S.getD j default).length):R1 (os.set (D.getD j default).1 (.arr 1 (ints r))) D (S.set j r) :=
 ⟨by rw[bK];exact h.len,λk hk=>by
  by_cases e:k=j
  ·subst e;have:(S.set k r).getD k default=r:=by rw[aB,bY];simp[<- h.len,hk]
   rw[this];exact⟨hr.trans (h.row k hk).1,λh0=>lZ ((h.row k hk).2 h0)⟩
  ·have:(S.set j r).getD k default=S.getD k default:=by rw[aB,gV (λe'=>e e'.symm),aB]
   rw[this];have cA:(D.getD j default).1≠(D.getD k default).1:=λhh=>e ((List.getElem_inj (h₀:=by simpa using hk) (h₁:=by simpa using hj) hn).1 (by
    rw[Cv,Cv];have a1:D[k]=D.getD k default:=by simp[hk]
    have a2:D[j]=D.getD j default:=by simp[hj]
    rw[a1,a2];exact hh.symm))
   rw[gV cA];exact h.row k hk⟩
structure WF(m:ah)(can:List (List Bool))(gi ai bi mi:Nat)(D E:List (Nat×Nat))(W:WS)(os:List Ob):Prop where
 v:os[gi]?=some (.var (ao m++[.tree 1 (rowsOf aA can),.ref ai 1 0 D.length,.ref bi 1 0 E.length,.du mi]))
 a:os[ai]?=some (.arr 1 (rowsOf dH D))
 b:os[bi]?=some (.arr 1 (rowsOf dH E))
 mp:os[mi]?=some (.mp 3 (mE W.am))
 rD:R1 os D W.own
 rE:R1 os E W.ax
 nd:(gi::ai::bi::mi::(D++E).map (·.1)).Nodup
 lt:∀ i∈(D++E).map (·.1),i<os.length
section
variable {m:ah} {can:List (List Bool)} {gi ai bi mi:Nat} {D E:List (Nat×Nat)} {W:WS} {os:List Ob}
def WF.app(h:WF m can gi ai bi mi D E W os)(l:List Ob):WF m can gi ai bi mi D E W (os++l):=⟨aL h.v l,aL h.a l,aL h.b l,aL h.mp l,h.rD.app l,h.rE.app l,h.nd,λi hi=>by rw[bF];have:=h.lt i hi;omega⟩
def WF.out(h:WF m can gi ai bi mi D E W os):gi≠mi/\ai≠mi/\bi≠mi/\(∀ j,j<D.length->∀ k,k=gi\/k=ai\/k=bi\/k=mi->(D.getD j default).1≠k)/\(∀ j,j<E.length->∀ k,k=gi\/k=ai\/k=bi\/k=mi->(E.getD j default).1≠k) /\
  mi ∉ D.map (·.1)/\mi ∉ E.map (·.1)/\((D++E).map (·.1)).Nodup:=by
 have hn:=h.nd;simp only[List.nodup_cons,bj,not_or]at hn;obtain⟨⟨g1,g2,g3,g4⟩,⟨a1,a2,a3⟩,⟨b1,b2⟩,m1,hr⟩:=hn;have inD:∀ j,j<D.length->(D.getD j default).1∈(D++E).map (·.1):=λj hj=>b8.2 ⟨_,Cu _ (aG hj),rfl⟩;have inE:∀ j,j<E.length->(E.getD j default).1∈(D++E).map (·.1):=λj hj=>b8.2 ⟨_,xK _ (aG hj),rfl⟩;refine⟨g3,a2,b1,λj hj k hk e=>?_,λj hj k hk e=>?_,λhh=>m1 ?_,λhh=>m1 ?_,hr⟩
 ·have:=inD j hj;rw[e]at this;rcases hk with rfl|rfl|rfl|rfl
  ·exact g4 this
  ·exact a3 this
  ·exact b2 this
  ·exact m1 this
 ·have:=inE j hj;rw[e]at this;rcases hk with rfl|rfl|rfl|rfl
  ·exact g4 this
  ·exact a3 this
  ·exact b2 this
  ·exact m1 this
 ·rw[dS];exact Cu _ hh
 ·rw[dS];exact xK _ hh
def e7{os:List Ob}{i j:Nat}{o y:Ob}(h:os[i]?=some o)(cA:j≠i):(os.set j y)[i]?=some o:=by rw[gV cA];exact h
def WF.Ms(h:WF m can gi ai bi mi D E W os)(am:List (List Int×Int)):WF m can gi ai bi mi D E { W with am:=am } (os.set mi (.mp 3 (mE am))):=by
 obtain⟨h1,h2,h3,h4,h5,h6,h7,h8⟩:=h.out;exact⟨e7 h.v h1.symm,e7 h.a h2.symm,e7 h.b h3.symm,lZ h.mp,h.rD.other h6,h.rE.other h7,h.nd,λi hi=>by rw[bK];exact h.lt i hi⟩
def WF.zT(h:WF m can gi ai bi mi D E W os){j:Nat}(hj:j<D.length)(h0:0<(D.getD j default).2){r:List Int}(hr:r.length=(W.own.getD j default).length):WF m can gi ai bi mi D E { W with own:=W.own.set j r } (os.set (D.getD j default).1 (.arr 1 (ints r))):=by
 obtain⟨h1,h2,h3,h4,h5,h6,h7,h8⟩:=h.out;obtain⟨n1,n2,n3,n4⟩:=GK h8;have k:=h4 j hj;exact⟨e7 h.v (k _ Iy),e7 h.a (k _ Iy),e7 h.b (k _ Iy),e7 h.mp (k _ Iy),h.rD.set n1 hj h0 hr,h.rE.other (n3 j hj),h.nd,λi hi=>by rw[bK];exact h.lt i hi⟩
def WF.yv(h:WF m can gi ai bi mi D E W os){j:Nat}(hj:j<E.length)(h0:0<(E.getD j default).2){r:List Int}(hr:r.length=(W.ax.getD j default).length):WF m can gi ai bi mi D E { W with ax:=W.ax.set j r } (os.set (E.getD j default).1 (.arr 1 (ints r))):=by
 obtain⟨h1,h2,h3,h4,h5,h6,h7,h8⟩:=h.out;obtain⟨n1,n2,n3,n4⟩:=GK h8;have k:=h5 j hj;exact⟨e7 h.v (k _ Iy),e7 h.a (k _ Iy),e7 h.b (k _ Iy),e7 h.mp (k _ Iy),h.rD.other (n4 j hj),h.rE.set n2 hj h0 hr,h.nd,λi hi=>by rw[bK];exact h.lt i hi⟩
end
structure Kp(mi:Nat)(D E:List (Nat×Nat))(os ob:List Ob):Prop where
 len:os.length<=ob.length
 same:∀ i o,i≠mi->i ∉ (D++E).map (·.1)->os[i]?=some o->ob[i]?=some o
def Kp.refl(mi:Nat)(D E:List (Nat×Nat))(os:List Ob):Kp mi D E os os:=⟨bb _,λ_ _ _ _ h=>h⟩
def Kp.trans{mi:Nat}{D E:List (Nat×Nat)}{os o1 o2:List Ob}(h:Kp mi D E os o1)(k:Kp mi D E o1 o2):Kp mi D E os o2 :=
 ⟨rY h.len k.len,λi o h1 h2 h3=>k.same i o h1 h2 (h.same i o h1 h2 h3)⟩
def Kp.app{mi:Nat}{D E:List (Nat×Nat)}{os o1:List Ob}(h:Kp mi D E os o1)(l:List Ob):Kp mi D E os (o1++l) :=
 ⟨by rw[bF];exact rY h.len (Nat.le_add_right _ _),λi o h1 h2 h3=>aL (h.same i o h1 h2 h3) l⟩
def Kp.Ms{mi:Nat}{D E:List (Nat×Nat)}{os o1:List Ob}(h:Kp mi D E os o1)(y:Ob):Kp mi D E os (o1.set mi y) :=
 ⟨by rw[bK];exact h.len,λi o h1 h2 h3=>e7 (h.same i o h1 h2 h3) (λe=>h1 e.symm)⟩
def Kp.zT{mi:Nat}{D E:List (Nat×Nat)}{os o1:List Ob}(h:Kp mi D E os o1){j:Nat}(hj:j<D.length)(y:Ob):Kp mi D E os (o1.set (D.getD j default).1 y) :=
 ⟨by rw[bK];exact h.len,λi o h1 h2 h3=>e7 (h.same i o h1 h2 h3) (λe=>h2 (b8.2 ⟨_,Cu _ (aG hj),e⟩))⟩
def Kp.yv{mi:Nat}{D E:List (Nat×Nat)}{os o1:List Ob}(h:Kp mi D E os o1){j:Nat}(hj:j<E.length)(y:Ob):Kp mi D E os (o1.set (E.getD j default).1 y) :=
 ⟨by rw[bK];exact h.len,λi o h1 h2 h3=>e7 (h.same i o h1 h2 h3) (λe=>h2 (b8.2 ⟨_,xK _ (aG hj),e⟩))⟩
structure mF(m:ah)(W:WS):Prop where
 ol:W.own.length=m.cls.length
 tl:W.ax.length=m.ae.length
 or:∀ i,i<m.cls.length->(W.own.getD i default).length=cF m i
 tr:∀ j,j<m.ae.length->(W.ax.getD j default).length=(cN m j).ax.length
 ky:∀ q∈W.am,∃ p s o:Int,q.1=[p,s,o]
structure WB(B:Int)(W:WS):Prop where
 ob:∀ c o,-B<=nP W c o/\nP W c o<=B
 tb:∀ p j,-B<=As W p j/\As W p j<=B
 ab:∀ k,-268435456<=lB k W.am/\lB k W.am<=268435456
 al:12884901888*(W.am.length:Int)<=B
def WB.mono{B C:Int}{W:WS}(h:WB B W)(hBC:B<=C):WB C W:=⟨λc o=>by have:=h.ob c o;omega,λp j=>by have:=h.tb p j;omega,h.ab,by have:=h.al;omega⟩
section
variable {m:ah} {can:List (List Bool)} {W:WS}
def HI(p s o:Nat)(d:Int):∀ (k:Nat) (t:List Int),(jU m p s o d k t).length=t.length
 |0,t=>rfl
 |k+1,t=>by
  rw[jU];split
  ·rw[bK,HI]
  ·exact HI p s o d k t
def MH(l:List Int)(i j:Nat)(x:Int):(l.set i x).getD j 0=if i=j/\j<l.length then x else l.getD j 0:=by
 simp only[aB,bY];by_cases h:i=j
 ·subst h;by_cases h2:i<l.length
  ·simp[h2]
  ·simp[h2]
 ·simp[h]
def Mu{p s o:Nat}{d B:Int}(hB:0<=B)(hd : -536870912<=d/\d<=536870912):∀ (k:Nat) (t:List Int),(∀ j,-B<=t.getD j 0/\t.getD j 0<=B)->∀ j,-(B+536870912*k)<=(jU m p s o d k t).getD j 0/\(jU m p s o d k t).getD j 0<=B+536870912*k
 |0,t,h,j=>by have:=h j;rw[jU];omega
 |k+1,t,h,j=>by
  have h1:=Mu (p:=p) (s:=s) (o:=o) hB hd k t h;rw[jU];split
  ·rw[MH];split
   ·have:=h1 (jT m p s o k);push_cast;omega
   ·have:=h1 j;push_cast;omega
  ·have:=h1 j;push_cast;omega
def ZM(k k':List Int)(v:Int):∀ am:List (List Int×Int),lB k' (jF k v am)=if k'=k then v else lB k' am
 |[]=>by
  show(if k=k' then v else 0)=_;by_cases h:k'=k
  ·rw[if_pos h,if_pos h.symm]
  ·rw[if_neg h,if_neg (λe=>h e.symm)];rfl
 |p::r=>by
  rw[jF];split
  ·rename_i hp;show(if k=k' then v else lB k' r)=_;by_cases h:k'=k
   ·rw[if_pos h,if_pos h.symm]
   ·rw[if_neg h,if_neg (λe=>h e.symm),lB,if_neg (λe=>h (e.symm.trans hp))]
  ·rename_i hp;show(if p.1=k' then p.2 else lB k' (jF k v r))=_;rw[ZM k k' v r];by_cases h:k'=k
   ·rw[if_pos h,if_neg (λe=>hp (e.trans h)),if_pos h]
   ·rw[if_neg h,if_neg h];rfl
def ZN{k:List Int}{v:Int}:∀ {am:List (List Int×Int)} {q:List Int×Int},q∈jF k v am->q∈am\/q.1=k
 |[],q,h=>by rw[jF,List.mem_singleton]at h;subst h;exact .inr rfl
 |p::r,q,h=>by
  rw[jF]at h;split at h
  ·rcases bj.1 h with rfl|h
   ·exact .inr rfl
   ·exact .inl (dI _ h)
  ·rcases bj.1 h with rfl|h
   ·exact .inl (wH ..)
   ·rcases ZN h with h|h
    ·exact .inl (dI _ h)
    ·exact .inr h
def ZO(k:List Int)(v:Int):∀ am:List (List Int×Int),(jF k v am).length<=am.length+1
 |[]=>bb _
 |p::r=>by
  rw[jF];split
  ·simp
  ·have:=ZO k v r;simp only[List.length_cons];omega
def Zv(W:WS)(p s o:Nat)(amt:Int): -268435456<=tE W p s o amt/\tE W p s o amt<=268435456:=by unfold tE;omega
def Cb{α:Type}(l:List α)(i j:Nat)(x d:α):(l.set i x).getD j d=if i=j/\j<l.length then x else l.getD j d:=by
 simp only[aB,bY];by_cases h:i=j
 ·subst h;by_cases h2:i<l.length
  ·simp[h2]
  ·simp[h2]
 ·simp[h]
def mF.move(h:mF m W)(p s o:Nat)(amt:Int):mF m (pN m W p s o amt):=by
 unfold pN;refine⟨by simp[h.ol],by simp[h.tl],λi hi=>?_,λj hj=>?_,λq hq=>?_⟩
 ·dsimp only;rw[Cb];split
  ·rename_i e;rw[bK,e.1];exact h.or i hi
  ·exact h.or i hi
 ·dsimp only;rw[Cb];split
  ·rename_i e;rw[HI,e.1];exact h.tr j hj
  ·exact h.tr j hj
 ·rcases ZN hq with h1|h1
  ·exact h.ky q h1
  ·exact⟨_,_,_,h1⟩
def WB.move{B:Int}(hm:VM m)(hB:0<=B)(h:WB B W)(p s o:Nat)(amt:Int):WB (B+12884901888) (pN m W p s o amt):=by
 have hn:=Zv W p s o amt;have ha:=h.ab (np p s o);have aN:cF m (aD m p (1-s))<=24:=by
  unfold cF;rcases dE (aD m p (1-s)) m.cls.length with h1|h1
  ·exact hm.opt _ (aG h1)
  ·rw[aB,gj h1];exact aT _
 unfold pN;generalize tE W p s o amt=n at *;refine⟨λc o'=>?_,λq j=>?_,λk=>?_,by have h1:=ZO (np p s o) n W.am;have h2:=h.al;dsimp only;omega⟩
 ·unfold nP;dsimp only;rw[Cb];split
  ·rw[MH];split
   ·have:=h.ob (aD m p s) o;unfold nP at this;omega
   ·have:=h.ob (aD m p s) o';unfold nP at this;omega
  ·have:=h.ob c o';unfold nP at this;omega
 ·unfold As;dsimp only;rw[Cb];split
  ·have:=Mu (m:=m) (p:=p) (s:=s) (o:=o) (d:=n-lB (np p s o) W.am) hB Ix (cF m (aD m p (1-s))) (W.ax.getD p default) (λj=>h.tb p j) j;omega
  ·have:=h.tb q j;unfold As at this;omega
 ·dsimp only;rw[ZM];split
  ·exact hn
  ·exact h.ab k
def HK(h:mF m W)(p s:Nat):∀ i,mF m (kX m can W p s i)
 |0=>h
 |i+1=>by
  rw[kX];split
  ·exact(HK h p s i).move _ _ _ _
  ·exact HK h p s i
def Mx(hm:VM m){B:Int}(hB:0<=B)(h:WB B W)(p s:Nat):∀ i:Nat,WB (B+12884901888*i) (kX m can W p s i)
 |0=>h.mono Ix
 |i+1=>by
  have h1:=Mx hm hB h p s i;rw[kX];split
  ·exact(h1.move hm Ix _ _ _ _).mono (by push_cast;omega)
  ·exact h1.mono (by push_cast;omega)
def HN(h:mF m W)(p s:Nat):∀ i,mF m (jq m can W p s i)
 |0=>h
 |i+1=>by
  rw[jq];split
  ·exact(HN h p s i).move _ _ _ _
  ·exact HN h p s i
def MA(hm:VM m){B:Int}(hB:0<=B)(h:WB B W)(p s:Nat):∀ i:Nat,WB (B+12884901888*i) (jq m can W p s i)
 |0=>h.mono Ix
 |i+1=>by
  have h1:=MA hm hB h p s i;rw[jq];split
  ·exact(h1.move hm Ix _ _ _ _).mono (by push_cast;omega)
  ·exact h1.mono (by push_cast;omega)
def ZD{B:Int}(hB:0<=B)(h:WB B W)(p s k:Nat):∀ i:Nat,-B<=oP m can W p s k i/\oP m can W p s k i<=1099511627776
 |0=>by rw[oP];omega
 |i+1=>by
  have h1:=ZD hB h p s k i;rw[oP];split
  ·have:=h.tb p (jT m p s i k);omega
  ·exact h1
def ajF(h:mF m W)(p s:Nat):mF m (Ar m can W p s):=HN (HK h p s _) p s _
def Al(hm:VM m)(c:Nat):cF m c<=24:=by
 unfold cF;rcases dE c m.cls.length with h1|h1
 ·exact hm.opt _ (aG h1)
 ·rw[aB,gj h1];exact aT _
def ajG(hm:VM m){B:Int}(hB:0<=B)(h:WB B W)(p s:Nat):WB (B+618475290624) (Ar m can W p s):=by
 have h1:=Al hm (aD m p s);have h2:=Al hm (aD m p (1-s));exact(MA hm Ix (Mx (can:=can) hm hB h p s _) p s _).mono Ix
end
def nT(l:List Bool):Nat:=l.count true
def Mi(l:List Bool):nT l<=l.length:=List.count_le_length
def ajr{l:List Bool}{c:Nat}(hc:c<l.length)(h:l.getD c false=false):nT l<l.length:=by
 rcases dE (nT l) l.length with h1|h1
 ·exact h1
 ·exfalso;have h2:l.count true=l.length:=Nat.le_antisymm List.count_le_length h1;have h3:=List.count_eq_length.1 h2 (l.getD c false) (aG hc);rw[h]at h3;cases h3
def ajt{l:List Bool}{c:Nat}(hc:c<l.length)(h:l.getD c false=false):nT (l.set c true)=nT l+1:=by
 unfold nT;rw[List.count_set hc];have h2:l[c]=false:=by rw[aB,List.getElem?_eq_getElem hc,Option.getD_some]at h;exact h
 simp[h2]
structure UO(m:ah)(B:Int)(n:Nat)(st Cc:WS×List Bool):Prop where
 len:Cc.2.length=m.cls.length
 sh:mF m Cc.1
 wb:WB (B+618475290624*(nT Cc.2:Nat)-618475290624*(n:Nat)) Cc.1
 up:nT st.2+n<=nT Cc.2
 mono:∀ j,st.2.getD j false=true->Cc.2.getD j false=true
structure UF(F gi si sa jV wi jW:Nat)(cO:List (List Int))(seen:List Bool)(os:List Ob):Prop where
 s:os[si]?=some (.var [.ref sa 1 0 seen.length])
 a:os[sa]?=some (.arr 1 (bm seen))
 b:os[jV]?=some (.var [.tree 1 (fc cO)])
 w:os[wi]?=some (.var [.ptr gi 0 0])
 u:os[jW]?=some (.var [.fn F [.ptr si 0 0,.ptr jV 0 0,.ptr wi 0 0,.ptr jW 0 0]])
structure UN(gi ai bi mi:Nat)(D E:List (Nat×Nat))(si sa jV wi jW:Nat):Prop where
 out:∀ i,i=si\/i=sa\/i=jV\/i=wi\/i=jW->i≠mi/\i ∉ (D++E).map (·.1)
 sa:sa≠gi/\sa≠ai/\sa≠bi/\sa≠si/\sa≠jV/\sa≠wi/\sa≠jW
section
variable {m:ah} {can:List (List Bool)} {gi ai bi mi:Nat} {D E:List (Nat×Nat)} {W:WS} {os ob:List Ob} {F si sa jV wi jW:Nat} {cO:List (List Int)} {seen:List Bool}
def WF.other(h:WF m can gi ai bi mi D E W os){i:Nat}(h1:i≠gi/\i≠ai/\i≠bi/\i≠mi)(h2:i ∉ (D++E).map (·.1))(y:Ob):WF m can gi ai bi mi D E W (os.set i y):=by
 rw[dS,List.mem_append,not_or]at h2;exact⟨e7 h.v h1.1,e7 h.a h1.2.1,e7 h.b h1.2.2.1,e7 h.mp h1.2.2.2,h.rD.other h2.1,h.rE.other h2.2,h.nd,λi hi=>by rw[bK];exact h.lt i hi⟩
def UF.kp(h:UF F gi si sa jV wi jW cO seen os)(hn:UN gi ai bi mi D E si sa jV wi jW)(hk:Kp mi D E os ob):UF F gi si sa jV wi jW cO seen ob:=by
 have k:∀ i,i=si\/i=sa\/i=jV\/i=wi\/i=jW->∀ o,os[i]?=some o->ob[i]?=some o:=λi hi o ho=>hk.same i o (hn.out i hi).1 (hn.out i hi).2 ho;exact⟨k _ Iy _ h.s,k _ Iy _ h.a,k _ Iy _ h.b,k _ Iy _ h.w,k _ Iy _ h.u⟩
def UF.app(h:UF F gi si sa jV wi jW cO seen os)(l:List Ob):UF F gi si sa jV wi jW cO seen (os++l):=⟨aL h.s l,aL h.a l,aL h.b l,aL h.w l,aL h.u l⟩
def UF.set(h:UF F gi si sa jV wi jW cO seen os)(hn:UN gi ai bi mi D E si sa jV wi jW){s2:List Bool}(hl:s2.length=seen.length):UF F gi si sa jV wi jW cO s2 (os.set sa (.arr 1 (bm s2))):=by
 obtain⟨_,_,_,h4,h5,h6,h7⟩:=hn.sa;exact⟨by rw[hl];exact e7 h.s h4,lZ h.a,e7 h.b h5,e7 h.w h6,e7 h.u h7⟩
def Kp.wide{mi:Nat}{D E:List (Nat×Nat)}{os ob:List Ob}(h:Kp mi D E os ob)(q:Nat×Nat):Kp mi (q::D) E os ob :=
 ⟨h.len,λi o h1 h2 h3=>h.same i o h1 (λhh=>h2 (by rw[dh,fV];exact dI _ hh)) h3⟩
def Kp.put{mi:Nat}{D E:List (Nat×Nat)}{os o1:List Ob}(h:Kp mi ((sa,0)::D) E os o1)(y:Ob):Kp mi ((sa,0)::D) E os (o1.set sa y) :=
 ⟨by rw[bK];exact h.len,λi o h1 h2 h3=>e7 (h.same i o h1 h2 h3) (λe=>h2 (by rw[dh,fV];exact e▸wH ..))⟩
end
def uP(m:ah)(can:List (List Bool))(up:WS×List Bool->Nat->WS×List Bool)(st:WS×List Bool)(p:Nat):Nat->WS×List Bool
 |0=>st
 |s+1=>Au m can up (uP m can up st p s) p s
def vW(m:ah)(can:List (List Bool))(up:WS×List Bool->Nat->WS×List Bool)(st:WS×List Bool)(l:List Int):WS×List Bool:=l.foldl (λst p=>uP m can up st p.toNat 2) st
def ajv(m:ah)(can:List (List Bool))(up:WS×List Bool->Nat->WS×List Bool)(st:WS×List Bool){l:List Int}{k:Nat}(h:k<l.length):vW m can up st (l.take (k+1))=uP m can up (vW m can up st (l.take k)) (l.getD k default).toNat 2:=by
 rw[eZ h];unfold vW;rw[List.foldl_append];rfl
def aju(m:ah)(can:List (List Bool))(cO:List (List Int))(f:Nat)(st:WS×List Bool)(c:Nat):iQ m can cO (f+1) st c=vW m can (iQ m can cO f) (st.1,st.2.set c true) (cO.getD c default):=rfl
end T

