import Derived.Test.YtfoopmojjjpapaaGreatX17
import Derived.Test.YtfoopmojjjpapaaGreatX18
set_option linter.all false
set_option maxHeartbeats 0
set_option maxRecDepth 20000
open List renaming getElem?_set_ne→gA,mem_map→bW,length_set→bJ,getD_eq_getElem?_getD→az,getElem?_set→bU,getElem_map→D1,length_append→bO,mem_cons→bw,mem_append_left→DY,mem_append_right→y9,map_append→dS,mem_singleton→cV,mem_cons_of_mem→dR,mem_cons_self→xV,length_cons→dq,getElem?_eq_none→dK,getElem?_eq_getElem→bF,mem_append→cG,cons_append→dx,map_cons→ei,getElem?_eq_some_iff→aV,getElem?_map→bI,drop_zero→Aw,take_of_length_le→dm,replicate→aK,eq_of_mem_replicate→Cb,mem_of_getElem?→gI,mem_filter→Av,getElem_of_mem→mZ,append_assoc→bE
open Nat renaming le_refl→aY,le_trans→tL,lt_or_ge→dP,zero_le→aS,lt_of_lt_of_le→DW,mul_le_mul→wC,le_of_lt→Qi,mul_le_mul_right→nN
open Option renaming bind_some→tH
open Int renaming mul_nonneg→sw
open And renaming intro→c6
open Go Go.Am Go.Proofs
namespace T
def dZ(q:Nat×Nat):List AV:=[if q.2=0 then .tree 1 [] else .ref q.1 1 0 q.2]
def ON{q:Nat×Nat}(h:q.2=0):dZ q=[.tree 1 []]:=by unfold dZ;rw[if_pos h]
def BQ{q:Nat×Nat}(h:0<q.2):dZ q=[.ref q.1 1 0 q.2]:=by unfold dZ;rw[if_neg GK]
structure R1(os:List Ob)(D:List (Nat×Nat))(S:List (List Int)):Prop where
 len:D.length=S.length
 row:∀ j,j<D.length->(S.getD j default).length=(D.getD j default).2/\(0<(D.getD j default).2->os[(D.getD j default).1]?=some (.arr 1 (ints (S.getD j default))))
def R1.nil{os:List Ob}:R1 os [] []:=⟨rfl,GM⟩
def R1.app{os:List Ob}{D:List (Nat×Nat)}{S:List (List Int)}(h:R1 os D S)(l:List Ob):R1 (os++l) D S :=
 ⟨h.len,λj hj=>⟨(h.row j hj).1,λh0=>aN ((h.row j hj).2 h0) l⟩⟩
def R1.other{os:List Ob}{D:List (Nat×Nat)}{S:List (List Int)}(h:R1 os D S){i:Nat}(hi:i ∉ D.map (·.1)){y:Ob}:R1 (os.set i y) D S :=
 ⟨h.len,λk hk=>⟨(h.row k hk).1,λh0=>by
  rw[gA (λe=>hi (bW.2 ⟨D.getD k default,aF hk,e.symm⟩))];exact(h.row k hk).2 h0⟩⟩
def R1.set{os:List Ob}{D:List (Nat×Nat)}{S:List (List Int)}(h:R1 os D S)(hn:(D.map (·.1)).Nodup){j:Nat}(hj:j<D.length)(h0:0<(D.getD j default).2){r:List Int}(hr:r.length=(S.getD j default).length):R1 (os.set (D.getD j default).1 (.arr 1 (ints r))) D (S.set j r) :=
 ⟨by rw[bJ];exact h.len,λk hk=>by
  by_cases e:k=j
  ·subst e;have:(S.set k r).getD k default=r:=by rw[az,bU];simp[<- h.len,hk]
   rw[this];exact⟨hr.trans (h.row k hk).1,λh0=>mR ((h.row k hk).2 h0)⟩
  ·have:(S.set j r).getD k default=S.getD k default:=by rw[az,gA (λe'=>e e'.symm),az]
   rw[this];have cy:(D.getD j default).1≠(D.getD k default).1:=λhh=>e ((List.getElem_inj (h₀:=by simpa using hk) (h₁:=by simpa using hj) hn).1 (by
    rw[D1,D1];have a1:D[k]=D.getD k default:=by simp[hk]
    have a2:D[j]=D.getD j default:=by simp[hj]
    rw[a1,a2];exact hh.symm))
   rw[gA cy];exact h.row k hk⟩
structure WF(m:ah)(can:List (List Bool))(gi ai bi mi:Nat)(D E:List (Nat×Nat))(W:WS)(os:List Ob):Prop where
 v:os[gi]?=some (.var (an m++[.tree 1 (rowsOf aC can),.ref ai 1 0 D.length,.ref bi 1 0 E.length,.dD mi]))
 a:os[ai]?=some (.arr 1 (rowsOf dZ D))
 b:os[bi]?=some (.arr 1 (rowsOf dZ E))
 mp:os[mi]?=some (.mp 3 (mE W.am))
 rD:R1 os D W.own
 rE:R1 os E W.ay
 nd:(gi::ai::bi::mi::(D++E).map (·.1)).Nodup
 lt:∀ i∈(D++E).map (·.1),i<os.length
section
variable {m:ah} {can:List (List Bool)} {gi ai bi mi:Nat} {D E:List (Nat×Nat)} {W:WS} {os:List Ob}
def WF.app(h:WF m can gi ai bi mi D E W os)(l:List Ob):WF m can gi ai bi mi D E W (os++l):=⟨aN h.v l,aN h.a l,aN h.b l,aN h.mp l,h.rD.app l,h.rE.app l,h.nd,λi hi=>by rw[bO];have:=h.lt i hi;omega⟩
def WF.out(h:WF m can gi ai bi mi D E W os):gi≠mi/\ai≠mi/\bi≠mi/\(∀ j,j<D.length->∀ k,k=gi\/k=ai\/k=bi\/k=mi->(D.getD j default).1≠k)/\(∀ j,j<E.length->∀ k,k=gi\/k=ai\/k=bi\/k=mi->(E.getD j default).1≠k) /\
  mi ∉ D.map (·.1)/\mi ∉ E.map (·.1)/\((D++E).map (·.1)).Nodup:=by
 have hn:=h.nd;simp only[List.nodup_cons,bw,not_or]at hn;obtain⟨⟨g1,g2,g3,g4⟩,⟨a1,a2,a3⟩,⟨b1,b2⟩,m1,hr⟩:=hn;have inD:∀ j,j<D.length->(D.getD j default).1∈(D++E).map (·.1):=λj hj=>bW.2 ⟨_,DY _ (aF hj),rfl⟩;have inE:∀ j,j<E.length->(E.getD j default).1∈(D++E).map (·.1):=λj hj=>bW.2 ⟨_,y9 _ (aF hj),rfl⟩;refine⟨g3,a2,b1,λj hj k hk e=>?_,λj hj k hk e=>?_,λhh=>m1 ?_,λhh=>m1 ?_,hr⟩
 ·have:=inD j hj;rw[e]at this;rcases hk with rfl|rfl|rfl|rfl
  ·exact g4 this
  ·exact a3 this
  ·exact b2 this
  ·exact m1 this
 ·have:=inE j hj;rw[e]at this;rcases hk with rfl|rfl|rfl|rfl
  ·exact g4 this
  ·exact a3 this
  ·exact b2 this
  ·exact m1 this
 ·rw[dS];exact DY _ hh
 ·rw[dS];exact y9 _ hh
def fJ{os:List Ob}{i j:Nat}{o y:Ob}(h:os[i]?=some o)(cy:j≠i):(os.set j y)[i]?=some o:=by rw[gA cy];exact h
def WF.OT(h:WF m can gi ai bi mi D E W os)(am:List (List Int×Int)):WF m can gi ai bi mi D E { W with am:=am } (os.set mi (.mp 3 (mE am))):=by
 obtain⟨h1,h2,h3,h4,h5,h6,h7,h8⟩:=h.out;exact⟨fJ h.v h1.symm,fJ h.a h2.symm,fJ h.b h3.symm,mR h.mp,h.rD.other h6,h.rE.other h7,h.nd,λi hi=>by rw[bJ];exact h.lt i hi⟩
def WF.Bo(h:WF m can gi ai bi mi D E W os){j:Nat}(hj:j<D.length)(h0:0<(D.getD j default).2){r:List Int}(hr:r.length=(W.own.getD j default).length):WF m can gi ai bi mi D E { W with own:=W.own.set j r } (os.set (D.getD j default).1 (.arr 1 (ints r))):=by
 obtain⟨h1,h2,h3,h4,h5,h6,h7,h8⟩:=h.out;obtain⟨n1,n2,n3,n4⟩:=Iu h8;have k:=h4 j hj;exact⟨fJ h.v (k _ GM),fJ h.a (k _ GM),fJ h.b (k _ GM),fJ h.mp (k _ GM),h.rD.set n1 hj h0 hr,h.rE.other (n3 j hj),h.nd,λi hi=>by rw[bJ];exact h.lt i hi⟩
def WF.zR(h:WF m can gi ai bi mi D E W os){j:Nat}(hj:j<E.length)(h0:0<(E.getD j default).2){r:List Int}(hr:r.length=(W.ay.getD j default).length):WF m can gi ai bi mi D E { W with ay:=W.ay.set j r } (os.set (E.getD j default).1 (.arr 1 (ints r))):=by
 obtain⟨h1,h2,h3,h4,h5,h6,h7,h8⟩:=h.out;obtain⟨n1,n2,n3,n4⟩:=Iu h8;have k:=h5 j hj;exact⟨fJ h.v (k _ GM),fJ h.a (k _ GM),fJ h.b (k _ GM),fJ h.mp (k _ GM),h.rD.other (n4 j hj),h.rE.set n2 hj h0 hr,h.nd,λi hi=>by rw[bJ];exact h.lt i hi⟩
end
structure Kp(mi:Nat)(D E:List (Nat×Nat))(os ob:List Ob):Prop where
 len:os.length<=ob.length
 same:∀ i o,i≠mi->i ∉ (D++E).map (·.1)->os[i]?=some o->ob[i]?=some o
def Kp.refl(mi:Nat)(D E:List (Nat×Nat))(os:List Ob):Kp mi D E os os:=⟨aY _,λ_ _ _ _ h=>h⟩
def Kp.trans{mi:Nat}{D E:List (Nat×Nat)}{os o1 o2:List Ob}(h:Kp mi D E os o1)(k:Kp mi D E o1 o2):Kp mi D E os o2 :=
 ⟨tL h.len k.len,λi o h1 h2 h3=>k.same i o h1 h2 (h.same i o h1 h2 h3)⟩
def Kp.app{mi:Nat}{D E:List (Nat×Nat)}{os o1:List Ob}(h:Kp mi D E os o1)(l:List Ob):Kp mi D E os (o1++l) :=
 ⟨by rw[bO];exact tL h.len (Nat.le_add_right _ _),λi o h1 h2 h3=>aN (h.same i o h1 h2 h3) l⟩
def Kp.OT{mi:Nat}{D E:List (Nat×Nat)}{os o1:List Ob}(h:Kp mi D E os o1)(y:Ob):Kp mi D E os (o1.set mi y) :=
 ⟨by rw[bJ];exact h.len,λi o h1 h2 h3=>fJ (h.same i o h1 h2 h3) (λe=>h1 e.symm)⟩
def Kp.Bo{mi:Nat}{D E:List (Nat×Nat)}{os o1:List Ob}(h:Kp mi D E os o1){j:Nat}(hj:j<D.length)(y:Ob):Kp mi D E os (o1.set (D.getD j default).1 y) :=
 ⟨by rw[bJ];exact h.len,λi o h1 h2 h3=>fJ (h.same i o h1 h2 h3) (λe=>h2 (bW.2 ⟨_,DY _ (aF hj),e⟩))⟩
def Kp.zR{mi:Nat}{D E:List (Nat×Nat)}{os o1:List Ob}(h:Kp mi D E os o1){j:Nat}(hj:j<E.length)(y:Ob):Kp mi D E os (o1.set (E.getD j default).1 y) :=
 ⟨by rw[bJ];exact h.len,λi o h1 h2 h3=>fJ (h.same i o h1 h2 h3) (λe=>h2 (bW.2 ⟨_,y9 _ (aF hj),e⟩))⟩
structure nG(m:ah)(W:WS):Prop where
 ol:W.own.length=m.cls.length
 tl:W.ay.length=m.ae.length
 or:∀ i,i<m.cls.length->(W.own.getD i default).length=cN m i
 tr:∀ j,j<m.ae.length->(W.ay.getD j default).length=(cS m j).ay.length
 ky:∀ q∈W.am,∃ p s o:Int,q.1=[p,s,o]
structure WB(B:Int)(W:WS):Prop where
 ob:∀ c o,-B<=oW W c o/\oW W c o<=B
 tb:∀ p j,-B<=Br W p j/\Br W p j<=B
 ab:∀ k,-268435456<=mn k W.am/\mn k W.am<=268435456
 al:12884901888*(W.am.length:Int)<=B
def WB.mono{B C:Int}{W:WS}(h:WB B W)(hBC:B<=C):WB C W:=⟨λc o=>by have:=h.ob c o;omega,λp j=>by have:=h.tb p j;omega,h.ab,by have:=h.al;omega⟩
section
variable {m:ah} {can:List (List Bool)} {W:WS}
def JM(p s o:Nat)(d:Int):∀ (k:Nat) (t:List Int),(kq m p s o d k t).length=t.length
 |0,t=>rfl
 |k+1,t=>by
  rw[kq];split
  ·rw[bJ,JM]
  ·exact JM p s o d k t
def OU(l:List Int)(i j:Nat)(x:Int):(l.set i x).getD j 0=if i=j/\j<l.length then x else l.getD j 0:=by
 simp only[az,bU];by_cases h:i=j
 ·subst h;by_cases h2:i<l.length
  ·simp[h2]
  ·simp[h2]
 ·simp[h]
def OV{p s o:Nat}{d B:Int}(hB:0<=B)(hd : -536870912<=d/\d<=536870912):∀ (k:Nat) (t:List Int),(∀ j,-B<=t.getD j 0/\t.getD j 0<=B)->∀ j,-(B+536870912*k)<=(kq m p s o d k t).getD j 0/\(kq m p s o d k t).getD j 0<=B+536870912*k
 |0,t,h,j=>by have:=h j;rw[kq];omega
 |k+1,t,h,j=>by
  have h1:=OV (p:=p) (s:=s) (o:=o) hB hd k t h;rw[kq];split
  ·rw[OU];split
   ·have:=h1 (km m p s o k);push_cast;omega
   ·have:=h1 j;push_cast;omega
  ·have:=h1 j;push_cast;omega
def acf(k k':List Int)(v:Int):∀ am:List (List Int×Int),mn k' (j9 k v am)=if k'=k then v else mn k' am
 |[]=>by
  show(if k=k' then v else 0)=_;by_cases h:k'=k
  ·rw[if_pos h,if_pos h.symm]
  ·rw[if_neg h,if_neg (λe=>h e.symm)];rfl
 |p::r=>by
  rw[j9];split
  ·rename_i hp;show(if k=k' then v else mn k' r)=_;by_cases h:k'=k
   ·rw[if_pos h,if_pos h.symm]
   ·rw[if_neg h,if_neg (λe=>h e.symm),mn,if_neg (λe=>h (e.symm.trans hp))]
  ·rename_i hp;show(if p.1=k' then p.2 else mn k' (j9 k v r))=_;rw[acf k k' v r];by_cases h:k'=k
   ·rw[if_pos h,if_neg (λe=>hp (e.trans h)),if_pos h]
   ·rw[if_neg h,if_neg h];rfl
def acg{k:List Int}{v:Int}:∀ {am:List (List Int×Int)} {q:List Int×Int},q∈j9 k v am->q∈am\/q.1=k
 |[],q,h=>by rw[j9,cV]at h;subst h;exact .inr rfl
 |p::r,q,h=>by
  rw[j9]at h;split at h
  ·rcases bw.1 h with rfl|h
   ·exact .inr rfl
   ·exact .inl (dR _ h)
  ·rcases bw.1 h with rfl|h
   ·exact .inl (xV ..)
   ·rcases acg h with h|h
    ·exact .inl (dR _ h)
    ·exact .inr h
def ach(k:List Int)(v:Int):∀ am:List (List Int×Int),(j9 k v am).length<=am.length+1
 |[]=>aY _
 |p::r=>by
  rw[j9];split
  ·simp
  ·have:=ach k v r;simp only[dq];omega
def aci(W:WS)(p s o:Nat)(amt:Int): -268435456<=uC W p s o amt/\uC W p s o amt<=268435456:=by unfold uC;omega
def DC{α:Type}(l:List α)(i j:Nat)(x d:α):(l.set i x).getD j d=if i=j/\j<l.length then x else l.getD j d:=by
 simp only[az,bU];by_cases h:i=j
 ·subst h;by_cases h2:i<l.length
  ·simp[h2]
  ·simp[h2]
 ·simp[h]
def nG.move(h:nG m W)(p s o:Nat)(amt:Int):nG m (qD m W p s o amt):=by
 unfold qD;refine⟨by simp[h.ol],by simp[h.tl],λi hi=>?_,λj hj=>?_,λq hq=>?_⟩
 ·dsimp only;rw[DC];split
  ·rename_i e;rw[bJ,e.1];exact h.or i hi
  ·exact h.or i hi
 ·dsimp only;rw[DC];split
  ·rename_i e;rw[JM,e.1];exact h.tr j hj
  ·exact h.tr j hj
 ·rcases acg hq with h1|h1
  ·exact h.ky q h1
  ·exact⟨_,_,_,h1⟩
def WB.move{B:Int}(hm:VM m)(hB:0<=B)(h:WB B W)(p s o:Nat)(amt:Int):WB (B+12884901888) (qD m W p s o amt):=by
 have hn:=aci W p s o amt;have ha:=h.ab (og p s o);have aP:cN m (aE m p (1-s))<=24:=by
  unfold cN;rcases dP (aE m p (1-s)) m.cls.length with h1|h1
  ·exact hm.opt _ (aF h1)
  ·rw[az,dK h1];exact aS _
 unfold qD;generalize uC W p s o amt=n at *;refine⟨λc o'=>?_,λq j=>?_,λk=>?_,by have h1:=ach (og p s o) n W.am;have h2:=h.al;dsimp only;omega⟩
 ·unfold oW;dsimp only;rw[DC];split
  ·rw[OU];split
   ·have:=h.ob (aE m p s) o;unfold oW at this;omega
   ·have:=h.ob (aE m p s) o';unfold oW at this;omega
  ·have:=h.ob c o';unfold oW at this;omega
 ·unfold Br;dsimp only;rw[DC];split
  ·have:=OV (m:=m) (p:=p) (s:=s) (o:=o) (d:=n-mn (og p s o) W.am) hB GK (cN m (aE m p (1-s))) (W.ay.getD p default) (λj=>h.tb p j) j;omega
  ·have:=h.tb q j;unfold Br at this;omega
 ·dsimp only;rw[acf];split
  ·exact hn
  ·exact h.ab k
def JC(h:nG m W)(p s:Nat):∀ i,nG m (lN m can W p s i)
 |0=>h
 |i+1=>by
  rw[lN];split
  ·exact(JC h p s i).move _ _ _ _
  ·exact JC h p s i
def OL(hm:VM m){B:Int}(hB:0<=B)(h:WB B W)(p s:Nat):∀ i:Nat,WB (B+12884901888*i) (lN m can W p s i)
 |0=>h.mono GK
 |i+1=>by
  have h1:=OL hm hB h p s i;rw[lN];split
  ·exact(h1.move hm GK _ _ _ _).mono (by push_cast;omega)
  ·exact h1.mono (by push_cast;omega)
def JG(h:nG m W)(p s:Nat):∀ i,nG m (jS m can W p s i)
 |0=>h
 |i+1=>by
  rw[jS];split
  ·exact(JG h p s i).move _ _ _ _
  ·exact JG h p s i
def OO(hm:VM m){B:Int}(hB:0<=B)(h:WB B W)(p s:Nat):∀ i:Nat,WB (B+12884901888*i) (jS m can W p s i)
 |0=>h.mono GK
 |i+1=>by
  have h1:=OO hm hB h p s i;rw[jS];split
  ·exact(h1.move hm GK _ _ _ _).mono (by push_cast;omega)
  ·exact h1.mono (by push_cast;omega)
def ab5{B:Int}(hB:0<=B)(h:WB B W)(p s k:Nat):∀ i:Nat,-B<=pM m can W p s k i/\pM m can W p s k i<=1099511627776
 |0=>by rw[pM];omega
 |i+1=>by
  have h1:=ab5 hB h p s k i;rw[pM];split
  ·have:=h.tb p (km m p s i k);omega
  ·exact h1
def al1(h:nG m W)(p s:Nat):nG m (Bs m can W p s):=JG (JC h p s _) p s _
def BO(hm:VM m)(c:Nat):cN m c<=24:=by
 unfold cN;rcases dP c m.cls.length with h1|h1
 ·exact hm.opt _ (aF h1)
 ·rw[az,dK h1];exact aS _
def al2(hm:VM m){B:Int}(hB:0<=B)(h:WB B W)(p s:Nat):WB (B+618475290624) (Bs m can W p s):=by
 have h1:=BO hm (aE m p s);have h2:=BO hm (aE m p (1-s));exact(OO hm GK (OL (can:=can) hm hB h p s _) p s _).mono GK
end
def nT(l:List Bool):Nat:=l.count true
def OB(l:List Bool):nT l<=l.length:=List.count_le_length
def alN{l:List Bool}{c:Nat}(hc:c<l.length)(h:l.getD c false=false):nT l<l.length:=by
 rcases dP (nT l) l.length with h1|h1
 ·exact h1
 ·exfalso;have h2:l.count true=l.length:=Nat.le_antisymm List.count_le_length h1;have h3:=List.count_eq_length.1 h2 (l.getD c false) (aF hc);rw[h]at h3;cases h3
def alP{l:List Bool}{c:Nat}(hc:c<l.length)(h:l.getD c false=false):nT (l.set c true)=nT l+1:=by
 unfold nT;rw[List.count_set hc];have h2:l[c]=false:=by rw[az,bF hc,Option.getD_some]at h;exact h
 simp[h2]
structure UO(m:ah)(B:Int)(n:Nat)(st DD:WS×List Bool):Prop where
 len:DD.2.length=m.cls.length
 sh:nG m DD.1
 wb:WB (B+618475290624*(nT DD.2:Nat)-618475290624*(n:Nat)) DD.1
 up:nT st.2+n<=nT DD.2
 mono:∀ j,st.2.getD j false=true->DD.2.getD j false=true
structure UF(F gi si sa kv wi kx:Nat)(cT:List (List Int))(seen:List Bool)(os:List Ob):Prop where
 s:os[si]?=some (.var [.ref sa 1 0 seen.length])
 a:os[sa]?=some (.arr 1 (a8 seen))
 b:os[kv]?=some (.var [.tree 1 (fM cT)])
 w:os[wi]?=some (.var [.ptr gi 0 0])
 u:os[kx]?=some (.var [.fn F [.ptr si 0 0,.ptr kv 0 0,.ptr wi 0 0,.ptr kx 0 0]])
structure UN(gi ai bi mi:Nat)(D E:List (Nat×Nat))(si sa kv wi kx:Nat):Prop where
 out:∀ i,i=si\/i=sa\/i=kv\/i=wi\/i=kx->i≠mi/\i ∉ (D++E).map (·.1)
 sa:sa≠gi/\sa≠ai/\sa≠bi/\sa≠si/\sa≠kv/\sa≠wi/\sa≠kx
section
variable {m:ah} {can:List (List Bool)} {gi ai bi mi:Nat} {D E:List (Nat×Nat)} {W:WS} {os ob:List Ob} {F si sa kv wi kx:Nat} {cT:List (List Int)} {seen:List Bool}
def WF.other(h:WF m can gi ai bi mi D E W os){i:Nat}(h1:i≠gi/\i≠ai/\i≠bi/\i≠mi)(h2:i ∉ (D++E).map (·.1))(y:Ob):WF m can gi ai bi mi D E W (os.set i y):=by
 rw[dS,cG,not_or]at h2;exact⟨fJ h.v h1.1,fJ h.a h1.2.1,fJ h.b h1.2.2.1,fJ h.mp h1.2.2.2,h.rD.other h2.1,h.rE.other h2.2,h.nd,λi hi=>by rw[bJ];exact h.lt i hi⟩
def UF.kp(h:UF F gi si sa kv wi kx cT seen os)(hn:UN gi ai bi mi D E si sa kv wi kx)(hk:Kp mi D E os ob):UF F gi si sa kv wi kx cT seen ob:=by
 have k:∀ i,i=si\/i=sa\/i=kv\/i=wi\/i=kx->∀ o,os[i]?=some o->ob[i]?=some o:=λi hi o ho=>hk.same i o (hn.out i hi).1 (hn.out i hi).2 ho;exact⟨k _ GM _ h.s,k _ GM _ h.a,k _ GM _ h.b,k _ GM _ h.w,k _ GM _ h.u⟩
def UF.app(h:UF F gi si sa kv wi kx cT seen os)(l:List Ob):UF F gi si sa kv wi kx cT seen (os++l):=⟨aN h.s l,aN h.a l,aN h.b l,aN h.w l,aN h.u l⟩
def UF.set(h:UF F gi si sa kv wi kx cT seen os)(hn:UN gi ai bi mi D E si sa kv wi kx){s2:List Bool}(hl:s2.length=seen.length):UF F gi si sa kv wi kx cT s2 (os.set sa (.arr 1 (a8 s2))):=by
 obtain⟨_,_,_,h4,h5,h6,h7⟩:=hn.sa;exact⟨by rw[hl];exact fJ h.s h4,mR h.a,fJ h.b h5,fJ h.w h6,fJ h.u h7⟩
def Kp.wide{mi:Nat}{D E:List (Nat×Nat)}{os ob:List Ob}(h:Kp mi D E os ob)(q:Nat×Nat):Kp mi (q::D) E os ob :=
 ⟨h.len,λi o h1 h2 h3=>h.same i o h1 (λhh=>h2 (by rw[dx,ei];exact dR _ hh)) h3⟩
def Kp.put{mi:Nat}{D E:List (Nat×Nat)}{os o1:List Ob}(h:Kp mi ((sa,0)::D) E os o1)(y:Ob):Kp mi ((sa,0)::D) E os (o1.set sa y) :=
 ⟨by rw[bJ];exact h.len,λi o h1 h2 h3=>fJ (h.same i o h1 h2 h3) (λe=>h2 (by rw[dx,ei];exact e▸xV ..))⟩
end
def wa(m:ah)(can:List (List Bool))(up:WS×List Bool->Nat->WS×List Bool)(st:WS×List Bool)(p:Nat):Nat->WS×List Bool
 |0=>st
 |s+1=>Bt m can up (wa m can up st p s) p s
def xI(m:ah)(can:List (List Bool))(up:WS×List Bool->Nat->WS×List Bool)(st:WS×List Bool)(l:List Int):WS×List Bool:=l.foldl (λst p=>wa m can up st p.toNat 2) st
def alR(m:ah)(can:List (List Bool))(up:WS×List Bool->Nat->WS×List Bool)(st:WS×List Bool){l:List Int}{k:Nat}(h:k<l.length):xI m can up st (l.take (k+1))=wa m can up (xI m can up st (l.take k)) (l.getD k default).toNat 2:=by
 rw[eu h];unfold xI;rw[List.foldl_append];rfl
def alQ(m:ah)(can:List (List Bool))(cT:List (List Int))(f:Nat)(st:WS×List Bool)(c:Nat):jm m can cT (f+1) st c=xI m can (jm m can cT f) (st.1,st.2.set c true) (cT.getD c default):=rfl
def lS(q:Nat×List Int):List AV:=if q.2=[] then [.lit (.slice none 0 0)] else [.ref q.1 1 0 q.2.length]
def Ou{α:Type}[Inhabited α](L:List α)(c k:Nat)(x:α)(hc:c<L.length):(L.set c x).getD k default=if k=c then x else L.getD k default:=by
 rw[az,bU];by_cases h:k=c
 ·subst h;simp[hc]
 ·rw[if_neg (λe=>h e.symm),if_neg h,az]
def iY{os:List Ob}{i:Nat}{o:Ob}(h:os[i]?=some o):i<os.length:=(aV.1 h).1
def Jt{Q:List (Nat×List Int)}{c:Nat}(hc:c<Q.length):(rowsOf lS Q)[c]?=some (lS (Q.getD c default)):=by
 unfold rowsOf;rw[bI,az,bF hc];rfl
def uP(q:Nat×List Int):AV:=if q.2=[] then .lit (.slice none 0 0) else .ref q.1 1 0 q.2.length
def qO(q:Nat×List Int)(os:List Ob):List Ob:=if q.2=[] then os else os.set q.1 .gone
def Oq(q:Nat×List Int):lS q=[uP q]:=by unfold lS uP;split<;>rfl
def abC(q:Nat×List Int)(os:List Ob):(qO q os).length=os.length:=by unfold qO;split<;>simp
def BL{q:Nat×List Int}{os:List Ob}{k:Nat}{o:Ob}(h:os[k]?=some o)(hk:q.2≠[]->k≠q.1):(qO q os)[k]?=some o:=by
 unfold qO;split
 ·exact h
 ·rename_i hq;rw[gA (Ne.symm (hk hq))];exact h
def al5{q:Nat×List Int}{os:List Ob}(h:q.2≠[]->os[q.1]?=some (.arr 1 (ints q.2)))(e:Nat->AV):lW ⟨e,os⟩ 1 (uP q)=some (ints q.2,⟨e,qO q os⟩):=by
 unfold uP qO;by_cases hq:q.2=[]
 ·rw[if_pos hq,if_pos hq,hq];rfl
 ·rw[if_neg hq,if_neg hq];unfold lW;simp only[h hq,and_self,if_true,Aw];rw[dm (by rw[x7];exact aY _)]
def abx{ps:List Nat}{q:Nat×List Int}(h:q.2≠[]->q.1 ∉ ps):BK ps (uP q)=True:=by
 unfold uP;split
 ·exact OW _
 ·rename_i hq;rw[OX];exact eq_true (h hq)
def al6{q:Nat×List Int}{os:List Ob}(h:q.2≠[]->q.1<os.length)(l:List Ob):qO q (os++l)=qO q os++l:=by
 unfold qO;split
 ·rfl
 ·rename_i hq;rw[List.set_append_left _ _ (h hq)]
def abB{q:Nat×List Int}{os:List Ob}(h:q.2≠[]->os[q.1]?=some (.arr 1 (ints q.2)))(l:List Ob)(e:Nat->AV):lW ⟨e,os++l⟩ 1 (uP q)=some (ints q.2,⟨e,qO q os++l⟩):=by
 rw[al5 (λhq=>aN (h hq) l),al6 (λhq=>iY (h hq))]
def abD(Q:List (Nat×List Int))(c pa:Nat)(l:List Int)(n:Int):(rowsOf lS Q).set c [.ref pa 1 0 (l.length+1)]=rowsOf lS (Q.set c (pa,l++[n])):=by
 unfold rowsOf;rw[List.map_set];congr 1;unfold lS;rw[if_neg GM];simp
def Af{X:List Ob}{n:Nat}(h:X.length=n)(l:List Ob)(k:Nat):(X++l)[n+k]?=l[k]?:=by subst h;exact kP X l k
def Jv{X:List Ob}{n:Nat}(h:X.length=n)(x:Ob)(l:List Ob):(X++x::l)[n]?=some x:=by subst h;exact kl X x l
def Ot{Q:List (Nat×List Int)}{a:Nat}(h:a<Q.length):(Q.map (·.2)).getD a default=(Q.getD a default).2:=by
 rw[az,bI,az,bF h];rfl
structure LR(F:List (Nat×Ob))(lp:Nat)(Q:List (Nat×List Int))(ob:List Ob):Prop where
 fx:∀ p∈F,ob[p.1]?=some p.2
 tA:∀ p∈F,p.1≠lp/\∀ c,c<Q.length->(Q.getD c default).2≠[]->p.1≠(Q.getD c default).1
 ls:ob[lp]?=some (.arr 1 (rowsOf lS Q))
 row:∀ c,c<Q.length->(Q.getD c default).2≠[]->ob[(Q.getD c default).1]?=some (.arr 1 (ints (Q.getD c default).2))/\(Q.getD c default).1≠lp
 inj:∀ c c',c<Q.length->c'<Q.length->(Q.getD c default).2≠[]->(Q.getD c' default).2≠[]->(Q.getD c default).1=(Q.getD c' default).1->c=c'
section
variable {F:List (Nat×Ob)} {lp:Nat} {Q:List (Nat×List Int)} {ob l:List Ob}
def LR.app(h:LR F lp Q ob)(l:List Ob):LR F lp Q (ob++l) :=
 ⟨λp hp=>aN (h.fx p hp) l,h.tA,aN h.ls l,λc hc hn=>⟨aN (h.row c hc hn).1 l,(h.row c hc hn).2⟩,h.inj⟩
def LR.akK(h:LR F lp Q ob){a b:Nat}(ha:a<Q.length)(hb:b<Q.length)(ju:a≠b){n:Int}{fin:List Ob}{pa pb:Nat}(OY:ob.length<=pa)(dO:ob.length<=pb)(cg:pa≠pb)(hk:∀ k o,ob[k]?=some o->k≠lp->((Q.getD a default).2≠[]->k≠(Q.getD a default).1)->((Q.getD b default).2≠[]->k≠(Q.getD b default).1)->fin[k]?=some o)(hl:fin[lp]?=some (.arr 1 (rowsOf lS ((Q.set a (pa,(Q.getD a default).2++[n])).set b (pb,(Q.getD b default).2++[n])))))(h1:fin[pa]?=some (.arr 1 (ints ((Q.getD a default).2++[n]))))(h2:fin[pb]?=some (.arr 1 (ints ((Q.getD b default).2++[n])))):
  LR F lp ((Q.set a (pa,(Q.getD a default).2++[n])).set b (pb,(Q.getD b default).2++[n])) fin:=by
 have hlp:lp<ob.length:=iY h.ls;have hg:∀ k,((Q.set a (pa,(Q.getD a default).2++[n])).set b (pb,(Q.getD b default).2++[n])).getD k default=if k=b then(pb,(Q.getD b default).2++[n]) else if k=a then(pa,(Q.getD a default).2++[n]) else Q.getD k default:=λk=>by
  rw[Ou _ _ _ _ (by simpa using hb)];split
  ·rfl
  ·rw[Ou _ _ _ _ ha]
 have hold:∀ c,c<Q.length->(Q.getD c default).2≠[]->(Q.getD c default).1<ob.length:=λc hc hn=>iY (h.row c hc hn).1;refine⟨λp hp=>hk _ _ (h.fx p hp) (h.tA p hp).1 (λhn=>(h.tA p hp).2 a ha hn) (λhn=>(h.tA p hp).2 b hb hn),λp hp=>⟨(h.tA p hp).1,λk eG hn=>?_⟩,hl,λk eG hn=>?_,λk k' eG OZ hn rf e=>?_⟩
 ·have yM:=iY (h.fx p hp);rw[bJ,bJ]at eG;rw[hg]at hn ⊢;split at hn
  ·rename_i e;rw[if_pos e];dsimp only;omega
  ·rename_i e;rw[if_neg e];split at hn
   ·rename_i e2;rw[if_pos e2];dsimp only;omega
   ·rename_i e2;rw[if_neg e2];exact(h.tA p hp).2 k eG hn
 ·rw[bJ,bJ]at eG;rw[hg]at hn ⊢;split at hn
  ·rename_i e;rw[if_pos e];exact⟨h2,PW⟩
  ·rename_i e;rw[if_neg e];split at hn
   ·rename_i e2;rw[if_pos e2];exact⟨h1,PW⟩
   ·rename_i e2;rw[if_neg e2];have hr:=h.row k eG hn;exact⟨hk _ _ hr.1 hr.2 (λET e3=>e2 (h.inj k a eG ha hn ET e3)) (λdN e3=>e (h.inj k b eG hb hn dN e3)),hr.2⟩
 ·rw[bJ,bJ]at eG OZ;rw[hg]at hn e;rw[hg k']at rf e;have o1:=hold k eG;have o2:=hold k' OZ;have i1:=h.inj k k' eG OZ;by_cases x1:k=b<;>by_cases x2:k'=b
  ·exact x1.trans x2.symm
  ·rw[if_pos x1,if_neg x2]at e;rw[if_neg x2]at rf;by_cases x3:k'=a
   ·rw[if_pos x3]at e;dsimp only at e;omega
   ·rw[if_neg x3]at e rf;have:=o2 rf;dsimp only at e;omega
  ·rw[if_neg x1,if_pos x2]at e;rw[if_neg x1]at hn;by_cases x3:k=a
   ·rw[if_pos x3]at e;dsimp only at e;omega
   ·rw[if_neg x3]at e hn;have:=o1 hn;dsimp only at e;omega
  ·rw[if_neg x1,if_neg x2]at e;rw[if_neg x1]at hn;rw[if_neg x2]at rf;by_cases x3:k=a<;>by_cases x4:k'=a
   ·exact x3.trans x4.symm
   ·rw[if_pos x3,if_neg x4]at e;rw[if_neg x4]at rf;have:=o2 rf;dsimp only at e;omega
   ·rw[if_neg x3,if_pos x4]at e;rw[if_neg x3]at hn;have:=o1 hn;dsimp only at e;omega
   ·rw[if_neg x3,if_neg x4]at e;rw[if_neg x3]at hn;rw[if_neg x4]at rf;exact i1 hn rf e
def LR.start{N:Nat}(hF:∀ p∈F,ob[p.1]?=some p.2):LR F ob.length (aK N (0,[])) (ob++[.arr 1 (aK N [.lit (.slice none 0 0)])]):=by
 have hz:∀ c,((aK N ((0:Nat),([]:List Int))).getD c default).2=[]:=λc=>by
  rw[az];cases hh:(aK N ((0:Nat),([]:List Int)))[c]? with
  |none=>rfl
  |some q=>rw[Cb (gI hh)];rfl
 refine⟨λp hp=>aN (hF p hp) _,λp hp=>⟨by have:=iY (hF p hp);omega,λc _ hn=>absurd (hz c) hn⟩,?_,λc _ hn=>absurd (hz c) hn,λc c' _ _ hn=>absurd (hz c) hn⟩;rw[show rowsOf lS (aK N ((0:Nat),([]:List Int)))=aK N [.lit (.slice none 0 0)] by unfold rowsOf;rw[List.map_replicate];rfl];exact kl _ _ _
end
def v8(S:List Nat)(ob:List Ob):List Ob:=ob.mapIdx λi o=>if i∈S then .gone else o
def abH(S:List Nat)(ob:List Ob):(v8 S ob).length=ob.length:=by simp[v8]
def Ow{S:List Nat}{ob:List Ob}{i:Nat}{o:Ob}(h:ob[i]?=some o):(v8 S ob)[i]?=some (if i∈S then .gone else o):=by
 unfold v8;rw[List.getElem?_mapIdx,h];rfl
def Ox{S:List Nat}{ob:List Ob}{i:Nat}{o:Ob}(h:ob[i]?=some o)(hi:i ∉ S):(v8 S ob)[i]?=some o:=by rw[Ow h,if_neg hi]
def oB(lp:Nat)(Q:List (Nat×List Int)):List Nat:=lp::(Q.filter λq=>decide (q.2≠[])).map (·.1)
section
variable {F:List (Nat×Ob)} {lp:Nat} {Q:List (Nat×List Int)} {ob:List Ob}
def ak0(xG:ob[lp]?=some (.arr 1 (rowsOf lS Q))){X:Nat->Prop}(bL:∀ c,c<Q.length->(Q.getD c default).2≠[]->ob[(Q.getD c default).1]?=some (.arr 1 (ints (Q.getD c default).2))/\X c)(e:Nat->AV):cQ ⟨e,ob⟩ (λi=>i ∉ oB lp Q) (.tree 1 (fM (Q.map (·.2)))) (.ref lp 1 0 Q.length):=by
 have Dw:∀ row∈fM (Q.map (·.2)),row.length=1:=λrow hr=>by
  unfold fM at hr;obtain⟨_,_,rfl⟩:=bW.1 hr;rfl
 refine .ref lp 1 0 Q.length _ _ (λr c=>(cellAt (rowsOf lS Q) r c).getD .undef) xG (λhn=>hn (xV ..)) (by simp[fM,rowsOf]) Dw (λr c v hv=>?_) (λr c v hv=>?_);all_goals
  unfold cellAt at hv;by_cases hr:r<Q.length;rotate_left
  ·rw[dK (by simp[fM];omega)]at hv;simp at hv
  have e1:(fM (Q.map (·.2)))[r]?=some [.tree 1 (ints (Q.getD r default).2)]:=by
   unfold fM;rw[bI,bI,bF hr,az,bF hr];rfl
  rw[e1,tH]at hv;have mM:c=0:=by
   have:=(aV.1 hv).1;simp at this;exact this
  subst mM;simp only[List.getElem?_cons_zero,Option.some.injEq]at hv;subst hv;have e2:=Jt hr
 ·rw[Aw,dm (by simp[rowsOf])];unfold cellAt;rw[e2,tH];unfold lS;split<;>rfl
 ·unfold cellAt;rw[e2,tH];by_cases hq:(Q.getD r default).2=[]
  ·unfold lS;rw[if_pos hq,hq];exact .nil 1
  ·have e3:(lS (Q.getD r default))[0]?.getD .undef=.ref (Q.getD r default).1 1 0 (Q.getD r default).2.length:=by unfold lS;rw[if_neg hq];rfl
   rw[e3];have hm:(Q.getD r default).1∈oB lp Q:=by
    refine dR _ (bW.2 ⟨Q.getD r default,Av.2 ⟨aF hr,by rw[decide_eq_true_eq];exact hq⟩,rfl⟩)
   refine cQ.flat (bL r hr hq).1 (vh _) (by rw[x7]) (λhn=>hn hm) λrow acj v hv=>?_;unfold ints at acj;obtain⟨x,_,rfl⟩:=bW.1 acj;rw[cV]at hv;exact .inl ⟨_,hv⟩
def LR.at_(h:LR F lp Q ob){i:Nat}(hi:i∈oB lp Q):∀ p∈F,p.1≠i:=λp hp=>by
 rcases bw.1 hi with rfl|hi
 ·exact(h.tA p hp).1
 ·obtain⟨q,hq,rfl⟩:=bW.1 hi;obtain⟨h1,h2⟩:=Av.1 hq;rw[decide_eq_true_eq]at h2;obtain⟨c,hc,rfl⟩:=mZ h1;have e:Q.getD c default=Q[c]:=by rw[az,bF hc];rfl
  have:=(h.tA p hp).2 c hc (by rw[e];exact h2);rwa [e]at this
def LR.kill(h:LR F lp Q ob):∀ p∈F,(v8 (oB lp Q) ob)[p.1]?=some p.2:=λp hp=>Ox (h.fx p hp) λhi=>h.at_ hi p hp rfl
end
def oY(os:List Ob):List (Nat×Ob):=os.zipIdx.map λq=>(q.2,q.1)
def Ad{os:List Ob}{p:Nat×Ob}:p∈oY os↔os[p.1]?=some p.2:=by
 unfold oY;rw[bW];constructor
 ·rintro⟨q,hq,rfl⟩;exact List.mem_zipIdx_iff_getElem?.1 hq
 ·intro h;exact⟨(p.2,p.1),List.mem_zipIdx_iff_getElem?.2 h,rfl⟩
def LR.head{F0:List (Nat×Ob)}{lp:Nat}{Q:List (Nat×List Int)}{ob:List Ob}{i:Nat}{x y:Ob}(h:LR ((i,x)::F0) lp Q ob)(hd:∀ p∈F0,p.1≠i):LR ((i,y)::F0) lp Q (ob.set i y):=by
 obtain⟨d1,d2⟩:=h.tA (i,x) (xV ..);refine⟨λp hp=>?_,λp hp=>?_,fJ h.ls d1,λc hc hn=>⟨fJ (h.row c hc hn).1 (d2 c hc hn),(h.row c hc hn).2⟩,h.inj⟩
 ·rcases bw.1 hp with rfl|hp
  ·exact mR (h.fx (i,x) (xV ..))
  ·exact fJ (h.fx p (dR _ hp)) (Ne.symm (hd p hp))
 ·rcases bw.1 hp with rfl|hp
  ·exact⟨d1,d2⟩
  ·exact h.tA p (dR _ hp)
section
variable {F F':List (Nat×Ob)} {lp:Nat} {Q:List (Nat×List Int)} {ob l:List Ob}
def LR.more(h:LR F lp Q ob)(hF:∀ p∈F',p∈F\/∃ j,p.1=ob.length+j/\l[j]?=some p.2):LR F' lp Q (ob++l):=by
 have hlp:lp<ob.length:=iY h.ls;refine⟨λp hp=>?_,λp hp=>?_,aN h.ls l,λc hc hn=>⟨aN (h.row c hc hn).1 l,(h.row c hc hn).2⟩,h.inj⟩
 ·rcases hF p hp with h1|⟨j,h1,h2⟩
  ·exact aN (h.fx p h1) l
  ·rw[h1,kP];exact h2
 ·rcases hF p hp with h1|⟨j,h1,h2⟩
  ·exact h.tA p h1
  ·exact⟨GK,λc hc hn=>by have:=iY (h.row c hc hn).1;omega⟩
end
def LR.sub{F F2:List (Nat×Ob)}{lp:Nat}{Q:List (Nat×List Int)}{ob:List Ob}(h:LR F lp Q ob)(hs:∀ p∈F2,p∈F):LR F2 lp Q ob:=⟨λp hp=>h.fx p (hs p hp),λp hp=>h.tA p (hs p hp),h.ls,h.row,h.inj⟩
def LR.cell{F:List (Nat×Ob)}{lp:Nat}{Q:List (Nat×List Int)}{ob:List Ob}(h:LR F lp Q ob){c:Nat}(hc:c<Q.length):(Q.getD c default).2≠[]->ob[(Q.getD c default).1]?=some (.arr 1 (ints (Q.getD c default).2)):=λhn=>(h.row c hc hn).1
def akH{os:List Ob}{i:Nat}{o:Ob}(h:os[i]?=some o):os.set i o=os:=by
 have h1:=(aV.1 h);obtain⟨h2,h3⟩:=h1;rw[<- h3,List.set_getElem_self]
def Jq(t:List Int)(a:Nat)(eA:Int):∀ i,(nD t a eA i).length=t.length
 |0=>rfl
 |i+1=>by
  rw[nD];split
  ·rw[bJ];exact Jq t a eA i
  ·exact Jq t a eA i
def Jp(t:List Int)(a:Nat)(eA:Int)(ha:t.getD a 0≠eA):∀ i,(nD t a eA i).getD a 0=t.getD a 0
 |0=>rfl
 |i+1=>by
  rw[nD];split
  ·rename_i h;rw[OU];split
   ·rename_i e;obtain⟨e,_⟩:=e;have h2:=congrArg (λj=>(nD t a eA i).getD j 0) e;exact absurd ((Jp t a eA ha i).symm.trans (h2.symm.trans h)) ha
   ·exact Jp t a eA ha i
  ·exact Jp t a eA ha i
section
variable {m:ah}
def al8{t:List Int×List (List Int)}{N:Nat}(h1:t.1.length=N)(h2:t.2.length=N)(p:Nat):(Di m t p).1.length=N/\(Di m t p).2.length=N:=by
 unfold Di;dsimp only;split
 ·exact⟨h1,h2⟩
 ·exact⟨by rw[Jq];exact h1,by simp[h2]⟩
def Jn(round:Nat):∀ k,(lq m round k).1.length=m.cls.length/\(lq m round k).2.length=m.cls.length
 |0=>⟨by simp[lq],by simp[lq]⟩
 |k+1=>al8 (Jn round k).1 (Jn round k).2 _
def Ju(round:Nat):∀ k,∀ c,((lq m round k).2.getD c default).length<=k/\∀ x∈(lq m round k).2.getD c default,0<=x/\(0<m.ae.length->x<m.ae.length)
 |0,c=>by
  have:(lq m round 0).2.getD c default=[]:=by
   show(aK m.cls.length []).getD c default=[];rw[az];cases hh:(aK m.cls.length ([]:List Int))[c]? with
   |none=>rfl
   |some q=>rw[Cb (gI hh)];rfl
  rw[this];simp
 |k+1,c=>by
  have ih:=Ju round k;rw[lq];generalize hp:(k+round)%m.ae.length=p;have dg:0<m.ae.length->p<m.ae.length:=λh=>by rw[<- hp];exact Nat.mod_lt _ h
  unfold Di;dsimp only;split
  ·exact⟨by have:=(ih c).1;omega,(ih c).2⟩
  ·have key:∀ l:List Int,l.length<=k->(∀ x∈l,0<=x/\(0<m.ae.length->x<m.ae.length))->(l++[(p:Int)]).length<=k+1/\∀ x∈l++[(p:Int)],0<=x/\(0<m.ae.length->x<m.ae.length):=λl h1 h2=>by
    refine⟨P2,λx hx=>?_⟩;rcases cG.1 hx with hx|hx
    ·exact h2 x hx
    ·simp only[cV]at hx;subst hx;exact⟨GK,λh=>by have:=dg h;omega⟩
   rw[DC];split
   ·exact key _ (ih _).1 (ih _).2
   ·rw[DC];split
    ·exact key _ (ih _).1 (ih _).2
    ·exact⟨by have:=(ih c).1;omega,(ih c).2⟩
end
def LR.lt{F:List (Nat×Ob)}{lp:Nat}{Q:List (Nat×List Int)}{ob:List Ob}(h:LR F lp Q ob){i:Nat}(hi:i∈oB lp Q):i<ob.length:=by
 rcases bw.1 hi with rfl|hi
 ·exact iY h.ls
 ·obtain⟨q,hq,rfl⟩:=bW.1 hi;obtain⟨h1,h2⟩:=Av.1 hq;rw[decide_eq_true_eq]at h2;obtain⟨c,hc,rfl⟩:=mZ h1;have e:Q.getD c default=Q[c]:=by rw[az,bF hc];rfl
  have:=iY (h.row c hc (by rw[e];exact h2)).1;rwa [e]at this
def R1.pre{os ob:List Ob}{D:List (Nat×Nat)}{S:List (List Int)}(h:R1 os D S)(hp:∀ (i:Nat) o,os[i]?=some o->ob[i]?=some o):R1 ob D S :=
 ⟨h.len,λj hj=>⟨(h.row j hj).1,λh0=>hp _ _ ((h.row j hj).2 h0)⟩⟩
def WF.pre{m:ah}{can:List (List Bool)}{gi ai bi mi:Nat}{D E:List (Nat×Nat)}{W:WS}{os ob:List Ob}(h:WF m can gi ai bi mi D E W os)(hl:os.length<=ob.length)(hp:∀ (i:Nat) o,os[i]?=some o->ob[i]?=some o):WF m can gi ai bi mi D E W ob :=
 ⟨hp _ _ h.v,hp _ _ h.a,hp _ _ h.b,hp _ _ h.mp,h.rD.pre hp,h.rE.pre hp,h.nd,λi hi=>DW (h.lt i hi) hl⟩
section
variable {m:ah} {can:List (List Bool)} {gi ai bi mi:Nat} {D E:List (Nat×Nat)} {W:WS} {os:List Ob}
def Ae(hm:VM m){p:Nat}(hp:p<m.ae.length):hJ m (cS m p)=true/\(cS m p).fst.toNat<m.cls.length/\(cS m p).snd.toNat<m.cls.length/\0<=(cS m p).fst/\0<=(cS m p).snd/\(cS m p).fst<(cS m p).snd:=by
 have dO:=j6 hm.pr _ (aF (l:=m.ae) (i:=p) (d:=default) hp);obtain⟨_,h1,h2,h3,_⟩:=qA dO;exact⟨dO,by unfold cS;omega,by unfold cS;omega,h1,by unfold cS;omega,h2⟩
def ab8(hm:VM m)(h:WF m can gi ai bi mi D E W os){p s o k:Nat}(hp:p<m.ae.length)(ho:o<24)(hk:k<24):
  Holds Tryz.prog 104 [.ptr gi 0 0,Qf p,Qf s,Qf o,Qf k] os (Qf (km m p s o k:Nat)) os:=by
 obtain⟨dO,q1,q2,q3,q4,q5⟩:=Ae hm hp;have fv:=h.v;have pT:=hm.ae;have rT:=hm.cls;have hS:=hm.opt _ (aF (l:=m.cls) (i:=(cS m p).snd.toNat) (d:=default) q2);have fR:m.ae.getD p default=cS m p:=rfl;have e1:(if s=1 then k*(m.cls.getD (cS m p).snd.toNat default).length+o else o*(m.cls.getD (cS m p).snd.toNat default).length+k)=km m p s o k:=rfl;generalize km m p s o k=r at *;generalize nm:(m.cls.getD (cS m p).snd.toNat default).length=n2 at *;generalize cS m p=pp at *;have b1:(k:Int)*n2<=24*24:=by
  have:=wC (Qi hk) hS
  exact_mod_cast this
 have b2:(o:Int)*n2<=24*24:=by
  have:=wC (Qi ho) hS
  exact_mod_cast this
 have b3:(0:Int)<=(k:Int)*n2:=sw GK GK;have b4:(0:Int)<=(o:Int)*n2:=sw GK GK;refine Holds.aM 36 os.length [.tmp 10] Tryz.func104 ?_;((try revert hK K);(repeat'(first|refine Vb (X5 @fv @an.eq_1 @aI.eq_1 @fR @nm) ?_|(refine V2 (X5 @fv @an.eq_1 @aI.eq_1 @fR @nm) ?_ ?_<;>try with_reducible intro hb)|(refine Xi ?_ ?_<;>try intro ht)|refine VD ?_ ?_|exact Xx|fail))<;>try with_reducible intro K hK)
 all_goals try omega
 ·have e:(k:Int)*n2+o=(r:Nat):=by rw[<- e1,if_pos GK];push_cast;rfl
  rw[e];exact eF rfl (aY _) rfl
 ·have e:(o:Int)*n2+k=(r:Nat):=by rw[<- e1,if_neg GK];push_cast;rfl
  rw[e];exact eF rfl (aY _) rfl
def Ga(hm:VM m)(h:WF m can gi ai bi mi D E W os){p:Nat}(hp:p<m.ae.length):
  Holds Tryz.prog 71 [.ptr gi 0 0,Qf p] os (.tree 1 [[.tree 1 (ints [(cS m p).fst])],[.tree 1 (ints [(cS m p).snd])]]) (os++[.gone,.gone,.gone,.gone]):=by
 obtain⟨dO,q1,q2,q3,q4,q5⟩:=Ae hm hp;have fv:=h.v;have eg:=aN fv;have pT:=hm.ae;have rT:=hm.cls;have fR:m.ae.getD p default=cS m p:=rfl;generalize cS m p=pp at *;refine Holds.aM 21 os.length [.tmp 4] Tryz.func71 ?_;repeat'(first|((fail_if_success (first|refine eM 2 ?_|refine eN 2 ?_));refine Xr (X5 @fv @an.eq_1 @aI.eq_1 @fR (X2 @bH @bE.{0})) ?_;intro K hK)|refine Xo (X5 @fv @an.eq_1 @aI.eq_1 @fR (X2 @bH @bE.{0})) ?_|(refine hK _ ?_;clear hK K)|(refine Xg (X5 @fv @an.eq_1 @aI.eq_1 @fR (X2 @bH @bE.{0})) ?_ ?_<;>try intro hb)|(refine Xi ?_ ?_<;>try intro ht)|refine Xy ?_|refine Xd ?_ ?_|exact Xx|fail)
 all_goals try(exfalso;omega)
 refine Nx 7 GS ?_;intro K K1 hK z7;simp(disch:=omega)only[Ac,↓Pc,simprocAttr,bH,bE,aI];repeat'(first|with_reducible refine c6 ?_ ?_|omega|with_reducible rfl)
 refine z7 _ ⟨ao [(20,.tree 1 [[.tree 1 (ints [pp.fst])],[.tree 1 (ints [pp.snd])]])],os++[.gone,.gone,.gone,.gone]⟩ ?_ ?_
 ·refine aH.trans (σ1:=⟨ao [(20,.ref (os.length+3) 1 0 2)],os++[.var (aI pp),.arr 1 [[Qf pp.fst]],.arr 1 [[Qf pp.snd]],.arr 1 [[.ref (os.length+1) 1 0 1],[.ref (os.length+2) 1 0 1]]]⟩) (Xv @aI.eq_1) ?_;refine aH.trans (aH.al9 20 (λi=>i<os.length) (v:=.tree 1 [[.tree 1 (ints [pp.fst])],[.tree 1 (ints [pp.snd])]]) (os2:=os++[.gone,.gone,.gone,.gone]) GM (λi o hi=>?_) ?_) (Xv X0)
  ·dsimp only at hi;by_cases aX:i<os.length
   ·left;rw[List.getElem?_append_left aX]at hi ⊢;exact⟨aX,hi⟩
   ·right;have h4:=(aV.1 hi).1;simp only[bO,dq,List.length_nil]at h4;refine⟨aX,?_⟩;rw[List.getElem?_append_right GK];rcases(by omega:i-os.length=0\/i-os.length=1\/i-os.length=2\/i-os.length=3) with e|e|e|e<;>rw[e]<;>rfl
  ·refine cQ.mk (rows:=[[.ref (os.length+1) 1 0 1],[.ref (os.length+2) 1 0 1]]) (by rw[kP];rfl) rfl GK GM ?_;exact⟨⟨cQ.mk (rows:=[[Qf pp.fst]]) (by rw[kP];rfl) rfl GK (by simp[ints]) ⟨⟨.lit _,trivial⟩,trivial⟩,trivial⟩,⟨cQ.mk (rows:=[[Qf pp.snd]]) (by rw[kP];rfl) rfl GK (by simp[ints]) ⟨⟨.lit _,trivial⟩,trivial⟩,trivial⟩,trivial⟩
 clear z7 K1;simp(disch:=omega)only[Ac,↓Pc,simprocAttr];refine hK _ ?_;repeat(first|refine Xu ?_)
 ((try revert hK K);(repeat'(first|refine Vb X0 ?_|(refine V2 X0 ?_ ?_<;>try with_reducible intro hb)|(refine Xi ?_ ?_<;>try intro ht)|refine VD ?_ ?_|exact Xx|fail))<;>try with_reducible intro K hK)
 exact eF rfl GM rfl
end
section
variable {m:ah} {can:List (List Bool)} {gi ai bi mi:Nat} {D E:List (Nat×Nat)} {W:WS} {os:List Ob}
def ab7(hm:VM m){p s o k:Nat}(hp:p<m.ae.length)(hs:s<=1)(ho:o<cN m (aE m p s))(hk:k<cN m (aE m p (1-s))):km m p s o k<(cS m p).ay.length:=by
 obtain⟨dO,_⟩:=Ae hm hp;obtain⟨_,_,_,_,hl⟩:=qA dO;have kf:((cS m p).ay.length:Int)=(cN m (aE m p 0):Nat)*(cN m (aE m p 1):Nat):=hl;have re:(cS m p).ay.length=cN m (aE m p 0)*cN m (aE m p 1):=by exact_mod_cast kf
 rw[re];rcases(show s=0\/s=1 by omega) with rfl|rfl
 ·show o*cN m (aE m p 1)+k<_;exact DW (Nat.add_lt_add_left hk _) (by rw[<- Nat.succ_mul];exact nN _ ho)
 ·show k*cN m (aE m p 1)+o<_;exact DW (Nat.add_lt_add_left ho _) (by rw[<- Nat.succ_mul];exact nN _ hk)
def ab3(hm:VM m)(h:WF m can gi ai bi mi D E W os)(hs:nG m W){B:Int}(hB:0<=B/\B<=2305843009213693952)(hW:WB B W){p s o:Nat}(hp:p<m.ae.length)(jr:s<=1)(ho:o<cN m (aE m p s)){amt:Int}(ham : -2305843009213693952<=amt/\amt<=2305843009213693952):
  cX Tryz.prog 103 [.ptr gi 0 0,Qf p,Qf s,Qf o,Qf amt] os λr ob=>r=.bD []/\WF m can gi ai bi mi D E (qD m W p s o amt) ob/\Kp mi D E os ob:=by
 obtain⟨dO,q1,q2,q3,q4,q5⟩:=Ae hm hp;have fv:=h.v;have ev:=aN fv;have fm:=h.mp;have em:=aN fm;have pT:=hm.ae;have rT:=hm.cls;have eJ:=aci W p s o amt;have ju:=hW.ab (og p s o);have jt:(ni [(p:Int),(s:Int),(o:Int)] (mE W.am)).getD (Qf 0)=Qf (mn (og p s o) W.am):=ahF _ _;have A6:min (max (mn (og p s o) W.am+amt) (-268435456)) 268435456=uC W p s o amt:=rfl;have jZ:Am.fl [(p:Int),(s:Int),(o:Int)] (Qf (uC W p s o amt)) (mE W.am)=mE (j9 (og p s o) (uC W p s o amt) W.am):=ahG _ _ _;have hM:=h.OT (j9 (og p s o) (uC W p s o amt) W.am);have sm:=iy fm;refine cX.aM 119 os.length [] Tryz.func103 ?_;refine Xk ?_;refine M9 ?_;intro K hK;simp(disch:=omega)only[Ac,↓Pc,simprocAttr,bH];repeat'(first|with_reducible refine c6 ?_ ?_|omega|with_reducible rfl)
 refine hK _ ?_;clear hK K;refine hn _ ?_;(try clear hn;try clear he)
 refine cL (aH.CR 10 os.length (cells:=[Qf p,Qf s,Qf o]) (by rw[kl]) (by simp only[Kc,simprocAttr]) GM) ?_;refine cL (σ':=⟨ao [(0,.ptr gi 0 0),(1,Qf p),(2,Qf s),(3,Qf o),(4,Qf amt),(10,.cB [Qf p,Qf s,Qf o])],os++[.gone]⟩) (by rw[E5];exact Xv X0) ?_;generalize Mt:mn (og p s o) W.am=a at *;generalize Hh:uC W p s o amt=n at *;refine Xk ?_;refine vW ?_;intro Q hn he;refine ph ⟨ao [(0,.ptr gi 0 0),(1,Qf p),(2,Qf s),(3,Qf o),(4,Qf amt),(10,.cB [Qf p,Qf s,Qf o]),(11,Qf n)],os++[.gone]⟩ hn ?_ (λkey=>?_);rotate_left
 ·refine pw [] (.take 0 (.take 1 (.take 2 (.take 3 (.take 4 (.take 5 (.take 6 (.take 7 (.take 8 (.take 9 (.take 10 .nil))))))))))) rfl GS (by decide +kernel) ?_;simp(disch:=omega)only[Ac,↓Pc,simprocAttr,vT,vS,vR,vQ,uJ,q7,nU,mJ,mI,cj,↓Lq,fv,ev,fm,em,an,jt,A6,bH];repeat'(first|with_reducible refine c6 ?_ ?_|omega|with_reducible rfl)
  all_goals
   refine key _ ?_;exact Xv X0
 (try clear hn;try clear he)
 try(try clear Q)
 refine Xk ?_;refine vW ?_;intro Q hn he;refine ph ⟨ao [(0,.ptr gi 0 0),(1,Qf p),(2,Qf s),(3,Qf o),(4,Qf (n-a)),(10,.cB [Qf p,Qf s,Qf o]),(11,Qf n)],os++[.gone]⟩ hn ?_ (λkey=>?_);rotate_left
 ·refine pw [] (.take 0 (.take 1 (.take 2 (.take 3 (.take 4 (.take 5 (.take 6 (.take 7 (.take 8 .nil))))))))) rfl GS (by decide +kernel) ?_;simp(disch:=omega)only[Ac,↓Pc,simprocAttr,vT,vS,vR,vQ,uJ,q7,nU,mJ,mI,cj,↓Lq,fv,ev,fm,em,an,jt,A6,bH];repeat'(first|with_reducible refine c6 ?_ ?_|omega|with_reducible rfl)
  all_goals
   refine key _ ?_;exact Xv X0
 (try clear hn;try clear he)
 try(try clear Q)
 refine Xk ?_;refine vW ?_;intro Q hn he;refine ph ⟨ao [(0,.ptr gi 0 0),(1,Qf p),(2,Qf s),(3,Qf o),(4,Qf (n-a))],os.set mi (.mp 3 (mE (j9 (og p s o) n W.am)))++[.gone]⟩ hn ?_ (λkey=>?_);rotate_left
 ·refine pw [] (.take 0 (.take 1 (.take 2 (.take 3 (.take 4 (.take 5 (.take 6 .nil))))))) rfl GS (by decide +kernel) ?_;simp(disch:=omega)only[Ac,↓Pc,simprocAttr,vT,vS,vR,vQ,uJ,q7,nU,mJ,mI,cj,↓Lq,fv,ev,fm,em,an,jt,A6,bH,jZ,sm];repeat'(first|with_reducible refine c6 ?_ ?_|omega|with_reducible rfl)
  all_goals
   refine key _ ?_;exact Xv X0
 (try clear hn;try clear he)
 try(try clear Q)
 have tB:=hM.app [.gone];have fP:Kp mi D E os (os.set mi (.mp 3 (mE (j9 (og p s o) n W.am)))++[Ob.gone]):=((Kp.refl mi D E os).OT _).app _;have hWm:qD m W p s o amt=⟨W.own.set (aE m p s) ((W.own.getD (aE m p s) default).set o (oW W (aE m p s) o+(n-a))),W.ay.set p (kq m p s o (n-a) (cN m (aE m p (1-s))) (W.ay.getD p default)),j9 (og p s o) n W.am⟩:=by unfold qD;rw[Hh,Mt]
 rw[hWm];clear hM fv ev fm em sm jt jZ hWm;generalize os.set mi (.mp 3 (mE (j9 (og p s o) n W.am)))++[Ob.gone]=ly at *;have vz:=Ga hm tB hp;have jY:=Ga hm (tB.app [.gone,.gone,.gone,.gone]) hp;have e0:(cS m p).fst=((aE m p 0:Nat):Int):=by show _=((cS m p).fst.toNat:Int);omega
 have e1:(cS m p).snd=((aE m p 1:Nat):Int):=by show _=((cS m p).snd.toNat:Int);omega
 rw[e0,e1]at vz jY;refine Xk ?_;refine vW ?_;intro Q hn he;refine ph ⟨ao [(0,.ptr gi 0 0),(1,Qf p),(2,Qf s),(3,Qf o),(4,Qf (n-a)),(12,Qf (aE m p s:Nat)),(13,Qf (aE m p (1-s):Nat))],ly++[.gone,.gone,.gone,.gone,.gone,.gone,.gone,.gone]⟩ hn ?_ (λkey=>?_);rotate_left
 ·refine pw [] (.take 0 (.take 1 (.take 2 (.take 3 (.take 8 (.take 9 (.take 11 (.take 12 (.both 4 (.both 5 (.both 6 (.both 7 (.take 10 (.take 13 (.take 14 (.take 15 (.take 16 (.take 17 (.take 18 .nil))))))) 10 (.take 7 (.take 13 (.take 14 (.take 15 (.take 16 (.take 17 (.take 18 .nil)))))))) 10 (.take 6 (.take 7 (.take 13 (.take 14 (.take 15 (.take 16 (.take 17 (.take 18 .nil))))))))) 10 (.take 5 (.take 6 (.take 7 (.take 13 (.take 14 (.take 15 (.take 16 (.take 17 (.take 18 .nil)))))))))) 10 (.take 4 (.take 5 (.take 6 (.take 7 (.take 13 (.take 14 (.take 15 (.take 16 (.take 17 (.take 18 .nil))))))))))))))))))) rfl GS (by decide +kernel) ?_;simp(disch:=omega)only[Ac,↓Pc,simprocAttr,vT,vS,vR,vQ,uJ,q7,nU,mJ,mI,cj,↓Lq];repeat'(first|with_reducible refine c6 ?_ ?_|omega|with_reducible rfl)
  all_goals
   refine fZ vz GM ?_;rcases(show s=0\/s=1 by omega) with rfl|rfl;all_goals
    simp(disch:=omega)only[Ac,↓Pc,simprocAttr,vT,vS,vR,vQ,uJ,q7,nU,mJ,mI,cj,↓Lq,bE];repeat'(first|with_reducible refine c6 ?_ ?_|omega|with_reducible rfl)
   all_goals
    refine fZ jY GM ?_;simp(disch:=omega)only[Ac,↓Pc,simprocAttr,vT,vS,vR,vQ,uJ,q7,nU,mJ,mI,cj,↓Lq,bE];repeat'(first|with_reducible refine c6 ?_ ?_|omega|with_reducible rfl)
   all_goals
    refine key _ ?_;exact Xv X0
 (try clear hn;try clear he)
 try(try clear Q)
 have BS:=tB.app [.gone,.gone,.gone,.gone,.gone,.gone,.gone,.gone];have ed:Kp mi D E os (ly++[.gone,.gone,.gone,.gone,.gone,.gone,.gone,.gone]):=fP.app _;clear tB fP vz jY h;generalize ly++[Ob.gone,Ob.gone,Ob.gone,Ob.gone,Ob.gone,Ob.gone,Ob.gone,Ob.gone]=os2 at *;have bK:∀ s,s<=1->aE m p s<m.cls.length:=λs hs=>by
  rcases(show s=0\/s=1 by omega) with rfl|rfl
  ·exact q1
  ·exact q2
 have hc:=bK s jr;have ot:∀ k,k<cN m (aE m p (1-s))->km m p s o k<(cS m p).ay.length:=λk hk=>ab7 hm hp jr ho hk;have fY:=bK (1-s) GK;have hD:D.length=m.cls.length:=BS.rD.len.trans hs.ol;have hE:E.length=m.ae.length:=BS.rE.len.trans hs.tl;obtain⟨rl,ro⟩:=BS.rD.row (aE m p s) GK;dsimp only at rl ro;have nt:=hs.or _ hc;have ro:=ro GK;have eD:=BQ (q:=D.getD (aE m p s) default) GK;have fv:=BS.v;have fa:=BS.a;have bP:=hW.ob (aE m p s) o;have yQ:=BS.Bo (j:=aE m p s) GK GK (r:=(W.own.getD (aE m p s) default).set o (oW W (aE m p s) o+(n-a))) GM;have Gf:=ed.Bo (j:=aE m p s) GK (.arr 1 (ints ((W.own.getD (aE m p s) default).set o (oW W (aE m p s) o+(n-a)))));have BI:(W.own.getD (aE m p s) default).getD o 0=oW W (aE m p s) o:=rfl;have sD:=mR (y:=Ob.arr 1 (ints ((W.own.getD (aE m p s) default).set o (oW W (aE m p s) o+(n-a))))) ro;generalize apC:W.own.getD (aE m p s) default=row at *;generalize oW W (aE m p s) o=ow at *;generalize aE m p s=c at *;have JN:=yQ.v;repeat'(first|((fail_if_success (first|refine eM 6 ?_|refine eN 6 ?_));refine Xr (X5 @fv @fa @eD @ro (X2 @BI @JN)) ?_;intro K hK)|refine Xo (X5 @fv @fa @eD @ro (X2 @BI @JN)) ?_|(refine hK _ ?_;clear hK K)|(refine Xg (X5 @fv @fa @eD @ro (X2 @BI @JN)) ?_ ?_<;>try intro hb)|(refine Xi ?_ ?_<;>try intro ht)|refine Xy ?_|refine Xd ?_ ?_|exact Xx|fail)
 refine cL (σ':=⟨ao [(0,.ptr gi 0 0),(1,Qf p),(2,Qf s),(3,Qf o),(4,Qf (n-a)),(13,Qf (aE m p (1-s):Nat))],os2.set (D.getD c default).1 (.arr 1 (ints (row.set o (ow+(n-a)))))⟩) (Xv X0) ?_;clear BS ed fv fa sD ro rl JN;dsimp only at yQ;generalize os2.set (D.getD c default).1 (.arr 1 (ints (row.set o (ow+(n-a)))))=JO at *;generalize W.own.set c (row.set o (ow+(n-a)))=al' at *;have fR:m.ae.getD p default=cS m p:=rfl;have aP:(m.cls.getD (aE m p (1-s)) default).length=cN m (aE m p (1-s)):=rfl;have apD:cN m (aE m p (1-s))<=24:=hm.opt _ (aF fY);have lL:=λk=>OV (m:=m) (p:=p) (s:=s) (o:=o) (d:=n-a) hB.1 GK k (W.ay.getD p default) (λj=>hW.tb p j);have CU:=hs.tr p hp;have jZ:W.ay.set p (W.ay.getD p default)=W.ay:=zC W.ay p;have rq:=λk=>JM (m:=m) p s o (n-a) k (W.ay.getD p default);have Cs:∀ k,kq m p s o (n-a) (k+1) (W.ay.getD p default)=_:=λk=>kq.eq_2 ..;have yj:kq m p s o (n-a) 0 (W.ay.getD p default)=W.ay.getD p default:=rfl;have I3:o<24:=DW ho (BO hm c);generalize W.ay.getD p default=ay at *;generalize acm:cN m (aE m p (1-s))=sz at *;generalize cg:cS m p=pp at *;have fv:=yQ.v;((try revert hK K);(repeat'(first|refine Va (X3 @fv @aP @acm) ?_|(refine V2 (X3 @fv @aP @acm) ?_ ?_<;>try with_reducible intro hb)|(refine Xi ?_ ?_<;>try intro ht)|refine VD ?_ ?_|exact Xx|fail))<;>try with_reducible intro K hK)
 refine aR (λz:Nat×List Ob=>(⟨ao [(0,.ptr gi 0 0),(1,Qf p),(2,Qf s),(3,Qf o),(4,Qf (n-a)),(82,Qf sz),(83,Qf z.1)],z.2⟩:St))
  (λz=>z.1<=sz/\WF m can gi ai bi mi D E { own:=al',ay:=W.ay.set p (kq m p s o (n-a) z.1 ay),am:=j9 (og p s o) n W.am } z.2/\Kp mi D E os z.2)
  (λz=>sz-z.1) (0,JO) ⟨aS _,by dsimp only;rw[yj,jZ];exact yQ,Gf⟩ (Xv X0) ?_
 clear yQ Gf fv;rintro⟨k,ok⟩⟨hk,hM,bf⟩Ql ak aq;dsimp only at hk hM bf ⊢;have fv:=hM.v;have fb:=hM.b;by_cases bg:k<sz
 ·have hA:=ab8 hm hM hp (s:=s) I3 (show k<24 by omega);obtain⟨tl,tr⟩:=hM.rE.row p GK;have pY:p<W.ay.length:=by have:=hs.tl;omega
  have qM:(W.ay.set p (kq m p s o (n-a) k ay)).getD p default=kq m p s o (n-a) k ay:=uq _ _ _ pY;dsimp only at tl tr;rw[qM]at tl tr;have A9:=ot k bg;have gr:=rq k;have tr:=tr GK;have eE:=BQ (q:=E.getD p default) GK;have JP:=hM.zR (j:=p) GK GK (r:=(kq m p s o (n-a) k ay).set (km m p s o k) ((kq m p s o (n-a) k ay).getD (km m p s o k) 0-(n-a))) (by rw[qM,bJ]);have hK4:=bf.zR (j:=p) GK (.arr 1 (ints ((kq m p s o (n-a) k ay).set (km m p s o k) ((kq m p s o (n-a) k ay).getD (km m p s o k) 0-(n-a)))));have gq:=lL k (km m p s o k);have BT:=Cs k;dsimp only at JP;rw[List.set_set]at JP;have sE:=mR (y:=Ob.arr 1 (ints ((kq m p s o (n-a) k ay).set (km m p s o k) ((kq m p s o (n-a) k ay).getD (km m p s o k) 0-(n-a))))) tr;have fv4:=JP.v;generalize aco:kq m p s o (n-a) (k+1) ay=tk1 at *;generalize kq m p s o (n-a) k ay=tk at *;generalize pF:km m p s o k=av at *;generalize wP:pp.ay.getD av 0=pe at *;((try revert hK K);(repeat'(first|refine Va @fv ?_|(refine V2 @fv ?_ ?_<;>try with_reducible intro hb)|(refine Xi ?_ ?_<;>try intro ht)|refine VD ?_ ?_|exact Xx|fail))<;>try with_reducible intro K hK)
  refine fZ hA GM ?_;((try revert hK K);(repeat'(first|refine Va (X5 @fv @fb @eE @tr (X4 @fR @aI.eq_1 @wP @fv4)) ?_|(refine V2 (X5 @fv @fb @eE @tr (X4 @fR @aI.eq_1 @wP @fv4)) ?_ ?_<;>try with_reducible intro hb)|(refine Xi ?_ ?_<;>try intro ht)|refine VD ?_ ?_|exact Xx|fail))<;>try with_reducible intro K hK)
  ·rw[if_pos (by assumption)]at BT;exact ak _ (k+1,_) ⟨PW,by dsimp only;rw[aco,BT];exact JP,hK4⟩ PW (Xv X0)
  ·rw[if_neg (by simpa using ‹pe=_›)]at BT;exact ak _ (k+1,_) ⟨PW,by dsimp only;rw[aco,BT];exact hM,bf⟩ PW (Xv X0)
 ·obtain rfl:k=sz:=GK;((try revert hK K);(repeat'(first|refine Va X0 ?_|(refine V2 X0 ?_ ?_<;>try with_reducible intro hb)|(refine Xi ?_ ?_<;>try intro ht)|refine VD ?_ ?_|exact Xx|fail))<;>try with_reducible intro K hK)
  refine aq _ _ rfl ?_;clear ak aq Ql;repeat(first|refine Xu ?_)
  ((try revert hK K);(repeat'(first|refine Vb X0 ?_|(refine V2 X0 ?_ ?_<;>try with_reducible intro hb)|(refine Xi ?_ ?_<;>try intro ht)|refine VD ?_ ?_|exact Xx|fail))<;>try with_reducible intro K hK)
  unfold eU;simp only[dI,dE];exact⟨.bD [],_,⟨rfl,hM,bf⟩,eF rfl bf.len rfl⟩
end
end T

