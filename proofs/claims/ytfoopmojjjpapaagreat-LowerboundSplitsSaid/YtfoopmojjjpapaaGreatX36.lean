import Derived.Test.YtfoopmojjjpapaaGreatX35
import Derived.Test.YtfoopmojjjpapaaGreatX28
set_option linter.all false
set_option maxHeartbeats 0
set_option maxRecDepth 20000
open List renaming mem_append→cG,map_append→dU,nodup_append→pE,mem_map→bY,nodup_cons→nC,mem_cons→bu,mem_cons_self→yx,mem_cons_of_mem→dZ,map_map→vG,range→bn,range_succ→uc,getD_eq_getElem?_getD→ay,getElem?_map→bM,getElem?_range→lk,not_mem_nil→iI,Perm→rJ,perm_middle→zA,getElem?_eq_getElem→bx,length→nF,mem_append_right→zz,mem_append_left→EE,map_cons→ez,cons_append→dw,Sublist→CQ,append_assoc→bH,length_append→bN,getElem?_eq_none→dN,replicate→aK,set_set→sZ,length_set→bJ,mem_singleton→cS,map_set→qF,length_replicate→nx,take→jd,length_take→e9,take_length→xd,take_of_length_le→dt,nil_append→eJ
open Nat renaming lt_or_ge→dT,sub_self→jC,zero_le→aP
open And renaming intro→cD
open Go Go.Am Go.Proofs
namespace T
structure FX(B:List (Nat×Ob))(ob:List Ob):Prop where
 at_:∀ b∈B,ob[b.1]?=some b.2
 nd:(B.map (·.1)).Nodup
section
variable {B B' N:List (Nat×Ob)} {ob l:List Ob}
def FX.app(h:FX B ob)(l:List Ob):FX B (ob++l):=⟨λb hb=>aR (h.at_ b hb) l,h.nd⟩
def FX.perm(h:FX B ob)(hp:B.Perm B'):FX B' ob:=⟨λb hb=>h.at_ b (hp.mem_iff.2 hb),(hp.map _).nodup_iff.1 h.nd⟩
def FX.sub(h:FX B ob)(hs:B'.Sublist B):FX B' ob:=⟨λb hb=>h.at_ b (hs.subset hb),(hs.map _).nodup h.nd⟩
def FX.news(h:FX B ob)(hN:∀ p∈N,∃ j,p.1=ob.length+j/\l[j]?=some p.2)(hd:(N.map (·.1)).Nodup):FX (N++B) (ob++l):=by
 refine⟨λb hb=>?_,?_⟩
 ·rcases cG.1 hb with hb|hb
  ·obtain⟨j,e1,e2⟩:=hN b hb;rw[e1,lf];exact e2
  ·exact aR (h.at_ b hb) l
 ·rw[dU];refine pE.2 ⟨hd,h.nd,λa ha b hb e=>?_⟩;obtain⟨p,hp,rfl⟩:=bY.1 ha;obtain⟨q,hq,rfl⟩:=bY.1 hb;obtain⟨j,e1,_⟩:=hN p hp;have:=iS (h.at_ q hq);omega
def FX.put{i:Nat}{x:Ob}(h:FX ((i,x)::B) ob)(y:Ob):FX ((i,y)::B) (ob.set i y):=by
 have hn:=(nC.1 h.nd).1;refine⟨λb hb=>?_,h.nd⟩;rcases bu.1 hb with rfl|hb
 ·exact nr (h.at_ _ (yx ..))
 ·exact fW (h.at_ b (dZ _ hb)) (λe=>hn (bY.2 ⟨b,hb,e.symm⟩))
def FX.kill{i:Nat}{x:Ob}(h:FX ((i,x)::B) ob)(y:Ob):FX B (ob.set i y):=(h.put y).sub (List.sublist_cons_self _ _)
def FX.start(os:List Ob):FX (pA os) os:=by
 refine⟨λb hb=>AD.1 hb,?_⟩;unfold pA;rw[vG];have:(os.zipIdx.map ((λx:Nat×Ob=>x.1) ∘ λq:Ob×Nat=>(q.2,q.1)))=os.zipIdx.map Prod.snd:=rfl;rw[this,List.zipIdx_map_snd];exact List.nodup_range'
def FX.ne{a b:Nat×Ob}{P S:List (Nat×Ob)}(h:FX (P++a::S) ob)(hb:b∈S):a.1≠b.1:=λe=>by
 have hn:=h.nd;rw[dU]at hn;have:=(pE.1 hn).2.1;exact(nC.1 this).1 (bY.2 ⟨b,hb,e.symm⟩)
end
def qy(q:Nat×Nat):AV:=if q.2=0 then .tree 1 [] else .ref q.1 1 0 q.2
def am0(q:Nat×Nat):eh q=[qy q]:=by unfold eh qy;rfl
def am1(q:Nat×Nat):dh (qy q)=true:=by unfold qy;split<;>rfl
def mR(q:Nat×List Int):Nat×Ob:=(q.1,if q.2=[] then .gone else .arr 1 (ints q.2))
def dQ(Q:List (Nat×List Int)):List (Nat×Nat):=Q.map λq=>(q.1,q.2.length)
def Pz(Q:List (Nat×List Int))(q:Nat×List Int):rowsOf eh (dQ Q)++[[qy (q.1,q.2.length)]]=rowsOf eh (dQ (Q++[q])):=by
 unfold rowsOf dQ;rw[dU,dU];simp[am0]
def im(l:List cP)(r:List Bool):List Bool:=(bn l.length).map λi=>r.getD i false&&decide (sJ (l.getD i default)<1099511627776)
def er(m:ah)(left:List (List Bool))(n:Nat):List (List Bool):=(bn n).map λc=>im (m.cls.getD c default) (left.getD c default)
def W0(m:ah):WS:=⟨m.cls.map cj,m.ae.map (·.aB),[]⟩
def am2(m:ah)(left:List (List Bool))(n:Nat):er m left (n+1)=er m left n++[im (m.cls.getD n default) (left.getD n default)]:=by
 unfold er;rw[uc,dU];rfl
def amp(m:ah)(left:List (List Bool)):cK m (er m left m.cls.length):=by
 refine⟨by simp[er],λi hi=>?_⟩;have au:i<m.cls.length:=by simpa [er] using hi
 unfold er;rw[ay,bM,lk au];simp[im]
def gW(m:ah)(mi ci oi ti c e:Nat):Ob:=.var (ao m++[.ref ci 1 0 c,.ref oi 1 0 c,.ref ti 1 0 e,.dD mi])
def BW(m:ah)(left:List (List Bool))(os:List Ob)(c:Nat)(Q:List (Nat×List Int))(ci oi:Nat):List (Nat×Ob) :=
 (os.length+2,gW m (os.length+1) ci oi (os.length+5) c 0)::(ci,.arr 1 (rowsOf aA (er m left c)))::(oi,.arr 1 (rowsOf eh (dQ Q)))::(os.length+5,.arr 1 [])::(os.length,.var (ao m))::(os.length+1,.mp 3 [])::(Q.map mR++pA os)
def BW0(m:ah)(left:List (List Bool))(os:List Ob):FX (BW m left os 0 [] (os.length+3) (os.length+4)) (os++[.var (ao m),.mp 3 [],gW m (os.length+1) (os.length+3) (os.length+4) (os.length+5) 0 0,.arr 1 [],.arr 1 [],.arr 1 []]):=by
 have h:=(FX.start os).news (N:=[(os.length+2,gW m (os.length+1) (os.length+3) (os.length+4) (os.length+5) 0 0),(os.length+3,.arr 1 []),(os.length+4,.arr 1 []),(os.length+5,.arr 1 []),(os.length,.var (ao m)),(os.length+1,.mp 3 [])])
  (l:=[.var (ao m),.mp 3 [],gW m (os.length+1) (os.length+3) (os.length+4) (os.length+5) 0 0,.arr 1 [],.arr 1 [],.arr 1 []]) (λp hp=>by
   simp only[bu,iI,or_false]at hp;rcases hp with rfl|rfl|rfl|rfl|rfl|rfl
   ·exact⟨2,rfl,rfl⟩
   ·exact⟨3,rfl,rfl⟩
   ·exact⟨4,rfl,rfl⟩
   ·exact⟨5,rfl,rfl⟩
   ·exact⟨0,rfl,rfl⟩
   ·exact⟨1,rfl,rfl⟩) G9
 exact h
def am4{α:Type}(a b c d:α)(R:List α):(a::b::c::d::R).Perm (c::d::b::a::R) :=
 ((List.perm_append_comm (l₁:=[a,b]) (l₂:=[c,d])).trans (rJ.append_left [c,d] (rJ.swap b a []))).append_right R
def am5{α:Type}(ca ow g rb t n n1:α)(R S:List α):(ca::ow::g::rb::t::n::n1::(R++S)).Perm (g::ca::ow::t::n::n1::(R++rb::S)) :=
 (zA (l₁:=[ca,ow])).trans (rJ.append_left [g,ca,ow] (zA (l₁:=t::n::n1::R) (l₂:=S)).symm)
def BR(m:ah)(left:List (List Bool))(os:List Ob)(Q:List (Nat×List Int))(ci oi:Nat):List (Nat×Ob) :=
 (ci,.arr 1 (rowsOf aA (er m left m.cls.length)))::(oi,.arr 1 (rowsOf eh (dQ Q)))::(os.length,.var (ao m))::(os.length+1,.mp 3 [])::(Q.map mR++pA os)
def B2(m:ah)(left:List (List Bool))(os:List Ob)(Q:List (Nat×List Int))(ci oi ti e:Nat)(QE:List (Nat×List Int)):List (Nat×Ob) :=
 (os.length+2,gW m (os.length+1) ci oi ti m.cls.length e)::(ti,.arr 1 (rowsOf eh (dQ QE)))::(QE.map mR++BR m left os Q ci oi)
def am6{α:Type}(g ca ow t n n1:α)(S:List α):(g::ca::ow::t::n::n1::S).Perm (g::t::ca::ow::n::n1::S) :=
 rJ.append_left [g] (zA (l₁:=[ca,ow]) (l₂:=n::n1::S))
def am7{α:Type}(tn rb g:α)(R S:List α):(tn::rb::g::(R++S)).Perm (g::tn::(R++rb::S)) :=
 (zA (l₁:=[tn,rb]) (l₂:=R++S)).trans (rJ.append_left [g] ((zA (l₁:=tn::R) (l₂:=S)).symm.trans (rJ.refl _) |> λh=>(rJ.swap rb tn (R++S)).trans h))
def am8{α:Type}(tn g rb:α)(R S:List α):(tn::g::rb::(R++S)).Perm (g::tn::(R++rb::S)) :=
 (rJ.swap g tn _).trans (rJ.append_left [g,tn] (zA (l₁:=R) (l₂:=S)).symm)
def am9{Q:List (Nat×List Int)}{j:Nat}(h:j<Q.length):(dQ Q).getD j default=((Q.getD j default).1,(Q.getD j default).2.length):=by
 unfold dQ;rw[ay,bM,ay,bx h];rfl
def adS{Q:List (Nat×List Int)}{S:List (List Int)}{ob:List Ob}(hQ:Q.map (·.2)=S)(h:∀ q∈Q.map mR,ob[q.1]?=some q.2):R1 ob (dQ Q) S:=by
 subst hQ;refine⟨by simp[dQ],λj hj=>?_⟩;have fI:j<Q.length:=by simpa [dQ] using hj
 rw[am9 fI,PA fI];refine⟨rfl,λh0=>?_⟩;have h1:=h _ (List.mem_map_of_mem (aF (l:=Q) (i:=j) (d:=default) fI));unfold mR at h1;dsimp only at h1 h0;rw[if_neg (λe=>by rw[e]at h0;exact absurd h0 Hg)]at h1;exact h1
def am'{m:ah}{left:List (List Bool)}{os ob:List Ob}{Q QE:List (Nat×List Int)}{ci oi ti:Nat}(hQ:Q.map (·.2)=m.cls.map cj)(AE:QE.map (·.2)=m.ae.map (·.aB))(hF:FX (B2 m left os Q ci oi ti m.ae.length QE) ob):
  WF m (er m left m.cls.length) (os.length+2) oi ti (os.length+1) (dQ Q) (dQ QE) (W0 m) ((ob.set ci .gone).set (os.length+2) (.var (ao m++[.tree 1 (rowsOf aA (er m left m.cls.length)),.ref oi 1 0 m.cls.length,.ref ti 1 0 m.ae.length,.dD (os.length+1)]))) /\
  (∀ (i:Nat) o,os[i]?=some o->((ob.set ci .gone).set (os.length+2) (.var (ao m++[.tree 1 (rowsOf aA (er m left m.cls.length)),.ref oi 1 0 m.cls.length,.ref ti 1 0 m.ae.length,.dD (os.length+1)])))[i]?=some o)/\∀ i∈(dQ Q++dQ QE).map (·.1),os.length<=i:=by
 have hlQ:(dQ Q).length=m.cls.length:=by have:=congrArg nF hQ;simp[dQ]at this ⊢;exact this
 have hlE:(dQ QE).length=m.ae.length:=by have:=congrArg nF AE;simp[dQ]at this ⊢;exact this
 have h1:=hF.perm ((zA (l₁:=(os.length+2,gW m (os.length+1) ci oi ti m.cls.length m.ae.length)::(ti,.arr 1 (rowsOf eh (dQ QE)))::QE.map mR) (l₂:=(oi,.arr 1 (rowsOf eh (dQ Q)))::(os.length,.var (ao m))::(os.length+1,.mp 3 [])::(Q.map mR++pA os))):(B2 m left os Q ci oi ti m.ae.length QE).Perm _);have h2:=((h1.put .gone).perm (rJ.swap _ _ _)).put (.var (ao m++[.tree 1 (rowsOf aA (er m left m.cls.length)),.ref oi 1 0 m.cls.length,.ref ti 1 0 m.ae.length,.dD (os.length+1)]));generalize bS:(ob.set ci .gone).set (os.length+2) (.var (ao m++[.tree 1 (rowsOf aA (er m left m.cls.length)),.ref oi 1 0 m.cls.length,.ref ti 1 0 m.ae.length,.dD (os.length+1)]))=ob' at *;have oI:=h2.at_;have hrQ:∀ q∈Q.map mR,ob'[q.1]?=some q.2:=λq hq=>oI q (dZ _ (dZ _ (dZ _ (zz _ (dZ _ (dZ _ (dZ _ (EE _ hq))))))));have hrE:∀ q∈QE.map mR,ob'[q.1]?=some q.2:=λq hq=>oI q (dZ _ (dZ _ (dZ _ (EE _ hq))));have fQ:(dQ Q).map (·.1)=(Q.map mR).map (·.1):=by unfold dQ;rw[vG,vG];rfl
 have fE:(dQ QE).map (·.1)=(QE.map mR).map (·.1):=by unfold dQ;rw[vG,vG];rfl
 have hn:((os.length+2)::ci::ti::((dQ QE).map (·.1)++(oi::os.length::(os.length+1)::((dQ Q).map (·.1)++(pA os).map (·.1))))).Nodup:=by
  have h4:=h2.nd;rw[fQ,fE];simp only[ez,List.append_eq,dw,dU]at h4;exact h4
 have iy:∀ i,i∈(dQ Q).map (·.1)\/i∈(dQ QE).map (·.1)->os.length<=i:=λi hi=>by
  rcases dT i os.length with aX|iy
  ·exfalso;have hm:i∈(pA os).map (·.1):=bY.2 ⟨(i,os[i]),AD.2 (bx aX),rfl⟩;have n3:=(nC.1 (nC.1 (nC.1 hn).2).2).2;obtain⟨_,n4,n5⟩:=pE.1 n3;rcases hi with hi|hi
   ·have n6:=(nC.1 (nC.1 (nC.1 n4).2).2).2;exact(pE.1 n6).2.2 i hi i hm rfl
   ·exact n5 i hi i (dZ _ (dZ _ (dZ _ (zz _ hm)))) rfl
  ·exact iy
 refine⟨⟨?_,?_,?_,?_,adS hQ hrQ,adS AE hrE,?_,λi hi=>?_⟩,λi o hi=>?_,λi hi=>?_⟩
 ·rw[hlQ,hlE];exact oI _ (yx ..)
 ·exact oI (oi,.arr 1 (rowsOf eh (dQ Q))) (dZ _ (dZ _ (dZ _ (zz _ (yx ..)))))
 ·exact oI (ti,.arr 1 (rowsOf eh (dQ QE))) (dZ _ (dZ _ (yx ..)))
 ·exact oI (os.length+1,.mp 3 []) (dZ _ (dZ _ (dZ _ (zz _ (dZ _ (dZ _ (yx ..)))))))
 ·rw[dU];generalize (dQ Q).map (·.1)=a at *;generalize (dQ QE).map (·.1)=b at *;have hs:((os.length+2)::ti::(b++(oi::(os.length+1)::a))).Sublist ((os.length+2)::ci::ti::(b++oi::os.length::(os.length+1)::(a++List.map (·.1) (pA os)))):=by
   refine CQ.cons_cons _ (CQ.cons _ (CQ.cons_cons _ (CQ.append (CQ.refl _) (CQ.cons_cons _ (CQ.cons _ (CQ.cons_cons _ (List.sublist_append_left _ _)))))))
  have h3:=hs.nodup hn;refine(rJ.nodup_iff ?_).1 h3;exact rJ.append_left [os.length+2] ((rJ.append_left [ti] (List.perm_append_comm (l₁:=b) (l₂:=oi::(os.length+1)::a))).trans (rJ.swap oi ti _))
 ·rw[dU,fQ,fE]at hi;rcases cG.1 hi with hi|hi
  ·obtain⟨q,hq,rfl⟩:=bY.1 hi;exact iS (hrQ q hq)
  ·obtain⟨q,hq,rfl⟩:=bY.1 hi;exact iS (hrE q hq)
 ·exact oI (i,o) (dZ _ (dZ _ (dZ _ (zz _ (dZ _ (dZ _ (dZ _ (zz _ (AD.2 hi)))))))))
 ·rw[dU]at hi;exact iy i (cG.1 hi)
def ane{n0:Nat}(m:ah)(os:List Ob)(A M:Ob)(mi:Nat)(e:Nat->AV):aD n0 ⟨e,os++[A,M,.var (ao m++[.lit (.slice none 0 0),.lit (.slice none 0 0),.lit (.slice none 0 0),.dD mi])]⟩
  ⟨e,os++[A,M,gW m mi (os.length+3) (os.length+4) (os.length+5) 0 0,.arr 1 [],.arr 1 [],.arr 1 []]⟩:=by
 have key:∀ (l l2:List Ob) (c k:Nat) (cells:List AV),l[2]?=some (.var cells)->cells[c]?=some (.lit (.slice none 0 0))->l.length=k->l2=(l++[Ob.arr 1 []]).set 2 (.var (cells.set c (.ref (os.length+k) 1 0 0)))->aD n0 ⟨e,os++l⟩ ⟨e,os++l2⟩:=by
  intro l l2 c k cells h1 h2 h3 h4;have h:=aD.pT (n0:=n0) (σ:=⟨e,os++l⟩) (os.length+2) c 1 (cells:=cells) (by dsimp only;rw[lf];exact h1) h2 Hg;dsimp only at h;rw[bH,FL,bN,h3]at h;rw[h4];exact h
 refine(key _ [A,M,.var (ao m++[.ref (os.length+3) 1 0 0,.lit (.slice none 0 0),.lit (.slice none 0 0),.dD mi]),.arr 1 []] 4 3 _ rfl rfl rfl rfl).trans ?_;refine(key _ [A,M,.var (ao m++[.ref (os.length+3) 1 0 0,.ref (os.length+4) 1 0 0,.lit (.slice none 0 0),.dD mi]),.arr 1 [],.arr 1 []] 5 4 _ rfl rfl rfl rfl).trans ?_;exact key _ _ 6 5 _ rfl rfl rfl rfl
def Ax(m:ah)(left:List (List Bool))(rounds:Int):Int:=if kj m left≠0 then kj m left else if rounds<0\/64<rounds then 3 else 0
def GC(m:ah)(left:List (List Bool)):cp m left []=if kj m left≠0 then(0,kj m left) else(mL m left (S0 m,T0 m),0):=by
 unfold cp gZ;split
 ·rfl
 ·rw[if_neg G9,if_neg G9];rfl
def anf(m:ah)(left:List (List Bool)):WS:=rq m (er m left m.cls.length) (W0 m) 0
structure MvP(m:ah)(left:List (List Bool))(rounds:Int)(X:List Mv):Prop where
 ok:(cp m left X).2=0
 ge:(cp m left []).1<=(cp m left X).1
 fir:1<=rounds->(cp m left []).1≠1099511627776->∃ Y:List Mv,Y.Perm (kJ (anf m left).am)/\((cp m left Y).2=0->(cp m left Y).1<=(cp m left X).1)
def amq{m:ah}:nV m (W0 m):=by
 refine⟨by simp[W0],by simp[W0],λi hi=>?_,λj hj=>?_,λq hq=>by cases hq⟩
 ·unfold W0;dsimp only;rw[kD _ _ _ hi];simp[cj,cU]
 ·unfold W0;dsimp only;rw[kD _ _ _ hj];rfl
def amr{m:ah}(hm:VM m):WB 1099511627776 (W0 m):=by
 have key:∀ (l:List (List Int)),(∀ r∈l,∀ x∈r,-1099511627776<=x/\x<=1099511627776)->∀ a b,-1099511627776<=(l.getD a default).getD b 0/\(l.getD a default).getD b 0<=1099511627776:=λl hl a b=>by
  rcases dT a l.length with h1|h1
  ·have h2:=hl _ (aF (l:=l) (i:=a) (d:=default) h1);rcases dT b (l.getD a default).length with h3|h3
   ·exact h2 _ (aF h3)
   ·rw[ay,dN h3];decide
  ·have e:l.getD a default=default:=by rw[ay,dN h1];rfl
   rw[e];show -1099511627776<=(0:Int)/\(0:Int)<=1099511627776;decide
 refine⟨λc o=>?_,λp j=>?_,λk=>by show -268435456<=(0:Int)/\(0:Int)<=268435456;decide,by show 12884901888*((0:Nat):Int)<=1099511627776;decide⟩
 ·refine key (m.cls.map cj) (λr hr x hx=>?_) c o;obtain⟨l,hl,rfl⟩:=bY.1 hr;obtain⟨o,ho,rfl⟩:=bY.1 hx;have:=FJ (hm.tA l hl o ho);unfold bX at this;omega
 ·refine key (m.ae.map (·.aB)) (λr hr x hx=>?_) p j;obtain⟨q,hq,rfl⟩:=bY.1 hr;have:=IY (kC hm.pr q hq) x hx;unfold bX at this;omega
section
variable {m:ah} {can:List (List Bool)} {gi ai bi mi:Nat} {D E:List (Nat×Nat)} {W:WS} {os:List Ob}
def nX(n:Nat):List Int:=(bn n).map λ(i:Nat)=>(i:Int)
def ang(N k:Nat)(hk:k<N):(nX k++aK (N-k) 0).set k (k:Int)=nX (k+1)++aK (N-(k+1)) 0:=by
 have h1:(nX k).length=k:=by simp[nX]
 rw[List.set_append,if_neg Ey,h1,jC,show N-k=(N-(k+1))+1 by omega,List.replicate_succ,List.set_cons_zero];show _=nX (k+1)++_;unfold nX;rw[uc,dU,bH];rfl
def amv(hm:VM m)(hf:cK m can)(h:WF m can gi ai bi mi D E W os)(hs:nV m W){B:Int}(hB:0<=B/\B<=288230376151711744)(hW:WB B W){round:Nat}(UX:round<=64):
  dv Tryz.prog 39 [.ptr gi 0 0,QM round] os λr ob=>r=.bC []/\WF m can gi ai bi mi D E (rq m can W round) ob/\Kp mi D E os ob/\nV m (rq m can W round)/\WB (B+14843406974976) (rq m can W round):=by
 have p6:=hm.ae;have sL:=hm.cls;have fv:=h.v;have fvl:=aR fv;have e0:∀ N:Nat,aK N (0:Int)=nX 0++aK (N-0) 0:=λN=>by simp[nX]
 refine dv.aM 141 os.length [] Tryz.func39 ?_;((try revert hK K);(repeat'(first|refine Va (X5 @fv @fvl @ao.eq_1 @bT @bH.{0}) ?_|(refine V2 (X5 @fv @fvl @ao.eq_1 @bT @bH.{0}) ?_ ?_<;>try with_reducible intro hb)|(refine Xi ?_ ?_<;>try intro ht)|refine VD ?_ ?_|exact Xx|fail))<;>try with_reducible intro K hK)
 have hN:m.cls.length<9223372036854775808:=Ey;generalize PD:m.cls.length=N at *;refine bP (σ':=⟨ar [(1,QM round),(2,.ptr os.length 0 0),(4,QM m.ae.length),(5,.ref (os.length+1) 1 0 N),(32,QM N),(33,QM 0)],os++[.var [.ptr gi 0 0],.arr 1 (ints (nX 0++aK (N-0) 0))]⟩) (by rw[<- e0];exact Xv X0) ?_;clear e0;refine aQ (λk:Nat=>(⟨ar [(1,QM round),(2,.ptr os.length 0 0),(4,QM m.ae.length),(5,.ref (os.length+1) 1 0 N),(32,QM N),(33,QM k)],os++[.var [.ptr gi 0 0],.arr 1 (ints (nX k++aK (N-k) 0))]⟩:St))
  (λk=>k<=N) (λk=>N-k) 0 (aP _) (Xv X0) ?_
 rintro k hk Ql ak aq;have cV:(nX k++aK (N-k) 0).length=N:=by simp[nX];omega
 by_cases bj:k<N
 ·have xr:=ang N k bj;((try revert hK K);(repeat'(first|refine Va (X3 @bT @cV @xr) ?_|(refine V2 (X3 @bT @cV @xr) ?_ ?_<;>try with_reducible intro hb)|(refine Xi ?_ ?_<;>try intro ht)|refine VD ?_ ?_|exact Xx|fail))<;>try with_reducible intro K hK)
  exact ak _ (k+1) Ey Ey (Xv X0)
 ·obtain rfl:k=N:=Ey;((try revert hK K);(repeat'(first|refine Va X0 ?_|(refine V2 X0 ?_ ?_<;>try with_reducible intro hb)|(refine Xi ?_ ?_<;>try intro ht)|refine VD ?_ ?_|exact Xx|fail))<;>try with_reducible intro K hK)
  refine aq _ _ rfl ?_;clear ak aq Ql;repeat(first|refine Xu ?_)
  rw[jC,List.replicate_zero,List.append_nil]at cV ⊢;((try revert hK K);(repeat'(first|refine Va (X3 @bT @bH.{0} @cV) ?_|(refine V2 (X3 @bT @bH.{0} @cV) ?_ ?_<;>try with_reducible intro hb)|(refine Xi ?_ ?_<;>try intro ht)|refine VD ?_ ?_|exact Xx|fail))<;>try with_reducible intro K hK)
  have GM:∀ p∈((os.length,Ob.var [.ptr gi 0 0])::(os.length+3,.var [.ref (os.length+2) 1 0 k])::pA os),p.1≠os.length+1:=λp hp=>by
   rcases bu.1 hp with rfl|hp
   ·dsimp only;omega
   rcases bu.1 hp with rfl|hp
   ·dsimp only;omega
   ·have:=iS (AD.1 hp);omega
  have hLR:LR ((os.length+1,Ob.arr 1 (ints (nX k)))::(os.length,Ob.var [.ptr gi 0 0])::(os.length+3,.var [.ref (os.length+2) 1 0 k])::pA os) (os.length+2) (aK k (0,[])) (os++[.var [.ptr gi 0 0],.arr 1 (ints (nX k)),.arr 1 (aK k [.lit (.slice none 0 0)]),.var [.ref (os.length+2) 1 0 k]]):=by
   have h1:=LR.start (F:=(os.length+1,Ob.arr 1 (ints (nX k)))::(os.length,Ob.var [.ptr gi 0 0])::pA os) (ob:=os++[.var [.ptr gi 0 0],.arr 1 (ints (nX k))]) (N:=k) (λp hp=>by
    rcases bu.1 hp with rfl|hp
    ·rw[lf];rfl
    rcases bu.1 hp with rfl|hp
    ·exact kF _ _ _
    ·exact aR (AD.1 hp) _)
   have h2:=LR.more h1 (l:=[Ob.var [.ref (os.length+2) 1 0 k]]) (F':=(os.length+1,Ob.arr 1 (ints (nX k)))::(os.length,Ob.var [.ptr gi 0 0])::(os.length+3,.var [.ref (os.length+2) 1 0 k])::pA os) (λp hp=>by
    rcases bu.1 hp with rfl|hp
    ·exact .inl G9
    rcases bu.1 hp with rfl|hp
    ·exact .inl G9
    rcases bu.1 hp with rfl|hp
    ·exact .inr ⟨0,G9,rfl⟩
    ·exact .inl (by simp[hp]))
   simpa [bH] using h2
  have qU:lL m round 0=(nX k,aK k []):=by rw[lL,PD];rfl
  have zP:(aK k ((0:Nat),([]:List Int))).map (·.2)=aK k []:=by rw[List.map_replicate]
  refine aQ (λz:Nat×List (Nat×List Int)×List Ob=>(⟨ar [(1,QM round),(2,.ptr os.length 0 0),(4,QM m.ae.length),(5,.ref (os.length+1) 1 0 k),(7,.ptr (os.length+3) 0 0),(44,QM m.ae.length),(45,QM z.1)],z.2.2⟩:St))
   (λz=>z.1<=m.ae.length/\LR ((os.length+1,Ob.arr 1 (ints (lL m round z.1).1))::(os.length,Ob.var [.ptr gi 0 0])::(os.length+3,.var [.ref (os.length+2) 1 0 k])::pA os) (os.length+2) z.2.1 z.2.2/\z.2.1.map (·.2)=(lL m round z.1).2/\os.length+4<=z.2.2.length)
   (λz=>m.ae.length-z.1) (0,aK k (0,[]),os++[.var [.ptr gi 0 0],.arr 1 (ints (nX k)),.arr 1 (aK k [.lit (.slice none 0 0)]),.var [.ref (os.length+2) 1 0 k]]) ⟨aP _,by dsimp only;rw[qU];exact hLR,by dsimp only;rw[qU];exact zP,G9⟩ (Xv X0) ?_
  clear hLR zP qU cV hk bj ht;rintro⟨j,Q,ob⟩⟨hj,hL,hQ,bS⟩Ql ak aq;dsimp only at hj hL hQ bS ⊢;by_cases fI:j<m.ae.length
  ·have hp:(j+round)%m.ae.length<m.ae.length:=Nat.mod_lt _ Ey;have hJ:((j:Int)+(round:Int)).tmod (m.ae.length:Int)=(((j+round)%m.ae.length:Nat):Int):=by rw[Int.tmod_eq_emod_of_nonneg Ey];push_cast;rfl
   obtain⟨dY,q1,q2,q3,q4,q5⟩:=AF hm hp;obtain⟨hl1,tg⟩:=J6 (m:=m) round j;have hvs:lL m round (j+1)=Ec m (lL m round j) ((j+round)%m.ae.length):=rfl;have fA:=hL.fx (os.length,Ob.var [.ptr gi 0 0]) G9;have fT:=hL.fx (os.length+1,Ob.arr 1 (ints (lL m round j).1)) G9;have fB:=hL.fx (os.length+3,Ob.var [.ref (os.length+2) 1 0 k]) G9;have J7:∀ i o,os[i]?=some o->ob[i]?=some o:=λi o hi=>hL.fx (i,o) (dZ _ (dZ _ (dZ _ (AD.2 hi))));have fg:=J7 _ _ fv;dsimp only at fA fT fB;generalize (j+round)%m.ae.length=p at *;generalize dF:lL m round j=st at *;have gj:m.ae.getD p default=c7 m p:=rfl;have e1:(c7 m p).fst=((aG m p 0:Nat):Int):=by show _=((c7 m p).fst.toNat:Int);omega
   have e2:(c7 m p).snd=((aG m p 1:Nat):Int):=by show _=((c7 m p).snd.toNat:Int);omega
   have ha:aG m p 0<k:=by have:(c7 m p).fst.toNat=aG m p 0:=rfl;omega
   have hb:aG m p 1<k:=by have:(c7 m p).snd.toNat=aG m p 1:=rfl;omega
   repeat'(first|((fail_if_success (first|refine dW 14 ?_|refine dX 14 ?_));refine Xr (X5 @fA @fT @fg @ao.eq_1 (X5 @aI.eq_1 @hJ @gj @e1 @e2)) ?_;intro K hK)|refine Xo (X5 @fA @fT @fg @ao.eq_1 (X5 @aI.eq_1 @hJ @gj @e1 @e2)) ?_|(refine hK _ ?_;clear hK K)|(refine Xg (X5 @fA @fT @fg @ao.eq_1 (X5 @aI.eq_1 @hJ @gj @e1 @e2)) ?_ ?_<;>try intro hb)|(refine Xi ?_ ?_<;>try intro ht)|refine Xy ?_|refine Xd ?_ ?_|exact Xx|fail)
   have jh:lL m round (j+1)=if st.1.getD (aG m p 0) 0=st.1.getD (aG m p 1) 0 then st else(nY st.1 (aG m p 0) (st.1.getD (aG m p 1) 0) st.1.length,(st.2.set (aG m p 0) (st.2.getD (aG m p 0) default++[(p:Int)])).set (aG m p 1) (st.2.getD (aG m p 1) default++[(p:Int)])):=hvs;generalize aG m p 1=b at *;generalize aG m p 0=a at *;have zn:st.1.length=k:=Ey;by_cases gN:st.1.getD a 0=st.1.getD b 0
   ·rw[if_pos gN]at jh;((try revert hK K);(repeat'(first|refine Va (X3 @fT @zn @gN) ?_|(refine V2 (X3 @fT @zn @gN) ?_ ?_<;>try with_reducible intro hb)|(refine Xi ?_ ?_<;>try intro ht)|refine VD ?_ ?_|exact Xx|fail))<;>try with_reducible intro K hK)
    all_goals try(exfalso;omega)
    exact ak _ (j+1,Q,ob) ⟨Hi,by dsimp only;rw[jh];exact hL,by dsimp only;rw[jh];exact hQ,bS⟩ Hi (Xv X0)
   ·rw[if_neg gN]at jh;((try revert hK K);(repeat'(first|refine Va (X2 @fT @zn) ?_|(refine V2 (X2 @fT @zn) ?_ ?_<;>try with_reducible intro hb)|(refine Xi ?_ ?_<;>try intro ht)|refine VD ?_ ?_|exact Xx|fail))<;>try with_reducible intro K hK)
    all_goals try(exfalso;omega)
    have sT:=λy:Ob=>nr (y:=y) fT;have bk:=J8 st.1 a (st.1.getD b 0) gN;have nm:=J9 st.1 a (st.1.getD b 0);have ht0:nY st.1 a (st.1.getD b 0) 0=st.1:=rfl;have eu:∀ i,nY st.1 a (st.1.getD b 0) (i+1)=_:=λi=>nY.eq_2 ..;have nt:=λy=>hL.head GM (y:=y);refine aQ (λi:Nat=>(⟨ar [(1,QM round),(2,.ptr os.length 0 0),(4,QM m.ae.length),(5,.ref (os.length+1) 1 0 k),(7,.ptr (os.length+3) 0 0),(9,QM p),(10,QM a),(11,QM b),(12,QM (st.1.getD b 0)),(44,QM m.ae.length),(45,QM j),(84,.ref (os.length+1) 1 0 k),(85,QM k),(86,QM i)],ob.set (os.length+1) (.arr 1 (ints (nY st.1 a (st.1.getD b 0) i)))⟩:St))
     (λi=>i<=k) (λi=>k-i) 0 (aP _) ?_ ?_
    ·rw[ht0,ani fT];exact Xv X0
    rintro i hi cR bg bm;have fR:=bk i;have mC:=nm i;by_cases au:i<k
    ·have J':=eu i;generalize hu1:nY st.1 a (st.1.getD b 0) (i+1)=u1 at *;generalize nY st.1 a (st.1.getD b 0) i=u at *;generalize st.1.getD b 0=eK at *;by_cases jA:u.getD i 0=eK
     ·rw[if_pos jA]at J';((try revert hK K);(repeat'(first|refine Va (X5 @sT @mC @zn @jA @sZ.{0}) ?_|(refine V2 (X5 @sT @mC @zn @jA @sZ.{0}) ?_ ?_<;>try with_reducible intro hb)|(refine Xi ?_ ?_<;>try intro ht)|refine VD ?_ ?_|exact Xx|fail))<;>try with_reducible intro K hK)
      all_goals try(exfalso;omega)
      exact bg _ (i+1) Ey Ey (by rw[hu1,J'];exact Xv X0)
     ·rw[if_neg jA]at J';((try revert hK K);(repeat'(first|refine Va (X4 @sT @mC @zn @sZ.{0}) ?_|(refine V2 (X4 @sT @mC @zn @sZ.{0}) ?_ ?_<;>try with_reducible intro hb)|(refine Xi ?_ ?_<;>try intro ht)|refine VD ?_ ?_|exact Xx|fail))<;>try with_reducible intro K hK)
      all_goals try(exfalso;omega)
      exact bg _ (i+1) Ey Ey (by rw[hu1,J'];exact Xv X0)
    ·obtain rfl:i=k:=Ey;((try revert hK K);(repeat'(first|refine Va X0 ?_|(refine V2 X0 ?_ ?_<;>try with_reducible intro hb)|(refine Xi ?_ ?_<;>try intro ht)|refine VD ?_ ?_|exact Xx|fail))<;>try with_reducible intro K hK)
     refine bm _ _ rfl ?_;clear bg bm cR;repeat(first|refine Xu ?_)
     have ns:=nt (.arr 1 (ints (nY st.1 a (st.1.getD b 0) i)));clear nt sT eu ht0 bk;rw[zn]at jh;generalize nY st.1 a (st.1.getD b 0) i=tt at *;generalize anj:ob.set (os.length+1) (.arr 1 (ints tt))=kG at *;have aqT:os.length+4<=kG.length:=by rw[<- anj,bJ];exact bS
     have PE:Q.length=i:=by have:=congrArg nF hQ;simp at this;omega
     refine Ir (λs=>∃ Q2 o2,LR ((os.length+1,Ob.arr 1 (ints tt))::(os.length,Ob.var [.ptr gi 0 0])::(os.length+3,.var [.ref (os.length+2) 1 0 i])::pA os) (os.length+2) Q2 o2/\Q2.map (·.2)=(lL m round (j+1)).2/\os.length+4<=o2.length /\
      aD os.length s ⟨ar [(1,QM round),(2,.ptr os.length 0 0),(4,QM m.ae.length),(5,.ref (os.length+1) 1 0 i),(7,.ptr (os.length+3) 0 0),(44,QM m.ae.length),(45,QM j)],o2⟩) ?_ ?_
     ·rintro s ⟨Q2,o2,h1,h2,h3,h4⟩;repeat(first|refine Xu ?_)
      refine bP h4 ?_;((try revert hK K);(repeat'(first|refine Va X0 ?_|(refine V2 X0 ?_ ?_<;>try with_reducible intro hb)|(refine Xi ?_ ?_<;>try intro ht)|refine VD ?_ ?_|exact Xx|fail))<;>try with_reducible intro K hK)
      exact ak _ (j+1,Q2,o2) ⟨Hi,by dsimp only;rw[jh];exact h1,h2,h3⟩ Hi (Xv X0)
     intro QQ key;clear ak aq;have g7:=aR (ns.fx (os.length+3,Ob.var [.ref (os.length+2) 1 0 i]) G9);have gL:=aR ns.ls;have hra:(rowsOf mq Q)[a]?=some [vr (Q.getD a default)]:=by rw[Ka Ey,PG]
     have Fm:(rowsOf mq Q)[b]?=some [vr (Q.getD b default)]:=by rw[Ka Ey,PG]
     have DN:st.2.getD a default=(Q.getD a default).2:=by rw[<- hQ,PA Ey]
     have hgb:st.2.getD b default=(Q.getD b default).2:=by rw[<- hQ,PA Ey]
     have ca:=ns.cell (show a<Q.length by omega);have cb:=ns.cell (show b<Q.length by omega);have ze:=λ(fin:List Ob) (pa pb:Nat)=>ns.anl (show a<Q.length by omega) (show b<Q.length by omega) (λe=>gN (by rw[e])) (n:=(p:Int)) (fin:=fin) (pa:=pa) (pb:=pb);have d3:=λc hc hn=>ns.tU (os.length+3,Ob.var [.ref (os.length+2) 1 0 i]) G9 |>.2 c hc hn;have r2:=λc hc hn=>(ns.row c hc hn).2;have qa:Ce [os.length+2,os.length+3] (vr (Q.getD a default))=True:=adZ λhn hm=>by
      rcases bu.1 hm with e|hm
      ·exact r2 a Ey hn e
      ·exact d3 a Ey hn (cS.1 hm).symm
     have qb:Ce [os.length+2,os.length+3] (vr (Q.getD b default))=True:=adZ λhn hm=>by
      rcases bu.1 hm with e|hm
      ·exact r2 b Ey hn e
      ·exact d3 b Ey hn (cS.1 hm).symm
     rw[DN,hgb]at jh;have I4:(Q.getD a default).2.length<4001:=by
      have:=(Kb (m:=m) round j a).1;rw[dF,DN]at this;omega
     have xF:(Q.getD b default).2.length<4001:=by
      have:=(Kb (m:=m) round j b).1;rw[dF,hgb]at this;omega
     have n7:∀ c,c<Q.length->(Q.getD c default).2≠[]->os.length+3≠(Q.getD c default).1:=d3;have n8:∀ c,c<Q.length->(Q.getD c default).2≠[]->os.length+2≠(Q.getD c default).1:=λc hc hn=>Ne.symm (r2 c hc hn);have cb2:(Q.getD b default).2≠[]->(rz (Q.getD a default) kG)[(Q.getD b default).1]?=some (.arr 1 (ints (Q.getD b default).2)):=λhn=>Cw (cb hn) λGe e=>gN (by rw[ns.inj b a Ey Ey hn Ge e]);have f7:=ns.fx (os.length+3,Ob.var [.ref (os.length+2) 1 0 i]) G9;have fL:=ns.ls;have f7a:=Cw f7 (n7 a Ey);have f7b:=Cw f7a (n7 b Ey);have fLa:=Cw fL (n8 a Ey);have GN:=Cw fLa (n8 b Ey);have Gi:=λ(k:Nat) (o:Ob) (h1:kG[k]?=some o) (h2:(Q.getD a default).2≠[]->k≠(Q.getD a default).1) (h3:(Q.getD b default).2≠[]->k≠(Q.getD b default).1)=>Cw (Cw h1 h2) h3;have dA:=ad3 ca;have dB:=ad3 cb2;have l2:=ad4 (Q.getD a default) kG;have l3:=(ad4 (Q.getD b default) (rz (Q.getD a default) kG)).trans l2;have hes:=λpa=>ad5 Q a pa (Q.getD a default).2 (p:Int);have ano:=λpa pb=>ad5 (Q.set a (pa,(Q.getD a default).2++[(p:Int)])) b pb (Q.getD b default).2 (p:Int);have anp:∀ pa,(rowsOf mq (Q.set a (pa,(Q.getD a default).2++[(p:Int)])))[b]?=some [vr (Q.getD b default)]:=λpa=>by
      rw[Ka Hj,PH _ _ _ _ Ey,if_neg (λe=>gN (by rw[e])),PG]
     have hFm:∀ q,os.length<=q->q=os.length+2->True:=λ_ _ _=>trivial;generalize Q.getD a default=A0 at *;generalize Q.getD b default=B0 at *;generalize hX3:rz B0 (rz A0 kG)=X3 at *;generalize rz A0 kG=X2 at *;have uU:(os.length+2∈[os.length+2,os.length+3])=True:=G9;have M4:(os.length+3∈[os.length+2,os.length+3])=True:=G9;have hQr:(rowsOf mq Q).length=i:=by rw[cF];exact PE
     have e2:=λl k=>Az l2 l k;have e3:=λl k=>Az l3 l k;have e20:=λx l=>Kd l2 x l;have e30:=λx l=>Kd l3 x l;have s3:=jm GN;have s4:=λy=>jm (nr (y:=y) GN);have s5:=λy=>aR (nr (y:=y) GN);have s7:=λy=>aR (fW (y:=y) f7b (show os.length+2≠os.length+3 by omega));have f7l:=aR f7;have anu:=aR f7a;have anv:=aR f7b;have fLl:=aR fL;have anx:=aR fLa;have anz:=aR GN;have lF:∀ (s:St) (c:Nat) (l:List Ob),c=1\/c=2->l.length=4->l[c]?=some (.arr 1 (ints (A0.2++[(p:Int)])))->l[3]?=some (.arr 1 (ints (B0.2++[(p:Int)]))) ->
       aD os.length s ⟨ar [(1,QM round),(2,.ptr os.length 0 0),(4,QM m.ae.length),(5,.ref (os.length+1) 1 0 i),(7,.ptr (os.length+3) 0 0),(44,QM m.ae.length),(45,QM j)],(X3.set (os.length+2) (.arr 1 (rowsOf mq (Q.set a (kG.length+c,A0.2++[(p:Int)]))))).set (os.length+2) (.arr 1 (rowsOf mq ((Q.set a (kG.length+c,A0.2++[(p:Int)])).set b (kG.length+3,B0.2++[(p:Int)]))))++l⟩->QQ .normal s:=λs c l hc hl h1 h2 ht=>by
      refine key _ ⟨_,_,ze _ (kG.length+c) (kG.length+3) Ey Ey Ey (λq o e1 e2 e3 e4=>aR (fW (fW (Gi q o e1 e3 e4) (Ne.symm e2)) (Ne.symm e2)) _) (aR (nr (nr GN)) _) ?_ ?_,?_,?_,ht⟩
      ·rw[Az (by simp[l3])];exact h1
      ·rw[Az (by simp[l3])];exact h2
      ·rw[jh,qF,qF,hQ]
      ·simp[l3];omega
     refine abE [os.length+2,os.length+3] [] [10,17] (.take 0 (.take 1 (.take 3 (.take 4 (.take 5 (.take 6 (.take 7 (.take 8 (.take 11 (.take 12 (.take 13 (.take 14 (.take 15 (.three 2 (.both 9 (.both 10 (.take 16 (.take 17 (.take 18 (.take 19 (.take 20 (.take 21 .nil)))))) 16 (.take 10 (.take 17 (.take 18 (.take 19 (.take 20 (.take 21 .nil))))))) 16 (.take 9 (.take 10 (.take 17 (.take 18 (.take 19 (.take 20 (.take 21 .nil)))))))) 9 (.three 2 (.both 10 (.take 16 (.take 17 (.take 18 (.take 19 (.take 20 (.take 21 .nil)))))) 16 (.take 10 (.take 17 (.take 18 (.take 19 (.take 20 (.take 21 .nil))))))) 10 (.both 2 (.take 16 (.take 17 (.take 18 (.take 19 (.take 20 (.take 21 .nil)))))) 16 (.both 2 (.take 17 (.take 18 (.take 19 (.take 20 (.take 21 .nil))))) 17 (.take 18 (.both 2 (.take 19 (.take 20 (.take 21 .nil))) 19 (.take 2 (.take 20 (.take 21 .nil))))))) 16 (.both 2 (.take 10 (.take 17 (.take 18 (.take 19 (.take 20 (.take 21 .nil)))))) 10 (.both 2 (.take 17 (.take 18 (.take 19 (.take 20 (.take 21 .nil))))) 17 (.take 18 (.both 2 (.take 19 (.take 20 (.take 21 .nil))) 19 (.take 2 (.take 20 (.take 21 .nil)))))))) 16 (.both 2 (.take 9 (.take 10 (.take 17 (.take 18 (.take 19 (.take 20 (.take 21 .nil))))))) 9 (.both 2 (.take 10 (.take 17 (.take 18 (.take 19 (.take 20 (.take 21 .nil)))))) 10 (.both 2 (.take 17 (.take 18 (.take 19 (.take 20 (.take 21 .nil))))) 17 (.take 18 (.both 2 (.take 19 (.take 20 (.take 21 .nil))) 19 (.take 2 (.take 20 (.take 21 .nil)))))))))))))))))))))) rfl Hg (by decide +kernel) ?_;simp(disch:=omega)only[Ac,↓Pc,simprocAttr,Ra,jH,uU,M4,f7,fL,f7l,anu,anv,fLl,anx,anz,hra,Fm,anp,hes,ano,qa,qb,↓dA,↓dB,l2,l3,e2,e3,e20,e30,s3,s4,s5,s7,hQr,bT,bH,bN];repeat'(first|with_reducible refine cD ?_ ?_|omega|with_reducible rfl|(intro id bZ;simp only[bu,iI,or_false]at bZ;omega))
     all_goals first
      | (refine lF _ 1 [.arr 1 [[QM p]],.arr 1 (ints (A0.2++[(p:Int)])),.arr 1 [[QM p]],.arr 1 (ints (B0.2++[(p:Int)]))] (.inl rfl) rfl rfl rfl ?_;exact Xv X0;done)
      | (refine lF _ 2 [.arr 1 [[QM p]],.arr 1 [[QM p]],.arr 1 (ints (A0.2++[(p:Int)])),.arr 1 (ints (B0.2++[(p:Int)]))] (.inr rfl) rfl rfl rfl ?_;exact Xv X0;done)
      |skip
  ·obtain rfl:j=m.ae.length:=Ey;((try revert hK K);(repeat'(first|refine Va X0 ?_|(refine V2 X0 ?_ ?_<;>try with_reducible intro hb)|(refine Xi ?_ ?_<;>try intro ht)|refine VD ?_ ?_|exact Xx|fail))<;>try with_reducible intro K hK)
   refine aq _ _ rfl ?_;clear ak aq Ql;repeat(first|refine Xu ?_)
   have fA:=hL.fx (os.length,Ob.var [.ptr gi 0 0]) G9;have fT:=hL.fx (os.length+1,Ob.arr 1 (ints (lL m round m.ae.length).1)) G9;have fB:=hL.fx (os.length+3,Ob.var [.ref (os.length+2) 1 0 k]) G9;have J7:∀ i o,os[i]?=some o->ob[i]?=some o:=λi o hi=>hL.fx (i,o) (dZ _ (dZ _ (dZ _ (AD.2 hi))));dsimp only at fA fT fB;obtain⟨hl1,tg⟩:=J6 (m:=m) round m.ae.length;have anA:=Kb (m:=m) round m.ae.length;have MU:rq m can W round=(nw m can (lL m round m.ae.length).2 (W,aK m.cls.length false) m.cls.length).1:=rfl;rw[MU];generalize lL m round m.ae.length=st at *;have zo:=aR fT;have iZ:st.1.length=k:=Ey;repeat'(first|((fail_if_success (first|refine dW 27 ?_|refine dX 27 ?_));refine Xr (X5 @fT @zo @bT @bH.{0} (X3 @GO @iZ @CZ)) ?_;intro K hK)|refine Xo (X5 @fT @zo @bT @bH.{0} (X3 @GO @iZ @CZ)) ?_|(refine hK _ ?_;clear hK K)|(refine Xg (X5 @fT @zo @bT @bH.{0} (X3 @GO @iZ @CZ)) ?_ ?_<;>try intro hb)|(refine Xi ?_ ?_<;>try intro ht)|refine Xy ?_|refine Xd ?_ ?_|exact Xx|fail)
   have GP:=hL.app [.arr 1 (aV (aK k false)),.var [.ref ob.length 1 0 k],.var [.fn 70 [.ptr (ob.length+1) 0 0,.ptr (os.length+3) 0 0,.ptr os.length 0 0,.ptr (ob.length+2) 0 0]]];have PE:Q.length=k:=by have:=congrArg nF hQ;simp at this;omega
   refine bP (σ':=⟨ar [(15,.ptr (ob.length+1) 0 0),(16,.ptr (ob.length+2) 0 0)],ob++[.arr 1 (aV (aK k false)),.var [.ref ob.length 1 0 k],.var [.fn 70 [.ptr (ob.length+1) 0 0,.ptr (os.length+3) 0 0,.ptr os.length 0 0,.ptr (ob.length+2) 0 0]]]⟩) (Xv X0) ?_;generalize Ed:ob++[Ob.arr 1 (aV (aK k false)),.var [.ref ob.length 1 0 k],.var [.fn 70 [.ptr (ob.length+1) 0 0,.ptr (os.length+3) 0 0,.ptr os.length 0 0,.ptr (ob.length+2) 0 0]]]=qz at *;have Ke:=GP.fx (os.length+3,Ob.var [.ref (os.length+2) 1 0 k]) G9;have xT:=λi (hi:i∈oL (os.length+2) Q)=>GP.at_ hi;have Ck:=λi (hi:i∈oL (os.length+2) Q)=>hL.lt hi;have n0:os.length ∉ oL (os.length+2) Q:=λhi=>xT _ hi (os.length,Ob.var [.ptr gi 0 0]) G9 rfl;have n3:os.length+3 ∉ oL (os.length+2) Q:=λhi=>xT _ hi (os.length+3,Ob.var [.ref (os.length+2) 1 0 k]) G9 rfl;have ad6:∀ i o,os[i]?=some o->i ∉ oL (os.length+2) Q:=λi o ho hi=>xT _ hi (i,o) (dZ _ (dZ _ (dZ _ (AD.2 ho)))) rfl;have p0:qz[os.length]?=some (.var [.ptr gi 0 0]):=by rw[<- Ed];exact aR fA _
   have ad7:∀ i o,os[i]?=some o->qz[i]?=some o:=λi o hi=>by rw[<- Ed];exact aR (J7 i o hi) _
   have b0:qz[ob.length]?=some (.arr 1 (aV (aK k false))):=by rw[<- Ed];exact kF _ _ _
   have b1:qz[ob.length+1]?=some (.var [.ref ob.length 1 0 k]):=by rw[<- Ed,lf];rfl
   have b2:qz[ob.length+2]?=some (.var [.fn 70 [.ptr (ob.length+1) 0 0,.ptr (os.length+3) 0 0,.ptr os.length 0 0,.ptr (ob.length+2) 0 0]]):=by rw[<- Ed,lf];rfl
   have l4:qz.length=ob.length+3:=by rw[<- Ed];simp
   refine bP (aD.akz (os.length+3) 0 (λi=>i ∉ oL (os.length+2) Q) (v:=.tree 1 (eO (Q.map (·.2))))
    (os2:=wO (oL (os.length+2) Q) (qz.set (os.length+3) (.var [.tree 1 (eO (Q.map (·.2)))]))) Ke rfl n3 (by rw[ad8,bJ]) (λi o ho=>?_) ?_) ?_
   ·dsimp only at ho;have hx:∀ y,(qz.set (os.length+3) y)[i]?=some (if i=os.length+3 then y else o):=λy=>by
     by_cases e:i=os.length+3
     ·subst e;rw[if_pos rfl];exact nr Ke
     ·rw[if_neg e];exact fW ho (Ne.symm e)
    by_cases hi:i∈oL (os.length+2) Q
    ·exact .inr ⟨λhn=>hn hi,by rw[PI (hx _),if_pos hi]⟩
    ·exact .inl ⟨hi,by rw[PI (hx _),if_neg hi];rfl⟩
   ·have:=anB GP.ls GP.row (ar [(15,.ptr (ob.length+1) 0 0),(16,.ptr (ob.length+2) 0 0)]);rw[PE]at this;exact this
   dsimp only;have k5:∀ i o,qz[i]?=some o->i≠os.length+3->i ∉ oL (os.length+2) Q ->
     (wO (oL (os.length+2) Q) (qz.set (os.length+3) (.var [.tree 1 (eO (Q.map (·.2)))])))[i]?=some o:=λi o ho h1 h2=>PJ (fW ho (Ne.symm h1)) h2
   have k6:(wO (oL (os.length+2) Q) (qz.set (os.length+3) (.var [.tree 1 (eO (Q.map (·.2)))])))[os.length+3]?=some (.var [.tree 1 (eO (Q.map (·.2)))]):=PJ (nr Ke) n3;have k7:(wO (oL (os.length+2) Q) (qz.set (os.length+3) (.var [.tree 1 (eO (Q.map (·.2)))]))).length=ob.length+3:=by rw[ad8,bJ];exact l4
   generalize wO (oL (os.length+2) Q) (qz.set (os.length+3) (.var [.tree 1 (eO (Q.map (·.2)))]))=GQ at *;have x0:=k5 os.length _ p0 Ey n0;have xa:=k5 ob.length _ b0 Ey (λhi=>by have:=Ck _ hi;omega);have xs:=k5 (ob.length+1) _ b1 Ey (λhi=>by have:=Ck _ hi;omega);have xu:=k5 (ob.length+2) _ b2 Ey (λhi=>by have:=Ck _ hi;omega);have PL:∀ i o,os[i]?=some o->GQ[i]?=some o:=λi o hi=>k5 i o (ad7 i o hi) (by have:=iS hi;omega) (ad6 i o hi);have Kg:UF 70 gi (ob.length+1) ob.length (os.length+3) os.length (ob.length+2) st.2 (aK k false) GQ:=⟨by rw[nx];exact xs,xa,by rw[<- hQ];exact k6,x0,xu⟩;have hW5:=h.pre (ob:=GQ) Ey PL;have hK5:Kp mi ((ob.length,0)::D) E os GQ:=⟨Ey,λi o _ _ hi=>PL i o hi⟩;have JY:=iS h.mp;have uQ:=iS h.v;have nh:=iS h.a;have yV:=iS h.b;have hUN:UN gi ai bi mi D E (ob.length+1) ob.length (os.length+3) os.length (ob.length+2):=⟨λi hi=>⟨Ey,λhm=>by have:=h.lt i hm;omega⟩,Ey,Ey,Ey,Ey,Ey,Ey,Ey⟩;clear k5 k6 k7 x0 xa xs xu PL p0 ad7 b0 b1 b2 xT Ck n0 n3 ad6 Ke GP hL fA fT fB zo J7;have hlA:∀ c,(nw m can st.2 (W,aK k false) c).2.length=k->True:=λ_ _=>trivial;have yV:st.2.length=m.cls.length:=Ey;have nM:∀ c,c<m.cls.length->(st.2.getD c default).length<9223372036854775808/\∀ x∈st.2.getD c default,0<=x/\x<m.ae.length:=λc hc=>by
    obtain⟨i1,i2⟩:=anA c;refine⟨Ey,λx hx=>⟨(i2 x hx).1,(i2 x hx).2 ?_⟩⟩;rcases Nat.eq_zero_or_pos m.ae.length with h0|h0
    ·rw[h0]at i1;rw[List.length_eq_zero_iff.1 (Nat.le_zero.1 i1)]at hx;cases hx
    ·exact h0
   have PN:nw m can st.2 (W,aK k false) 0=(W,aK k false):=rfl;have hAs:∀ c,nw m can st.2 (W,aK k false) (c+1)=if(nw m can st.2 (W,aK k false) c).2.getD c false=true then nw m can st.2 (W,aK k false) c else jz m can st.2 (m.cls.length+1) (nw m can st.2 (W,aK k false) c) c:=λc=>rfl;have fY:nT (aK k false)=0:=by unfold nT;simp[List.count_replicate]
   rw[PD];have xs:=Kg.s;have xa:=Kg.a;((try revert hK K);(repeat'(first|refine Va (X3 @xs @xa @nx.{0}) ?_|(refine V2 (X3 @xs @xa @nx.{0}) ?_ ?_<;>try with_reducible intro hb)|(refine Xi ?_ ?_<;>try intro ht)|refine VD ?_ ?_|exact Xx|fail))<;>try with_reducible intro K hK)
   refine aQ (λz:Nat×List Ob=>(⟨ar [(15,.ptr (ob.length+1) 0 0),(16,.ptr (ob.length+2) 0 0),(128,QM k),(129,QM z.1)],z.2⟩:St))
    (λz=>z.1<=k/\WF m can gi ai bi mi D E (nw m can st.2 (W,aK k false) z.1).1 z.2/\UF 70 gi (ob.length+1) ob.length (os.length+3) os.length (ob.length+2) st.2 (nw m can st.2 (W,aK k false) z.1).2 z.2/\Kp mi ((ob.length,0)::D) E os z.2/\(nw m can st.2 (W,aK k false) z.1).2.length=k/\nV m (nw m can st.2 (W,aK k false) z.1).1/\WB (B+618475290624*(nT (nw m can st.2 (W,aK k false) z.1).2:Nat)) (nw m can st.2 (W,aK k false) z.1).1)
    (λz=>k-z.1) (0,GQ) ⟨aP _,hW5,Kg,hK5,by dsimp only;rw[PN];simp,hs,by dsimp only;rw[PN];dsimp only;rw[fY];exact hW.mono Ey⟩ (Xv X0) ?_
   (try clear fY;clear hW5 Kg hK5 PN xs xa)
   rintro⟨c,o6⟩⟨hc,h1,h2,h3,h4,h5,h6⟩Ql ak aq;dsimp only at hc h1 h2 h3 h4 h5 h6 ⊢;by_cases gq:c<k
   ·have vt:=hAs c;generalize uO:nw m can st.2 (W,aK k false) (c+1)=r1 at *;generalize nw m can st.2 (W,aK k false) c=r0 at *;have fs:=h2.s;have fa:=h2.a;have fu:=h2.u;by_cases eX:r0.2.getD c false=true
    ·rw[if_pos eX]at vt;((try revert hK K);(repeat'(first|refine Va (X4 @fs @fa @eX @h4) ?_|(refine V2 (X4 @fs @fa @eX @h4) ?_ ?_<;>try with_reducible intro hb)|(refine Xi ?_ ?_<;>try intro ht)|refine VD ?_ ?_|exact Xx|fail))<;>try with_reducible intro K hK)
     all_goals try(exfalso;omega)
     exact ak _ (c+1,o6) ⟨Hi,by dsimp only;rw[uO,vt];exact h1,by dsimp only;rw[uO,vt];exact h2,h3,by dsimp only;rw[uO,vt];exact h4,by dsimp only;rw[uO,vt];exact h5,by dsimp only;rw[uO,vt];exact h6⟩ Hi (Xv X0)
    ·rw[if_neg eX]at vt;have ym:r0.2.getD c false=false:=by simpa using eX
     have oZ:=anE hm hf hUN yV nM (m.cls.length+1) r0 c o6 B Ey Ey ym Ey h1 h2 h5 Ey Ey h6;repeat'(first|((fail_if_success (first|refine dW 31 ?_|refine dX 31 ?_));refine Xr (X4 @fs @fa @ym @h4) ?_;intro K hK)|refine Xo (X4 @fs @fa @ym @h4) ?_|(refine hK _ ?_;clear hK K)|(refine Xg (X4 @fs @fa @ym @h4) ?_ ?_<;>try intro hb)|(refine Xi ?_ ?_<;>try intro ht)|refine Xy ?_|refine Xd ?_ ?_|exact Xx|fail)
     all_goals try(exfalso;omega)
     refine oC 2 Hg _ rfl ?_;intro K hK;simp(disch:=omega)only[Ac,↓Pc,simprocAttr,jd,List.drop,fu,GO];repeat'(first|with_reducible refine cD ?_ ?_|omega|with_reducible rfl)
     refine⟨rfl,(show kd Tryz.prog 70 [QM c,.ptr (ob.length+1) 0 0,.ptr (os.length+3) 0 0,.ptr os.length 0 0,.ptr (ob.length+2) 0 0] (some 139) _ _ from ?_)⟩;refine sw oZ ?_;rintro r o7⟨rfl,g1,g2,g3,g4⟩;refine⟨g3.len,?_⟩;simp(disch:=omega)only[Ac,↓Pc,simprocAttr,List.drop];refine hK _ ?_;clear hK K;repeat(first|refine Xu ?_)
     ((try revert hK K);(repeat'(first|refine Va X0 ?_|(refine V2 X0 ?_ ?_<;>try with_reducible intro hb)|(refine Xi ?_ ?_<;>try intro ht)|refine VD ?_ ?_|exact Xx|fail))<;>try with_reducible intro K hK)
     exact ak _ (c+1,o7) ⟨Hi,by dsimp only;rw[uO,vt];exact g1,by dsimp only;rw[uO,vt];exact g2,h3.trans g3,by dsimp only;rw[uO,vt];exact g4.len.trans PD,by dsimp only;rw[uO,vt];exact g4.sh,by dsimp only;rw[uO,vt];exact g4.wb.mono Ey⟩ Hi (Xv X0)
   ·obtain rfl:c=k:=Ey;((try revert hK K);(repeat'(first|refine Va X0 ?_|(refine V2 X0 ?_ ?_<;>try with_reducible intro hb)|(refine Xi ?_ ?_<;>try intro ht)|refine VD ?_ ?_|exact Xx|fail))<;>try with_reducible intro K hK)
    refine aq _ _ rfl ?_;clear ak aq Ql;repeat(first|refine Xu ?_)
    ((try revert hK K);(repeat'(first|refine Vb X0 ?_|(refine V2 X0 ?_ ?_<;>try with_reducible intro hb)|(refine Xi ?_ ?_<;>try intro ht)|refine VD ?_ ?_|exact Xx|fail))<;>try with_reducible intro K hK)
    unfold fU;simp only[dV,dP];have PO:=PQ (nw m can st.2 (W,aK c false) c).2;exact⟨.bC [],_,⟨rfl,h1,⟨h3.len,λi o e1 e2 e3=>h3.same i o e1 (λhm=>by
     rw[dw,ez]at hm;rcases bu.1 hm with e|hm
     ·have:=iS e3;dsimp only at e;omega
     ·exact e2 hm) e3⟩,h5,h6.mono Ey⟩,eN rfl h3.len rfl⟩
end
section
variable {m:ah} {os:List Ob}
def amn(hm:VM m){left:List (List Bool)}(hf:cK m left)(os:List Ob):
  dv Tryz.prog 38 [.agg (ao m),.tree 1 (rowsOf aA left)] os λr ob=>∃ gi ai bi mi D E,r=.ptr gi 0 0/\WF m (er m left m.cls.length) gi ai bi mi D E (W0 m) ob/\os.length<=ob.length/\(∀ (i:Nat) o,os[i]?=some o->ob[i]?=some o)/\os.length<=mi/\∀ i∈(D++E).map (·.1),os.length<=i:=by
 have p6:=hm.ae;have sL:=hm.cls;refine dv.aM 110 os.length [.tmp 4] Tryz.func38 ?_;((try revert hK K);(repeat'(first|refine Va (X3 @ao.eq_1 @bT @bH.{0}) ?_|(refine V2 (X3 @ao.eq_1 @bT @bH.{0}) ?_ ?_<;>try with_reducible intro hb)|(refine Xi ?_ ?_<;>try intro ht)|refine VD ?_ ?_|exact Xx|fail))<;>try with_reducible intro K hK)
 refine bP (σ':=⟨ar [(1,.tree 1 (rowsOf aA left)),(2,.ptr os.length 0 0),(5,.ptr (os.length+2) 0 0),(22,.tree 1 (rowsOf aT m.cls)),(23,QM m.cls.length),(24,QM 0)],os++[.var (ao m),.mp 3 [],.var (ao m++[.lit (.slice none 0 0),.lit (.slice none 0 0),.lit (.slice none 0 0),.dD (os.length+1)])]⟩) (Xv @ao.eq_1) ?_;refine bP (ane m os _ _ _ _) ?_;refine aQ (λz:Nat×List (Nat×List Int)×Nat×Nat×List Ob=>(⟨ar [(1,.tree 1 (rowsOf aA left)),(2,.ptr os.length 0 0),(5,.ptr (os.length+2) 0 0),(22,.tree 1 (rowsOf aT m.cls)),(23,QM m.cls.length),(24,QM z.1)],z.2.2.2.2⟩:St))
  (λz=>z.1<=m.cls.length/\FX (BW m left os z.1 z.2.1 z.2.2.1 z.2.2.2.1) z.2.2.2.2/\z.2.1.map (·.2)=(m.cls.take z.1).map cj)
  (λz=>m.cls.length-z.1) (0,[],os.length+3,os.length+4,os++[.var (ao m),.mp 3 [],gW m (os.length+1) (os.length+3) (os.length+4) (os.length+5) 0 0,.arr 1 [],.arr 1 [],.arr 1 []]) ⟨aP _,BW0 m left os,G9⟩ (Xv X0) ?_
 rintro⟨c,Q,ci,oi,ob⟩⟨hc,hF,hQ⟩Ql ak aq;dsimp only at hc hF hQ ⊢;by_cases gq:c<m.cls.length
 ·have p8:=hm.opt _ (aF (l:=m.cls) (i:=c) (d:=default) gq);have lZ:=hm.tA _ (aF (l:=m.cls) (i:=c) (d:=default) gq);have ik:=ep gq;have BF:=hf.2 c (by have:=hf.1;omega);have fX:=am2 m left c;have aeb:=PR (X:=left) (c:=c) (by have:=hf.1;omega);have aec:=hf.1;generalize eY:m.cls.getD c default=l at *;generalize u4:left.getD c default=row at *;repeat'(first|((fail_if_success (first|refine dW 7 ?_|refine dX 7 ?_));refine Xr (X2 @eY @aT.eq_1) ?_;intro K hK)|refine Xo (X2 @eY @aT.eq_1) ?_|(refine hK _ ?_;clear hK K)|(refine Xg (X2 @eY @aT.eq_1) ?_ ?_<;>try intro hb)|(refine Xi ?_ ?_<;>try intro ht)|refine Xy ?_|refine Xd ?_ ?_|exact Xx|fail)
  ((try revert hK K);(repeat'(first|refine Va X0 ?_|(refine V2 X0 ?_ ?_<;>try with_reducible intro hb)|(refine Xi ?_ ?_<;>try intro ht)|refine VD ?_ ?_|exact Xx|fail))<;>try with_reducible intro K hK)
  have cV:row.length=l.length:=BF;refine bP (aD.nil 8 1 (by simp only[Kc,simprocAttr]) Hg) ?_;refine bP (aD.nil 9 1 (by simp only[Kc,simprocAttr]) Hg) ?_;dsimp only;rw[bH,bN];refine aQ (λz:Nat×Nat×Nat×List Ob=>(⟨ar [(1,.tree 1 (rowsOf aA left)),(2,.ptr os.length 0 0),(5,.ptr (os.length+2) 0 0),(6,QM c),(8,.ref z.2.1 1 0 z.1),(9,.ref z.2.2.1 1 0 z.1),(22,.tree 1 (rowsOf aT m.cls)),(23,QM m.cls.length),(24,QM c),(29,.tree 6 (rowsOf cB l)),(30,QM l.length),(31,QM z.1)],z.2.2.2⟩:St))
   (λz=>z.1<=l.length/\FX ((z.2.1,.arr 1 (aV ((im l row).take z.1)))::(z.2.2.1,.arr 1 (ints ((cj l).take z.1)))::BW m left os c Q ci oi) z.2.2.2)
   (λz=>l.length-z.1) (0,ob.length,ob.length+1,ob++[.arr 1 [],.arr 1 []]) ⟨aP _,?_⟩ ?_ ?_
  ·exact hF.news (N:=[(ob.length,.arr 1 []),(ob.length+1,.arr 1 [])]) (l:=[.arr 1 [],.arr 1 []]) (λp hp=>by
    simp only[bu,iI,or_false]at hp;rcases hp with rfl|rfl
    ·exact⟨0,rfl,rfl⟩
    ·exact⟨1,rfl,rfl⟩) G9
  ·exact Xv X0
  clear hF;rintro⟨k,x,y,o2⟩⟨hk,hF⟩cR bg bm;dsimp only at hk hF ⊢;by_cases bj:k<l.length
  ·have PS:=lZ _ (aF (l:=l) (i:=k) (d:=default) bj);have da:=FJ PS;have C8:sJ (l.getD k default)=((l.getD k default).ch.map (·.2)).foldl eM 0:=rfl;have kT:(im l row).take (k+1)=(im l row).take k++[row.getD k false&&decide (sJ (l.getD k default)<1099511627776)]:=by
    rw[ep (by simp[im];exact bj)];congr 2;unfold im;rw[ay,bM,lk bj];rfl
   have It:(cj l).take (k+1)=(cj l).take k++[sJ (l.getD k default)]:=by
    rw[ep (by simp[cj];exact bj)];congr 2;unfold cj;rw[ay,bM,ay,bx bj];rfl
   have bI:((im l row).take k).length=k:=by rw[e9];simp[im];omega
   have nN:((cj l).take k).length=k:=by rw[e9];simp[cj];omega
   generalize uV:l.getD k default=o at *;have aa5:o.ch.length<9223372036854775808:=by have h1:=ZV hm.wm.1 PS;have h2:=hm.wm.2;omega
   ((try revert hK K);(repeat'(first|refine Va (X4 @uV @cB.eq_1 @bT @bH.{0}) ?_|(refine V2 (X4 @uV @cB.eq_1 @bT @bH.{0}) ?_ ?_<;>try with_reducible intro hb)|(refine Xi ?_ ?_<;>try intro ht)|refine VD ?_ ?_|exact Xx|fail))<;>try with_reducible intro K hK)
   have Kh:=IS PS;refine aQ (λz:Nat×List Ob=>(⟨ar [(1,.tree 1 (rowsOf aA left)),(2,.ptr os.length 0 0),(5,.ptr (os.length+2) 0 0),(6,QM c),(8,.ref x 1 0 k),(9,.ref y 1 0 k),(10,QM k),(12,QM (((o.ch.take z.1).map (·.2)).foldl eM 0)),(22,.tree 1 (rowsOf aT m.cls)),(23,QM m.cls.length),(24,QM c),(29,.tree 6 (rowsOf cB l)),(30,QM l.length),(31,QM k),(37,.tree 2 (rowsOf bf o.ch)),(38,QM o.ch.length),(39,QM z.1)],z.2⟩:St))
    (λz=>z.1<=o.ch.length/\FX ((x,.arr 1 (aV ((im l row).take k)))::(y,.arr 1 (ints ((cj l).take k)))::BW m left os c Q ci oi) z.2)
    (λz=>o.ch.length-z.1) (0,o2++[.var (cB o)]) ⟨aP _,hF.app _⟩ (Xv (X3 @List.take_zero.{0} @List.map_nil.{0,0} @List.foldl_nil.{0,0})) ?_
   clear hF;rintro⟨q,o3⟩⟨hq,hF⟩mH gw fK;dsimp only at hq hF ⊢;have Ga:bX (((o.ch.take q).map (·.2)).foldl eM 0):=FI _ _ (λv hv=>by
    obtain⟨w,hw,rfl⟩:=bY.1 hv;exact Kh w (List.mem_of_mem_take hw)) (by unfold bX;decide)
   unfold bX at Ga;by_cases xC:q<o.ch.length
   ·have jD:((o.ch.take (q+1)).map (·.2)).foldl eM 0=min ((((o.ch.take q).map (·.2)).foldl eM 0)+(o.ch.getD q default).2) 1099511627776:=by
     rw[ep xC,dU,List.foldl_append];rfl
    have Fe:=Kh _ (aF (l:=o.ch) (i:=q) (d:=default) xC);unfold bX at Fe;generalize uM:((o.ch.take (q+1)).map (·.2)).foldl eM 0=s1 at *;generalize ((o.ch.take q).map (·.2)).foldl eM 0=s0 at *;generalize a6:o.ch.getD q default=cc at *;((try revert hK K);(repeat'(first|refine Va (X4 @a6 @bf.eq_1 @bT @bH.{0}) ?_|(refine V2 (X4 @a6 @bf.eq_1 @bT @bH.{0}) ?_ ?_<;>try with_reducible intro hb)|(refine Xi ?_ ?_<;>try intro ht)|refine VD ?_ ?_|exact Xx|fail))<;>try with_reducible intro K hK)
    all_goals try(exfalso;omega)
    exact gw _ (q+1,_) ⟨Hi,hF.app [.var (bf cc)]⟩ Hi (by dsimp only;rw[uM,jD];exact Xv @bf.eq_1)
   ·obtain rfl:q=o.ch.length:=Ey;rw[xd]at Ga ⊢;((try revert hK K);(repeat'(first|refine Va X0 ?_|(refine V2 X0 ?_ ?_<;>try with_reducible intro hb)|(refine Xi ?_ ?_<;>try intro ht)|refine VD ?_ ?_|exact Xx|fail))<;>try with_reducible intro K hK)
    refine fK _ _ rfl ?_;clear gw fK mH;repeat(first|refine Xu ?_)
    rw[<- C8]at Ga ⊢;generalize F7:sJ o=sm at *;have fx:=hF.at_ (x,.arr 1 (aV ((im l row).take k))) G9;have fy:=hF.at_ (y,.arr 1 (ints ((cj l).take k))) G9;have rS:x≠y:=FX.ne (P:=[]) (a:=(x,.arr 1 (aV ((im l row).take k)))) (b:=(y,.arr 1 (ints ((cj l).take k)))) hF G9;dsimp only at fx fy;have fxl:=aR fx;have fyl:=aR fy;have sx:=jm fx;have Ki:=fW (y:=.gone) fy rS;have aef:=aR Ki;have sy:=jm Ki;have Cy:=(hF.kill .gone).kill .gone;have lc:(aV ((im l row).take k)).length=k:=by rw[A4];exact bI
    have lo:(ints ((cj l).take k)).length=k:=by rw[xl];exact nN
    have tc:jd k (aV ((im l row).take k))=aV ((im l row).take k):=dt Ey;have to:jd k (ints ((cj l).take k))=ints ((cj l).take k):=dt Ey;have e22:∀ l2 k2,((o3.set x .gone).set y .gone++l2)[o3.length+k2]?=l2[k2]?:=λl2 k2=>Az G9 l2 k2;generalize hr9:row.getD k false=rk at *;have lF:∀ bv,bv=(rk&&decide (sm<1099511627776))->FX ((o3.length+1,.arr 1 (aV ((im l row).take (k+1))))::(o3.length+3,.arr 1 (ints ((cj l).take (k+1))))::BW m left os c Q ci oi) ((o3.set x .gone).set y .gone++[.arr 1 [[.lit (.bool bv)]],.arr 1 (aV ((im l row).take k++[bv])),.arr 1 [[QM sm]],.arr 1 (ints ((cj l).take k++[sm]))]):=λbv hbv=>by
     rw[kT,It,<- hbv];have pW:((o3.set x .gone).set y .gone).length=o3.length:=G9;have h:=Cy.news (N:=[(o3.length+1,.arr 1 (aV ((im l row).take k++[bv]))),(o3.length+3,.arr 1 (ints ((cj l).take k++[sm])))]) (l:=[.arr 1 [[.lit (.bool bv)]],.arr 1 (aV ((im l row).take k++[bv])),.arr 1 [[QM sm]],.arr 1 (ints ((cj l).take k++[sm]))]) (λp hp=>by
      rw[pW];simp only[bu,iI,or_false]at hp;rcases hp with rfl|rfl
      ·exact⟨1,rfl,rfl⟩
      ·exact⟨3,rfl,rfl⟩) G9
     exact h
    ((try revert hK K);(repeat'(first|refine Va (X5 @bT @bH.{0} @bN.{0} @bJ.{0} (X5 @aeb @u4 @aA.eq_1 @hr9 (X5 @fx @fxl @sx @fy (X5 @fyl @Ki @aef @sy (X5 @lc @lo @tc @to (X4 @q7 @e22 @EJ @CY)))))) ?_|(refine V2 (X5 @bT @bH.{0} @bN.{0} @bJ.{0} (X5 @aeb @u4 @aA.eq_1 @hr9 (X5 @fx @fxl @sx @fy (X5 @fyl @Ki @aef @sy (X5 @lc @lo @tc @to (X4 @q7 @e22 @EJ @CY)))))) ?_ ?_<;>try with_reducible intro hb)|(refine Xi ?_ ?_<;>try intro ht)|refine VD ?_ ?_|exact Xx|fail))<;>try with_reducible intro K hK)
    all_goals first
     |exact bg _ (k+1,o3.length+1,o3.length+3,_) ⟨Hi,lF (decide (sm<1099511627776)) (by simp[*])⟩ Hi (Xv X0)
     |exact bg _ (k+1,o3.length+1,o3.length+3,_) ⟨Hi,lF false (by simp[*])⟩ Hi (Xv X0)
  ·obtain rfl:k=l.length:=Ey;have e1:(im l row).take l.length=im l row:=dt (by simp[im]);have e2:(cj l).take l.length=cj l:=dt (by simp[cj]);rw[e1,e2]at hF;((try revert hK K);(repeat'(first|refine Va X0 ?_|(refine V2 X0 ?_ ?_<;>try with_reducible intro hb)|(refine Xi ?_ ?_<;>try intro ht)|refine VD ?_ ?_|exact Xx|fail))<;>try with_reducible intro K hK)
   refine bm _ _ rfl ?_;clear bg bm cR;repeat(first|refine Xu ?_)
   have nN:(cj l).length=l.length:=by simp[cj]
   have bI:(im l row).length=l.length:=by simp[im]
   have fx:=hF.at_ (x,.arr 1 (aV (im l row))) G9;refine bP (aD.Ik 8 x 1 (rows:=aV (im l row)) fx (by rw[A4,bI];simp only[Kc,simprocAttr]) (Lz _) (SM _)) ?_;have Cy:=hF.kill .gone;dsimp only;generalize o2.set x .gone=o4 at *;have dF :∃o6,FX (mR (y,cj l)::BW m left os c Q ci oi) o6/\aD os.length ⟨ar [(1,.tree 1 (rowsOf aA left)),(2,.ptr os.length 0 0),(5,.ptr (os.length+2) 0 0),(8,.tree 1 (aV (im l row))),(9,.ref y 1 0 l.length),(22,.tree 1 (rowsOf aT m.cls)),(23,QM m.cls.length),(24,QM c)],o4⟩
     ⟨ar [(1,.tree 1 (rowsOf aA left)),(2,.ptr os.length 0 0),(5,.ptr (os.length+2) 0 0),(8,.tree 1 (aV (im l row))),(9,qy (y,l.length)),(22,.tree 1 (rowsOf aT m.cls)),(23,QM m.cls.length),(24,QM c)],o6⟩:=by
    unfold mR qy;dsimp only;by_cases h0:l.length=0
    ·have hl0:cj l=[]:=List.length_eq_zero_iff.1 (nN.trans h0);rw[hl0,if_pos rfl,if_pos h0];rw[hl0]at Cy;refine⟨o4.set y .gone,Cy.put _,?_⟩;refine aD.trans (aD.Ik 9 y 1 (rows:=[]) (Cy.at_ (y,.arr 1 (ints [])) G9) (by rw[h0];rfl) G9 G9) ?_;exact Xv X0
    ·have hl0:cj l≠[]:=λe=>h0 (by rw[<- nN,e];rfl);rw[if_neg hl0,if_neg h0];exact⟨o4,Cy,by exact Xv X0⟩
   obtain⟨o6,Eb,hT⟩:=dF;refine bP (σ':=⟨ar [(1,.tree 1 (rowsOf aA left)),(2,.ptr os.length 0 0),(5,.ptr (os.length+2) 0 0),(8,.tree 1 (aV (im l row))),(9,.ref y 1 0 l.length),(22,.tree 1 (rowsOf aT m.cls)),(23,QM m.cls.length),(24,QM c)],o4⟩) (Xv X0) ?_;refine bP hT ?_;clear hT hF Cy fx o4;have uL:Q.length=c:=by have:=congrArg nF hQ;simp at this;omega
   have fG:=Eb.at_ (os.length+2,gW m (os.length+1) ci oi (os.length+5) c 0) (by simp[BW]);have fC:=Eb.at_ (ci,.arr 1 (rowsOf aA (er m left c))) (by simp[BW]);have fO:=Eb.at_ (oi,.arr 1 (rowsOf eh (dQ Q))) (by simp[BW]);unfold gW ao at fG;dsimp only[dw,eJ]at fG fC fO;have zd:(mR (y,cj l)::BW m left os c Q ci oi).Perm ((ci,.arr 1 (rowsOf aA (er m left c)))::(oi,.arr 1 (rowsOf eh (dQ Q)))::(os.length+2,gW m (os.length+1) ci oi (os.length+5) c 0)::mR (y,cj l)::(os.length+5,.arr 1 [])::(os.length,.var (ao m))::(os.length+1,.mp 3 [])::(Q.map mR++pA os)):=by
    exact am4 _ _ _ _ _
   have Cz:=Eb.perm zd;have anG:ci≠oi:=FX.ne (P:=[]) (a:=(ci,.arr 1 (rowsOf aA (er m left c)))) (b:=(oi,.arr 1 (rowsOf eh (dQ Q)))) Cz G9;have PU:ci≠os.length+2:=FX.ne (P:=[]) (a:=(ci,.arr 1 (rowsOf aA (er m left c)))) (b:=(os.length+2,gW m (os.length+1) ci oi (os.length+5) c 0)) Cz G9;have PV:oi≠os.length+2:=FX.ne (P:=[(ci,.arr 1 (rowsOf aA (er m left c)))]) (a:=(oi,.arr 1 (rowsOf eh (dQ Q)))) (b:=(os.length+2,gW m (os.length+1) ci oi (os.length+5) c 0)) Cz G9;have fCl:=aR fC;have fOl:=aR fO;have Ee:=aR fG;have sC:=jm fC;have yn:=fW (y:=.gone) fG PU;have Ef:=aR yn;have PW:=fW (y:=.gone) fO anG;have anJ:=aR PW;have sO:=jm PW;have GR:=fW (y:=.gone) yn PV;have anK:=aR GR;have GJ:=(Cz.kill .gone).kill .gone;have lC:(rowsOf aA (er m left c)).length=c:=by rw[cF];simp[er]
   have lO:(rowsOf eh (dQ Q)).length=c:=by rw[cF];simp[dQ,uL]
   have tC:jd c (rowsOf aA (er m left c))=rowsOf aA (er m left c):=dt Ey;have tO:jd c (rowsOf eh (dQ Q))=rowsOf eh (dQ Q):=dt Ey;have tP:rowsOf aA (er m left c)++[[.tree 1 (aV (im l row))]]=rowsOf aA (er m left (c+1)):=by rw[fX];unfold rowsOf;rw[dU];rfl
   have y8:rowsOf eh (dQ Q)++[[qy (y,l.length)]]=rowsOf eh (dQ (Q++[(y,cj l)])):=by rw[<- Pz,show(cj l).length=l.length by simp[cj]]
   have l6:((o6.set ci .gone).set oi .gone).length=o6.length:=G9;have l5:(o6.set ci Ob.gone).length=o6.length:=G9;have e5:=λl k=>Az l5 l k;have e50:=λx l=>Kd l5 x l;have e6:=λl k=>Az l6 l k;have e60:=λx l=>Kd l6 x l;have sG:=jm GR;have sG2:=λy=>jm (nr (y:=y) GR);have sG5:=λy=>aR (nr (y:=y) GR);have sr:(os.length+2∈[os.length+2])=True:=G9;have F3:(ci ∉ [os.length+2])=True:=by simp[PU]
   have hmo:(oi ∉ [os.length+2])=True:=by simp[PV]
   have anQ:(ci∈[os.length+2])=False:=by simp[PU]
   have anR:(oi∈[os.length+2])=False:=by simp[PV]
   have ox:=am1 (y,l.length);have anS:cellsOf (qy (y,l.length))=[qy (y,l.length)]:=by unfold qy;split<;>rfl
   have aqX:=iS fG;have lF:∀ (s:St) (cc:Nat) (G1:Ob) (l4:List Ob),cc=1\/cc=2->l4[cc]?=some (.arr 1 (rowsOf aA (er m left (c+1))))->l4[3]?=some (.arr 1 (rowsOf eh (dQ (Q++[(y,cj l)])))) ->
     aD os.length s ⟨ar [(1,.tree 1 (rowsOf aA left)),(2,.ptr os.length 0 0),(5,.ptr (os.length+2) 0 0),(22,.tree 1 (rowsOf aT m.cls)),(23,QM m.cls.length),(24,QM c)],(((o6.set ci .gone).set oi .gone).set (os.length+2) G1).set (os.length+2) (gW m (os.length+1) (o6.length+cc) (o6.length+3) (os.length+5) (c+1) 0)++l4⟩ ->
     ∃ cc l4,FX (BW m left os (c+1) (Q++[(y,cj l)]) (o6.length+cc) (o6.length+3)) l4/\aD os.length s ⟨ar [(1,.tree 1 (rowsOf aA left)),(2,.ptr os.length 0 0),(5,.ptr (os.length+2) 0 0),(22,.tree 1 (rowsOf aT m.cls)),(23,QM m.cls.length),(24,QM c)],l4⟩:=λs cc G1 l4 a6 h1 h2 ht=>by
    refine⟨cc,_,?_,ht⟩;have h:=((GJ.put G1).put (gW m (os.length+1) (o6.length+cc) (o6.length+3) (os.length+5) (c+1) 0)).news (N:=[(o6.length+cc,.arr 1 (rowsOf aA (er m left (c+1)))),(o6.length+3,.arr 1 (rowsOf eh (dQ (Q++[(y,cj l)]))))]) (l:=l4) (λp hp=>by
     simp only[bJ];simp only[bu,iI,or_false]at hp;rcases hp with rfl|rfl
     ·exact⟨cc,rfl,h1⟩
     ·exact⟨3,rfl,h2⟩) Hj
    have h':=h.perm (am5 _ _ _ _ _ _ _ _ _);unfold BW;rw[dU,bH];exact h'
   refine Ir (λs=>∃ cc l4,FX (BW m left os (c+1) (Q++[(y,cj l)]) (o6.length+cc) (o6.length+3)) l4/\aD os.length s ⟨ar [(1,.tree 1 (rowsOf aA left)),(2,.ptr os.length 0 0),(5,.ptr (os.length+2) 0 0),(22,.tree 1 (rowsOf aT m.cls)),(23,QM m.cls.length),(24,QM c)],l4⟩) ?_ ?_
   ·rintro s ⟨cc,l4,h1,h2⟩;repeat(first|refine Xu ?_)
    refine bP h2 ?_;((try revert hK K);(repeat'(first|refine Va X0 ?_|(refine V2 X0 ?_ ?_<;>try with_reducible intro hb)|(refine Xi ?_ ?_<;>try intro ht)|refine VD ?_ ?_|exact Xx|fail))<;>try with_reducible intro K hK)
    exact ak _ (c+1,Q++[(y,cj l)],o6.length+cc,o6.length+3,l4) ⟨Hi,h1,by dsimp only;rw[dU,hQ,ik,dU];rfl⟩ Hi (Xv X0)
   intro QQ key;clear ak aq;refine abE [os.length+2] [] [8,15] (.take 0 (.take 1 (.take 2 (.take 3 (.take 4 (.take 5 (.take 6 (.take 9 (.take 10 (.take 11 (.take 12 (.take 13 (.both 7 (.both 8 (.take 14 (.take 15 (.take 16 (.take 17 (.take 18 (.take 19 (.take 20 (.take 21 .nil)))))))) 14 (.take 8 (.take 15 (.take 16 (.take 17 (.take 18 (.take 19 (.take 20 (.take 21 .nil))))))))) 14 (.take 7 (.take 8 (.take 15 (.take 16 (.take 17 (.take 18 (.take 19 (.take 20 (.take 21 .nil)))))))))))))))))))))) rfl Hg (by decide +kernel) ?_;simp(disch:=omega)only[Ac,↓Pc,simprocAttr,Ra,jH,sr,F3,hmo,anQ,anR,not_false_eq_true,fC,fO,fG,fCl,fOl,Ee,sC,yn,Ef,PW,anJ,sO,GR,anK,lC,lO,tC,tO,tP,y8,l5,l6,e5,e50,e6,e60,sG,sG2,sG5,ox,anS,bT,bH,bN];repeat'(first|with_reducible refine cD ?_ ?_|omega|with_reducible rfl|(intro id bZ;simp only[bu,iI,or_false]at bZ;omega))
   all_goals first
    | (refine key _ (lF _ 1 (.var (ao m++[.ref (o6.length+1) 1 0 (c+1),.ref oi 1 0 c,.ref (os.length+5) 1 0 0,.dD (os.length+1)])) [.arr 1 [[.tree 1 (aV (im l row))]],.arr 1 (rowsOf aA (er m left (c+1))),.arr 1 [[qy (y,l.length)]],.arr 1 (rowsOf eh (dQ (Q++[(y,cj l)])))] (.inl rfl) rfl rfl ?_);exact Xv (X2 @gW.eq_1 @ao.eq_1);done)
    | (refine key _ (lF _ 2 (.var (ao m++[.ref (o6.length+2) 1 0 (c+1),.ref oi 1 0 c,.ref (os.length+5) 1 0 0,.dD (os.length+1)])) [.arr 1 [[.tree 1 (aV (im l row))]],.arr 1 [[qy (y,l.length)]],.arr 1 (rowsOf aA (er m left (c+1))),.arr 1 (rowsOf eh (dQ (Q++[(y,cj l)])))] (.inr rfl) rfl rfl ?_);exact Xv (X2 @gW.eq_1 @ao.eq_1);done)
    | (refine key _ (lF _ 2 (.var (ao m++[.ref (o6.length+2) 1 0 (c+1),.ref oi 1 0 c,.ref (os.length+5) 1 0 0,.dD (os.length+1)])) [.arr 1 [[qy (y,l.length)]],.arr 1 [[.tree 1 (aV (im l row))]],.arr 1 (rowsOf aA (er m left (c+1))),.arr 1 (rowsOf eh (dQ (Q++[(y,cj l)])))] (.inr rfl) rfl rfl ?_);exact Xv (X2 @gW.eq_1 @ao.eq_1);done)
 ·obtain rfl:c=m.cls.length:=Ey;rw[xd]at hQ;((try revert hK K);(repeat'(first|refine Va X0 ?_|(refine V2 X0 ?_ ?_<;>try with_reducible intro hb)|(refine Xi ?_ ?_<;>try intro ht)|refine VD ?_ ?_|exact Xx|fail))<;>try with_reducible intro K hK)
  refine aq _ _ rfl ?_;clear ak aq Ql;repeat(first|refine Xu ?_)
  have GM:FX (B2 m left os Q ci oi (os.length+5) 0 []) ob:=hF.perm (am6 _ _ _ _ _ _ _);clear hF;have fA:=GM.at_ (os.length,.var (ao m)) (by simp[B2,BR]);dsimp only at fA;((try revert hK K);(repeat'(first|refine Va (X2 @fA @ao.eq_1) ?_|(refine V2 (X2 @fA @ao.eq_1) ?_ ?_<;>try with_reducible intro hb)|(refine Xi ?_ ?_<;>try intro ht)|refine VD ?_ ?_|exact Xx|fail))<;>try with_reducible intro K hK)
  refine aQ (λz:Nat×List (Nat×List Int)×Nat×List Ob=>(⟨ar [(5,.ptr (os.length+2) 0 0),(90,.tree 4 (rowsOf aI m.ae)),(91,QM m.ae.length),(92,QM z.1)],z.2.2.2⟩:St))
   (λz=>z.1<=m.ae.length/\FX (B2 m left os Q ci oi z.2.2.1 z.1 z.2.1) z.2.2.2/\z.2.1.map (·.2)=(m.ae.take z.1).map (·.aB))
   (λz=>m.ae.length-z.1) (0,[],os.length+5,ob) ⟨aP _,GM,G9⟩ (Xv X0) ?_
  clear GM fA;rintro⟨j,QE,ti,ob⟩⟨hj,hF,AE⟩Ql ak aq;dsimp only at hj hF AE ⊢;by_cases fI:j<m.ae.length
  ·have ik:=ep fI;obtain⟨dY,_⟩:=AF hm fI;have oJ:(c7 m j).aB.length<=576:=by
    obtain⟨_,_,_,_,h1⟩:=rZ dY;have a:=CC hm (c7 m j).fst.toNat;have b:=CC hm (c7 m j).snd.toNat;have h2:(c7 m j).aB.length=cU m (c7 m j).fst.toNat*cU m (c7 m j).snd.toNat:=by exact_mod_cast h1
    rw[h2];exact Nat.mul_le_mul a b
   have gj:m.ae.getD j default=c7 m j:=rfl;rw[gj]at ik;generalize c7 m j=p at *;have uL:QE.length=j:=by have:=congrArg nF AE;simp at this;omega
   have fG:=hF.at_ (os.length+2,gW m (os.length+1) ci oi ti m.cls.length j) (by simp[B2]);have fT:=hF.at_ (ti,.arr 1 (rowsOf eh (dQ QE))) (by simp[B2]);unfold gW ao at fG;dsimp only[dw,eJ]at fG fT;have Br:os.length+2≠ti:=FX.ne (P:=[]) (a:=(os.length+2,gW m (os.length+1) ci oi ti m.cls.length j)) (b:=(ti,.arr 1 (rowsOf eh (dQ QE)))) hF G9;have Cz:FX ((ti,.arr 1 (rowsOf eh (dQ QE)))::(os.length+2,gW m (os.length+1) ci oi ti m.cls.length j)::(QE.map mR++BR m left os Q ci oi)) ob:=hF.perm (rJ.swap _ _ _);have GJ:=Cz.kill .gone;have zo:=aR fT;have Ee:=aR fG;have sT:=jm fT;have yn:=fW (y:=.gone) fG (Ne.symm Br);have Ef:=aR yn;have sG:=jm yn;have lT:(rowsOf eh (dQ QE)).length=j:=by rw[cF];simp[dQ,uL]
   have tT:jd j (rowsOf eh (dQ QE))=rowsOf eh (dQ QE):=dt Ey;have y8:rowsOf eh (dQ QE)++[[qy (ob.length+1,p.aB.length)]]=rowsOf eh (dQ (QE++[(ob.length+1,p.aB)])):=Pz QE (ob.length+1,p.aB);have uQ:=iS fG;repeat'(first|((fail_if_success (first|refine dW 23 ?_|refine dX 23 ?_));refine Xr (X3 @gj @bT @bH.{0}) ?_;intro K hK)|refine Xo (X3 @gj @bT @bH.{0}) ?_|(refine hK _ ?_;clear hK K)|(refine Xg (X3 @gj @bT @bH.{0}) ?_ ?_<;>try intro hb)|(refine Xi ?_ ?_<;>try intro ht)|refine Xy ?_|refine Xd ?_ ?_|exact Xx|fail)
   refine bP (σ':=⟨ar [(5,.ptr (os.length+2) 0 0),(16,.ptr ob.length 0 0),(90,.tree 4 (rowsOf aI m.ae)),(91,QM m.ae.length),(92,QM j)],ob++[.var (aI p)]⟩) (Xv @aI.eq_1) ?_;refine Ir (λs=>∃ q tn l4,FX (B2 m left os Q ci oi tn (j+1) (QE++[(q,p.aB)])) l4/\aD os.length s ⟨ar [(5,.ptr (os.length+2) 0 0),(90,.tree 4 (rowsOf aI m.ae)),(91,QM m.ae.length),(92,QM j)],l4⟩) ?_ ?_
   ·rintro s ⟨q,tn,l4,h1,h2⟩;repeat(first|refine Xu ?_)
    refine bP h2 ?_;((try revert hK K);(repeat'(first|refine Va X0 ?_|(refine V2 X0 ?_ ?_<;>try with_reducible intro hb)|(refine Xi ?_ ?_<;>try intro ht)|refine VD ?_ ?_|exact Xx|fail))<;>try with_reducible intro K hK)
    exact ak _ (j+1,QE++[(q,p.aB)],tn,l4) ⟨Hi,h1,by dsimp only;rw[dU,AE,ik,dU];rfl⟩ Hi (Xv X0)
   intro QQ key;clear ak aq;by_cases h0:p.aB.length=0
   ·have Kj:p.aB=[]:=List.length_eq_zero_iff.1 h0;have bI:=akP p.aB Ey;rw[Kj]at bI key;have hA3:rowsOf eh (dQ QE)++[[.tree 1 (ints [])]]=rowsOf eh (dQ (QE++[(ti,[])])):=Pz QE (ti,[]);have hg5:FX ((os.length+2,gW m (os.length+1) ci oi ti m.cls.length j)::(ti,.gone)::(QE.map mR++BR m left os Q ci oi)) (ob.set ti .gone):=(Cz.put .gone).perm (rJ.swap _ _ _);have lF:FX (B2 m left os Q ci oi (ob.length+2) (j+1) (QE++[(ti,[])])) ((ob.set ti .gone).set (os.length+2) (gW m (os.length+1) ci oi (ob.length+2) m.cls.length (j+1))++[.var [QM p.fst,QM p.snd,QM p.ej,.tree 1 (ints [])],.arr 1 [[.tree 1 (ints [])]],.arr 1 (rowsOf eh (dQ (QE++[(ti,[])])))]):=by
     have h:=(hg5.put (gW m (os.length+1) ci oi (ob.length+2) m.cls.length (j+1))).news (N:=[(ob.length+2,.arr 1 (rowsOf eh (dQ (QE++[(ti,[])]))))]) (l:=[.var [QM p.fst,QM p.snd,QM p.ej,.tree 1 (ints [])],.arr 1 [[.tree 1 (ints [])]],.arr 1 (rowsOf eh (dQ (QE++[(ti,[])])))]) (λq hq=>by
      simp only[bJ];rw[cS]at hq;subst hq;exact⟨2,rfl,rfl⟩) G9
     have h':=h.perm (am8 _ _ _ _ _);unfold B2;rw[dU,bH];exact h'
    rw[Kj]at y8 oJ;refine nf [] (.take 0 (.take 1 (.take 5 (.take 6 (.both 2 (.both 3 (.both 4 (.take 7 (.take 8 (.take 9 (.take 10 (.take 11 (.take 12 .nil)))))) 7 (.take 4 (.take 8 (.take 9 (.take 10 (.take 11 (.take 12 .nil))))))) 7 (.take 3 (.take 4 (.take 8 (.take 9 (.take 10 (.take 11 (.take 12 .nil)))))))) 7 (.take 2 (.take 3 (.take 4 (.take 8 (.take 9 (.take 10 (.take 11 (.take 12 .nil))))))))))))) rfl Hg (by decide +kernel) ?_;simp(disch:=omega)only[Ac,↓Pc,simprocAttr,Pw,fT,fG,zo,Ee,sT,yn,Ef,sG,lT,tT,hA3,aI,Kj,q7,bT,bH,bN];repeat'(first|with_reducible refine cD ?_ ?_|omega|with_reducible rfl)
    all_goals
     (refine Xn [] (bI) ?_;simp(disch:=omega)only[Ac,↓Pc,simprocAttr,Pw,fT,fG,zo,Ee,sT,yn,Ef,sG,lT,tT,hA3,aI,Kj,q7,bT,bH,bN])
     repeat'(first|with_reducible refine cD ?_ ?_|omega|with_reducible rfl)
    all_goals exact key _ ⟨ti,ob.length+2,_,lF,by exact Xv (X2 @gW.eq_1 @ao.eq_1)⟩
   ·have bI:=ab7 p.aB Ey Ey;have hA4:rowsOf eh (dQ QE)++[[.ref (ob.length+1) 1 0 p.aB.length]]=rowsOf eh (dQ (QE++[(ob.length+1,p.aB)])):=by rw[<- y8];unfold qy;rw[if_neg h0]
    have lF:FX (B2 m left os Q ci oi (ob.length+3) (j+1) (QE++[(ob.length+1,p.aB)])) ((ob.set ti .gone).set (os.length+2) (gW m (os.length+1) ci oi (ob.length+3) m.cls.length (j+1))++[.var (aI p),.arr 1 (ints p.aB),.arr 1 [[.ref (ob.length+1) 1 0 p.aB.length]],.arr 1 (rowsOf eh (dQ (QE++[(ob.length+1,p.aB)])))]):=by
     have h:=(GJ.put (gW m (os.length+1) ci oi (ob.length+3) m.cls.length (j+1))).news (N:=[(ob.length+3,.arr 1 (rowsOf eh (dQ (QE++[(ob.length+1,p.aB)])))),mR (ob.length+1,p.aB)]) (l:=[.var (aI p),.arr 1 (ints p.aB),.arr 1 [[.ref (ob.length+1) 1 0 p.aB.length]],.arr 1 (rowsOf eh (dQ (QE++[(ob.length+1,p.aB)])))]) (λq hq=>by
      simp only[bJ];simp only[bu,iI,or_false]at hq;rcases hq with rfl|rfl
      ·exact⟨3,rfl,rfl⟩
      ·refine⟨1,rfl,?_⟩;unfold mR;dsimp only;rw[if_neg (λe=>h0 (by rw[e];rfl))];rfl) (by simp[mR])
     have h':=h.perm (am7 _ _ _ _ _);unfold B2;rw[dU,bH];exact h'
    refine nf [] (.take 0 (.take 1 (.take 5 (.take 6 (.both 2 (.both 3 (.both 4 (.take 7 (.take 8 (.take 9 (.take 10 (.take 11 (.take 12 .nil)))))) 7 (.take 4 (.take 8 (.take 9 (.take 10 (.take 11 (.take 12 .nil))))))) 7 (.take 3 (.take 4 (.take 8 (.take 9 (.take 10 (.take 11 (.take 12 .nil)))))))) 7 (.take 2 (.take 3 (.take 4 (.take 8 (.take 9 (.take 10 (.take 11 (.take 12 .nil))))))))))))) rfl Hg (by decide +kernel) ?_;simp(disch:=omega)only[Ac,↓Pc,simprocAttr,Pw,fT,fG,zo,Ee,sT,yn,Ef,sG,lT,tT,hA4,aI,q7,bT,bH,bN];repeat'(first|with_reducible refine cD ?_ ?_|omega|with_reducible rfl)
    all_goals
     (refine Xn [] (bI) ?_;simp(disch:=omega)only[Ac,↓Pc,simprocAttr,Pw,fT,fG,zo,Ee,sT,yn,Ef,sG,lT,tT,hA4,aI,q7,bT,bH,bN,Hu])
     repeat'(first|with_reducible refine cD ?_ ?_|omega|with_reducible rfl)
    all_goals exact key _ ⟨ob.length+1,ob.length+3,_,lF,by exact Xv (X3 @gW.eq_1 @ao.eq_1 @aI.eq_1)⟩
  ·obtain rfl:j=m.ae.length:=Ey;rw[xd]at AE;((try revert hK K);(repeat'(first|refine Va X0 ?_|(refine V2 X0 ?_ ?_<;>try with_reducible intro hb)|(refine Xi ?_ ?_<;>try intro ht)|refine VD ?_ ?_|exact Xx|fail))<;>try with_reducible intro K hK)
   refine aq _ _ rfl ?_;clear ak aq Ql;repeat(first|refine Xu ?_)
   have fG:=hF.at_ (os.length+2,gW m (os.length+1) ci oi ti m.cls.length m.ae.length) (by simp[B2]);have fC:=hF.at_ (ci,.arr 1 (rowsOf aA (er m left m.cls.length))) (by simp[B2,BR]);dsimp only at fG fC;unfold gW at fG;refine bP (aD.v7 ci (os.length+2) 4 1 (cells:=ao m++[.ref ci 1 0 m.cls.length,.ref oi 1 0 m.cls.length,.ref ti 1 0 m.ae.length,.dD (os.length+1)]) (rows:=rowsOf aA (er m left m.cls.length)) fG fC (by rw[cF];simp[er,ao]) (iA _) (mF _)) ?_;obtain⟨hWF,qv,iy⟩:=am' hQ AE hF;have hlen:os.length<=((ob.set ci .gone).set (os.length+2) (.var (ao m++[.tree 1 (rowsOf aA (er m left m.cls.length)),.ref oi 1 0 m.cls.length,.ref ti 1 0 m.ae.length,.dD (os.length+1)]))).length:=by
    have:=iS fG;simp only[bJ];omega
   refine bP (σ':=⟨ar [(5,.ptr (os.length+2) 0 0)],(ob.set ci .gone).set (os.length+2) (.var (ao m++[.tree 1 (rowsOf aA (er m left m.cls.length)),.ref oi 1 0 m.cls.length,.ref ti 1 0 m.ae.length,.dD (os.length+1)]))⟩) (Xv @ao.eq_1) ?_;generalize (ob.set ci .gone).set (os.length+2) (.var (ao m++[.tree 1 (rowsOf aA (er m left m.cls.length)),.ref oi 1 0 m.cls.length,.ref ti 1 0 m.ae.length,.dD (os.length+1)]))=o9 at *;have uQ:=iS hWF.v;((try revert hK K);(repeat'(first|refine Vb X0 ?_|(refine V2 X0 ?_ ?_<;>try with_reducible intro hb)|(refine Xi ?_ ?_<;>try intro ht)|refine VD ?_ ?_|exact Xx|fail))<;>try with_reducible intro K hK)
   unfold fU;simp only[dV,dP];simp(disch:=omega)only[Ac,↓Pc,simprocAttr];exact⟨_,_,⟨_,_,_,_,_,_,rfl,hWF,hlen,qv,Ey,iy⟩,eN rfl hlen rfl⟩
end
end T

