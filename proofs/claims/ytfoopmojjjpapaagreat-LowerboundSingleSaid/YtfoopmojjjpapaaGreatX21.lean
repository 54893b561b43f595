import Derived.Test.YtfoopmojjjpapaaGreatX19
import Derived.Test.YtfoopmojjjpapaaGreatX20
set_option linter.all false
set_option maxHeartbeats 0
set_option maxRecDepth 20000
open List renaming map_append→dS,range→bu,getElem?_map→bI,getElem?_range→kX,getD_eq_getElem?_getD→az,getElem?_eq_getElem→bF,getElem?_eq_none→dK,map_map→u5,mem_range→oF,mem_append→cG,nodup_append→p9,mem_map→bW,nodup_cons→mX,mem_cons→bw,mem_cons_self→xV,mem_cons_of_mem→dR,Perm→qV,perm_middle→za,length→jB,mem_append_right→y9,mem_append_left→DY,Sublist→Ch
open Nat renaming lt_or_ge→dP
open Go Go.Am
namespace T
def BY(q:List Int×Int):Mv:=⟨q.1.getD 0 0,q.1.getD 1 0,q.1.getD 2 0,q.2⟩
def mz(am:List (List Int×Int))(seen:List Nat):List Mv:=(seen.filter λj=>decide ((am.getD j default).2≠0)).map λj=>BY (am.getD j default)
def kU(am:List (List Int×Int)):List Mv:=(am.filter λq=>decide (q.2≠0)).map BY
def amo(am:List (List Int×Int))(seen:List Nat)(j:Nat):mz am (seen++[j])=if(am.getD j default).2≠0 then mz am seen++[BY (am.getD j default)] else mz am seen:=by
 unfold mz;rw[List.filter_append,dS];split
 ·rename_i h;rw[List.filter_cons_of_pos (by simpa using h)];rfl
 ·rename_i h;rw[List.filter_cons_of_neg (by simpa using h)];simp
def acW(am:List (List Int×Int))(seen:List Nat):(mz am seen).length<=seen.length:=by
 unfold mz;rw[List.length_map];exact List.length_filter_le _ _
def amp(am:List (List Int×Int)):mz am (bu am.length)=kU am:=by
 have e:am=(bu am.length).map λj=>am.getD j default:=by
  apply List.ext_getElem?;intro k;rw[bI];rcases dP k am.length with h|h
  ·rw[kX h,Option.map_some,az,bF h];rfl
  ·rw[dK h,dK (by simpa using h)];rfl
 unfold mz kU
 conv=>rhs;rw[e]
 rw[List.filter_map,u5];rfl
def acX{seen:List Nat}{n:Nat}(hn:seen.Nodup)(hl:∀ j∈seen,j<n)(ha:∀ j<n,j∈seen):seen.Perm (bu n) :=
 (List.perm_ext_iff_of_nodup hn List.nodup_range).2 λa=>⟨λh=>oF.2 (hl a h),λh=>ha a (oF.1 h)⟩
def amq{am:List (List Int×Int)}{seen:List Nat}(hn:seen.Nodup)(hl:∀ j∈seen,j<am.length)(ha:∀ j<am.length,j∈seen):(mz am seen).Perm (kU am):=by
 rw[<- amp];exact((acX hn hl ha).filter _).map _
def yS(id:Nat)(X:List Mv):AV:=if X=[] then .lit (.slice none 0 0) else .ref id 4 0 X.length
def xM(id:Nat)(X:List Mv)(os:List Ob):List Ob:=if X=[] then os else os.set id .gone
def amr(id:Nat)(X:List Mv)(os:List Ob):(xM id X os).length=os.length:=by unfold xM;split<;>simp
def ams{id:Nat}{X:List Mv}{os:List Ob}(h:X≠[]->id<os.length)(l:List Ob):xM id X (os++l)=xM id X os++l:=by
 unfold xM;split
 ·rfl
 ·rename_i hx;rw[List.set_append_left _ _ (h hx)]
def amu{id:Nat}{X:List Mv}{os:List Ob}{k:Nat}{o:Ob}(h:os[k]?=some o)(hk:X≠[]->k≠id):(xM id X os)[k]?=some o:=by
 unfold xM;split
 ·exact h
 ·rename_i hx;exact fJ h (Ne.symm (hk hx))
def amv{id:Nat}{X:List Mv}{os:List Ob}(h:X≠[]->os[id]?=some (.arr 4 (rowsOf aU X)))(l:List Ob)(e:Nat->AV):lW ⟨e,os++l⟩ 4 (yS id X)=some (rowsOf aU X,⟨e,xM id X os++l⟩):=by
 rw[<- ams (λhx=>iY (h hx))];unfold yS xM;by_cases hx:X=[]
 ·rw[if_pos hx,if_pos hx,hx];rfl
 ·rw[if_neg hx,if_neg hx];unfold lW;simp only[aN (h hx),and_self,if_true,List.drop_zero];rw[List.take_of_length_le (by rw[cH];exact Nat.le_refl _)]
def amw(id:Nat)(X:List Mv)(x:Mv):AV.ref id 4 0 (X.length+1)=yS id (X++[x]):=by
 unfold yS;rw[if_neg GM];simp
structure FX(B:List (Nat×Ob))(ob:List Ob):Prop where
 at_:∀ b∈B,ob[b.1]?=some b.2
 nd:(B.map (·.1)).Nodup
section
variable {B B' N:List (Nat×Ob)} {ob l:List Ob}
def FX.app(h:FX B ob)(l:List Ob):FX B (ob++l):=⟨λb hb=>aN (h.at_ b hb) l,h.nd⟩
def FX.perm(h:FX B ob)(hp:B.Perm B'):FX B' ob:=⟨λb hb=>h.at_ b (hp.mem_iff.2 hb),(hp.map _).nodup_iff.1 h.nd⟩
def FX.sub(h:FX B ob)(hs:B'.Sublist B):FX B' ob:=⟨λb hb=>h.at_ b (hs.subset hb),(hs.map _).nodup h.nd⟩
def FX.news(h:FX B ob)(hN:∀ p∈N,∃ j,p.1=ob.length+j/\l[j]?=some p.2)(hd:(N.map (·.1)).Nodup):FX (N++B) (ob++l):=by
 refine⟨λb hb=>?_,?_⟩
 ·rcases cG.1 hb with hb|hb
  ·obtain⟨j,e1,e2⟩:=hN b hb;rw[e1,kP];exact e2
  ·exact aN (h.at_ b hb) l
 ·rw[dS];refine p9.2 ⟨hd,h.nd,λa ha b hb e=>?_⟩;obtain⟨p,hp,rfl⟩:=bW.1 ha;obtain⟨q,hq,rfl⟩:=bW.1 hb;obtain⟨j,e1,_⟩:=hN p hp;have:=iY (h.at_ q hq);omega
def FX.put{i:Nat}{x:Ob}(h:FX ((i,x)::B) ob)(y:Ob):FX ((i,y)::B) (ob.set i y):=by
 have hn:=(mX.1 h.nd).1;refine⟨λb hb=>?_,h.nd⟩;rcases bw.1 hb with rfl|hb
 ·exact mR (h.at_ _ (xV ..))
 ·exact fJ (h.at_ b (dR _ hb)) (λe=>hn (bW.2 ⟨b,hb,e.symm⟩))
def FX.kill{i:Nat}{x:Ob}(h:FX ((i,x)::B) ob)(y:Ob):FX B (ob.set i y):=(h.put y).sub (List.sublist_cons_self _ _)
def FX.start(os:List Ob):FX (oY os) os:=by
 refine⟨λb hb=>Ad.1 hb,?_⟩;unfold oY;rw[u5];have:(os.zipIdx.map ((λx:Nat×Ob=>x.1) ∘ λq:Ob×Nat=>(q.2,q.1)))=os.zipIdx.map Prod.snd:=rfl;rw[this,List.zipIdx_map_snd];exact List.nodup_range'
def FX.ne{a b:Nat×Ob}{P S:List (Nat×Ob)}(h:FX (P++a::S) ob)(hb:b∈S):a.1≠b.1:=λe=>by
 have hn:=h.nd;rw[dS]at hn;have:=(p9.1 hn).2.1;exact(mX.1 this).1 (bW.2 ⟨b,hb,e.symm⟩)
end
def pX(q:Nat×Nat):AV:=if q.2=0 then .tree 1 [] else .ref q.1 1 0 q.2
def amx(q:Nat×Nat):dZ q=[pX q]:=by unfold dZ pX;rfl
def alm(q:Nat×Nat):c8 (pX q)=true:=by unfold pX;split<;>rfl
def my(q:Nat×List Int):Nat×Ob:=(q.1,if q.2=[] then .gone else .arr 1 (ints q.2))
def dQ(Q:List (Nat×List Int)):List (Nat×Nat):=Q.map λq=>(q.1,q.2.length)
def OH(Q:List (Nat×List Int))(q:Nat×List Int):rowsOf dZ (dQ Q)++[[pX (q.1,q.2.length)]]=rowsOf dZ (dQ (Q++[q])):=by
 unfold rowsOf dQ;rw[dS,dS];simp[amx]
def gT(l:List cz)(r:List Bool):List Bool:=(bu l.length).map λi=>r.getD i false&&decide (rK (l.getD i default)<1099511627776)
def eh(m:ah)(left:List (List Bool))(n:Nat):List (List Bool):=(bu n).map λc=>gT (m.cls.getD c default) (left.getD c default)
def W0(m:ah):WS:=⟨m.cls.map b9,m.ae.map (·.ay),[]⟩
def ak7(m:ah)(left:List (List Bool))(n:Nat):eh m left (n+1)=eh m left n++[gT (m.cls.getD n default) (left.getD n default)]:=by
 unfold eh;rw[List.range_succ,dS];rfl
def amy(m:ah)(left:List (List Bool)):dh m (eh m left m.cls.length):=by
 refine⟨by simp[eh],λi hi=>?_⟩;have ar:i<m.cls.length:=by simpa [eh] using hi
 unfold eh;rw[az,bI,kX ar];simp[gT]
def gW(m:ah)(mi ci oi ti c e:Nat):Ob:=.var (an m++[.ref ci 1 0 c,.ref oi 1 0 c,.ref ti 1 0 e,.dD mi])
def BW(m:ah)(left:List (List Bool))(os:List Ob)(c:Nat)(Q:List (Nat×List Int))(ci oi:Nat):List (Nat×Ob) :=
 (os.length+2,gW m (os.length+1) ci oi (os.length+5) c 0)::(ci,.arr 1 (rowsOf aC (eh m left c)))::(oi,.arr 1 (rowsOf dZ (dQ Q)))::(os.length+5,.arr 1 [])::(os.length,.var (an m))::(os.length+1,.mp 3 [])::(Q.map my++oY os)
def BW0(m:ah)(left:List (List Bool))(os:List Ob):FX (BW m left os 0 [] (os.length+3) (os.length+4)) (os++[.var (an m),.mp 3 [],gW m (os.length+1) (os.length+3) (os.length+4) (os.length+5) 0 0,.arr 1 [],.arr 1 [],.arr 1 []]):=by
 have h:=(FX.start os).news (N:=[(os.length+2,gW m (os.length+1) (os.length+3) (os.length+4) (os.length+5) 0 0),(os.length+3,.arr 1 []),(os.length+4,.arr 1 []),(os.length+5,.arr 1 []),(os.length,.var (an m)),(os.length+1,.mp 3 [])])
  (l:=[.var (an m),.mp 3 [],gW m (os.length+1) (os.length+3) (os.length+4) (os.length+5) 0 0,.arr 1 [],.arr 1 [],.arr 1 []]) (λp hp=>by
   simp only[bw,List.not_mem_nil,or_false]at hp;rcases hp with rfl|rfl|rfl|rfl|rfl|rfl
   ·exact⟨2,rfl,rfl⟩
   ·exact⟨3,rfl,rfl⟩
   ·exact⟨4,rfl,rfl⟩
   ·exact⟨5,rfl,rfl⟩
   ·exact⟨0,rfl,rfl⟩
   ·exact⟨1,rfl,rfl⟩) GM
 exact h
def ak9{α:Type}(a b c d:α)(R:List α):(a::b::c::d::R).Perm (c::d::b::a::R) :=
 ((List.perm_append_comm (l₁:=[a,b]) (l₂:=[c,d])).trans (qV.append_left [c,d] (qV.swap b a []))).append_right R
def alo{α:Type}(ca ow g rb t n n1:α)(R S:List α):(ca::ow::g::rb::t::n::n1::(R++S)).Perm (g::ca::ow::t::n::n1::(R++rb::S)) :=
 (za (l₁:=[ca,ow])).trans (qV.append_left [g,ca,ow] (za (l₁:=t::n::n1::R) (l₂:=S)).symm)
def BR(m:ah)(left:List (List Bool))(os:List Ob)(Q:List (Nat×List Int))(ci oi:Nat):List (Nat×Ob) :=
 (ci,.arr 1 (rowsOf aC (eh m left m.cls.length)))::(oi,.arr 1 (rowsOf dZ (dQ Q)))::(os.length,.var (an m))::(os.length+1,.mp 3 [])::(Q.map my++oY os)
def B2(m:ah)(left:List (List Bool))(os:List Ob)(Q:List (Nat×List Int))(ci oi ti e:Nat)(QE:List (Nat×List Int)):List (Nat×Ob) :=
 (os.length+2,gW m (os.length+1) ci oi ti m.cls.length e)::(ti,.arr 1 (rowsOf dZ (dQ QE)))::(QE.map my++BR m left os Q ci oi)
def alp{α:Type}(g ca ow t n n1:α)(S:List α):(g::ca::ow::t::n::n1::S).Perm (g::t::ca::ow::n::n1::S) :=
 qV.append_left [g] (za (l₁:=[ca,ow]) (l₂:=n::n1::S))
def als{α:Type}(tn rb g:α)(R S:List α):(tn::rb::g::(R++S)).Perm (g::tn::(R++rb::S)) :=
 (za (l₁:=[tn,rb]) (l₂:=R++S)).trans (qV.append_left [g] ((za (l₁:=tn::R) (l₂:=S)).symm.trans (qV.refl _) |> λh=>(qV.swap rb tn (R++S)).trans h))
def alr{α:Type}(tn g rb:α)(R S:List α):(tn::g::rb::(R++S)).Perm (g::tn::(R++rb::S)) :=
 (qV.swap g tn _).trans (qV.append_left [g,tn] (za (l₁:=R) (l₂:=S)).symm)
def amz{Q:List (Nat×List Int)}{j:Nat}(h:j<Q.length):(dQ Q).getD j default=((Q.getD j default).1,(Q.getD j default).2.length):=by
 unfold dQ;rw[az,bI,az,bF h];rfl
def acY{Q:List (Nat×List Int)}{S:List (List Int)}{ob:List Ob}(hQ:Q.map (·.2)=S)(h:∀ q∈Q.map my,ob[q.1]?=some q.2):R1 ob (dQ Q) S:=by
 subst hQ;refine⟨by simp[dQ],λj hj=>?_⟩;have fe:j<Q.length:=by simpa [dQ] using hj
 rw[amz fe,Ot fe];refine⟨rfl,λh0=>?_⟩;have h1:=h _ (List.mem_map_of_mem (aF (l:=Q) (i:=j) (d:=default) fe));unfold my at h1;dsimp only at h1 h0;rw[if_neg (λe=>by rw[e]at h0;exact absurd h0 GS)]at h1;exact h1
def alu{m:ah}{left:List (List Bool)}{os ob:List Ob}{Q QE:List (Nat×List Int)}{ci oi ti:Nat}(hQ:Q.map (·.2)=m.cls.map b9)(Ag:QE.map (·.2)=m.ae.map (·.ay))(hF:FX (B2 m left os Q ci oi ti m.ae.length QE) ob):
  WF m (eh m left m.cls.length) (os.length+2) oi ti (os.length+1) (dQ Q) (dQ QE) (W0 m) ((ob.set ci .gone).set (os.length+2) (.var (an m++[.tree 1 (rowsOf aC (eh m left m.cls.length)),.ref oi 1 0 m.cls.length,.ref ti 1 0 m.ae.length,.dD (os.length+1)]))) /\
  (∀ (i:Nat) o,os[i]?=some o->((ob.set ci .gone).set (os.length+2) (.var (an m++[.tree 1 (rowsOf aC (eh m left m.cls.length)),.ref oi 1 0 m.cls.length,.ref ti 1 0 m.ae.length,.dD (os.length+1)])))[i]?=some o)/\∀ i∈(dQ Q++dQ QE).map (·.1),os.length<=i:=by
 have hlQ:(dQ Q).length=m.cls.length:=by have:=congrArg jB hQ;simp[dQ]at this ⊢;exact this
 have hlE:(dQ QE).length=m.ae.length:=by have:=congrArg jB Ag;simp[dQ]at this ⊢;exact this
 have h1:=hF.perm ((za (l₁:=(os.length+2,gW m (os.length+1) ci oi ti m.cls.length m.ae.length)::(ti,.arr 1 (rowsOf dZ (dQ QE)))::QE.map my) (l₂:=(oi,.arr 1 (rowsOf dZ (dQ Q)))::(os.length,.var (an m))::(os.length+1,.mp 3 [])::(Q.map my++oY os))):(B2 m left os Q ci oi ti m.ae.length QE).Perm _);have h2:=((h1.put .gone).perm (qV.swap _ _ _)).put (.var (an m++[.tree 1 (rowsOf aC (eh m left m.cls.length)),.ref oi 1 0 m.cls.length,.ref ti 1 0 m.ae.length,.dD (os.length+1)]));generalize bP:(ob.set ci .gone).set (os.length+2) (.var (an m++[.tree 1 (rowsOf aC (eh m left m.cls.length)),.ref oi 1 0 m.cls.length,.ref ti 1 0 m.ae.length,.dD (os.length+1)]))=ob' at *;have ot:=h2.at_;have hrQ:∀ q∈Q.map my,ob'[q.1]?=some q.2:=λq hq=>ot q (dR _ (dR _ (dR _ (y9 _ (dR _ (dR _ (dR _ (DY _ hq))))))));have hrE:∀ q∈QE.map my,ob'[q.1]?=some q.2:=λq hq=>ot q (dR _ (dR _ (dR _ (DY _ hq))));have fQ:(dQ Q).map (·.1)=(Q.map my).map (·.1):=by unfold dQ;rw[u5,u5];rfl
 have fE:(dQ QE).map (·.1)=(QE.map my).map (·.1):=by unfold dQ;rw[u5,u5];rfl
 have hn:((os.length+2)::ci::ti::((dQ QE).map (·.1)++(oi::os.length::(os.length+1)::((dQ Q).map (·.1)++(oY os).map (·.1))))).Nodup:=by
  have h4:=h2.nd;rw[fQ,fE];simp only[List.map_cons,List.append_eq,List.cons_append,dS]at h4;exact h4
 have gd:∀ i,i∈(dQ Q).map (·.1)\/i∈(dQ QE).map (·.1)->os.length<=i:=λi hi=>by
  rcases dP i os.length with aX|gd
  ·exfalso;have hm:i∈(oY os).map (·.1):=bW.2 ⟨(i,os[i]),Ad.2 (bF aX),rfl⟩;have n3:=(mX.1 (mX.1 (mX.1 hn).2).2).2;obtain⟨_,n4,n5⟩:=p9.1 n3;rcases hi with hi|hi
   ·have n6:=(mX.1 (mX.1 (mX.1 n4).2).2).2;exact(p9.1 n6).2.2 i hi i hm rfl
   ·exact n5 i hi i (dR _ (dR _ (dR _ (y9 _ hm)))) rfl
  ·exact gd
 refine⟨⟨?_,?_,?_,?_,acY hQ hrQ,acY Ag hrE,?_,λi hi=>?_⟩,λi o hi=>?_,λi hi=>?_⟩
 ·rw[hlQ,hlE];exact ot _ (xV ..)
 ·exact ot (oi,.arr 1 (rowsOf dZ (dQ Q))) (dR _ (dR _ (dR _ (y9 _ (xV ..)))))
 ·exact ot (ti,.arr 1 (rowsOf dZ (dQ QE))) (dR _ (dR _ (xV ..)))
 ·exact ot (os.length+1,.mp 3 []) (dR _ (dR _ (dR _ (y9 _ (dR _ (dR _ (xV ..)))))))
 ·rw[dS];generalize (dQ Q).map (·.1)=a at *;generalize (dQ QE).map (·.1)=b at *;have hs:((os.length+2)::ti::(b++(oi::(os.length+1)::a))).Sublist ((os.length+2)::ci::ti::(b++oi::os.length::(os.length+1)::(a++List.map (·.1) (oY os)))):=by
   refine Ch.cons_cons _ (Ch.cons _ (Ch.cons_cons _ (Ch.append (Ch.refl _) (Ch.cons_cons _ (Ch.cons _ (Ch.cons_cons _ (List.sublist_append_left _ _)))))))
  have h3:=hs.nodup hn;refine(qV.nodup_iff ?_).1 h3;exact qV.append_left [os.length+2] ((qV.append_left [ti] (List.perm_append_comm (l₁:=b) (l₂:=oi::(os.length+1)::a))).trans (qV.swap oi ti _))
 ·rw[dS,fQ,fE]at hi;rcases cG.1 hi with hi|hi
  ·obtain⟨q,hq,rfl⟩:=bW.1 hi;exact iY (hrQ q hq)
  ·obtain⟨q,hq,rfl⟩:=bW.1 hi;exact iY (hrE q hq)
 ·exact ot (i,o) (dR _ (dR _ (dR _ (y9 _ (dR _ (dR _ (dR _ (y9 _ (Ad.2 hi)))))))))
 ·rw[dS]at hi;exact gd i (cG.1 hi)
def ak5{n0:Nat}(m:ah)(os:List Ob)(A M:Ob)(mi:Nat)(e:Nat->AV):aH n0 ⟨e,os++[A,M,.var (an m++[.lit (.slice none 0 0),.lit (.slice none 0 0),.lit (.slice none 0 0),.dD mi])]⟩
  ⟨e,os++[A,M,gW m mi (os.length+3) (os.length+4) (os.length+5) 0 0,.arr 1 [],.arr 1 [],.arr 1 []]⟩:=by
 have key:∀ (l l2:List Ob) (c k:Nat) (cells:List AV),l[2]?=some (.var cells)->cells[c]?=some (.lit (.slice none 0 0))->l.length=k->l2=(l++[Ob.arr 1 []]).set 2 (.var (cells.set c (.ref (os.length+k) 1 0 0)))->aH n0 ⟨e,os++l⟩ ⟨e,os++l2⟩:=by
  intro l l2 c k cells h1 h2 h3 h4;have h:=aH.rA (n0:=n0) (σ:=⟨e,os++l⟩) (os.length+2) c 1 (cells:=cells) (by dsimp only;rw[kP];exact h1) h2 GS;dsimp only at h;rw[List.append_assoc,E6,List.length_append,h3]at h;rw[h4];exact h
 refine(key _ [A,M,.var (an m++[.ref (os.length+3) 1 0 0,.lit (.slice none 0 0),.lit (.slice none 0 0),.dD mi]),.arr 1 []] 4 3 _ rfl rfl rfl rfl).trans ?_;refine(key _ [A,M,.var (an m++[.ref (os.length+3) 1 0 0,.ref (os.length+4) 1 0 0,.lit (.slice none 0 0),.dD mi]),.arr 1 [],.arr 1 []] 5 4 _ rfl rfl rfl rfl).trans ?_;exact key _ _ 6 5 _ rfl rfl rfl rfl
end T

