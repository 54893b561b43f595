import Derived.Test.YtfoopmojjjpapaaGreatX32
import Derived.Test.YtfoopmojjjpapaaGreatX26
set_option linter.all false
set_option maxHeartbeats 0
set_option maxRecDepth 20000
open List renaming mem_append→cT,map_append→dH,nodup_append→ny,mem_map→bS,nodup_cons→mJ,mem_cons→bm,mem_cons_self→wx,mem_cons_of_mem→dw,map_map→wu,range→bk,range_succ→tR,getD_eq_getElem?_getD→ax,getElem?_map→bV,getElem?_range→pX,not_mem_nil→iT,Perm→p9,perm_middle→xO,getElem?_eq_getElem→bq,length→kC,mem_append_right→xN,mem_append_left→CJ,map_cons→fP,cons_append→ek,Sublist→AW,append_assoc→bz,length_append→bL,replicate→aO,set_set→rf,length_set→bw,mem_singleton→c8,map_set→p6,length_replicate→nt,take→ja,length_take→fe,take_length→ze,take_of_length_le→cZ,nil_append→gv
open Nat renaming sub_self→kW,zero_le→aW
open And renaming intro→cQ
open Go Go.Am Go.Proofs
namespace T
structure FX(B:List (Nat×Ob))(ob:List Ob):Prop where
 at_:∀ b∈B,ob[b.1]?=some b.2
 nd:(B.map (·.1)).Nodup
section
variable {B B' N:List (Nat×Ob)} {ob l:List Ob}
def FX.app(h:FX B ob)(l:List Ob):FX B (ob++l):=⟨λb hb=>aK (h.at_ b hb) l,h.nd⟩
def FX.perm(h:FX B ob)(hp:B.Perm B'):FX B' ob:=⟨λb hb=>h.at_ b (hp.mem_iff.2 hb),(hp.map _).nodup_iff.1 h.nd⟩
def FX.sub(h:FX B ob)(hs:B'.Sublist B):FX B' ob:=⟨λb hb=>h.at_ b (hs.subset hb),(hs.map _).nodup h.nd⟩
def FX.news(h:FX B ob)(hN:∀ p∈N,∃ j,p.1=ob.length+j/\l[j]?=some p.2)(hd:(N.map (·.1)).Nodup):FX (N++B) (ob++l):=by
 refine⟨λb hb=>?_,?_⟩
 ·rcases cT.1 hb with hb|hb
  ·obtain⟨j,e1,e2⟩:=hN b hb;rw[e1,kN];exact e2
  ·exact aK (h.at_ b hb) l
 ·rw[dH];refine ny.2 ⟨hd,h.nd,λa ha b hb e=>?_⟩;obtain⟨p,hp,rfl⟩:=bS.1 ha;obtain⟨q,hq,rfl⟩:=bS.1 hb;obtain⟨j,e1,_⟩:=hN p hp;have:=gX (h.at_ q hq);omega
def FX.put{i:Nat}{x:Ob}(h:FX ((i,x)::B) ob)(y:Ob):FX ((i,y)::B) (ob.set i y):=by
 have hn:=(mJ.1 h.nd).1;refine⟨λb hb=>?_,h.nd⟩;rcases bm.1 hb with rfl|hb
 ·exact lS (h.at_ _ (wx ..))
 ·exact eU (h.at_ b (dw _ hb)) (λe=>hn (bS.2 ⟨b,hb,e.symm⟩))
def FX.kill{i:Nat}{x:Ob}(h:FX ((i,x)::B) ob)(y:Ob):FX B (ob.set i y):=(h.put y).sub (List.sublist_cons_self _ _)
def FX.start(os:List Ob):FX (nU os) os:=by
 refine⟨λb hb=>yS.1 hb,?_⟩;unfold nU;rw[wu];have:(os.zipIdx.map ((λx:Nat×Ob=>x.1) ∘ λq:Ob×Nat=>(q.2,q.1)))=os.zipIdx.map Prod.snd:=rfl;rw[this,List.zipIdx_map_snd];exact List.nodup_range'
def FX.ne{a b:Nat×Ob}{P S:List (Nat×Ob)}(h:FX (P++a::S) ob)(hb:b∈S):a.1≠b.1:=λe=>by
 have hn:=h.nd;rw[dH]at hn;have:=(ny.1 hn).2.1;exact(mJ.1 this).1 (bS.2 ⟨b,hb,e.symm⟩)
end
def oS(q:Nat×Nat):AV:=if q.2=0 then .tree 1 [] else .ref q.1 1 0 q.2
def aj0(q:Nat×Nat):dE q=[oS q]:=by unfold dE oS;rfl
def aj1(q:Nat×Nat):cR (oS q)=true:=by unfold oS;split<;>rfl
def lA(q:Nat×List Int):Nat×Ob:=(q.1,if q.2=[] then .gone else .arr 1 (ints q.2))
def dQ(Q:List (Nat×List Int)):List (Nat×Nat):=Q.map λq=>(q.1,q.2.length)
def M7(Q:List (Nat×List Int))(q:Nat×List Int):rowsOf dE (dQ Q)++[[oS (q.1,q.2.length)]]=rowsOf dE (dQ (Q++[q])):=by
 unfold rowsOf dQ;rw[dH,dH];simp[aj0]
def gu(l:List cP)(r:List Bool):List Bool:=(bk l.length).map λi=>r.getD i false&&decide (qN (l.getD i default)<1099511627776)
def dG(m:ah)(left:List (List Bool))(n:Nat):List (List Bool):=(bk n).map λc=>gu (m.cls.getD c default) (left.getD c default)
def W0(m:ah):WS:=⟨m.cls.map b7,m.ae.map (·.aB),[]⟩
def aj2(m:ah)(left:List (List Bool))(n:Nat):dG m left (n+1)=dG m left n++[gu (m.cls.getD n default) (left.getD n default)]:=by
 unfold dG;rw[tR,dH];rfl
def ajs(m:ah)(left:List (List Bool)):cp m (dG m left m.cls.length):=by
 refine⟨by simp[dG],λi hi=>?_⟩;have ar:i<m.cls.length:=by simpa [dG] using hi
 unfold dG;rw[ax,bV,pX ar];simp[gu]
def gW(m:ah)(mi ci oi ti c e:Nat):Ob:=.var (aq m++[.ref ci 1 0 c,.ref oi 1 0 c,.ref ti 1 0 e,.c9 mi])
def BW(m:ah)(left:List (List Bool))(os:List Ob)(c:Nat)(Q:List (Nat×List Int))(ci oi:Nat):List (Nat×Ob) :=
 (os.length+2,gW m (os.length+1) ci oi (os.length+5) c 0)::(ci,.arr 1 (rowsOf ay (dG m left c)))::(oi,.arr 1 (rowsOf dE (dQ Q)))::(os.length+5,.arr 1 [])::(os.length,.var (aq m))::(os.length+1,.mp 3 [])::(Q.map lA++nU os)
def BW0(m:ah)(left:List (List Bool))(os:List Ob):FX (BW m left os 0 [] (os.length+3) (os.length+4)) (os++[.var (aq m),.mp 3 [],gW m (os.length+1) (os.length+3) (os.length+4) (os.length+5) 0 0,.arr 1 [],.arr 1 [],.arr 1 []]):=by
 have h:=(FX.start os).news (N:=[(os.length+2,gW m (os.length+1) (os.length+3) (os.length+4) (os.length+5) 0 0),(os.length+3,.arr 1 []),(os.length+4,.arr 1 []),(os.length+5,.arr 1 []),(os.length,.var (aq m)),(os.length+1,.mp 3 [])])
  (l:=[.var (aq m),.mp 3 [],gW m (os.length+1) (os.length+3) (os.length+4) (os.length+5) 0 0,.arr 1 [],.arr 1 [],.arr 1 []]) (λp hp=>by
   simp only[bm,iT,or_false]at hp;rcases hp with rfl|rfl|rfl|rfl|rfl|rfl
   ·exact⟨2,rfl,rfl⟩
   ·exact⟨3,rfl,rfl⟩
   ·exact⟨4,rfl,rfl⟩
   ·exact⟨5,rfl,rfl⟩
   ·exact⟨0,rfl,rfl⟩
   ·exact⟨1,rfl,rfl⟩) IM
 exact h
def aj4{α:Type}(a b c d:α)(R:List α):(a::b::c::d::R).Perm (c::d::b::a::R) :=
 ((List.perm_append_comm (l₁:=[a,b]) (l₂:=[c,d])).trans (p9.append_left [c,d] (p9.swap b a []))).append_right R
def aj5{α:Type}(ca ow g rb t n n1:α)(R S:List α):(ca::ow::g::rb::t::n::n1::(R++S)).Perm (g::ca::ow::t::n::n1::(R++rb::S)) :=
 (xO (l₁:=[ca,ow])).trans (p9.append_left [g,ca,ow] (xO (l₁:=t::n::n1::R) (l₂:=S)).symm)
def BR(m:ah)(left:List (List Bool))(os:List Ob)(Q:List (Nat×List Int))(ci oi:Nat):List (Nat×Ob) :=
 (ci,.arr 1 (rowsOf ay (dG m left m.cls.length)))::(oi,.arr 1 (rowsOf dE (dQ Q)))::(os.length,.var (aq m))::(os.length+1,.mp 3 [])::(Q.map lA++nU os)
def B2(m:ah)(left:List (List Bool))(os:List Ob)(Q:List (Nat×List Int))(ci oi ti e:Nat)(QE:List (Nat×List Int)):List (Nat×Ob) :=
 (os.length+2,gW m (os.length+1) ci oi ti m.cls.length e)::(ti,.arr 1 (rowsOf dE (dQ QE)))::(QE.map lA++BR m left os Q ci oi)
def aj6{α:Type}(g ca ow t n n1:α)(S:List α):(g::ca::ow::t::n::n1::S).Perm (g::t::ca::ow::n::n1::S) :=
 p9.append_left [g] (xO (l₁:=[ca,ow]) (l₂:=n::n1::S))
def aj7{α:Type}(tn rb g:α)(R S:List α):(tn::rb::g::(R++S)).Perm (g::tn::(R++rb::S)) :=
 (xO (l₁:=[tn,rb]) (l₂:=R++S)).trans (p9.append_left [g] ((xO (l₁:=tn::R) (l₂:=S)).symm.trans (p9.refl _) |> λh=>(p9.swap rb tn (R++S)).trans h))
def aj8{α:Type}(tn g rb:α)(R S:List α):(tn::g::rb::(R++S)).Perm (g::tn::(R++rb::S)) :=
 (p9.swap g tn _).trans (p9.append_left [g,tn] (xO (l₁:=R) (l₂:=S)).symm)
def aj9{Q:List (Nat×List Int)}{j:Nat}(h:j<Q.length):(dQ Q).getD j default=((Q.getD j default).1,(Q.getD j default).2.length):=by
 unfold dQ;rw[ax,bV,ax,bq h];rfl
def aaU{Q:List (Nat×List Int)}{S:List (List Int)}{ob:List Ob}(hQ:Q.map (·.2)=S)(h:∀ q∈Q.map lA,ob[q.1]?=some q.2):R1 ob (dQ Q) S:=by
 subst hQ;refine⟨by simp[dQ],λj hj=>?_⟩;have fJ:j<Q.length:=by simpa [dQ] using hj
 rw[aj9 fJ,M8 fJ];refine⟨rfl,λh0=>?_⟩;have h1:=h _ (List.mem_map_of_mem (aE (l:=Q) (i:=j) (d:=default) fJ));unfold lA at h1;dsimp only at h1 h0;rw[if_neg (λe=>by rw[e]at h0;exact absurd h0 IP)]at h1;exact h1
def aj'{m:ah}{left:List (List Bool)}{os ob:List Ob}{Q QE:List (Nat×List Int)}{ci oi ti:Nat}(hQ:Q.map (·.2)=m.cls.map b7)(yT:QE.map (·.2)=m.ae.map (·.aB))(hF:FX (B2 m left os Q ci oi ti m.ae.length QE) ob):
  WF m (dG m left m.cls.length) (os.length+2) oi ti (os.length+1) (dQ Q) (dQ QE) (W0 m) ((ob.set ci .gone).set (os.length+2) (.var (aq m++[.tree 1 (rowsOf ay (dG m left m.cls.length)),.ref oi 1 0 m.cls.length,.ref ti 1 0 m.ae.length,.c9 (os.length+1)]))) /\
  (∀ (i:Nat) o,os[i]?=some o->((ob.set ci .gone).set (os.length+2) (.var (aq m++[.tree 1 (rowsOf ay (dG m left m.cls.length)),.ref oi 1 0 m.cls.length,.ref ti 1 0 m.ae.length,.c9 (os.length+1)])))[i]?=some o)/\∀ i∈(dQ Q++dQ QE).map (·.1),os.length<=i:=by
 have hlQ:(dQ Q).length=m.cls.length:=by have:=congrArg kC hQ;simp[dQ]at this ⊢;exact this
 have hlE:(dQ QE).length=m.ae.length:=by have:=congrArg kC yT;simp[dQ]at this ⊢;exact this
 have h1:=hF.perm ((xO (l₁:=(os.length+2,gW m (os.length+1) ci oi ti m.cls.length m.ae.length)::(ti,.arr 1 (rowsOf dE (dQ QE)))::QE.map lA) (l₂:=(oi,.arr 1 (rowsOf dE (dQ Q)))::(os.length,.var (aq m))::(os.length+1,.mp 3 [])::(Q.map lA++nU os))):(B2 m left os Q ci oi ti m.ae.length QE).Perm _);have h2:=((h1.put .gone).perm (p9.swap _ _ _)).put (.var (aq m++[.tree 1 (rowsOf ay (dG m left m.cls.length)),.ref oi 1 0 m.cls.length,.ref ti 1 0 m.ae.length,.c9 (os.length+1)]));generalize bI:(ob.set ci .gone).set (os.length+2) (.var (aq m++[.tree 1 (rowsOf ay (dG m left m.cls.length)),.ref oi 1 0 m.cls.length,.ref ti 1 0 m.ae.length,.c9 (os.length+1)]))=ob' at *;have nj:=h2.at_;have hrQ:∀ q∈Q.map lA,ob'[q.1]?=some q.2:=λq hq=>nj q (dw _ (dw _ (dw _ (xN _ (dw _ (dw _ (dw _ (CJ _ hq))))))));have hrE:∀ q∈QE.map lA,ob'[q.1]?=some q.2:=λq hq=>nj q (dw _ (dw _ (dw _ (CJ _ hq))));have fQ:(dQ Q).map (·.1)=(Q.map lA).map (·.1):=by unfold dQ;rw[wu,wu];rfl
 have fE:(dQ QE).map (·.1)=(QE.map lA).map (·.1):=by unfold dQ;rw[wu,wu];rfl
 have hn:((os.length+2)::ci::ti::((dQ QE).map (·.1)++(oi::os.length::(os.length+1)::((dQ Q).map (·.1)++(nU os).map (·.1))))).Nodup:=by
  have h4:=h2.nd;rw[fQ,fE];simp only[fP,List.append_eq,ek,dH]at h4;exact h4
 have gM:∀ i,i∈(dQ Q).map (·.1)\/i∈(dQ QE).map (·.1)->os.length<=i:=λi hi=>by
  rcases Nat.lt_or_ge i os.length with aS|gM
  ·exfalso;have hm:i∈(nU os).map (·.1):=bS.2 ⟨(i,os[i]),yS.2 (bq aS),rfl⟩;have n3:=(mJ.1 (mJ.1 (mJ.1 hn).2).2).2;obtain⟨_,n4,n5⟩:=ny.1 n3;rcases hi with hi|hi
   ·have n6:=(mJ.1 (mJ.1 (mJ.1 n4).2).2).2;exact(ny.1 n6).2.2 i hi i hm rfl
   ·exact n5 i hi i (dw _ (dw _ (dw _ (xN _ hm)))) rfl
  ·exact gM
 refine⟨⟨?_,?_,?_,?_,aaU hQ hrQ,aaU yT hrE,?_,λi hi=>?_⟩,λi o hi=>?_,λi hi=>?_⟩
 ·rw[hlQ,hlE];exact nj _ (wx ..)
 ·exact nj (oi,.arr 1 (rowsOf dE (dQ Q))) (dw _ (dw _ (dw _ (xN _ (wx ..)))))
 ·exact nj (ti,.arr 1 (rowsOf dE (dQ QE))) (dw _ (dw _ (wx ..)))
 ·exact nj (os.length+1,.mp 3 []) (dw _ (dw _ (dw _ (xN _ (dw _ (dw _ (wx ..)))))))
 ·rw[dH];generalize (dQ Q).map (·.1)=a at *;generalize (dQ QE).map (·.1)=b at *;have hs:((os.length+2)::ti::(b++(oi::(os.length+1)::a))).Sublist ((os.length+2)::ci::ti::(b++oi::os.length::(os.length+1)::(a++List.map (·.1) (nU os)))):=by
   refine AW.cons_cons _ (AW.cons _ (AW.cons_cons _ (AW.append (AW.refl _) (AW.cons_cons _ (AW.cons _ (AW.cons_cons _ (List.sublist_append_left _ _)))))))
  have h3:=hs.nodup hn;refine(p9.nodup_iff ?_).1 h3;exact p9.append_left [os.length+2] ((p9.append_left [ti] (List.perm_append_comm (l₁:=b) (l₂:=oi::(os.length+1)::a))).trans (p9.swap oi ti _))
 ·rw[dH,fQ,fE]at hi;rcases cT.1 hi with hi|hi
  ·obtain⟨q,hq,rfl⟩:=bS.1 hi;exact gX (hrQ q hq)
  ·obtain⟨q,hq,rfl⟩:=bS.1 hi;exact gX (hrE q hq)
 ·exact nj (i,o) (dw _ (dw _ (dw _ (xN _ (dw _ (dw _ (dw _ (xN _ (yS.2 hi)))))))))
 ·rw[dH]at hi;exact gM i (cT.1 hi)
def akc{n0:Nat}(m:ah)(os:List Ob)(A M:Ob)(mi:Nat)(e:Nat->AV):aF n0 ⟨e,os++[A,M,.var (aq m++[.lit (.slice none 0 0),.lit (.slice none 0 0),.lit (.slice none 0 0),.c9 mi])]⟩
  ⟨e,os++[A,M,gW m mi (os.length+3) (os.length+4) (os.length+5) 0 0,.arr 1 [],.arr 1 [],.arr 1 []]⟩:=by
 have key:∀ (l l2:List Ob) (c k:Nat) (cells:List AV),l[2]?=some (.var cells)->cells[c]?=some (.lit (.slice none 0 0))->l.length=k->l2=(l++[Ob.arr 1 []]).set 2 (.var (cells.set c (.ref (os.length+k) 1 0 0)))->aF n0 ⟨e,os++l⟩ ⟨e,os++l2⟩:=by
  intro l l2 c k cells h1 h2 h3 h4;have h:=aF.sV (n0:=n0) (σ:=⟨e,os++l⟩) (os.length+2) c 1 (cells:=cells) (by dsimp only;rw[kN];exact h1) h2 IP;dsimp only at h;rw[bz,DV,bL,h3]at h;rw[h4];exact h
 refine(key _ [A,M,.var (aq m++[.ref (os.length+3) 1 0 0,.lit (.slice none 0 0),.lit (.slice none 0 0),.c9 mi]),.arr 1 []] 4 3 _ rfl rfl rfl rfl).trans ?_;refine(key _ [A,M,.var (aq m++[.ref (os.length+3) 1 0 0,.ref (os.length+4) 1 0 0,.lit (.slice none 0 0),.c9 mi]),.arr 1 [],.arr 1 []] 5 4 _ rfl rfl rfl rfl).trans ?_;exact key _ _ 6 5 _ rfl rfl rfl rfl
section
variable {m:ah} {can:List (List Bool)} {gi ai bi mi:Nat} {D E:List (Nat×Nat)} {W:WS} {os:List Ob}
def mC(n:Nat):List Int:=(bk n).map λ(i:Nat)=>(i:Int)
def akd(N k:Nat)(hk:k<N):(mC k++aO (N-k) 0).set k (k:Int)=mC (k+1)++aO (N-(k+1)) 0:=by
 have h1:(mC k).length=k:=by simp[mC]
 rw[List.set_append,if_neg AT,h1,kW,show N-k=(N-(k+1))+1 by omega,List.replicate_succ,List.set_cons_zero];show _=mC (k+1)++_;unfold mC;rw[tR,dH,bz];rfl
def ajx(hm:VM m)(hf:cp m can)(h:WF m can gi ai bi mi D E W os)(hs:mB m W){B:Int}(hB:0<=B/\B<=288230376151711744)(hW:WB B W){round:Nat}(Rh:round<=64):
  dy Tryz.prog 39 [.ptr gi 0 0,Oi round] os λr ob=>r=.bu []/\WF m can gi ai bi mi D E (pT m can W round) ob/\Kp mi D E os ob/\mB m (pT m can W round)/\WB (B+14843406974976) (pT m can W round):=by
 have oO:=hm.ae;have qV:=hm.cls;have fv:=h.v;have fvl:=aK fv;have e0:∀ N:Nat,aO N (0:Int)=mC 0++aO (N-0) 0:=λN=>by simp[mC]
 refine dy.aN 141 os.length [] Tryz.func39 ?_;((try revert hK K);(repeat'(first|refine Va (X5 @fv @fvl @aq.eq_1 @bH @bz.{0}) ?_|(refine V2 (X5 @fv @fvl @aq.eq_1 @bH @bz.{0}) ?_ ?_<;>try with_reducible intro hb)|(refine Xi ?_ ?_<;>try intro ht)|refine VD ?_ ?_|exact Xx|fail))<;>try with_reducible intro K hK)
 have hN:m.cls.length<9223372036854775808:=AT;generalize M9:m.cls.length=N at *;refine cd (σ':=⟨ao [(1,Oi round),(2,.ptr os.length 0 0),(4,Oi m.ae.length),(5,.ref (os.length+1) 1 0 N),(32,Oi N),(33,Oi 0)],os++[.var [.ptr gi 0 0],.arr 1 (ints (mC 0++aO (N-0) 0))]⟩) (by rw[<- e0];exact Xv X0) ?_;clear e0;refine bb (λk:Nat=>(⟨ao [(1,Oi round),(2,.ptr os.length 0 0),(4,Oi m.ae.length),(5,.ref (os.length+1) 1 0 N),(32,Oi N),(33,Oi k)],os++[.var [.ptr gi 0 0],.arr 1 (ints (mC k++aO (N-k) 0))]⟩:St))
  (λk=>k<=N) (λk=>N-k) 0 (aW _) (Xv X0) ?_
 rintro k hk Ql ak au;have cF:(mC k++aO (N-k) 0).length=N:=by simp[mC];omega
 by_cases bf:k<N
 ·have sQ:=akd N k bf;((try revert hK K);(repeat'(first|refine Va (X3 @bH @cF @sQ) ?_|(refine V2 (X3 @bH @cF @sQ) ?_ ?_<;>try with_reducible intro hb)|(refine Xi ?_ ?_<;>try intro ht)|refine VD ?_ ?_|exact Xx|fail))<;>try with_reducible intro K hK)
  exact ak _ (k+1) AT AT (Xv X0)
 ·obtain rfl:k=N:=AT;((try revert hK K);(repeat'(first|refine Va X0 ?_|(refine V2 X0 ?_ ?_<;>try with_reducible intro hb)|(refine Xi ?_ ?_<;>try intro ht)|refine VD ?_ ?_|exact Xx|fail))<;>try with_reducible intro K hK)
  refine au _ _ rfl ?_;clear ak au Ql;repeat(first|refine Xu ?_)
  rw[kW,List.replicate_zero,List.append_nil]at cF ⊢;((try revert hK K);(repeat'(first|refine Va (X3 @bH @bz.{0} @cF) ?_|(refine V2 (X3 @bH @bz.{0} @cF) ?_ ?_<;>try with_reducible intro hb)|(refine Xi ?_ ?_<;>try intro ht)|refine VD ?_ ?_|exact Xx|fail))<;>try with_reducible intro K hK)
  have EB:∀ p∈((os.length,Ob.var [.ptr gi 0 0])::(os.length+3,.var [.ref (os.length+2) 1 0 k])::nU os),p.1≠os.length+1:=λp hp=>by
   rcases bm.1 hp with rfl|hp
   ·dsimp only;omega
   rcases bm.1 hp with rfl|hp
   ·dsimp only;omega
   ·have:=gX (yS.1 hp);omega
  have hLR:LR ((os.length+1,Ob.arr 1 (ints (mC k)))::(os.length,Ob.var [.ptr gi 0 0])::(os.length+3,.var [.ref (os.length+2) 1 0 k])::nU os) (os.length+2) (aO k (0,[])) (os++[.var [.ptr gi 0 0],.arr 1 (ints (mC k)),.arr 1 (aO k [.lit (.slice none 0 0)]),.var [.ref (os.length+2) 1 0 k]]):=by
   have h1:=LR.start (F:=(os.length+1,Ob.arr 1 (ints (mC k)))::(os.length,Ob.var [.ptr gi 0 0])::nU os) (ob:=os++[.var [.ptr gi 0 0],.arr 1 (ints (mC k))]) (N:=k) (λp hp=>by
    rcases bm.1 hp with rfl|hp
    ·rw[kN];rfl
    rcases bm.1 hp with rfl|hp
    ·exact ka _ _ _
    ·exact aK (yS.1 hp) _)
   have h2:=LR.more h1 (l:=[Ob.var [.ref (os.length+2) 1 0 k]]) (F':=(os.length+1,Ob.arr 1 (ints (mC k)))::(os.length,Ob.var [.ptr gi 0 0])::(os.length+3,.var [.ref (os.length+2) 1 0 k])::nU os) (λp hp=>by
    rcases bm.1 hp with rfl|hp
    ·exact .inl IM
    rcases bm.1 hp with rfl|hp
    ·exact .inl IM
    rcases bm.1 hp with rfl|hp
    ·exact .inr ⟨0,IM,rfl⟩
    ·exact .inl (by simp[hp]))
   simpa [bz] using h2
  have qX:kv m round 0=(mC k,aO k []):=by rw[kv,M9];rfl
  have x9:(aO k ((0:Nat),([]:List Int))).map (·.2)=aO k []:=by rw[List.map_replicate]
  refine bb (λz:Nat×List (Nat×List Int)×List Ob=>(⟨ao [(1,Oi round),(2,.ptr os.length 0 0),(4,Oi m.ae.length),(5,.ref (os.length+1) 1 0 k),(7,.ptr (os.length+3) 0 0),(44,Oi m.ae.length),(45,Oi z.1)],z.2.2⟩:St))
   (λz=>z.1<=m.ae.length/\LR ((os.length+1,Ob.arr 1 (ints (kv m round z.1).1))::(os.length,Ob.var [.ptr gi 0 0])::(os.length+3,.var [.ref (os.length+2) 1 0 k])::nU os) (os.length+2) z.2.1 z.2.2/\z.2.1.map (·.2)=(kv m round z.1).2/\os.length+4<=z.2.2.length)
   (λz=>m.ae.length-z.1) (0,aO k (0,[]),os++[.var [.ptr gi 0 0],.arr 1 (ints (mC k)),.arr 1 (aO k [.lit (.slice none 0 0)]),.var [.ref (os.length+2) 1 0 k]]) ⟨aW _,by dsimp only;rw[qX];exact hLR,by dsimp only;rw[qX];exact x9,IM⟩ (Xv X0) ?_
  clear hLR x9 qX cF hk bf ht;rintro⟨j,Q,ob⟩⟨hj,hL,hQ,bI⟩Ql ak au;dsimp only at hj hL hQ bI ⊢;by_cases fJ:j<m.ae.length
  ·have hp:(j+round)%m.ae.length<m.ae.length:=Nat.mod_lt _ AT;have fk:((j:Int)+(round:Int)).tmod (m.ae.length:Int)=(((j+round)%m.ae.length:Nat):Int):=by rw[Int.tmod_eq_emod_of_nonneg AT];push_cast;rfl
   obtain⟨dp,q1,q2,q3,q4,q5⟩:=yU hm hp;obtain⟨wV,ry⟩:=H9 (m:=m) round j;have hvs:kv m round (j+1)=Co m (kv m round j) ((j+round)%m.ae.length):=rfl;have fA:=hL.fx (os.length,Ob.var [.ptr gi 0 0]) IM;have fT:=hL.fx (os.length+1,Ob.arr 1 (ints (kv m round j).1)) IM;have fB:=hL.fx (os.length+3,Ob.var [.ref (os.length+2) 1 0 k]) IM;have H':∀ i o,os[i]?=some o->ob[i]?=some o:=λi o hi=>hL.fx (i,o) (dw _ (dw _ (dw _ (yS.2 hi))));have fg:=H' _ _ fv;dsimp only at fA fT fB;generalize (j+round)%m.ae.length=p at *;generalize dm:kv m round j=st at *;have gp:m.ae.getD p default=cM m p:=rfl;have e1:(cM m p).fst=((aD m p 0:Nat):Int):=by show _=((cM m p).fst.toNat:Int);omega
   have e2:(cM m p).snd=((aD m p 1:Nat):Int):=by show _=((cM m p).snd.toNat:Int);omega
   have ha:aD m p 0<k:=by have:(cM m p).fst.toNat=aD m p 0:=rfl;omega
   have hb:aD m p 1<k:=by have:(cM m p).snd.toNat=aD m p 1:=rfl;omega
   repeat'(first|((fail_if_success (first|refine eO 14 ?_|refine eP 14 ?_));refine Xr (X5 @fA @fT @fg @aq.eq_1 (X5 @aG.eq_1 @fk @gp @e1 @e2)) ?_;intro K hK)|refine Xo (X5 @fA @fT @fg @aq.eq_1 (X5 @aG.eq_1 @fk @gp @e1 @e2)) ?_|(refine hK _ ?_;clear hK K)|(refine Xg (X5 @fA @fT @fg @aq.eq_1 (X5 @aG.eq_1 @fk @gp @e1 @e2)) ?_ ?_<;>try intro hb)|(refine Xi ?_ ?_<;>try intro ht)|refine Xy ?_|refine Xd ?_ ?_|exact Xx|fail)
   have lL:kv m round (j+1)=if st.1.getD (aD m p 0) 0=st.1.getD (aD m p 1) 0 then st else(mD st.1 (aD m p 0) (st.1.getD (aD m p 1) 0) st.1.length,(st.2.set (aD m p 0) (st.2.getD (aD m p 0) default++[(p:Int)])).set (aD m p 1) (st.2.getD (aD m p 1) default++[(p:Int)])):=hvs;generalize aD m p 1=b at *;generalize aD m p 0=a at *;have xy:st.1.length=k:=AT;by_cases eX:st.1.getD a 0=st.1.getD b 0
   ·rw[if_pos eX]at lL;((try revert hK K);(repeat'(first|refine Va (X3 @fT @xy @eX) ?_|(refine V2 (X3 @fT @xy @eX) ?_ ?_<;>try with_reducible intro hb)|(refine Xi ?_ ?_<;>try intro ht)|refine VD ?_ ?_|exact Xx|fail))<;>try with_reducible intro K hK)
    all_goals try(exfalso;omega)
    exact ak _ (j+1,Q,ob) ⟨NZ,by dsimp only;rw[lL];exact hL,by dsimp only;rw[lL];exact hQ,bI⟩ NZ (Xv X0)
   ·rw[if_neg eX]at lL;((try revert hK K);(repeat'(first|refine Va (X2 @fT @xy) ?_|(refine V2 (X2 @fT @xy) ?_ ?_<;>try with_reducible intro hb)|(refine Xi ?_ ?_<;>try intro ht)|refine VD ?_ ?_|exact Xx|fail))<;>try with_reducible intro K hK)
    all_goals try(exfalso;omega)
    have sT:=λy:Ob=>lS (y:=y) fT;have a7:=Ia st.1 a (st.1.getD b 0) eX;have jl:=Ib st.1 a (st.1.getD b 0);have ht0:mD st.1 a (st.1.getD b 0) 0=st.1:=rfl;have eM:∀ i,mD st.1 a (st.1.getD b 0) (i+1)=_:=λi=>mD.eq_2 ..;have lW:=λy=>hL.head EB (y:=y);refine bb (λi:Nat=>(⟨ao [(1,Oi round),(2,.ptr os.length 0 0),(4,Oi m.ae.length),(5,.ref (os.length+1) 1 0 k),(7,.ptr (os.length+3) 0 0),(9,Oi p),(10,Oi a),(11,Oi b),(12,Oi (st.1.getD b 0)),(44,Oi m.ae.length),(45,Oi j),(84,.ref (os.length+1) 1 0 k),(85,Oi k),(86,Oi i)],ob.set (os.length+1) (.arr 1 (ints (mD st.1 a (st.1.getD b 0) i)))⟩:St))
     (λi=>i<=k) (λi=>k-i) 0 (aW _) ?_ ?_
    ·rw[ht0,akf fT];exact Xv X0
    rintro i hi dL bO bQ;have iA:=a7 i;have k8:=jl i;by_cases ar:i<k
    ·have Ic:=eM i;generalize hu1:mD st.1 a (st.1.getD b 0) (i+1)=u1 at *;generalize mD st.1 a (st.1.getD b 0) i=u at *;generalize st.1.getD b 0=dV at *;by_cases Ie:u.getD i 0=dV
     ·rw[if_pos Ie]at Ic;((try revert hK K);(repeat'(first|refine Va (X5 @sT @k8 @xy @Ie @rf.{0}) ?_|(refine V2 (X5 @sT @k8 @xy @Ie @rf.{0}) ?_ ?_<;>try with_reducible intro hb)|(refine Xi ?_ ?_<;>try intro ht)|refine VD ?_ ?_|exact Xx|fail))<;>try with_reducible intro K hK)
      all_goals try(exfalso;omega)
      exact bO _ (i+1) AT AT (by rw[hu1,Ic];exact Xv X0)
     ·rw[if_neg Ie]at Ic;((try revert hK K);(repeat'(first|refine Va (X4 @sT @k8 @xy @rf.{0}) ?_|(refine V2 (X4 @sT @k8 @xy @rf.{0}) ?_ ?_<;>try with_reducible intro hb)|(refine Xi ?_ ?_<;>try intro ht)|refine VD ?_ ?_|exact Xx|fail))<;>try with_reducible intro K hK)
      all_goals try(exfalso;omega)
      exact bO _ (i+1) AT AT (by rw[hu1,Ic];exact Xv X0)
    ·obtain rfl:i=k:=AT;((try revert hK K);(repeat'(first|refine Va X0 ?_|(refine V2 X0 ?_ ?_<;>try with_reducible intro hb)|(refine Xi ?_ ?_<;>try intro ht)|refine VD ?_ ?_|exact Xx|fail))<;>try with_reducible intro K hK)
     refine bQ _ _ rfl ?_;clear bO bQ dL;repeat(first|refine Xu ?_)
     have lX:=lW (.arr 1 (ints (mD st.1 a (st.1.getD b 0) i)));clear lW sT eM ht0 a7;rw[xy]at lL;generalize mD st.1 a (st.1.getD b 0) i=tt at *;generalize akg:ob.set (os.length+1) (.arr 1 (ints tt))=jV at *;have ani:os.length+4<=jV.length:=by rw[<- akg,bw];exact bI
     have M':Q.length=i:=by have:=congrArg kC hQ;simp at this;omega
     refine MO (λs=>∃ Q2 o2,LR ((os.length+1,Ob.arr 1 (ints tt))::(os.length,Ob.var [.ptr gi 0 0])::(os.length+3,.var [.ref (os.length+2) 1 0 i])::nU os) (os.length+2) Q2 o2/\Q2.map (·.2)=(kv m round (j+1)).2/\os.length+4<=o2.length /\
      aF os.length s ⟨ao [(1,Oi round),(2,.ptr os.length 0 0),(4,Oi m.ae.length),(5,.ref (os.length+1) 1 0 i),(7,.ptr (os.length+3) 0 0),(44,Oi m.ae.length),(45,Oi j)],o2⟩) ?_ ?_
     ·rintro s ⟨Q2,o2,h1,h2,h3,h4⟩;repeat(first|refine Xu ?_)
      refine cd h4 ?_;((try revert hK K);(repeat'(first|refine Va X0 ?_|(refine V2 X0 ?_ ?_<;>try with_reducible intro hb)|(refine Xi ?_ ?_<;>try intro ht)|refine VD ?_ ?_|exact Xx|fail))<;>try with_reducible intro K hK)
      exact ak _ (j+1,Q2,o2) ⟨NZ,by dsimp only;rw[lL];exact h1,h2,h3⟩ NZ (Xv X0)
     intro QQ key;clear ak au;have g7:=aK (lX.fx (os.length+3,Ob.var [.ref (os.length+2) 1 0 i]) IM);have gL:=aK lX.ls;have hra:(rowsOf kT Q)[a]?=some [tH (Q.getD a default)]:=by rw[Ig AT,Na]
     have DZ:(rowsOf kT Q)[b]?=some [tH (Q.getD b default)]:=by rw[Ig AT,Na]
     have B3:st.2.getD a default=(Q.getD a default).2:=by rw[<- hQ,M8 AT]
     have hgb:st.2.getD b default=(Q.getD b default).2:=by rw[<- hQ,M8 AT]
     have ca:=lX.cell (show a<Q.length by omega);have cb:=lX.cell (show b<Q.length by omega);have BC:=λ(fin:List Ob) (pa pb:Nat)=>lX.aki (show a<Q.length by omega) (show b<Q.length by omega) (λe=>eX (by rw[e])) (n:=(p:Int)) (fin:=fin) (pa:=pa) (pb:=pb);have d3:=λc hc hn=>lX.rX (os.length+3,Ob.var [.ref (os.length+2) 1 0 i]) IM |>.2 c hc hn;have r2:=λc hc hn=>(lX.row c hc hn).2;have qa:Ar [os.length+2,os.length+3] (tH (Q.getD a default))=True:=aa1 λhn hm=>by
      rcases bm.1 hm with e|hm
      ·exact r2 a AT hn e
      ·exact d3 a AT hn (c8.1 hm).symm
     have qb:Ar [os.length+2,os.length+3] (tH (Q.getD b default))=True:=aa1 λhn hm=>by
      rcases bm.1 hm with e|hm
      ·exact r2 b AT hn e
      ·exact d3 b AT hn (c8.1 hm).symm
     rw[B3,hgb]at lL;have HH:(Q.getD a default).2.length<4001:=by
      have:=(Ih (m:=m) round j a).1;rw[dm,B3]at this;omega
     have Ah:(Q.getD b default).2.length<4001:=by
      have:=(Ih (m:=m) round j b).1;rw[dm,hgb]at this;omega
     have n7:∀ c,c<Q.length->(Q.getD c default).2≠[]->os.length+3≠(Q.getD c default).1:=d3;have n8:∀ c,c<Q.length->(Q.getD c default).2≠[]->os.length+2≠(Q.getD c default).1:=λc hc hn=>Ne.symm (r2 c hc hn);have cb2:(Q.getD b default).2≠[]->(pV (Q.getD a default) jV)[(Q.getD b default).1]?=some (.arr 1 (ints (Q.getD b default).2)):=λhn=>AB (cb hn) λDB e=>eX (by rw[lX.inj b a AT AT hn DB e]);have f7:=lX.fx (os.length+3,Ob.var [.ref (os.length+2) 1 0 i]) IM;have fL:=lX.ls;have f7a:=AB f7 (n7 a AT);have f7b:=AB f7a (n7 b AT);have fLa:=AB fL (n8 a AT);have EC:=AB fLa (n8 b AT);have Et:=λ(k:Nat) (o:Ob) (h1:jV[k]?=some o) (h2:(Q.getD a default).2≠[]->k≠(Q.getD a default).1) (h3:(Q.getD b default).2≠[]->k≠(Q.getD b default).1)=>AB (AB h1 h2) h3;have dA:=aa5 ca;have dB:=aa5 cb2;have l2:=aa6 (Q.getD a default) jV;have l3:=(aa6 (Q.getD b default) (pV (Q.getD a default) jV)).trans l2;have hes:=λpa=>aa7 Q a pa (Q.getD a default).2 (p:Int);have akl:=λpa pb=>aa7 (Q.set a (pa,(Q.getD a default).2++[(p:Int)])) b pb (Q.getD b default).2 (p:Int);have akm:∀ pa,(rowsOf kT (Q.set a (pa,(Q.getD a default).2++[(p:Int)])))[b]?=some [tH (Q.getD b default)]:=λpa=>by
      rw[Ig N0,Nb _ _ _ _ AT,if_neg (λe=>eX (by rw[e])),Na]
     have hFm:∀ q,os.length<=q->q=os.length+2->True:=λ_ _ _=>trivial;generalize Q.getD a default=A0 at *;generalize Q.getD b default=B0 at *;generalize hX3:pV B0 (pV A0 jV)=X3 at *;generalize pV A0 jV=X2 at *;have uO:(os.length+2∈[os.length+2,os.length+3])=True:=IM;have Mt:(os.length+3∈[os.length+2,os.length+3])=True:=IM;have hQr:(rowsOf kT Q).length=i:=by rw[cr];exact M'
     have e2:=λl k=>yP l2 l k;have e3:=λl k=>yP l3 l k;have e20:=λx l=>Ii l2 x l;have e30:=λx l=>Ii l3 x l;have s3:=iG EC;have s4:=λy=>iG (lS (y:=y) EC);have s5:=λy=>aK (lS (y:=y) EC);have s7:=λy=>aK (eU (y:=y) f7b (show os.length+2≠os.length+3 by omega));have f7l:=aK f7;have akr:=aK f7a;have aks:=aK f7b;have fLl:=aK fL;have aku:=aK fLa;have akv:=aK EC;have kr:∀ (s:St) (c:Nat) (l:List Ob),c=1\/c=2->l.length=4->l[c]?=some (.arr 1 (ints (A0.2++[(p:Int)])))->l[3]?=some (.arr 1 (ints (B0.2++[(p:Int)]))) ->
       aF os.length s ⟨ao [(1,Oi round),(2,.ptr os.length 0 0),(4,Oi m.ae.length),(5,.ref (os.length+1) 1 0 i),(7,.ptr (os.length+3) 0 0),(44,Oi m.ae.length),(45,Oi j)],(X3.set (os.length+2) (.arr 1 (rowsOf kT (Q.set a (jV.length+c,A0.2++[(p:Int)]))))).set (os.length+2) (.arr 1 (rowsOf kT ((Q.set a (jV.length+c,A0.2++[(p:Int)])).set b (jV.length+3,B0.2++[(p:Int)]))))++l⟩->QQ .normal s:=λs c l hc hl h1 h2 ht=>by
      refine key _ ⟨_,_,BC _ (jV.length+c) (jV.length+3) AT AT AT (λq o e1 e2 e3 e4=>aK (eU (eU (Et q o e1 e3 e4) (Ne.symm e2)) (Ne.symm e2)) _) (aK (lS (lS EC)) _) ?_ ?_,?_,?_,ht⟩
      ·rw[yP (by simp[l3])];exact h1
      ·rw[yP (by simp[l3])];exact h2
      ·rw[lL,p6,p6,hQ]
      ·simp[l3];omega
     refine Zq [os.length+2,os.length+3] [] [10,17] (.take 0 (.take 1 (.take 3 (.take 4 (.take 5 (.take 6 (.take 7 (.take 8 (.take 11 (.take 12 (.take 13 (.take 14 (.take 15 (.three 2 (.both 9 (.both 10 (.take 16 (.take 17 (.take 18 (.take 19 (.take 20 (.take 21 .nil)))))) 16 (.take 10 (.take 17 (.take 18 (.take 19 (.take 20 (.take 21 .nil))))))) 16 (.take 9 (.take 10 (.take 17 (.take 18 (.take 19 (.take 20 (.take 21 .nil)))))))) 9 (.three 2 (.both 10 (.take 16 (.take 17 (.take 18 (.take 19 (.take 20 (.take 21 .nil)))))) 16 (.take 10 (.take 17 (.take 18 (.take 19 (.take 20 (.take 21 .nil))))))) 10 (.both 2 (.take 16 (.take 17 (.take 18 (.take 19 (.take 20 (.take 21 .nil)))))) 16 (.both 2 (.take 17 (.take 18 (.take 19 (.take 20 (.take 21 .nil))))) 17 (.take 18 (.both 2 (.take 19 (.take 20 (.take 21 .nil))) 19 (.take 2 (.take 20 (.take 21 .nil))))))) 16 (.both 2 (.take 10 (.take 17 (.take 18 (.take 19 (.take 20 (.take 21 .nil)))))) 10 (.both 2 (.take 17 (.take 18 (.take 19 (.take 20 (.take 21 .nil))))) 17 (.take 18 (.both 2 (.take 19 (.take 20 (.take 21 .nil))) 19 (.take 2 (.take 20 (.take 21 .nil)))))))) 16 (.both 2 (.take 9 (.take 10 (.take 17 (.take 18 (.take 19 (.take 20 (.take 21 .nil))))))) 9 (.both 2 (.take 10 (.take 17 (.take 18 (.take 19 (.take 20 (.take 21 .nil)))))) 10 (.both 2 (.take 17 (.take 18 (.take 19 (.take 20 (.take 21 .nil))))) 17 (.take 18 (.both 2 (.take 19 (.take 20 (.take 21 .nil))) 19 (.take 2 (.take 20 (.take 21 .nil)))))))))))))))))))))) rfl IP (by decide +kernel) ?_;simp(disch:=omega)only[Ac,↓Pc,simprocAttr,Ra,iY,uO,Mt,f7,fL,f7l,akr,aks,fLl,aku,akv,hra,DZ,akm,hes,akl,qa,qb,↓dA,↓dB,l2,l3,e2,e3,e20,e30,s3,s4,s5,s7,hQr,bH,bz,bL];repeat'(first|with_reducible refine cQ ?_ ?_|omega|with_reducible rfl|(intro id b9;simp only[bm,iT,or_false]at b9;omega))
     all_goals first
      | (refine kr _ 1 [.arr 1 [[Oi p]],.arr 1 (ints (A0.2++[(p:Int)])),.arr 1 [[Oi p]],.arr 1 (ints (B0.2++[(p:Int)]))] (.inl rfl) rfl rfl rfl ?_;exact Xv X0;done)
      | (refine kr _ 2 [.arr 1 [[Oi p]],.arr 1 [[Oi p]],.arr 1 (ints (A0.2++[(p:Int)])),.arr 1 (ints (B0.2++[(p:Int)]))] (.inr rfl) rfl rfl rfl ?_;exact Xv X0;done)
      |skip
  ·obtain rfl:j=m.ae.length:=AT;((try revert hK K);(repeat'(first|refine Va X0 ?_|(refine V2 X0 ?_ ?_<;>try with_reducible intro hb)|(refine Xi ?_ ?_<;>try intro ht)|refine VD ?_ ?_|exact Xx|fail))<;>try with_reducible intro K hK)
   refine au _ _ rfl ?_;clear ak au Ql;repeat(first|refine Xu ?_)
   have fA:=hL.fx (os.length,Ob.var [.ptr gi 0 0]) IM;have fT:=hL.fx (os.length+1,Ob.arr 1 (ints (kv m round m.ae.length).1)) IM;have fB:=hL.fx (os.length+3,Ob.var [.ref (os.length+2) 1 0 k]) IM;have H':∀ i o,os[i]?=some o->ob[i]?=some o:=λi o hi=>hL.fx (i,o) (dw _ (dw _ (dw _ (yS.2 hi))));dsimp only at fA fT fB;obtain⟨wV,ry⟩:=H9 (m:=m) round m.ae.length;have akw:=Ih (m:=m) round m.ae.length;have MQ:pT m can W round=(lY m can (kv m round m.ae.length).2 (W,aO m.cls.length false) m.cls.length).1:=rfl;rw[MQ];generalize kv m round m.ae.length=st at *;have xz:=aK fT;have jU:st.1.length=k:=AT;repeat'(first|((fail_if_success (first|refine eO 27 ?_|refine eP 27 ?_));refine Xr (X5 @fT @xz @bH @bz.{0} (X3 @ED @jU @A7)) ?_;intro K hK)|refine Xo (X5 @fT @xz @bH @bz.{0} (X3 @ED @jU @A7)) ?_|(refine hK _ ?_;clear hK K)|(refine Xg (X5 @fT @xz @bH @bz.{0} (X3 @ED @jU @A7)) ?_ ?_<;>try intro hb)|(refine Xi ?_ ?_<;>try intro ht)|refine Xy ?_|refine Xd ?_ ?_|exact Xx|fail)
   have EE:=hL.app [.arr 1 (a8 (aO k false)),.var [.ref ob.length 1 0 k],.var [.fn 70 [.ptr (ob.length+1) 0 0,.ptr (os.length+3) 0 0,.ptr os.length 0 0,.ptr (ob.length+2) 0 0]]];have M':Q.length=k:=by have:=congrArg kC hQ;simp at this;omega
   refine cd (σ':=⟨ao [(15,.ptr (ob.length+1) 0 0),(16,.ptr (ob.length+2) 0 0)],ob++[.arr 1 (a8 (aO k false)),.var [.ref ob.length 1 0 k],.var [.fn 70 [.ptr (ob.length+1) 0 0,.ptr (os.length+3) 0 0,.ptr os.length 0 0,.ptr (ob.length+2) 0 0]]]⟩) (Xv X0) ?_;generalize Cp:ob++[Ob.arr 1 (a8 (aO k false)),.var [.ref ob.length 1 0 k],.var [.fn 70 [.ptr (ob.length+1) 0 0,.ptr (os.length+3) 0 0,.ptr os.length 0 0,.ptr (ob.length+2) 0 0]]]=rY at *;have Ij:=EE.fx (os.length+3,Ob.var [.ref (os.length+2) 1 0 k]) IM;have vO:=λi (hi:i∈np (os.length+2) Q)=>EE.at_ hi;have AD:=λi (hi:i∈np (os.length+2) Q)=>hL.lt hi;have n0:os.length ∉ np (os.length+2) Q:=λhi=>vO _ hi (os.length,Ob.var [.ptr gi 0 0]) IM rfl;have n3:os.length+3 ∉ np (os.length+2) Q:=λhi=>vO _ hi (os.length+3,Ob.var [.ref (os.length+2) 1 0 k]) IM rfl;have aa8:∀ i o,os[i]?=some o->i ∉ np (os.length+2) Q:=λi o ho hi=>vO _ hi (i,o) (dw _ (dw _ (dw _ (yS.2 ho)))) rfl;have p0:rY[os.length]?=some (.var [.ptr gi 0 0]):=by rw[<- Cp];exact aK fA _
   have aa9:∀ i o,os[i]?=some o->rY[i]?=some o:=λi o hi=>by rw[<- Cp];exact aK (H' i o hi) _
   have b0:rY[ob.length]?=some (.arr 1 (a8 (aO k false))):=by rw[<- Cp];exact ka _ _ _
   have b1:rY[ob.length+1]?=some (.var [.ref ob.length 1 0 k]):=by rw[<- Cp,kN];rfl
   have b2:rY[ob.length+2]?=some (.var [.fn 70 [.ptr (ob.length+1) 0 0,.ptr (os.length+3) 0 0,.ptr os.length 0 0,.ptr (ob.length+2) 0 0]]):=by rw[<- Cp,kN];rfl
   have l4:rY.length=ob.length+3:=by rw[<- Cp];simp
   refine cd (aF.aiQ (os.length+3) 0 (λi=>i ∉ np (os.length+2) Q) (v:=.tree 1 (eW (Q.map (·.2))))
    (os2:=uS (np (os.length+2) Q) (rY.set (os.length+3) (.var [.tree 1 (eW (Q.map (·.2)))]))) Ij rfl n3 (by rw[aa',bw]) (λi o ho=>?_) ?_) ?_
   ·dsimp only at ho;have hx:∀ y,(rY.set (os.length+3) y)[i]?=some (if i=os.length+3 then y else o):=λy=>by
     by_cases e:i=os.length+3
     ·subst e;rw[if_pos rfl];exact lS Ij
     ·rw[if_neg e];exact eU ho (Ne.symm e)
    by_cases hi:i∈np (os.length+2) Q
    ·exact .inr ⟨λhn=>hn hi,by rw[Nc (hx _),if_pos hi]⟩
    ·exact .inl ⟨hi,by rw[Nc (hx _),if_neg hi];rfl⟩
   ·have:=akx EE.ls EE.row (ao [(15,.ptr (ob.length+1) 0 0),(16,.ptr (ob.length+2) 0 0)]);rw[M']at this;exact this
   dsimp only;have k5:∀ i o,rY[i]?=some o->i≠os.length+3->i ∉ np (os.length+2) Q ->
     (uS (np (os.length+2) Q) (rY.set (os.length+3) (.var [.tree 1 (eW (Q.map (·.2)))])))[i]?=some o:=λi o ho h1 h2=>Nf (eU ho (Ne.symm h1)) h2
   have k6:(uS (np (os.length+2) Q) (rY.set (os.length+3) (.var [.tree 1 (eW (Q.map (·.2)))])))[os.length+3]?=some (.var [.tree 1 (eW (Q.map (·.2)))]):=Nf (lS Ij) n3;have k7:(uS (np (os.length+2) Q) (rY.set (os.length+3) (.var [.tree 1 (eW (Q.map (·.2)))]))).length=ob.length+3:=by rw[aa',bw];exact l4
   generalize uS (np (os.length+2) Q) (rY.set (os.length+3) (.var [.tree 1 (eW (Q.map (·.2)))]))=EF at *;have x0:=k5 os.length _ p0 AT n0;have xa:=k5 ob.length _ b0 AT (λhi=>by have:=AD _ hi;omega);have xs:=k5 (ob.length+1) _ b1 AT (λhi=>by have:=AD _ hi;omega);have xu:=k5 (ob.length+2) _ b2 AT (λhi=>by have:=AD _ hi;omega);have Ng:∀ i o,os[i]?=some o->EF[i]?=some o:=λi o hi=>k5 i o (aa9 i o hi) (by have:=gX hi;omega) (aa8 i o hi);have Ik:UF 70 gi (ob.length+1) ob.length (os.length+3) os.length (ob.length+2) st.2 (aO k false) EF:=⟨by rw[nt];exact xs,xa,by rw[<- hQ];exact k6,x0,xu⟩;have hW5:=h.pre (ob:=EF) AT Ng;have hK5:Kp mi ((ob.length,0)::D) E os EF:=⟨AT,λi o _ _ hi=>Ng i o hi⟩;have H3:=gX h.mp;have tE:=gX h.v;have j5:=gX h.a;have xm:=gX h.b;have hUN:UN gi ai bi mi D E (ob.length+1) ob.length (os.length+3) os.length (ob.length+2):=⟨λi hi=>⟨AT,λhm=>by have:=h.lt i hm;omega⟩,AT,AT,AT,AT,AT,AT,AT⟩;clear k5 k6 k7 x0 xa xs xu Ng p0 aa9 b0 b1 b2 vO AD n0 n3 aa8 Ij EE hL fA fT fB xz H';have hlA:∀ c,(lY m can st.2 (W,aO k false) c).2.length=k->True:=λ_ _=>trivial;have xm:st.2.length=m.cls.length:=AT;have mn:∀ c,c<m.cls.length->(st.2.getD c default).length<9223372036854775808/\∀ x∈st.2.getD c default,0<=x/\x<m.ae.length:=λc hc=>by
    obtain⟨i1,i2⟩:=akw c;refine⟨AT,λx hx=>⟨(i2 x hx).1,(i2 x hx).2 ?_⟩⟩;rcases Nat.eq_zero_or_pos m.ae.length with h0|h0
    ·rw[h0]at i1;rw[List.length_eq_zero_iff.1 (Nat.le_zero.1 i1)]at hx;cases hx
    ·exact h0
   have Nh:lY m can st.2 (W,aO k false) 0=(W,aO k false):=rfl;have hAs:∀ c,lY m can st.2 (W,aO k false) (c+1)=if(lY m can st.2 (W,aO k false) c).2.getD c false=true then lY m can st.2 (W,aO k false) c else iS m can st.2 (m.cls.length+1) (lY m can st.2 (W,aO k false) c) c:=λc=>rfl;have kj:nT (aO k false)=0:=by unfold nT;simp[List.count_replicate]
   rw[M9];have xs:=Ik.s;have xa:=Ik.a;((try revert hK K);(repeat'(first|refine Va (X3 @xs @xa @nt.{0}) ?_|(refine V2 (X3 @xs @xa @nt.{0}) ?_ ?_<;>try with_reducible intro hb)|(refine Xi ?_ ?_<;>try intro ht)|refine VD ?_ ?_|exact Xx|fail))<;>try with_reducible intro K hK)
   refine bb (λz:Nat×List Ob=>(⟨ao [(15,.ptr (ob.length+1) 0 0),(16,.ptr (ob.length+2) 0 0),(128,Oi k),(129,Oi z.1)],z.2⟩:St))
    (λz=>z.1<=k/\WF m can gi ai bi mi D E (lY m can st.2 (W,aO k false) z.1).1 z.2/\UF 70 gi (ob.length+1) ob.length (os.length+3) os.length (ob.length+2) st.2 (lY m can st.2 (W,aO k false) z.1).2 z.2/\Kp mi ((ob.length,0)::D) E os z.2/\(lY m can st.2 (W,aO k false) z.1).2.length=k/\mB m (lY m can st.2 (W,aO k false) z.1).1/\WB (B+618475290624*(nT (lY m can st.2 (W,aO k false) z.1).2:Nat)) (lY m can st.2 (W,aO k false) z.1).1)
    (λz=>k-z.1) (0,EF) ⟨aW _,hW5,Ik,hK5,by dsimp only;rw[Nh];simp,hs,by dsimp only;rw[Nh];dsimp only;rw[kj];exact hW.mono AT⟩ (Xv X0) ?_
   (try clear kj;clear hW5 Ik hK5 Nh xs xa)
   rintro⟨c,o6⟩⟨hc,h1,h2,h3,h4,h5,h6⟩Ql ak au;dsimp only at hc h1 h2 h3 h4 h5 h6 ⊢;by_cases iK:c<k
   ·have tI:=hAs c;generalize vW:lY m can st.2 (W,aO k false) (c+1)=r1 at *;generalize lY m can st.2 (W,aO k false) c=r0 at *;have fs:=h2.s;have fa:=h2.a;have fu:=h2.u;by_cases er:r0.2.getD c false=true
    ·rw[if_pos er]at tI;((try revert hK K);(repeat'(first|refine Va (X4 @fs @fa @er @h4) ?_|(refine V2 (X4 @fs @fa @er @h4) ?_ ?_<;>try with_reducible intro hb)|(refine Xi ?_ ?_<;>try intro ht)|refine VD ?_ ?_|exact Xx|fail))<;>try with_reducible intro K hK)
     all_goals try(exfalso;omega)
     exact ak _ (c+1,o6) ⟨NZ,by dsimp only;rw[vW,tI];exact h1,by dsimp only;rw[vW,tI];exact h2,h3,by dsimp only;rw[vW,tI];exact h4,by dsimp only;rw[vW,tI];exact h5,by dsimp only;rw[vW,tI];exact h6⟩ NZ (Xv X0)
    ·rw[if_neg er]at tI;have vX:r0.2.getD c false=false:=by simpa using er
     have nG:=akA hm hf hUN xm mn (m.cls.length+1) r0 c o6 B AT AT vX AT h1 h2 h5 AT AT h6;repeat'(first|((fail_if_success (first|refine eO 31 ?_|refine eP 31 ?_));refine Xr (X4 @fs @fa @vX @h4) ?_;intro K hK)|refine Xo (X4 @fs @fa @vX @h4) ?_|(refine hK _ ?_;clear hK K)|(refine Xg (X4 @fs @fa @vX @h4) ?_ ?_<;>try intro hb)|(refine Xi ?_ ?_<;>try intro ht)|refine Xy ?_|refine Xd ?_ ?_|exact Xx|fail)
     all_goals try(exfalso;omega)
     refine ox 2 IP _ rfl ?_;intro K hK;simp(disch:=omega)only[Ac,↓Pc,simprocAttr,ja,List.drop,fu,ED];repeat'(first|with_reducible refine cQ ?_ ?_|omega|with_reducible rfl)
     refine⟨rfl,(show kK Tryz.prog 70 [Oi c,.ptr (ob.length+1) 0 0,.ptr (os.length+3) 0 0,.ptr os.length 0 0,.ptr (ob.length+2) 0 0] (some 139) _ _ from ?_)⟩;refine qW nG ?_;rintro r o7⟨rfl,g1,g2,g3,g4⟩;refine⟨g3.len,?_⟩;simp(disch:=omega)only[Ac,↓Pc,simprocAttr,List.drop];refine hK _ ?_;clear hK K;repeat(first|refine Xu ?_)
     ((try revert hK K);(repeat'(first|refine Va X0 ?_|(refine V2 X0 ?_ ?_<;>try with_reducible intro hb)|(refine Xi ?_ ?_<;>try intro ht)|refine VD ?_ ?_|exact Xx|fail))<;>try with_reducible intro K hK)
     exact ak _ (c+1,o7) ⟨NZ,by dsimp only;rw[vW,tI];exact g1,by dsimp only;rw[vW,tI];exact g2,h3.trans g3,by dsimp only;rw[vW,tI];exact g4.len.trans M9,by dsimp only;rw[vW,tI];exact g4.sh,by dsimp only;rw[vW,tI];exact g4.wb.mono AT⟩ NZ (Xv X0)
   ·obtain rfl:c=k:=AT;((try revert hK K);(repeat'(first|refine Va X0 ?_|(refine V2 X0 ?_ ?_<;>try with_reducible intro hb)|(refine Xi ?_ ?_<;>try intro ht)|refine VD ?_ ?_|exact Xx|fail))<;>try with_reducible intro K hK)
    refine au _ _ rfl ?_;clear ak au Ql;repeat(first|refine Xu ?_)
    ((try revert hK K);(repeat'(first|refine Vb X0 ?_|(refine V2 X0 ?_ ?_<;>try with_reducible intro hb)|(refine Xi ?_ ?_<;>try intro ht)|refine VD ?_ ?_|exact Xx|fail))<;>try with_reducible intro K hK)
    unfold kJ;simp only[gm,fW];have hnk:=Ni (lY m can st.2 (W,aO c false) c).2;exact⟨.bu [],_,⟨rfl,h1,⟨h3.len,λi o e1 e2 e3=>h3.same i o e1 (λhm=>by
     rw[ek,fP]at hm;rcases bm.1 hm with e|hm
     ·have:=gX e3;dsimp only at e;omega
     ·exact e2 hm) e3⟩,h5,h6.mono AT⟩,dX rfl h3.len rfl⟩
end
section
variable {m:ah} {os:List Ob}
def ajq(hm:VM m){left:List (List Bool)}(hf:cp m left)(os:List Ob):
  dy Tryz.prog 38 [.agg (aq m),.tree 1 (rowsOf ay left)] os λr ob=>∃ gi ai bi mi D E,r=.ptr gi 0 0/\WF m (dG m left m.cls.length) gi ai bi mi D E (W0 m) ob/\os.length<=ob.length/\(∀ (i:Nat) o,os[i]?=some o->ob[i]?=some o)/\os.length<=mi/\∀ i∈(D++E).map (·.1),os.length<=i:=by
 have oO:=hm.ae;have qV:=hm.cls;refine dy.aN 110 os.length [.tmp 4] Tryz.func38 ?_;((try revert hK K);(repeat'(first|refine Va (X3 @aq.eq_1 @bH @bz.{0}) ?_|(refine V2 (X3 @aq.eq_1 @bH @bz.{0}) ?_ ?_<;>try with_reducible intro hb)|(refine Xi ?_ ?_<;>try intro ht)|refine VD ?_ ?_|exact Xx|fail))<;>try with_reducible intro K hK)
 refine cd (σ':=⟨ao [(1,.tree 1 (rowsOf ay left)),(2,.ptr os.length 0 0),(5,.ptr (os.length+2) 0 0),(22,.tree 1 (rowsOf aV m.cls)),(23,Oi m.cls.length),(24,Oi 0)],os++[.var (aq m),.mp 3 [],.var (aq m++[.lit (.slice none 0 0),.lit (.slice none 0 0),.lit (.slice none 0 0),.c9 (os.length+1)])]⟩) (Xv @aq.eq_1) ?_;refine cd (akc m os _ _ _ _) ?_;refine bb (λz:Nat×List (Nat×List Int)×Nat×Nat×List Ob=>(⟨ao [(1,.tree 1 (rowsOf ay left)),(2,.ptr os.length 0 0),(5,.ptr (os.length+2) 0 0),(22,.tree 1 (rowsOf aV m.cls)),(23,Oi m.cls.length),(24,Oi z.1)],z.2.2.2.2⟩:St))
  (λz=>z.1<=m.cls.length/\FX (BW m left os z.1 z.2.1 z.2.2.1 z.2.2.2.1) z.2.2.2.2/\z.2.1.map (·.2)=(m.cls.take z.1).map b7)
  (λz=>m.cls.length-z.1) (0,[],os.length+3,os.length+4,os++[.var (aq m),.mp 3 [],gW m (os.length+1) (os.length+3) (os.length+4) (os.length+5) 0 0,.arr 1 [],.arr 1 [],.arr 1 []]) ⟨aW _,BW0 m left os,IM⟩ (Xv X0) ?_
 rintro⟨c,Q,ci,oi,ob⟩⟨hc,hF,hQ⟩Ql ak au;dsimp only at hc hF hQ ⊢;by_cases iK:c<m.cls.length
 ·have qD:=hm.opt _ (aE (l:=m.cls) (i:=c) (d:=default) iK);have kM:=hm.qK _ (aE (l:=m.cls) (i:=c) (d:=default) iK);have gV:=ei iK;have VY:=hf.2 c (by have:=hf.1;omega);have gG:=aj2 m left c;have abc:=Nj (X:=left) (c:=c) (by have:=hf.1;omega);have ann:=hf.1;generalize fY:m.cls.getD c default=l at *;generalize vP:left.getD c default=row at *;repeat'(first|((fail_if_success (first|refine eO 7 ?_|refine eP 7 ?_));refine Xr (X2 @fY @aV.eq_1) ?_;intro K hK)|refine Xo (X2 @fY @aV.eq_1) ?_|(refine hK _ ?_;clear hK K)|(refine Xg (X2 @fY @aV.eq_1) ?_ ?_<;>try intro hb)|(refine Xi ?_ ?_<;>try intro ht)|refine Xy ?_|refine Xd ?_ ?_|exact Xx|fail)
  ((try revert hK K);(repeat'(first|refine Va X0 ?_|(refine V2 X0 ?_ ?_<;>try with_reducible intro hb)|(refine Xi ?_ ?_<;>try intro ht)|refine VD ?_ ?_|exact Xx|fail))<;>try with_reducible intro K hK)
  have cF:row.length=l.length:=VY;refine cd (aF.nil 8 1 (by simp only[Kc,simprocAttr]) IP) ?_;refine cd (aF.nil 9 1 (by simp only[Kc,simprocAttr]) IP) ?_;dsimp only;rw[bz,bL];refine bb (λz:Nat×Nat×Nat×List Ob=>(⟨ao [(1,.tree 1 (rowsOf ay left)),(2,.ptr os.length 0 0),(5,.ptr (os.length+2) 0 0),(6,Oi c),(8,.ref z.2.1 1 0 z.1),(9,.ref z.2.2.1 1 0 z.1),(22,.tree 1 (rowsOf aV m.cls)),(23,Oi m.cls.length),(24,Oi c),(29,.tree 6 (rowsOf dK l)),(30,Oi l.length),(31,Oi z.1)],z.2.2.2⟩:St))
   (λz=>z.1<=l.length/\FX ((z.2.1,.arr 1 (a8 ((gu l row).take z.1)))::(z.2.2.1,.arr 1 (ints ((b7 l).take z.1)))::BW m left os c Q ci oi) z.2.2.2)
   (λz=>l.length-z.1) (0,ob.length,ob.length+1,ob++[.arr 1 [],.arr 1 []]) ⟨aW _,?_⟩ ?_ ?_
  ·exact hF.news (N:=[(ob.length,.arr 1 []),(ob.length+1,.arr 1 [])]) (l:=[.arr 1 [],.arr 1 []]) (λp hp=>by
    simp only[bm,iT,or_false]at hp;rcases hp with rfl|rfl
    ·exact⟨0,rfl,rfl⟩
    ·exact⟨1,rfl,rfl⟩) IM
  ·exact Xv X0
  clear hF;rintro⟨k,x,y,o2⟩⟨hk,hF⟩dL bO bQ;dsimp only at hk hF ⊢;by_cases bf:k<l.length
  ·have Nk:=kM _ (aE (l:=l) (i:=k) (d:=default) bf);have bR:=BK Nk;have Bh:qN (l.getD k default)=((l.getD k default).ch.map (·.2)).foldl dW 0:=rfl;have kH:(gu l row).take (k+1)=(gu l row).take k++[row.getD k false&&decide (qN (l.getD k default)<1099511627776)]:=by
    rw[ei (by simp[gu];exact bf)];congr 2;unfold gu;rw[ax,bV,pX bf];rfl
   have Zl:(b7 l).take (k+1)=(b7 l).take k++[qN (l.getD k default)]:=by
    rw[ei (by simp[b7];exact bf)];congr 2;unfold b7;rw[ax,bV,ax,bq bf];rfl
   have bn:((gu l row).take k).length=k:=by rw[fe];simp[gu];omega
   have nM:((b7 l).take k).length=k:=by rw[fe];simp[b7];omega
   generalize tx:l.getD k default=o at *;have Vu:o.ch.length<9223372036854775808:=by have h1:=Tw hm.uD.1 Nk;have h2:=hm.uD.2;omega
   ((try revert hK K);(repeat'(first|refine Va (X4 @tx @dK.eq_1 @bH @bz.{0}) ?_|(refine V2 (X4 @tx @dK.eq_1 @bH @bz.{0}) ?_ ?_<;>try with_reducible intro hb)|(refine Xi ?_ ?_<;>try intro ht)|refine VD ?_ ?_|exact Xx|fail))<;>try with_reducible intro K hK)
   have Nl:=G3 Nk;refine bb (λz:Nat×List Ob=>(⟨ao [(1,.tree 1 (rowsOf ay left)),(2,.ptr os.length 0 0),(5,.ptr (os.length+2) 0 0),(6,Oi c),(8,.ref x 1 0 k),(9,.ref y 1 0 k),(10,Oi k),(12,Oi (((o.ch.take z.1).map (·.2)).foldl dW 0)),(22,.tree 1 (rowsOf aV m.cls)),(23,Oi m.cls.length),(24,Oi c),(29,.tree 6 (rowsOf dK l)),(30,Oi l.length),(31,Oi k),(37,.tree 2 (rowsOf dv o.ch)),(38,Oi o.ch.length),(39,Oi z.1)],z.2⟩:St))
    (λz=>z.1<=o.ch.length/\FX ((x,.arr 1 (a8 ((gu l row).take k)))::(y,.arr 1 (ints ((b7 l).take k)))::BW m left os c Q ci oi) z.2)
    (λz=>o.ch.length-z.1) (0,o2++[.var (dK o)]) ⟨aW _,hF.app _⟩ (Xv (X3 @List.take_zero.{0} @List.map_nil.{0,0} @List.foldl_nil.{0,0})) ?_
   clear hF;rintro⟨q,o3⟩⟨hq,hF⟩nR iR gD;dsimp only at hq hF ⊢;have El:bJ (((o.ch.take q).map (·.2)).foldl dW 0):=DT _ _ (λv hv=>by
    obtain⟨w,hw,rfl⟩:=bS.1 hv;exact Nl w (List.mem_of_mem_take hw)) (by unfold bJ;decide)
   unfold bJ at El;by_cases xh:q<o.ch.length
   ·have jx:((o.ch.take (q+1)).map (·.2)).foldl dW 0=min ((((o.ch.take q).map (·.2)).foldl dW 0)+(o.ch.getD q default).2) 1099511627776:=by
     rw[ei xh,dH,List.foldl_append];rfl
    have hcq:=Nl _ (aE (l:=o.ch) (i:=q) (d:=default) xh);unfold bJ at hcq;generalize wN:((o.ch.take (q+1)).map (·.2)).foldl dW 0=s1 at *;generalize ((o.ch.take q).map (·.2)).foldl dW 0=s0 at *;generalize bc:o.ch.getD q default=cc at *;((try revert hK K);(repeat'(first|refine Va (X4 @bc @dv.eq_1 @bH @bz.{0}) ?_|(refine V2 (X4 @bc @dv.eq_1 @bH @bz.{0}) ?_ ?_<;>try with_reducible intro hb)|(refine Xi ?_ ?_<;>try intro ht)|refine VD ?_ ?_|exact Xx|fail))<;>try with_reducible intro K hK)
    all_goals try(exfalso;omega)
    exact iR _ (q+1,_) ⟨NZ,hF.app [.var (dv cc)]⟩ NZ (by dsimp only;rw[wN,jx];exact Xv @dv.eq_1)
   ·obtain rfl:q=o.ch.length:=AT;rw[ze]at El ⊢;((try revert hK K);(repeat'(first|refine Va X0 ?_|(refine V2 X0 ?_ ?_<;>try with_reducible intro hb)|(refine Xi ?_ ?_<;>try intro ht)|refine VD ?_ ?_|exact Xx|fail))<;>try with_reducible intro K hK)
    refine gD _ _ rfl ?_;clear iR gD nR;repeat(first|refine Xu ?_)
    rw[<- Bh]at El ⊢;generalize pw:qN o=sm at *;have fx:=hF.at_ (x,.arr 1 (a8 ((gu l row).take k))) IM;have fy:=hF.at_ (y,.arr 1 (ints ((b7 l).take k))) IM;have qt:x≠y:=FX.ne (P:=[]) (a:=(x,.arr 1 (a8 ((gu l row).take k)))) (b:=(y,.arr 1 (ints ((b7 l).take k)))) hF IM;dsimp only at fx fy;have fxl:=aK fx;have fyl:=aK fy;have sx:=iG fx;have Il:=eU (y:=.gone) fy qt;have abf:=aK Il;have sy:=iG Il;have AE:=(hF.kill .gone).kill .gone;have lc:(a8 ((gu l row).take k)).length=k:=by rw[zj];exact bn
    have lo:(ints ((b7 l).take k)).length=k:=by rw[vc];exact nM
    have tc:ja k (a8 ((gu l row).take k))=a8 ((gu l row).take k):=cZ AT;have to:ja k (ints ((b7 l).take k))=ints ((b7 l).take k):=cZ AT;have e22:∀ l2 k2,((o3.set x .gone).set y .gone++l2)[o3.length+k2]?=l2[k2]?:=λl2 k2=>yP IM l2 k2;generalize hr9:row.getD k false=rk at *;have kr:∀ bv,bv=(rk&&decide (sm<1099511627776))->FX ((o3.length+1,.arr 1 (a8 ((gu l row).take (k+1))))::(o3.length+3,.arr 1 (ints ((b7 l).take (k+1))))::BW m left os c Q ci oi) ((o3.set x .gone).set y .gone++[.arr 1 [[.lit (.bool bv)]],.arr 1 (a8 ((gu l row).take k++[bv])),.arr 1 [[Oi sm]],.arr 1 (ints ((b7 l).take k++[sm]))]):=λbv hbv=>by
     rw[kH,Zl,<- hbv];have Ae:((o3.set x .gone).set y .gone).length=o3.length:=IM;have h:=AE.news (N:=[(o3.length+1,.arr 1 (a8 ((gu l row).take k++[bv]))),(o3.length+3,.arr 1 (ints ((b7 l).take k++[sm])))]) (l:=[.arr 1 [[.lit (.bool bv)]],.arr 1 (a8 ((gu l row).take k++[bv])),.arr 1 [[Oi sm]],.arr 1 (ints ((b7 l).take k++[sm]))]) (λp hp=>by
      rw[Ae];simp only[bm,iT,or_false]at hp;rcases hp with rfl|rfl
      ·exact⟨1,rfl,rfl⟩
      ·exact⟨3,rfl,rfl⟩) IM
     exact h
    ((try revert hK K);(repeat'(first|refine Va (X5 @bH @bz.{0} @bL.{0} @bw.{0} (X5 @abc @vP @ay.eq_1 @hr9 (X5 @fx @fxl @sx @fy (X5 @fyl @Il @abf @sy (X5 @lc @lo @tc @to (X4 @oI @e22 @CQ @xU)))))) ?_|(refine V2 (X5 @bH @bz.{0} @bL.{0} @bw.{0} (X5 @abc @vP @ay.eq_1 @hr9 (X5 @fx @fxl @sx @fy (X5 @fyl @Il @abf @sy (X5 @lc @lo @tc @to (X4 @oI @e22 @CQ @xU)))))) ?_ ?_<;>try with_reducible intro hb)|(refine Xi ?_ ?_<;>try intro ht)|refine VD ?_ ?_|exact Xx|fail))<;>try with_reducible intro K hK)
    all_goals first
     |exact bO _ (k+1,o3.length+1,o3.length+3,_) ⟨NZ,kr (decide (sm<1099511627776)) (by simp[*])⟩ NZ (Xv X0)
     |exact bO _ (k+1,o3.length+1,o3.length+3,_) ⟨NZ,kr false (by simp[*])⟩ NZ (Xv X0)
  ·obtain rfl:k=l.length:=AT;have e1:(gu l row).take l.length=gu l row:=cZ (by simp[gu]);have e2:(b7 l).take l.length=b7 l:=cZ (by simp[b7]);rw[e1,e2]at hF;((try revert hK K);(repeat'(first|refine Va X0 ?_|(refine V2 X0 ?_ ?_<;>try with_reducible intro hb)|(refine Xi ?_ ?_<;>try intro ht)|refine VD ?_ ?_|exact Xx|fail))<;>try with_reducible intro K hK)
   refine bQ _ _ rfl ?_;clear bO bQ dL;repeat(first|refine Xu ?_)
   have nM:(b7 l).length=l.length:=by simp[b7]
   have bn:(gu l row).length=l.length:=by simp[gu]
   have fx:=hF.at_ (x,.arr 1 (a8 (gu l row))) IM;refine cd (aF.Ko 8 x 1 (rows:=a8 (gu l row)) fx (by rw[zj,bn];simp only[Kc,simprocAttr]) (Jo _) (Qg _)) ?_;have AE:=hF.kill .gone;dsimp only;generalize o2.set x .gone=o4 at *;have dm :∃o6,FX (lA (y,b7 l)::BW m left os c Q ci oi) o6/\aF os.length ⟨ao [(1,.tree 1 (rowsOf ay left)),(2,.ptr os.length 0 0),(5,.ptr (os.length+2) 0 0),(8,.tree 1 (a8 (gu l row))),(9,.ref y 1 0 l.length),(22,.tree 1 (rowsOf aV m.cls)),(23,Oi m.cls.length),(24,Oi c)],o4⟩
     ⟨ao [(1,.tree 1 (rowsOf ay left)),(2,.ptr os.length 0 0),(5,.ptr (os.length+2) 0 0),(8,.tree 1 (a8 (gu l row))),(9,oS (y,l.length)),(22,.tree 1 (rowsOf aV m.cls)),(23,Oi m.cls.length),(24,Oi c)],o6⟩:=by
    unfold lA oS;dsimp only;by_cases h0:l.length=0
    ·have hl0:b7 l=[]:=List.length_eq_zero_iff.1 (nM.trans h0);rw[hl0,if_pos rfl,if_pos h0];rw[hl0]at AE;refine⟨o4.set y .gone,AE.put _,?_⟩;refine aF.trans (aF.Ko 9 y 1 (rows:=[]) (AE.at_ (y,.arr 1 (ints [])) IM) (by rw[h0];rfl) IM IM) ?_;exact Xv X0
    ·have hl0:b7 l≠[]:=λe=>h0 (by rw[<- nM,e];rfl);rw[if_neg hl0,if_neg h0];exact⟨o4,AE,by exact Xv X0⟩
   obtain⟨o6,Cq,hT⟩:=dm;refine cd (σ':=⟨ao [(1,.tree 1 (rowsOf ay left)),(2,.ptr os.length 0 0),(5,.ptr (os.length+2) 0 0),(8,.tree 1 (a8 (gu l row))),(9,.ref y 1 0 l.length),(22,.tree 1 (rowsOf aV m.cls)),(23,Oi m.cls.length),(24,Oi c)],o4⟩) (Xv X0) ?_;refine cd hT ?_;clear hT hF AE fx o4;have vV:Q.length=c:=by have:=congrArg kC hQ;simp at this;omega
   have fG:=Cq.at_ (os.length+2,gW m (os.length+1) ci oi (os.length+5) c 0) (by simp[BW]);have fC:=Cq.at_ (ci,.arr 1 (rowsOf ay (dG m left c))) (by simp[BW]);have fO:=Cq.at_ (oi,.arr 1 (rowsOf dE (dQ Q))) (by simp[BW]);unfold gW aq at fG;dsimp only[ek,gv]at fG fC fO;have Es:(lA (y,b7 l)::BW m left os c Q ci oi).Perm ((ci,.arr 1 (rowsOf ay (dG m left c)))::(oi,.arr 1 (rowsOf dE (dQ Q)))::(os.length+2,gW m (os.length+1) ci oi (os.length+5) c 0)::lA (y,b7 l)::(os.length+5,.arr 1 [])::(os.length,.var (aq m))::(os.length+1,.mp 3 [])::(Q.map lA++nU os)):=by
    exact aj4 _ _ _ _ _
   have AF:=Cq.perm Es;have akD:ci≠oi:=FX.ne (P:=[]) (a:=(ci,.arr 1 (rowsOf ay (dG m left c)))) (b:=(oi,.arr 1 (rowsOf dE (dQ Q)))) AF IM;have Nn:ci≠os.length+2:=FX.ne (P:=[]) (a:=(ci,.arr 1 (rowsOf ay (dG m left c)))) (b:=(os.length+2,gW m (os.length+1) ci oi (os.length+5) c 0)) AF IM;have Np:oi≠os.length+2:=FX.ne (P:=[(ci,.arr 1 (rowsOf ay (dG m left c)))]) (a:=(oi,.arr 1 (rowsOf dE (dQ Q)))) (b:=(os.length+2,gW m (os.length+1) ci oi (os.length+5) c 0)) AF IM;have fCl:=aK fC;have fOl:=aK fO;have Cr:=aK fG;have sC:=iG fC;have vY:=eU (y:=.gone) fG Nn;have Cs:=aK vY;have Nq:=eU (y:=.gone) fO akD;have akG:=aK Nq;have sO:=iG Nq;have EG:=eU (y:=.gone) vY Np;have akH:=aK EG;have EH:=(AF.kill .gone).kill .gone;have lC:(rowsOf ay (dG m left c)).length=c:=by rw[cr];simp[dG]
   have lO:(rowsOf dE (dQ Q)).length=c:=by rw[cr];simp[dQ,vV]
   have tC:ja c (rowsOf ay (dG m left c))=rowsOf ay (dG m left c):=cZ AT;have tO:ja c (rowsOf dE (dQ Q))=rowsOf dE (dQ Q):=cZ AT;have rW:rowsOf ay (dG m left c)++[[.tree 1 (a8 (gu l row))]]=rowsOf ay (dG m left (c+1)):=by rw[gG];unfold rowsOf;rw[dH];rfl
   have yJ:rowsOf dE (dQ Q)++[[oS (y,l.length)]]=rowsOf dE (dQ (Q++[(y,b7 l)])):=by rw[<- M7,show(b7 l).length=l.length by simp[b7]]
   have l6:((o6.set ci .gone).set oi .gone).length=o6.length:=IM;have l5:(o6.set ci Ob.gone).length=o6.length:=IM;have e5:=λl k=>yP l5 l k;have e50:=λx l=>Ii l5 x l;have e6:=λl k=>yP l6 l k;have e60:=λx l=>Ii l6 x l;have sG:=iG EG;have sG2:=λy=>iG (lS (y:=y) EG);have sG5:=λy=>aK (lS (y:=y) EG);have tz:(os.length+2∈[os.length+2])=True:=IM;have Ec:(ci ∉ [os.length+2])=True:=by simp[Nn]
   have hmo:(oi ∉ [os.length+2])=True:=by simp[Np]
   have akN:(ci∈[os.length+2])=False:=by simp[Nn]
   have akO:(oi∈[os.length+2])=False:=by simp[Np]
   have mT:=aj1 (y,l.length);have akP:cellsOf (oS (y,l.length))=[oS (y,l.length)]:=by unfold oS;split<;>rfl
   have ano:=gX fG;have kr:∀ (s:St) (cc:Nat) (G1:Ob) (l4:List Ob),cc=1\/cc=2->l4[cc]?=some (.arr 1 (rowsOf ay (dG m left (c+1))))->l4[3]?=some (.arr 1 (rowsOf dE (dQ (Q++[(y,b7 l)])))) ->
     aF os.length s ⟨ao [(1,.tree 1 (rowsOf ay left)),(2,.ptr os.length 0 0),(5,.ptr (os.length+2) 0 0),(22,.tree 1 (rowsOf aV m.cls)),(23,Oi m.cls.length),(24,Oi c)],(((o6.set ci .gone).set oi .gone).set (os.length+2) G1).set (os.length+2) (gW m (os.length+1) (o6.length+cc) (o6.length+3) (os.length+5) (c+1) 0)++l4⟩ ->
     ∃ cc l4,FX (BW m left os (c+1) (Q++[(y,b7 l)]) (o6.length+cc) (o6.length+3)) l4/\aF os.length s ⟨ao [(1,.tree 1 (rowsOf ay left)),(2,.ptr os.length 0 0),(5,.ptr (os.length+2) 0 0),(22,.tree 1 (rowsOf aV m.cls)),(23,Oi m.cls.length),(24,Oi c)],l4⟩:=λs cc G1 l4 bc h1 h2 ht=>by
    refine⟨cc,_,?_,ht⟩;have h:=((EH.put G1).put (gW m (os.length+1) (o6.length+cc) (o6.length+3) (os.length+5) (c+1) 0)).news (N:=[(o6.length+cc,.arr 1 (rowsOf ay (dG m left (c+1)))),(o6.length+3,.arr 1 (rowsOf dE (dQ (Q++[(y,b7 l)]))))]) (l:=l4) (λp hp=>by
     simp only[bw];simp only[bm,iT,or_false]at hp;rcases hp with rfl|rfl
     ·exact⟨cc,rfl,h1⟩
     ·exact⟨3,rfl,h2⟩) N0
    have h':=h.perm (aj5 _ _ _ _ _ _ _ _ _);unfold BW;rw[dH,bz];exact h'
   refine MO (λs=>∃ cc l4,FX (BW m left os (c+1) (Q++[(y,b7 l)]) (o6.length+cc) (o6.length+3)) l4/\aF os.length s ⟨ao [(1,.tree 1 (rowsOf ay left)),(2,.ptr os.length 0 0),(5,.ptr (os.length+2) 0 0),(22,.tree 1 (rowsOf aV m.cls)),(23,Oi m.cls.length),(24,Oi c)],l4⟩) ?_ ?_
   ·rintro s ⟨cc,l4,h1,h2⟩;repeat(first|refine Xu ?_)
    refine cd h2 ?_;((try revert hK K);(repeat'(first|refine Va X0 ?_|(refine V2 X0 ?_ ?_<;>try with_reducible intro hb)|(refine Xi ?_ ?_<;>try intro ht)|refine VD ?_ ?_|exact Xx|fail))<;>try with_reducible intro K hK)
    exact ak _ (c+1,Q++[(y,b7 l)],o6.length+cc,o6.length+3,l4) ⟨NZ,h1,by dsimp only;rw[dH,hQ,gV,dH];rfl⟩ NZ (Xv X0)
   intro QQ key;clear ak au;refine Zq [os.length+2] [] [8,15] (.take 0 (.take 1 (.take 2 (.take 3 (.take 4 (.take 5 (.take 6 (.take 9 (.take 10 (.take 11 (.take 12 (.take 13 (.both 7 (.both 8 (.take 14 (.take 15 (.take 16 (.take 17 (.take 18 (.take 19 (.take 20 (.take 21 .nil)))))))) 14 (.take 8 (.take 15 (.take 16 (.take 17 (.take 18 (.take 19 (.take 20 (.take 21 .nil))))))))) 14 (.take 7 (.take 8 (.take 15 (.take 16 (.take 17 (.take 18 (.take 19 (.take 20 (.take 21 .nil)))))))))))))))))))))) rfl IP (by decide +kernel) ?_;simp(disch:=omega)only[Ac,↓Pc,simprocAttr,Ra,iY,tz,Ec,hmo,akN,akO,not_false_eq_true,fC,fO,fG,fCl,fOl,Cr,sC,vY,Cs,Nq,akG,sO,EG,akH,lC,lO,tC,tO,rW,yJ,l5,l6,e5,e50,e6,e60,sG,sG2,sG5,mT,akP,bH,bz,bL];repeat'(first|with_reducible refine cQ ?_ ?_|omega|with_reducible rfl|(intro id b9;simp only[bm,iT,or_false]at b9;omega))
   all_goals first
    | (refine key _ (kr _ 1 (.var (aq m++[.ref (o6.length+1) 1 0 (c+1),.ref oi 1 0 c,.ref (os.length+5) 1 0 0,.c9 (os.length+1)])) [.arr 1 [[.tree 1 (a8 (gu l row))]],.arr 1 (rowsOf ay (dG m left (c+1))),.arr 1 [[oS (y,l.length)]],.arr 1 (rowsOf dE (dQ (Q++[(y,b7 l)])))] (.inl rfl) rfl rfl ?_);exact Xv (X2 @gW.eq_1 @aq.eq_1);done)
    | (refine key _ (kr _ 2 (.var (aq m++[.ref (o6.length+2) 1 0 (c+1),.ref oi 1 0 c,.ref (os.length+5) 1 0 0,.c9 (os.length+1)])) [.arr 1 [[.tree 1 (a8 (gu l row))]],.arr 1 [[oS (y,l.length)]],.arr 1 (rowsOf ay (dG m left (c+1))),.arr 1 (rowsOf dE (dQ (Q++[(y,b7 l)])))] (.inr rfl) rfl rfl ?_);exact Xv (X2 @gW.eq_1 @aq.eq_1);done)
    | (refine key _ (kr _ 2 (.var (aq m++[.ref (o6.length+2) 1 0 (c+1),.ref oi 1 0 c,.ref (os.length+5) 1 0 0,.c9 (os.length+1)])) [.arr 1 [[oS (y,l.length)]],.arr 1 [[.tree 1 (a8 (gu l row))]],.arr 1 (rowsOf ay (dG m left (c+1))),.arr 1 (rowsOf dE (dQ (Q++[(y,b7 l)])))] (.inr rfl) rfl rfl ?_);exact Xv (X2 @gW.eq_1 @aq.eq_1);done)
 ·obtain rfl:c=m.cls.length:=AT;rw[ze]at hQ;((try revert hK K);(repeat'(first|refine Va X0 ?_|(refine V2 X0 ?_ ?_<;>try with_reducible intro hb)|(refine Xi ?_ ?_<;>try intro ht)|refine VD ?_ ?_|exact Xx|fail))<;>try with_reducible intro K hK)
  refine au _ _ rfl ?_;clear ak au Ql;repeat(first|refine Xu ?_)
  have EB:FX (B2 m left os Q ci oi (os.length+5) 0 []) ob:=hF.perm (aj6 _ _ _ _ _ _ _);clear hF;have fA:=EB.at_ (os.length,.var (aq m)) (by simp[B2,BR]);dsimp only at fA;((try revert hK K);(repeat'(first|refine Va (X2 @fA @aq.eq_1) ?_|(refine V2 (X2 @fA @aq.eq_1) ?_ ?_<;>try with_reducible intro hb)|(refine Xi ?_ ?_<;>try intro ht)|refine VD ?_ ?_|exact Xx|fail))<;>try with_reducible intro K hK)
  refine bb (λz:Nat×List (Nat×List Int)×Nat×List Ob=>(⟨ao [(5,.ptr (os.length+2) 0 0),(90,.tree 4 (rowsOf aG m.ae)),(91,Oi m.ae.length),(92,Oi z.1)],z.2.2.2⟩:St))
   (λz=>z.1<=m.ae.length/\FX (B2 m left os Q ci oi z.2.2.1 z.1 z.2.1) z.2.2.2/\z.2.1.map (·.2)=(m.ae.take z.1).map (·.aB))
   (λz=>m.ae.length-z.1) (0,[],os.length+5,ob) ⟨aW _,EB,IM⟩ (Xv X0) ?_
  clear EB fA;rintro⟨j,QE,ti,ob⟩⟨hj,hF,yT⟩Ql ak au;dsimp only at hj hF yT ⊢;by_cases fJ:j<m.ae.length
  ·have gV:=ei fJ;obtain⟨dp,_⟩:=yU hm fJ;have nk:(cM m j).aB.length<=576:=by
    obtain⟨_,_,_,_,h1⟩:=qI dp;have a:=AG hm (cM m j).fst.toNat;have b:=AG hm (cM m j).snd.toNat;have h2:(cM m j).aB.length=cH m (cM m j).fst.toNat*cH m (cM m j).snd.toNat:=by exact_mod_cast h1
    rw[h2];exact Nat.mul_le_mul a b
   have gp:m.ae.getD j default=cM m j:=rfl;rw[gp]at gV;generalize cM m j=p at *;have vV:QE.length=j:=by have:=congrArg kC yT;simp at this;omega
   have fG:=hF.at_ (os.length+2,gW m (os.length+1) ci oi ti m.cls.length j) (by simp[B2]);have fT:=hF.at_ (ti,.arr 1 (rowsOf dE (dQ QE))) (by simp[B2]);unfold gW aq at fG;dsimp only[ek,gv]at fG fT;have zF:os.length+2≠ti:=FX.ne (P:=[]) (a:=(os.length+2,gW m (os.length+1) ci oi ti m.cls.length j)) (b:=(ti,.arr 1 (rowsOf dE (dQ QE)))) hF IM;have AF:FX ((ti,.arr 1 (rowsOf dE (dQ QE)))::(os.length+2,gW m (os.length+1) ci oi ti m.cls.length j)::(QE.map lA++BR m left os Q ci oi)) ob:=hF.perm (p9.swap _ _ _);have EH:=AF.kill .gone;have xz:=aK fT;have Cr:=aK fG;have sT:=iG fT;have vY:=eU (y:=.gone) fG (Ne.symm zF);have Cs:=aK vY;have sG:=iG vY;have lT:(rowsOf dE (dQ QE)).length=j:=by rw[cr];simp[dQ,vV]
   have tT:ja j (rowsOf dE (dQ QE))=rowsOf dE (dQ QE):=cZ AT;have yJ:rowsOf dE (dQ QE)++[[oS (ob.length+1,p.aB.length)]]=rowsOf dE (dQ (QE++[(ob.length+1,p.aB)])):=M7 QE (ob.length+1,p.aB);have tE:=gX fG;repeat'(first|((fail_if_success (first|refine eO 23 ?_|refine eP 23 ?_));refine Xr (X3 @gp @bH @bz.{0}) ?_;intro K hK)|refine Xo (X3 @gp @bH @bz.{0}) ?_|(refine hK _ ?_;clear hK K)|(refine Xg (X3 @gp @bH @bz.{0}) ?_ ?_<;>try intro hb)|(refine Xi ?_ ?_<;>try intro ht)|refine Xy ?_|refine Xd ?_ ?_|exact Xx|fail)
   refine cd (σ':=⟨ao [(5,.ptr (os.length+2) 0 0),(16,.ptr ob.length 0 0),(90,.tree 4 (rowsOf aG m.ae)),(91,Oi m.ae.length),(92,Oi j)],ob++[.var (aG p)]⟩) (Xv @aG.eq_1) ?_;refine MO (λs=>∃ q tn l4,FX (B2 m left os Q ci oi tn (j+1) (QE++[(q,p.aB)])) l4/\aF os.length s ⟨ao [(5,.ptr (os.length+2) 0 0),(90,.tree 4 (rowsOf aG m.ae)),(91,Oi m.ae.length),(92,Oi j)],l4⟩) ?_ ?_
   ·rintro s ⟨q,tn,l4,h1,h2⟩;repeat(first|refine Xu ?_)
    refine cd h2 ?_;((try revert hK K);(repeat'(first|refine Va X0 ?_|(refine V2 X0 ?_ ?_<;>try with_reducible intro hb)|(refine Xi ?_ ?_<;>try intro ht)|refine VD ?_ ?_|exact Xx|fail))<;>try with_reducible intro K hK)
    exact ak _ (j+1,QE++[(q,p.aB)],tn,l4) ⟨NZ,h1,by dsimp only;rw[dH,yT,gV,dH];rfl⟩ NZ (Xv X0)
   intro QQ key;clear ak au;by_cases h0:p.aB.length=0
   ·have Im:p.aB=[]:=List.length_eq_zero_iff.1 h0;have bn:=aiy p.aB AT;rw[Im]at bn key;have hA3:rowsOf dE (dQ QE)++[[.tree 1 (ints [])]]=rowsOf dE (dQ (QE++[(ti,[])])):=M7 QE (ti,[]);have hg5:FX ((os.length+2,gW m (os.length+1) ci oi ti m.cls.length j)::(ti,.gone)::(QE.map lA++BR m left os Q ci oi)) (ob.set ti .gone):=(AF.put .gone).perm (p9.swap _ _ _);have kr:FX (B2 m left os Q ci oi (ob.length+2) (j+1) (QE++[(ti,[])])) ((ob.set ti .gone).set (os.length+2) (gW m (os.length+1) ci oi (ob.length+2) m.cls.length (j+1))++[.var [Oi p.fst,Oi p.snd,Oi p.dZ,.tree 1 (ints [])],.arr 1 [[.tree 1 (ints [])]],.arr 1 (rowsOf dE (dQ (QE++[(ti,[])])))]):=by
     have h:=(hg5.put (gW m (os.length+1) ci oi (ob.length+2) m.cls.length (j+1))).news (N:=[(ob.length+2,.arr 1 (rowsOf dE (dQ (QE++[(ti,[])]))))]) (l:=[.var [Oi p.fst,Oi p.snd,Oi p.dZ,.tree 1 (ints [])],.arr 1 [[.tree 1 (ints [])]],.arr 1 (rowsOf dE (dQ (QE++[(ti,[])])))]) (λq hq=>by
      simp only[bw];rw[c8]at hq;subst hq;exact⟨2,rfl,rfl⟩) IM
     have h':=h.perm (aj8 _ _ _ _ _);unfold B2;rw[dH,bz];exact h'
    rw[Im]at yJ nk;refine lI [] (.take 0 (.take 1 (.take 5 (.take 6 (.both 2 (.both 3 (.both 4 (.take 7 (.take 8 (.take 9 (.take 10 (.take 11 (.take 12 .nil)))))) 7 (.take 4 (.take 8 (.take 9 (.take 10 (.take 11 (.take 12 .nil))))))) 7 (.take 3 (.take 4 (.take 8 (.take 9 (.take 10 (.take 11 (.take 12 .nil)))))))) 7 (.take 2 (.take 3 (.take 4 (.take 8 (.take 9 (.take 10 (.take 11 (.take 12 .nil))))))))))))) rfl IP (by decide +kernel) ?_;simp(disch:=omega)only[Ac,↓Pc,simprocAttr,Pw,fT,fG,xz,Cr,sT,vY,Cs,sG,lT,tT,hA3,aG,Im,oI,bH,bz,bL];repeat'(first|with_reducible refine cQ ?_ ?_|omega|with_reducible rfl)
    all_goals
     (refine Xn [] (bn) ?_;simp(disch:=omega)only[Ac,↓Pc,simprocAttr,Pw,fT,fG,xz,Cr,sT,vY,Cs,sG,lT,tT,hA3,aG,Im,oI,bH,bz,bL])
     repeat'(first|with_reducible refine cQ ?_ ?_|omega|with_reducible rfl)
    all_goals exact key _ ⟨ti,ob.length+2,_,kr,by exact Xv (X2 @gW.eq_1 @aq.eq_1)⟩
   ·have bn:=Vr p.aB AT AT;have hA4:rowsOf dE (dQ QE)++[[.ref (ob.length+1) 1 0 p.aB.length]]=rowsOf dE (dQ (QE++[(ob.length+1,p.aB)])):=by rw[<- yJ];unfold oS;rw[if_neg h0]
    have kr:FX (B2 m left os Q ci oi (ob.length+3) (j+1) (QE++[(ob.length+1,p.aB)])) ((ob.set ti .gone).set (os.length+2) (gW m (os.length+1) ci oi (ob.length+3) m.cls.length (j+1))++[.var (aG p),.arr 1 (ints p.aB),.arr 1 [[.ref (ob.length+1) 1 0 p.aB.length]],.arr 1 (rowsOf dE (dQ (QE++[(ob.length+1,p.aB)])))]):=by
     have h:=(EH.put (gW m (os.length+1) ci oi (ob.length+3) m.cls.length (j+1))).news (N:=[(ob.length+3,.arr 1 (rowsOf dE (dQ (QE++[(ob.length+1,p.aB)])))),lA (ob.length+1,p.aB)]) (l:=[.var (aG p),.arr 1 (ints p.aB),.arr 1 [[.ref (ob.length+1) 1 0 p.aB.length]],.arr 1 (rowsOf dE (dQ (QE++[(ob.length+1,p.aB)])))]) (λq hq=>by
      simp only[bw];simp only[bm,iT,or_false]at hq;rcases hq with rfl|rfl
      ·exact⟨3,rfl,rfl⟩
      ·refine⟨1,rfl,?_⟩;unfold lA;dsimp only;rw[if_neg (λe=>h0 (by rw[e];rfl))];rfl) (by simp[lA])
     have h':=h.perm (aj7 _ _ _ _ _);unfold B2;rw[dH,bz];exact h'
    refine lI [] (.take 0 (.take 1 (.take 5 (.take 6 (.both 2 (.both 3 (.both 4 (.take 7 (.take 8 (.take 9 (.take 10 (.take 11 (.take 12 .nil)))))) 7 (.take 4 (.take 8 (.take 9 (.take 10 (.take 11 (.take 12 .nil))))))) 7 (.take 3 (.take 4 (.take 8 (.take 9 (.take 10 (.take 11 (.take 12 .nil)))))))) 7 (.take 2 (.take 3 (.take 4 (.take 8 (.take 9 (.take 10 (.take 11 (.take 12 .nil))))))))))))) rfl IP (by decide +kernel) ?_;simp(disch:=omega)only[Ac,↓Pc,simprocAttr,Pw,fT,fG,xz,Cr,sT,vY,Cs,sG,lT,tT,hA4,aG,oI,bH,bz,bL];repeat'(first|with_reducible refine cQ ?_ ?_|omega|with_reducible rfl)
    all_goals
     (refine Xn [] (bn) ?_;simp(disch:=omega)only[Ac,↓Pc,simprocAttr,Pw,fT,fG,xz,Cr,sT,vY,Cs,sG,lT,tT,hA4,aG,oI,bH,bz,bL,Fa])
     repeat'(first|with_reducible refine cQ ?_ ?_|omega|with_reducible rfl)
    all_goals exact key _ ⟨ob.length+1,ob.length+3,_,kr,by exact Xv (X3 @gW.eq_1 @aq.eq_1 @aG.eq_1)⟩
  ·obtain rfl:j=m.ae.length:=AT;rw[ze]at yT;((try revert hK K);(repeat'(first|refine Va X0 ?_|(refine V2 X0 ?_ ?_<;>try with_reducible intro hb)|(refine Xi ?_ ?_<;>try intro ht)|refine VD ?_ ?_|exact Xx|fail))<;>try with_reducible intro K hK)
   refine au _ _ rfl ?_;clear ak au Ql;repeat(first|refine Xu ?_)
   have fG:=hF.at_ (os.length+2,gW m (os.length+1) ci oi ti m.cls.length m.ae.length) (by simp[B2]);have fC:=hF.at_ (ci,.arr 1 (rowsOf ay (dG m left m.cls.length))) (by simp[B2,BR]);dsimp only at fG fC;unfold gW at fG;refine cd (aF.ye ci (os.length+2) 4 1 (cells:=aq m++[.ref ci 1 0 m.cls.length,.ref oi 1 0 m.cls.length,.ref ti 1 0 m.ae.length,.c9 (os.length+1)]) (rows:=rowsOf ay (dG m left m.cls.length)) fG fC (by rw[cr];simp[dG,aq]) (kI _) (qB _)) ?_;obtain⟨hWF,oN,gM⟩:=aj' hQ yT hF;have hlen:os.length<=((ob.set ci .gone).set (os.length+2) (.var (aq m++[.tree 1 (rowsOf ay (dG m left m.cls.length)),.ref oi 1 0 m.cls.length,.ref ti 1 0 m.ae.length,.c9 (os.length+1)]))).length:=by
    have:=gX fG;simp only[bw];omega
   refine cd (σ':=⟨ao [(5,.ptr (os.length+2) 0 0)],(ob.set ci .gone).set (os.length+2) (.var (aq m++[.tree 1 (rowsOf ay (dG m left m.cls.length)),.ref oi 1 0 m.cls.length,.ref ti 1 0 m.ae.length,.c9 (os.length+1)]))⟩) (Xv @aq.eq_1) ?_;generalize (ob.set ci .gone).set (os.length+2) (.var (aq m++[.tree 1 (rowsOf ay (dG m left m.cls.length)),.ref oi 1 0 m.cls.length,.ref ti 1 0 m.ae.length,.c9 (os.length+1)]))=o9 at *;have tE:=gX hWF.v;((try revert hK K);(repeat'(first|refine Vb X0 ?_|(refine V2 X0 ?_ ?_<;>try with_reducible intro hb)|(refine Xi ?_ ?_<;>try intro ht)|refine VD ?_ ?_|exact Xx|fail))<;>try with_reducible intro K hK)
   unfold kJ;simp only[gm,fW];simp(disch:=omega)only[Ac,↓Pc,simprocAttr];exact⟨_,_,⟨_,_,_,_,_,_,rfl,hWF,hlen,oN,AT,gM⟩,dX rfl hlen rfl⟩
end
end T

