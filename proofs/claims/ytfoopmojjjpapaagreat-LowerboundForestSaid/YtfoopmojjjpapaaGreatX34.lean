import Derived.Test.YtfoopmojjjpapaaGreatX33
import Derived.Test.YtfoopmojjjpapaaGreatX27
set_option linter.all false
set_option maxHeartbeats 0
set_option maxRecDepth 20000
open List renaming mem_append→da,map_append→dJ,nodup_append→oU,mem_map→b6,nodup_cons→mO,mem_cons→a8,mem_cons_self→u4,mem_cons_of_mem→dx,map_map→wI,range→aY,range_succ→tM,getD_eq_getElem?_getD→az,getElem?_map→bY,getElem?_range→nN,not_mem_nil→iJ,Perm→pX,perm_middle→xO,getElem?_eq_getElem→bS,length→jB,mem_append_right→xP,mem_append_left→CY,map_cons→fF,cons_append→e9,Sublist→AW,append_assoc→bw,length_append→bI,replicate→aI,set_set→xQ,length_set→bH,mem_singleton→dI,map_set→wH,length_replicate→mL,length_eq_zero_iff→O2,take→jO,length_take→fZ,take_length→y0,take_of_length_le→c9,nil_append→iH
open Nat renaming sub_self→iq,zero_le→aS
open And renaming intro→c6
open Go Go.Am Go.Proofs
namespace T
structure FX(B:List (Nat×Ob))(ob:List Ob):Prop where
 at_:∀ b∈B,ob[b.1]?=some b.2
 nd:(B.map (·.1)).Nodup
section
variable {B B' N:List (Nat×Ob)} {ob l:List Ob}
def FX.app(h:FX B ob)(l:List Ob):FX B (ob++l):=⟨λb hb=>aM (h.at_ b hb) l,h.nd⟩
def FX.perm(h:FX B ob)(hp:B.Perm B'):FX B' ob:=⟨λb hb=>h.at_ b (hp.mem_iff.2 hb),(hp.map _).nodup_iff.1 h.nd⟩
def FX.sub(h:FX B ob)(hs:B'.Sublist B):FX B' ob:=⟨λb hb=>h.at_ b (hs.subset hb),(hs.map _).nodup h.nd⟩
def FX.news(h:FX B ob)(hN:∀ p∈N,∃ j,p.1=ob.length+j/\l[j]?=some p.2)(hd:(N.map (·.1)).Nodup):FX (N++B) (ob++l):=by
 refine⟨λb hb=>?_,?_⟩
 ·rcases da.1 hb with hb|hb
  ·obtain⟨j,e1,e2⟩:=hN b hb;rw[e1,kC];exact e2
  ·exact aM (h.at_ b hb) l
 ·rw[dJ];refine oU.2 ⟨hd,h.nd,λa ha b hb e=>?_⟩;obtain⟨p,hp,rfl⟩:=b6.1 ha;obtain⟨q,hq,rfl⟩:=b6.1 hb;obtain⟨j,e1,_⟩:=hN p hp;have:=gX (h.at_ q hq);omega
def FX.put{i:Nat}{x:Ob}(h:FX ((i,x)::B) ob)(y:Ob):FX ((i,y)::B) (ob.set i y):=by
 have hn:=(mO.1 h.nd).1;refine⟨λb hb=>?_,h.nd⟩;rcases a8.1 hb with rfl|hb
 ·exact lS (h.at_ _ (u4 ..))
 ·exact eY (h.at_ b (dx _ hb)) (λe=>hn (b6.2 ⟨b,hb,e.symm⟩))
def FX.kill{i:Nat}{x:Ob}(h:FX ((i,x)::B) ob)(y:Ob):FX B (ob.set i y):=(h.put y).sub (List.sublist_cons_self _ _)
def FX.start(os:List Ob):FX (nI os) os:=by
 refine⟨λb hb=>ym.1 hb,?_⟩;unfold nI;rw[wI];have:(os.zipIdx.map ((λx:Nat×Ob=>x.1) ∘ λq:Ob×Nat=>(q.2,q.1)))=os.zipIdx.map Prod.snd:=rfl;rw[this,List.zipIdx_map_snd];exact List.nodup_range'
def FX.ne{a b:Nat×Ob}{P S:List (Nat×Ob)}(h:FX (P++a::S) ob)(hb:b∈S):a.1≠b.1:=λe=>by
 have hn:=h.nd;rw[dJ]at hn;have:=(oU.1 hn).2.1;exact(mO.1 this).1 (b6.2 ⟨b,hb,e.symm⟩)
end
def oG(q:Nat×Nat):AV:=if q.2=0 then .tree 1 [] else .ref q.1 1 0 q.2
def agI(q:Nat×Nat):dF q=[oG q]:=by unfold dF oG;rfl
def agJ(q:Nat×Nat):cQ (oG q)=true:=by unfold oG;split<;>rfl
def ly(q:Nat×List Int):Nat×Ob:=(q.1,if q.2=[] then .gone else .arr 1 (ints q.2))
def dQ(Q:List (Nat×List Int)):List (Nat×Nat):=Q.map λq=>(q.1,q.2.length)
def Lu(Q:List (Nat×List Int))(q:Nat×List Int):rowsOf dF (dQ Q)++[[oG (q.1,q.2.length)]]=rowsOf dF (dQ (Q++[q])):=by
 unfold rowsOf dQ;rw[dJ,dJ];simp[agI]
def fX(l:List dq)(r:List Bool):List Bool:=(aY l.length).map λi=>r.getD i false&&decide (lz (l.getD i default)<1099511627776)
def cZ(m:aj)(left:List (List Bool))(n:Nat):List (List Bool):=(aY n).map λc=>fX (m.cls.getD c default) (left.getD c default)
def W0(m:aj):WS:=⟨m.cls.map b8,m.ae.map (·.aC),[]⟩
def agK(m:aj)(left:List (List Bool))(n:Nat):cZ m left (n+1)=cZ m left n++[fX (m.cls.getD n default) (left.getD n default)]:=by
 unfold cZ;rw[tM,dJ];rfl
def afW(m:aj)(left:List (List Bool)):cP m (cZ m left m.cls.length):=by
 refine⟨by simp[cZ],λi hi=>?_⟩;have aq:i<m.cls.length:=by simpa [cZ] using hi
 unfold cZ;rw[az,bY,nN aq];simp[fX]
def gW(m:aj)(mi ci oi ti c e:Nat):Ob:=.var (ay m++[.ref ci 1 0 c,.ref oi 1 0 c,.ref ti 1 0 e,.db mi])
def BW(m:aj)(left:List (List Bool))(os:List Ob)(c:Nat)(Q:List (Nat×List Int))(ci oi:Nat):List (Nat×Ob) :=
 (os.length+2,gW m (os.length+1) ci oi (os.length+5) c 0)::(ci,.arr 1 (rowsOf aE (cZ m left c)))::(oi,.arr 1 (rowsOf dF (dQ Q)))::(os.length+5,.arr 1 [])::(os.length,.var (ay m))::(os.length+1,.mp 3 [])::(Q.map ly++nI os)
def BW0(m:aj)(left:List (List Bool))(os:List Ob):FX (BW m left os 0 [] (os.length+3) (os.length+4)) (os++[.var (ay m),.mp 3 [],gW m (os.length+1) (os.length+3) (os.length+4) (os.length+5) 0 0,.arr 1 [],.arr 1 [],.arr 1 []]):=by
 have h:=(FX.start os).news (N:=[(os.length+2,gW m (os.length+1) (os.length+3) (os.length+4) (os.length+5) 0 0),(os.length+3,.arr 1 []),(os.length+4,.arr 1 []),(os.length+5,.arr 1 []),(os.length,.var (ay m)),(os.length+1,.mp 3 [])])
  (l:=[.var (ay m),.mp 3 [],gW m (os.length+1) (os.length+3) (os.length+4) (os.length+5) 0 0,.arr 1 [],.arr 1 [],.arr 1 []]) (λp hp=>by
   simp only[a8,iJ,or_false]at hp;rcases hp with rfl|rfl|rfl|rfl|rfl|rfl
   ·exact⟨2,rfl,rfl⟩
   ·exact⟨3,rfl,rfl⟩
   ·exact⟨4,rfl,rfl⟩
   ·exact⟨5,rfl,rfl⟩
   ·exact⟨0,rfl,rfl⟩
   ·exact⟨1,rfl,rfl⟩) Fl
 exact h
def agM{α:Type}(a b c d:α)(R:List α):(a::b::c::d::R).Perm (c::d::b::a::R) :=
 ((List.perm_append_comm (l₁:=[a,b]) (l₂:=[c,d])).trans (pX.append_left [c,d] (pX.swap b a []))).append_right R
def agN{α:Type}(ca ow g rb t n n1:α)(R S:List α):(ca::ow::g::rb::t::n::n1::(R++S)).Perm (g::ca::ow::t::n::n1::(R++rb::S)) :=
 (xO (l₁:=[ca,ow])).trans (pX.append_left [g,ca,ow] (xO (l₁:=t::n::n1::R) (l₂:=S)).symm)
def BR(m:aj)(left:List (List Bool))(os:List Ob)(Q:List (Nat×List Int))(ci oi:Nat):List (Nat×Ob) :=
 (ci,.arr 1 (rowsOf aE (cZ m left m.cls.length)))::(oi,.arr 1 (rowsOf dF (dQ Q)))::(os.length,.var (ay m))::(os.length+1,.mp 3 [])::(Q.map ly++nI os)
def B2(m:aj)(left:List (List Bool))(os:List Ob)(Q:List (Nat×List Int))(ci oi ti e:Nat)(QE:List (Nat×List Int)):List (Nat×Ob) :=
 (os.length+2,gW m (os.length+1) ci oi ti m.cls.length e)::(ti,.arr 1 (rowsOf dF (dQ QE)))::(QE.map ly++BR m left os Q ci oi)
def agO{α:Type}(g ca ow t n n1:α)(S:List α):(g::ca::ow::t::n::n1::S).Perm (g::t::ca::ow::n::n1::S) :=
 pX.append_left [g] (xO (l₁:=[ca,ow]) (l₂:=n::n1::S))
def agP{α:Type}(tn rb g:α)(R S:List α):(tn::rb::g::(R++S)).Perm (g::tn::(R++rb::S)) :=
 (xO (l₁:=[tn,rb]) (l₂:=R++S)).trans (pX.append_left [g] ((xO (l₁:=tn::R) (l₂:=S)).symm.trans (pX.refl _) |> λh=>(pX.swap rb tn (R++S)).trans h))
def agQ{α:Type}(tn g rb:α)(R S:List α):(tn::g::rb::(R++S)).Perm (g::tn::(R++rb::S)) :=
 (pX.swap g tn _).trans (pX.append_left [g,tn] (xO (l₁:=R) (l₂:=S)).symm)
def agR{Q:List (Nat×List Int)}{j:Nat}(h:j<Q.length):(dQ Q).getD j default=((Q.getD j default).1,(Q.getD j default).2.length):=by
 unfold dQ;rw[az,bY,az,bS h];rfl
def Uk{Q:List (Nat×List Int)}{S:List (List Int)}{ob:List Ob}(hQ:Q.map (·.2)=S)(h:∀ q∈Q.map ly,ob[q.1]?=some q.2):R1 ob (dQ Q) S:=by
 subst hQ;refine⟨by simp[dQ],λj hj=>?_⟩;have gx:j<Q.length:=by simpa [dQ] using hj
 rw[agR gx,Lv gx];refine⟨rfl,λh0=>?_⟩;have h1:=h _ (List.mem_map_of_mem (aF (l:=Q) (i:=j) (d:=default) gx));unfold ly at h1;dsimp only at h1 h0;rw[if_neg (λe=>by rw[e]at h0;exact absurd h0 Fs)]at h1;exact h1
def agS{m:aj}{left:List (List Bool)}{os ob:List Ob}{Q QE:List (Nat×List Int)}{ci oi ti:Nat}(hQ:Q.map (·.2)=m.cls.map b8)(yn:QE.map (·.2)=m.ae.map (·.aC))(hF:FX (B2 m left os Q ci oi ti m.ae.length QE) ob):
  WF m (cZ m left m.cls.length) (os.length+2) oi ti (os.length+1) (dQ Q) (dQ QE) (W0 m) ((ob.set ci .gone).set (os.length+2) (.var (ay m++[.tree 1 (rowsOf aE (cZ m left m.cls.length)),.ref oi 1 0 m.cls.length,.ref ti 1 0 m.ae.length,.db (os.length+1)]))) /\
  (∀ (i:Nat) o,os[i]?=some o->((ob.set ci .gone).set (os.length+2) (.var (ay m++[.tree 1 (rowsOf aE (cZ m left m.cls.length)),.ref oi 1 0 m.cls.length,.ref ti 1 0 m.ae.length,.db (os.length+1)])))[i]?=some o)/\∀ i∈(dQ Q++dQ QE).map (·.1),os.length<=i:=by
 have hlQ:(dQ Q).length=m.cls.length:=by have:=congrArg jB hQ;simp[dQ]at this ⊢;exact this
 have hlE:(dQ QE).length=m.ae.length:=by have:=congrArg jB yn;simp[dQ]at this ⊢;exact this
 have h1:=hF.perm ((xO (l₁:=(os.length+2,gW m (os.length+1) ci oi ti m.cls.length m.ae.length)::(ti,.arr 1 (rowsOf dF (dQ QE)))::QE.map ly) (l₂:=(oi,.arr 1 (rowsOf dF (dQ Q)))::(os.length,.var (ay m))::(os.length+1,.mp 3 [])::(Q.map ly++nI os))):(B2 m left os Q ci oi ti m.ae.length QE).Perm _);have h2:=((h1.put .gone).perm (pX.swap _ _ _)).put (.var (ay m++[.tree 1 (rowsOf aE (cZ m left m.cls.length)),.ref oi 1 0 m.cls.length,.ref ti 1 0 m.ae.length,.db (os.length+1)]));generalize bK:(ob.set ci .gone).set (os.length+2) (.var (ay m++[.tree 1 (rowsOf aE (cZ m left m.cls.length)),.ref oi 1 0 m.cls.length,.ref ti 1 0 m.ae.length,.db (os.length+1)]))=ob' at *;have ng:=h2.at_;have Ul:∀ q∈Q.map ly,ob'[q.1]?=some q.2:=λq hq=>ng q (dx _ (dx _ (dx _ (xP _ (dx _ (dx _ (dx _ (CY _ hq))))))));have Um:∀ q∈QE.map ly,ob'[q.1]?=some q.2:=λq hq=>ng q (dx _ (dx _ (dx _ (CY _ hq))));have fQ:(dQ Q).map (·.1)=(Q.map ly).map (·.1):=by unfold dQ;rw[wI,wI];rfl
 have fE:(dQ QE).map (·.1)=(QE.map ly).map (·.1):=by unfold dQ;rw[wI,wI];rfl
 have hn:((os.length+2)::ci::ti::((dQ QE).map (·.1)++(oi::os.length::(os.length+1)::((dQ Q).map (·.1)++(nI os).map (·.1))))).Nodup:=by
  have h4:=h2.nd;rw[fQ,fE];simp only[fF,List.append_eq,e9,dJ]at h4;exact h4
 have iy:∀ i,i∈(dQ Q).map (·.1)\/i∈(dQ QE).map (·.1)->os.length<=i:=λi hi=>by
  rcases Nat.lt_or_ge i os.length with ba|iy
  ·exfalso;have hm:i∈(nI os).map (·.1):=b6.2 ⟨(i,os[i]),ym.2 (bS ba),rfl⟩;have n3:=(mO.1 (mO.1 (mO.1 hn).2).2).2;obtain⟨_,n4,n5⟩:=oU.1 n3;rcases hi with hi|hi
   ·have n6:=(mO.1 (mO.1 (mO.1 n4).2).2).2;exact(oU.1 n6).2.2 i hi i hm rfl
   ·exact n5 i hi i (dx _ (dx _ (dx _ (xP _ hm)))) rfl
  ·exact iy
 refine⟨⟨?_,?_,?_,?_,Uk hQ Ul,Uk yn Um,?_,λi hi=>?_⟩,λi o hi=>?_,λi hi=>?_⟩
 ·rw[hlQ,hlE];exact ng _ (u4 ..)
 ·exact ng (oi,.arr 1 (rowsOf dF (dQ Q))) (dx _ (dx _ (dx _ (xP _ (u4 ..)))))
 ·exact ng (ti,.arr 1 (rowsOf dF (dQ QE))) (dx _ (dx _ (u4 ..)))
 ·exact ng (os.length+1,.mp 3 []) (dx _ (dx _ (dx _ (xP _ (dx _ (dx _ (u4 ..)))))))
 ·rw[dJ];generalize (dQ Q).map (·.1)=a at *;generalize (dQ QE).map (·.1)=b at *;have hs:((os.length+2)::ti::(b++(oi::(os.length+1)::a))).Sublist ((os.length+2)::ci::ti::(b++oi::os.length::(os.length+1)::(a++List.map (·.1) (nI os)))):=by
   refine AW.cons_cons _ (AW.cons _ (AW.cons_cons _ (AW.append (AW.refl _) (AW.cons_cons _ (AW.cons _ (AW.cons_cons _ (List.sublist_append_left _ _)))))))
  have h3:=hs.nodup hn;refine(pX.nodup_iff ?_).1 h3;exact pX.append_left [os.length+2] ((pX.append_left [ti] (List.perm_append_comm (l₁:=b) (l₂:=oi::(os.length+1)::a))).trans (pX.swap oi ti _))
 ·rw[dJ,fQ,fE]at hi;rcases da.1 hi with hi|hi
  ·obtain⟨q,hq,rfl⟩:=b6.1 hi;exact gX (Ul q hq)
  ·obtain⟨q,hq,rfl⟩:=b6.1 hi;exact gX (Um q hq)
 ·exact ng (i,o) (dx _ (dx _ (dx _ (xP _ (dx _ (dx _ (dx _ (xP _ (ym.2 hi)))))))))
 ·rw[dJ]at hi;exact iy i (da.1 hi)
def agV{n0:Nat}(m:aj)(os:List Ob)(A M:Ob)(mi:Nat)(e:Nat->AV):aH n0 ⟨e,os++[A,M,.var (ay m++[.lit (.slice none 0 0),.lit (.slice none 0 0),.lit (.slice none 0 0),.db mi])]⟩
  ⟨e,os++[A,M,gW m mi (os.length+3) (os.length+4) (os.length+5) 0 0,.arr 1 [],.arr 1 [],.arr 1 []]⟩:=by
 have key:∀ (l l2:List Ob) (c k:Nat) (cells:List AV),l[2]?=some (.var cells)->cells[c]?=some (.lit (.slice none 0 0))->l.length=k->l2=(l++[Ob.arr 1 []]).set 2 (.var (cells.set c (.ref (os.length+k) 1 0 0)))->aH n0 ⟨e,os++l⟩ ⟨e,os++l2⟩:=by
  intro l l2 c k cells h1 h2 h3 h4;have h:=aH.zI (n0:=n0) (σ:=⟨e,os++l⟩) (os.length+2) c 1 (cells:=cells) (by dsimp only;rw[kC];exact h1) h2 Fs;dsimp only at h;rw[bw,DR,bI,h3]at h;rw[h4];exact h
 refine(key _ [A,M,.var (ay m++[.ref (os.length+3) 1 0 0,.lit (.slice none 0 0),.lit (.slice none 0 0),.db mi]),.arr 1 []] 4 3 _ rfl rfl rfl rfl).trans ?_;refine(key _ [A,M,.var (ay m++[.ref (os.length+3) 1 0 0,.ref (os.length+4) 1 0 0,.lit (.slice none 0 0),.db mi]),.arr 1 [],.arr 1 []] 5 4 _ rfl rfl rfl rfl).trans ?_;exact key _ _ 6 5 _ rfl rfl rfl rfl
section
variable {m:aj} {can:List (List Bool)} {gi ai bi mi:Nat} {D E:List (Nat×Nat)} {W:WS} {os:List Ob}
def my(n:Nat):List Int:=(aY n).map λ(i:Nat)=>(i:Int)
def agW(N k:Nat)(hk:k<N):(my k++aI (N-k) 0).set k (k:Int)=my (k+1)++aI (N-(k+1)) 0:=by
 have h1:(my k).length=k:=by simp[my]
 rw[List.set_append,if_neg CZ,h1,iq,show N-k=(N-(k+1))+1 by omega,List.replicate_succ,List.set_cons_zero];show _=my (k+1)++_;unfold my;rw[tM,dJ,bw];rfl
def afZ(hm:VM m)(hf:cP m can)(h:WF m can gi ai bi mi D E W os)(hs:jx m W){B:Int}(hB:0<=B/\B<=288230376151711744)(hW:WB B W){round:Nat}(Tf:round<=64):
  dZ Tryz.prog 39 [.ptr gi 0 0,OJ round] os λr ob=>r=.bx []/\WF m can gi ai bi mi D E (nf m can W round) ob/\Kp mi D E os ob/\jx m (nf m can W round)/\WB (B+14843406974976) (nf m can W round):=by
 have pD:=hm.ae;have qE:=hm.cls;have fv:=h.v;have Un:=aM fv;have e0:∀ N:Nat,aI N (0:Int)=my 0++aI (N-0) 0:=λN=>by simp[my]
 refine dZ.aQ 141 os.length [] Tryz.func39 ?_;((try revert hK K);(repeat'(first|refine Va (X5 @fv @Un @ay.eq_1 @bF @bw.{0}) ?_|(refine V2 (X5 @fv @Un @ay.eq_1 @bF @bw.{0}) ?_ ?_<;>try with_reducible intro hb)|(refine Xi ?_ ?_<;>try intro ht)|refine VD ?_ ?_|exact Xx|fail))<;>try with_reducible intro K hK)
 have hN:m.cls.length<9223372036854775808:=CZ;generalize Lw:m.cls.length=N at *;refine df (σ':=⟨ar [(1,OJ round),(2,.ptr os.length 0 0),(4,OJ m.ae.length),(5,.ref (os.length+1) 1 0 N),(32,OJ N),(33,OJ 0)],os++[.var [.ptr gi 0 0],.arr 1 (ints (my 0++aI (N-0) 0))]⟩) (by rw[<- e0];exact Xv X0) ?_;clear e0;refine bd (λk:Nat=>(⟨ar [(1,OJ round),(2,.ptr os.length 0 0),(4,OJ m.ae.length),(5,.ref (os.length+1) 1 0 N),(32,OJ N),(33,OJ k)],os++[.var [.ptr gi 0 0],.arr 1 (ints (my k++aI (N-k) 0))]⟩:St))
  (λk=>k<=N) (λk=>N-k) 0 (aS _) (Xv X0) ?_
 rintro k hk Ql ao ax;have cr:(my k++aI (N-k) 0).length=N:=by simp[my];omega
 by_cases bc:k<N
 ·have pf:=agW N k bc;((try revert hK K);(repeat'(first|refine Va (X3 @bF @cr @pf) ?_|(refine V2 (X3 @bF @cr @pf) ?_ ?_<;>try with_reducible intro hb)|(refine Xi ?_ ?_<;>try intro ht)|refine VD ?_ ?_|exact Xx|fail))<;>try with_reducible intro K hK)
  exact ao _ (k+1) CZ CZ (Xv X0)
 ·obtain rfl:k=N:=CZ;((try revert hK K);(repeat'(first|refine Va X0 ?_|(refine V2 X0 ?_ ?_<;>try with_reducible intro hb)|(refine Xi ?_ ?_<;>try intro ht)|refine VD ?_ ?_|exact Xx|fail))<;>try with_reducible intro K hK)
  refine ax _ _ rfl ?_;clear ao ax Ql;repeat(first|refine Xu ?_)
  rw[iq,List.replicate_zero,List.append_nil]at cr ⊢;((try revert hK K);(repeat'(first|refine Va (X3 @bF @bw.{0} @cr) ?_|(refine V2 (X3 @bF @bw.{0} @cr) ?_ ?_<;>try with_reducible intro hb)|(refine Xi ?_ ?_<;>try intro ht)|refine VD ?_ ?_|exact Xx|fail))<;>try with_reducible intro K hK)
  have DT:∀ p∈((os.length,Ob.var [.ptr gi 0 0])::(os.length+3,.var [.ref (os.length+2) 1 0 k])::nI os),p.1≠os.length+1:=λp hp=>by
   rcases a8.1 hp with rfl|hp
   ·dsimp only;omega
   rcases a8.1 hp with rfl|hp
   ·dsimp only;omega
   ·have:=gX (ym.1 hp);omega
  have Uo:LR ((os.length+1,Ob.arr 1 (ints (my k)))::(os.length,Ob.var [.ptr gi 0 0])::(os.length+3,.var [.ref (os.length+2) 1 0 k])::nI os) (os.length+2) (aI k (0,[])) (os++[.var [.ptr gi 0 0],.arr 1 (ints (my k)),.arr 1 (aI k [.lit (.slice none 0 0)]),.var [.ref (os.length+2) 1 0 k]]):=by
   have h1:=LR.start (F:=(os.length+1,Ob.arr 1 (ints (my k)))::(os.length,Ob.var [.ptr gi 0 0])::nI os) (ob:=os++[.var [.ptr gi 0 0],.arr 1 (ints (my k))]) (N:=k) (λp hp=>by
    rcases a8.1 hp with rfl|hp
    ·rw[kC];rfl
    rcases a8.1 hp with rfl|hp
    ·exact jX _ _ _
    ·exact aM (ym.1 hp) _)
   have h2:=LR.more h1 (l:=[Ob.var [.ref (os.length+2) 1 0 k]]) (F':=(os.length+1,Ob.arr 1 (ints (my k)))::(os.length,Ob.var [.ptr gi 0 0])::(os.length+3,.var [.ref (os.length+2) 1 0 k])::nI os) (λp hp=>by
    rcases a8.1 hp with rfl|hp
    ·exact .inl Fl
    rcases a8.1 hp with rfl|hp
    ·exact .inl Fl
    rcases a8.1 hp with rfl|hp
    ·exact .inr ⟨0,Fl,rfl⟩
    ·exact .inl (by simp[hp]))
   simpa [bw] using h2
  have qy:jY m round 0=(my k,aI k []):=by rw[jY,Lw];rfl
  have ya:(aI k ((0:Nat),([]:List Int))).map (·.2)=aI k []:=by rw[List.map_replicate]
  refine bd (λz:Nat×List (Nat×List Int)×List Ob=>(⟨ar [(1,OJ round),(2,.ptr os.length 0 0),(4,OJ m.ae.length),(5,.ref (os.length+1) 1 0 k),(7,.ptr (os.length+3) 0 0),(44,OJ m.ae.length),(45,OJ z.1)],z.2.2⟩:St))
   (λz=>z.1<=m.ae.length/\LR ((os.length+1,Ob.arr 1 (ints (jY m round z.1).1))::(os.length,Ob.var [.ptr gi 0 0])::(os.length+3,.var [.ref (os.length+2) 1 0 k])::nI os) (os.length+2) z.2.1 z.2.2/\z.2.1.map (·.2)=(jY m round z.1).2/\os.length+4<=z.2.2.length)
   (λz=>m.ae.length-z.1) (0,aI k (0,[]),os++[.var [.ptr gi 0 0],.arr 1 (ints (my k)),.arr 1 (aI k [.lit (.slice none 0 0)]),.var [.ref (os.length+2) 1 0 k]]) ⟨aS _,by dsimp only;rw[qy];exact Uo,by dsimp only;rw[qy];exact ya,Fl⟩ (Xv X0) ?_
  clear Uo ya qy cr hk bc ht;rintro⟨j,Q,ob⟩⟨hj,hL,hQ,bK⟩Ql ao ax;dsimp only at hj hL hQ bK ⊢;by_cases gx:j<m.ae.length
  ·have hp:(j+round)%m.ae.length<m.ae.length:=Nat.mod_lt _ CZ;have eW:((j:Int)+(round:Int)).tmod (m.ae.length:Int)=(((j+round)%m.ae.length:Nat):Int):=by rw[Int.tmod_eq_emod_of_nonneg CZ];push_cast;rfl
   obtain⟨dj,q1,q2,q3,q4,q5⟩:=yo hm hp;obtain⟨yp,re⟩:=G5 (m:=m) round j;have hvs:jY m round (j+1)=BH m (jY m round j) ((j+round)%m.ae.length):=rfl;have fA:=hL.fx (os.length,Ob.var [.ptr gi 0 0]) Fl;have fT:=hL.fx (os.length+1,Ob.arr 1 (ints (jY m round j).1)) Fl;have fB:=hL.fx (os.length+3,Ob.var [.ref (os.length+2) 1 0 k]) Fl;have G6:∀ i o,os[i]?=some o->ob[i]?=some o:=λi o hi=>hL.fx (i,o) (dx _ (dx _ (dx _ (ym.2 hi))));have fg:=G6 _ _ fv;dsimp only at fA fT fB;generalize (j+round)%m.ae.length=p at *;generalize dh:jY m round j=st at *;have eK:m.ae.getD p default=bN m p:=rfl;have e1:(bN m p).fst=((ah m p 0:Nat):Int):=by show _=((bN m p).fst.toNat:Int);omega
   have e2:(bN m p).snd=((ah m p 1:Nat):Int):=by show _=((bN m p).snd.toNat:Int);omega
   have ha:ah m p 0<k:=by have:(bN m p).fst.toNat=ah m p 0:=rfl;omega
   have hb:ah m p 1<k:=by have:(bN m p).snd.toNat=ah m p 1:=rfl;omega
   repeat'(first|((fail_if_success (first|refine eH 14 ?_|refine eI 14 ?_));refine Xr (X5 @fA @fT @fg @ay.eq_1 (X5 @aL.eq_1 @eW @eK @e1 @e2)) ?_;intro K hK)|refine Xo (X5 @fA @fT @fg @ay.eq_1 (X5 @aL.eq_1 @eW @eK @e1 @e2)) ?_|(refine hK _ ?_;clear hK K)|(refine Xg (X5 @fA @fT @fg @ay.eq_1 (X5 @aL.eq_1 @eW @eK @e1 @e2)) ?_ ?_<;>try intro hb)|(refine Xi ?_ ?_<;>try intro ht)|refine Xy ?_|refine Xd ?_ ?_|exact Xx|fail)
   have iM:jY m round (j+1)=if st.1.getD (ah m p 0) 0=st.1.getD (ah m p 1) 0 then st else(lU st.1 (ah m p 0) (st.1.getD (ah m p 1) 0) st.1.length,(st.2.set (ah m p 0) (st.2.getD (ah m p 0) default++[(p:Int)])).set (ah m p 1) (st.2.getD (ah m p 1) default++[(p:Int)])):=hvs;generalize ah m p 1=b at *;generalize ah m p 0=a at *;have xc:st.1.length=k:=CZ;by_cases eX:st.1.getD a 0=st.1.getD b 0
   ·rw[if_pos eX]at iM;((try revert hK K);(repeat'(first|refine Va (X3 @fT @xc @eX) ?_|(refine V2 (X3 @fT @xc @eX) ?_ ?_<;>try with_reducible intro hb)|(refine Xi ?_ ?_<;>try intro ht)|refine VD ?_ ?_|exact Xx|fail))<;>try with_reducible intro K hK)
    all_goals try(exfalso;omega)
    exact ao _ (j+1,Q,ob) ⟨Ji,by dsimp only;rw[iM];exact hL,by dsimp only;rw[iM];exact hQ,bK⟩ Ji (Xv X0)
   ·rw[if_neg eX]at iM;((try revert hK K);(repeat'(first|refine Va (X2 @fT @xc) ?_|(refine V2 (X2 @fT @xc) ?_ ?_<;>try with_reducible intro hb)|(refine Xi ?_ ?_<;>try intro ht)|refine VD ?_ ?_|exact Xx|fail))<;>try with_reducible intro K hK)
    all_goals try(exfalso;omega)
    have sT:=λy:Ob=>lS (y:=y) fT;have aZ:=G7 st.1 a (st.1.getD b 0) eX;have lq:=G8 st.1 a (st.1.getD b 0);have ht0:lU st.1 a (st.1.getD b 0) 0=st.1:=rfl;have fP:∀ i,lU st.1 a (st.1.getD b 0) (i+1)=_:=λi=>lU.eq_2 ..;have lV:=λy=>hL.head DT (y:=y);refine bd (λi:Nat=>(⟨ar [(1,OJ round),(2,.ptr os.length 0 0),(4,OJ m.ae.length),(5,.ref (os.length+1) 1 0 k),(7,.ptr (os.length+3) 0 0),(9,OJ p),(10,OJ a),(11,OJ b),(12,OJ (st.1.getD b 0)),(44,OJ m.ae.length),(45,OJ j),(84,.ref (os.length+1) 1 0 k),(85,OJ k),(86,OJ i)],ob.set (os.length+1) (.arr 1 (ints (lU st.1 a (st.1.getD b 0) i)))⟩:St))
     (λi=>i<=k) (λi=>k-i) 0 (aS _) ?_ ?_
    ·rw[ht0,agY fT];exact Xv X0
    rintro i hi du bE bG;have eC:=aZ i;have mu:=lq i;by_cases aq:i<k
    ·have G9:=fP i;generalize Uq:lU st.1 a (st.1.getD b 0) (i+1)=u1 at *;generalize lU st.1 a (st.1.getD b 0) i=u at *;generalize st.1.getD b 0=dV at *;by_cases G':u.getD i 0=dV
     ·rw[if_pos G']at G9;((try revert hK K);(repeat'(first|refine Va (X5 @sT @mu @xc @G' @xQ.{0}) ?_|(refine V2 (X5 @sT @mu @xc @G' @xQ.{0}) ?_ ?_<;>try with_reducible intro hb)|(refine Xi ?_ ?_<;>try intro ht)|refine VD ?_ ?_|exact Xx|fail))<;>try with_reducible intro K hK)
      all_goals try(exfalso;omega)
      exact bE _ (i+1) CZ CZ (by rw[Uq,G9];exact Xv X0)
     ·rw[if_neg G']at G9;((try revert hK K);(repeat'(first|refine Va (X4 @sT @mu @xc @xQ.{0}) ?_|(refine V2 (X4 @sT @mu @xc @xQ.{0}) ?_ ?_<;>try with_reducible intro hb)|(refine Xi ?_ ?_<;>try intro ht)|refine VD ?_ ?_|exact Xx|fail))<;>try with_reducible intro K hK)
      all_goals try(exfalso;omega)
      exact bE _ (i+1) CZ CZ (by rw[Uq,G9];exact Xv X0)
    ·obtain rfl:i=k:=CZ;((try revert hK K);(repeat'(first|refine Va X0 ?_|(refine V2 X0 ?_ ?_<;>try with_reducible intro hb)|(refine Xi ?_ ?_<;>try intro ht)|refine VD ?_ ?_|exact Xx|fail))<;>try with_reducible intro K hK)
     refine bG _ _ rfl ?_;clear bE bG du;repeat(first|refine Xu ?_)
     have lW:=lV (.arr 1 (ints (lU st.1 a (st.1.getD b 0) i)));clear lV sT fP ht0 aZ;rw[xc]at iM;generalize lU st.1 a (st.1.getD b 0) i=tt at *;generalize agZ:ob.set (os.length+1) (.arr 1 (ints tt))=jU at *;have anB:os.length+4<=jU.length:=by rw[<- agZ,bH];exact bK
     have Lx:Q.length=i:=by have:=congrArg jB hQ;simp at this;omega
     refine Ha (λs=>∃ Q2 o2,LR ((os.length+1,Ob.arr 1 (ints tt))::(os.length,Ob.var [.ptr gi 0 0])::(os.length+3,.var [.ref (os.length+2) 1 0 i])::nI os) (os.length+2) Q2 o2/\Q2.map (·.2)=(jY m round (j+1)).2/\os.length+4<=o2.length /\
      aH os.length s ⟨ar [(1,OJ round),(2,.ptr os.length 0 0),(4,OJ m.ae.length),(5,.ref (os.length+1) 1 0 i),(7,.ptr (os.length+3) 0 0),(44,OJ m.ae.length),(45,OJ j)],o2⟩) ?_ ?_
     ·rintro s ⟨Q2,o2,h1,h2,h3,h4⟩;repeat(first|refine Xu ?_)
      refine df h4 ?_;((try revert hK K);(repeat'(first|refine Va X0 ?_|(refine V2 X0 ?_ ?_<;>try with_reducible intro hb)|(refine Xi ?_ ?_<;>try intro ht)|refine VD ?_ ?_|exact Xx|fail))<;>try with_reducible intro K hK)
      exact ao _ (j+1,Q2,o2) ⟨Ji,by dsimp only;rw[iM];exact h1,h2,h3⟩ Ji (Xv X0)
     intro QQ key;clear ao ax;have g7:=aM (lW.fx (os.length+3,Ob.var [.ref (os.length+2) 1 0 i]) Fl);have gL:=aM lW.ls;have hra:(rowsOf kZ Q)[a]?=some [sW (Q.getD a default)]:=by rw[Hb CZ,Ly]
     have DU:(rowsOf kZ Q)[b]?=some [sW (Q.getD b default)]:=by rw[Hb CZ,Ly]
     have BG:st.2.getD a default=(Q.getD a default).2:=by rw[<- hQ,Lv CZ]
     have Ur:st.2.getD b default=(Q.getD b default).2:=by rw[<- hQ,Lv CZ]
     have ca:=lW.cell (show a<Q.length by omega);have cb:=lW.cell (show b<Q.length by omega);have BI:=λ(fin:List Ob) (pa pb:Nat)=>lW.ag1 (show a<Q.length by omega) (show b<Q.length by omega) (λe=>eX (by rw[e])) (n:=(p:Int)) (fin:=fin) (pa:=pa) (pb:=pb);have d3:=λc hc hn=>lW.ry (os.length+3,Ob.var [.ref (os.length+2) 1 0 i]) Fl |>.2 c hc hn;have r2:=λc hc hn=>(lW.row c hc hn).2;have qa:zV [os.length+2,os.length+3] (sW (Q.getD a default))=True:=Us λhn hm=>by
      rcases a8.1 hm with e|hm
      ·exact r2 a CZ hn e
      ·exact d3 a CZ hn (dI.1 hm).symm
     have qb:zV [os.length+2,os.length+3] (sW (Q.getD b default))=True:=Us λhn hm=>by
      rcases a8.1 hm with e|hm
      ·exact r2 b CZ hn e
      ·exact d3 b CZ hn (dI.1 hm).symm
     rw[BG,Ur]at iM;have Hd:(Q.getD a default).2.length<4001:=by
      have:=(He (m:=m) round j a).1;rw[dh,BG]at this;omega
     have zW:(Q.getD b default).2.length<4001:=by
      have:=(He (m:=m) round j b).1;rw[dh,Ur]at this;omega
     have n7:∀ c,c<Q.length->(Q.getD c default).2≠[]->os.length+3≠(Q.getD c default).1:=d3;have n8:∀ c,c<Q.length->(Q.getD c default).2≠[]->os.length+2≠(Q.getD c default).1:=λc hc hn=>Ne.symm (r2 c hc hn);have cb2:(Q.getD b default).2≠[]->(pE (Q.getD a default) jU)[(Q.getD b default).1]?=some (.arr 1 (ints (Q.getD b default).2)):=λhn=>zX (cb hn) λDV e=>eX (by rw[lW.inj b a CZ CZ hn DV e]);have f7:=lW.fx (os.length+3,Ob.var [.ref (os.length+2) 1 0 i]) Fl;have fL:=lW.ls;have Ut:=zX f7 (n7 a CZ);have Uu:=zX Ut (n7 b CZ);have Uv:=zX fL (n8 a CZ);have DW:=zX Uv (n8 b CZ);have DX:=λ(k:Nat) (o:Ob) (h1:jU[k]?=some o) (h2:(Q.getD a default).2≠[]->k≠(Q.getD a default).1) (h3:(Q.getD b default).2≠[]->k≠(Q.getD b default).1)=>zX (zX h1 h2) h3;have dA:=Uw ca;have dB:=Uw cb2;have l2:=Ux (Q.getD a default) jU;have l3:=(Ux (Q.getD b default) (pE (Q.getD a default) jU)).trans l2;have hes:=λpa=>Uy Q a pa (Q.getD a default).2 (p:Int);have ag4:=λpa pb=>Uy (Q.set a (pa,(Q.getD a default).2++[(p:Int)])) b pb (Q.getD b default).2 (p:Int);have ag5:∀ pa,(rowsOf kZ (Q.set a (pa,(Q.getD a default).2++[(p:Int)])))[b]?=some [sW (Q.getD b default)]:=λpa=>by
      rw[Hb Jo,Lz _ _ _ _ CZ,if_neg (λe=>eX (by rw[e])),Ly]
     have hFm:∀ q,os.length<=q->q=os.length+2->True:=λ_ _ _=>trivial;generalize Q.getD a default=A0 at *;generalize Q.getD b default=B0 at *;generalize hX3:pE B0 (pE A0 jU)=X3 at *;generalize pE A0 jU=X2 at *;have xd:(os.length+2∈[os.length+2,os.length+3])=True:=Fl;have LA:(os.length+3∈[os.length+2,os.length+3])=True:=Fl;have hQr:(rowsOf kZ Q).length=i:=by rw[cU];exact Lx
     have e2:=λl k=>yl l2 l k;have e3:=λl k=>yl l3 l k;have e20:=λx l=>Hf l2 x l;have e30:=λx l=>Hf l3 x l;have s3:=gZ DW;have s4:=λy=>gZ (lS (y:=y) DW);have s5:=λy=>aM (lS (y:=y) DW);have s7:=λy=>aM (eY (y:=y) Uu (show os.length+2≠os.length+3 by omega));have f7l:=aM f7;have aha:=aM Ut;have ahb:=aM Uu;have fLl:=aM fL;have ahd:=aM Uv;have ahe:=aM DW;have kD:∀ (s:St) (c:Nat) (l:List Ob),c=1\/c=2->l.length=4->l[c]?=some (.arr 1 (ints (A0.2++[(p:Int)])))->l[3]?=some (.arr 1 (ints (B0.2++[(p:Int)]))) ->
       aH os.length s ⟨ar [(1,OJ round),(2,.ptr os.length 0 0),(4,OJ m.ae.length),(5,.ref (os.length+1) 1 0 i),(7,.ptr (os.length+3) 0 0),(44,OJ m.ae.length),(45,OJ j)],(X3.set (os.length+2) (.arr 1 (rowsOf kZ (Q.set a (jU.length+c,A0.2++[(p:Int)]))))).set (os.length+2) (.arr 1 (rowsOf kZ ((Q.set a (jU.length+c,A0.2++[(p:Int)])).set b (jU.length+3,B0.2++[(p:Int)]))))++l⟩->QQ .normal s:=λs c l hc hl h1 h2 ht=>by
      refine key _ ⟨_,_,BI _ (jU.length+c) (jU.length+3) CZ CZ CZ (λq o e1 e2 e3 e4=>aM (eY (eY (DX q o e1 e3 e4) (Ne.symm e2)) (Ne.symm e2)) _) (aM (lS (lS DW)) _) ?_ ?_,?_,?_,ht⟩
      ·rw[yl (by simp[l3])];exact h1
      ·rw[yl (by simp[l3])];exact h2
      ·rw[iM,wH,wH,hQ]
      ·simp[l3];omega
     refine Uz [os.length+2,os.length+3] [] [10,17] (.take 0 (.take 1 (.take 3 (.take 4 (.take 5 (.take 6 (.take 7 (.take 8 (.take 11 (.take 12 (.take 13 (.take 14 (.take 15 (.three 2 (.both 9 (.both 10 (.take 16 (.take 17 (.take 18 (.take 19 (.take 20 (.take 21 .nil)))))) 16 (.take 10 (.take 17 (.take 18 (.take 19 (.take 20 (.take 21 .nil))))))) 16 (.take 9 (.take 10 (.take 17 (.take 18 (.take 19 (.take 20 (.take 21 .nil)))))))) 9 (.three 2 (.both 10 (.take 16 (.take 17 (.take 18 (.take 19 (.take 20 (.take 21 .nil)))))) 16 (.take 10 (.take 17 (.take 18 (.take 19 (.take 20 (.take 21 .nil))))))) 10 (.both 2 (.take 16 (.take 17 (.take 18 (.take 19 (.take 20 (.take 21 .nil)))))) 16 (.both 2 (.take 17 (.take 18 (.take 19 (.take 20 (.take 21 .nil))))) 17 (.take 18 (.both 2 (.take 19 (.take 20 (.take 21 .nil))) 19 (.take 2 (.take 20 (.take 21 .nil))))))) 16 (.both 2 (.take 10 (.take 17 (.take 18 (.take 19 (.take 20 (.take 21 .nil)))))) 10 (.both 2 (.take 17 (.take 18 (.take 19 (.take 20 (.take 21 .nil))))) 17 (.take 18 (.both 2 (.take 19 (.take 20 (.take 21 .nil))) 19 (.take 2 (.take 20 (.take 21 .nil)))))))) 16 (.both 2 (.take 9 (.take 10 (.take 17 (.take 18 (.take 19 (.take 20 (.take 21 .nil))))))) 9 (.both 2 (.take 10 (.take 17 (.take 18 (.take 19 (.take 20 (.take 21 .nil)))))) 10 (.both 2 (.take 17 (.take 18 (.take 19 (.take 20 (.take 21 .nil))))) 17 (.take 18 (.both 2 (.take 19 (.take 20 (.take 21 .nil))) 19 (.take 2 (.take 20 (.take 21 .nil)))))))))))))))))))))) rfl Fs (by decide +kernel) ?_;simp(disch:=omega)only[Ac,↓Pc,simprocAttr,Ra,jg,xd,LA,f7,fL,f7l,aha,ahb,fLl,ahd,ahe,hra,DU,ag5,hes,ag4,qa,qb,↓dA,↓dB,l2,l3,e2,e3,e20,e30,s3,s4,s5,s7,hQr,bF,bw,bI];repeat'(first|with_reducible refine c6 ?_ ?_|omega|with_reducible rfl|(intro id bV;simp only[a8,iJ,or_false]at bV;omega))
     all_goals first
      | (refine kD _ 1 [.arr 1 [[OJ p]],.arr 1 (ints (A0.2++[(p:Int)])),.arr 1 [[OJ p]],.arr 1 (ints (B0.2++[(p:Int)]))] (.inl rfl) rfl rfl rfl ?_;exact Xv X0;done)
      | (refine kD _ 2 [.arr 1 [[OJ p]],.arr 1 [[OJ p]],.arr 1 (ints (A0.2++[(p:Int)])),.arr 1 (ints (B0.2++[(p:Int)]))] (.inr rfl) rfl rfl rfl ?_;exact Xv X0;done)
      |skip
  ·obtain rfl:j=m.ae.length:=CZ;((try revert hK K);(repeat'(first|refine Va X0 ?_|(refine V2 X0 ?_ ?_<;>try with_reducible intro hb)|(refine Xi ?_ ?_<;>try intro ht)|refine VD ?_ ?_|exact Xx|fail))<;>try with_reducible intro K hK)
   refine ax _ _ rfl ?_;clear ao ax Ql;repeat(first|refine Xu ?_)
   have fA:=hL.fx (os.length,Ob.var [.ptr gi 0 0]) Fl;have fT:=hL.fx (os.length+1,Ob.arr 1 (ints (jY m round m.ae.length).1)) Fl;have fB:=hL.fx (os.length+3,Ob.var [.ref (os.length+2) 1 0 k]) Fl;have G6:∀ i o,os[i]?=some o->ob[i]?=some o:=λi o hi=>hL.fx (i,o) (dx _ (dx _ (dx _ (ym.2 hi))));dsimp only at fA fT fB;obtain⟨yp,re⟩:=G5 (m:=m) round m.ae.length;have ahf:=He (m:=m) round m.ae.length;have zY:nf m can W round=(kW m can (jY m round m.ae.length).2 (W,aI m.cls.length false) m.cls.length).1:=rfl;rw[zY];generalize jY m round m.ae.length=st at *;have xe:=aM fT;have iN:st.1.length=k:=CZ;repeat'(first|((fail_if_success (first|refine eH 27 ?_|refine eI 27 ?_));refine Xr (X5 @fT @xe @bF @bw.{0} (X3 @DY @iN @A8)) ?_;intro K hK)|refine Xo (X5 @fT @xe @bF @bw.{0} (X3 @DY @iN @A8)) ?_|(refine hK _ ?_;clear hK K)|(refine Xg (X5 @fT @xe @bF @bw.{0} (X3 @DY @iN @A8)) ?_ ?_<;>try intro hb)|(refine Xi ?_ ?_<;>try intro ht)|refine Xy ?_|refine Xd ?_ ?_|exact Xx|fail)
   have DZ:=hL.app [.arr 1 (br (aI k false)),.var [.ref ob.length 1 0 k],.var [.fn 70 [.ptr (ob.length+1) 0 0,.ptr (os.length+3) 0 0,.ptr os.length 0 0,.ptr (ob.length+2) 0 0]]];have Lx:Q.length=k:=by have:=congrArg jB hQ;simp at this;omega
   refine df (σ':=⟨ar [(15,.ptr (ob.length+1) 0 0),(16,.ptr (ob.length+2) 0 0)],ob++[.arr 1 (br (aI k false)),.var [.ref ob.length 1 0 k],.var [.fn 70 [.ptr (ob.length+1) 0 0,.ptr (os.length+3) 0 0,.ptr os.length 0 0,.ptr (ob.length+2) 0 0]]]⟩) (Xv X0) ?_;generalize BJ:ob++[Ob.arr 1 (br (aI k false)),.var [.ref ob.length 1 0 k],.var [.fn 70 [.ptr (ob.length+1) 0 0,.ptr (os.length+3) 0 0,.ptr os.length 0 0,.ptr (ob.length+2) 0 0]]]=rz at *;have Hg:=DZ.fx (os.length+3,Ob.var [.ref (os.length+2) 1 0 k]) Fl;have vI:=λi (hi:i∈nh (os.length+2) Q)=>DZ.at_ hi;have Hh:=λi (hi:i∈nh (os.length+2) Q)=>hL.lt hi;have n0:os.length ∉ nh (os.length+2) Q:=λhi=>vI _ hi (os.length,Ob.var [.ptr gi 0 0]) Fl rfl;have n3:os.length+3 ∉ nh (os.length+2) Q:=λhi=>vI _ hi (os.length+3,Ob.var [.ref (os.length+2) 1 0 k]) Fl rfl;have UA:∀ i o,os[i]?=some o->i ∉ nh (os.length+2) Q:=λi o ho hi=>vI _ hi (i,o) (dx _ (dx _ (dx _ (ym.2 ho)))) rfl;have p0:rz[os.length]?=some (.var [.ptr gi 0 0]):=by rw[<- BJ];exact aM fA _
   have UB:∀ i o,os[i]?=some o->rz[i]?=some o:=λi o hi=>by rw[<- BJ];exact aM (G6 i o hi) _
   have b0:rz[ob.length]?=some (.arr 1 (br (aI k false))):=by rw[<- BJ];exact jX _ _ _
   have b1:rz[ob.length+1]?=some (.var [.ref ob.length 1 0 k]):=by rw[<- BJ,kC];rfl
   have b2:rz[ob.length+2]?=some (.var [.fn 70 [.ptr (ob.length+1) 0 0,.ptr (os.length+3) 0 0,.ptr os.length 0 0,.ptr (ob.length+2) 0 0]]):=by rw[<- BJ,kC];rfl
   have l4:rz.length=ob.length+3:=by rw[<- BJ];simp
   refine df (aH.ahg (os.length+3) 0 (λi=>i ∉ nh (os.length+2) Q) (v:=.tree 1 (fe (Q.map (·.2))))
    (os2:=uB (nh (os.length+2) Q) (rz.set (os.length+3) (.var [.tree 1 (fe (Q.map (·.2)))]))) Hg rfl n3 (by rw[UC,bH]) (λi o ho=>?_) ?_) ?_
   ·dsimp only at ho;have hx:∀ y,(rz.set (os.length+3) y)[i]?=some (if i=os.length+3 then y else o):=λy=>by
     by_cases e:i=os.length+3
     ·subst e;rw[if_pos rfl];exact lS Hg
     ·rw[if_neg e];exact eY ho (Ne.symm e)
    by_cases hi:i∈nh (os.length+2) Q
    ·exact .inr ⟨λhn=>hn hi,by rw[LB (hx _),if_pos hi]⟩
    ·exact .inl ⟨hi,by rw[LB (hx _),if_neg hi];rfl⟩
   ·have:=ahh DZ.ls DZ.row (ar [(15,.ptr (ob.length+1) 0 0),(16,.ptr (ob.length+2) 0 0)]);rw[Lx]at this;exact this
   dsimp only;have k5:∀ i o,rz[i]?=some o->i≠os.length+3->i ∉ nh (os.length+2) Q ->
     (uB (nh (os.length+2) Q) (rz.set (os.length+3) (.var [.tree 1 (fe (Q.map (·.2)))])))[i]?=some o:=λi o ho h1 h2=>LC (eY ho (Ne.symm h1)) h2
   have k6:(uB (nh (os.length+2) Q) (rz.set (os.length+3) (.var [.tree 1 (fe (Q.map (·.2)))])))[os.length+3]?=some (.var [.tree 1 (fe (Q.map (·.2)))]):=LC (lS Hg) n3;have k7:(uB (nh (os.length+2) Q) (rz.set (os.length+3) (.var [.tree 1 (fe (Q.map (·.2)))]))).length=ob.length+3:=by rw[UC,bH];exact l4
   generalize uB (nh (os.length+2) Q) (rz.set (os.length+3) (.var [.tree 1 (fe (Q.map (·.2)))]))=D0 at *;have x0:=k5 os.length _ p0 CZ n0;have xa:=k5 ob.length _ b0 CZ (λhi=>by have:=Hh _ hi;omega);have xs:=k5 (ob.length+1) _ b1 CZ (λhi=>by have:=Hh _ hi;omega);have xu:=k5 (ob.length+2) _ b2 CZ (λhi=>by have:=Hh _ hi;omega);have LD:∀ i o,os[i]?=some o->D0[i]?=some o:=λi o hi=>k5 i o (UB i o hi) (by have:=gX hi;omega) (UA i o hi);have Hi:UF 70 gi (ob.length+1) ob.length (os.length+3) os.length (ob.length+2) st.2 (aI k false) D0:=⟨by rw[mL];exact xs,xa,by rw[<- hQ];exact k6,x0,xu⟩;have UD:=h.pre (ob:=D0) CZ LD;have UE:Kp mi ((ob.length,0)::D) E os D0:=⟨CZ,λi o _ _ hi=>LD i o hi⟩;have GO:=gX h.mp;have vJ:=gX h.v;have kO:=gX h.a;have nJ:=gX h.b;have hUN:UN gi ai bi mi D E (ob.length+1) ob.length (os.length+3) os.length (ob.length+2):=⟨λi hi=>⟨CZ,λhm=>by have:=h.lt i hm;omega⟩,CZ,CZ,CZ,CZ,CZ,CZ,CZ⟩;clear k5 k6 k7 x0 xa xs xu LD p0 UB b0 b1 b2 vI Hh n0 n3 UA Hg DZ hL fA fT fB xe G6;have hlA:∀ c,(kW m can st.2 (W,aI k false) c).2.length=k->True:=λ_ _=>trivial;have nJ:st.2.length=m.cls.length:=CZ;have pg:∀ c,c<m.cls.length->(st.2.getD c default).length<9223372036854775808/\∀ x∈st.2.getD c default,0<=x/\x<m.ae.length:=λc hc=>by
    obtain⟨i1,i2⟩:=ahf c;refine⟨CZ,λx hx=>⟨(i2 x hx).1,(i2 x hx).2 ?_⟩⟩;rcases Nat.eq_zero_or_pos m.ae.length with h0|h0
    ·rw[h0]at i1;rw[O2.1 (Nat.le_zero.1 i1)]at hx;cases hx
    ·exact h0
   have LF:kW m can st.2 (W,aI k false) 0=(W,aI k false):=rfl;have hAs:∀ c,kW m can st.2 (W,aI k false) (c+1)=if(kW m can st.2 (W,aI k false) c).2.getD c false=true then kW m can st.2 (W,aI k false) c else gI m can st.2 (m.cls.length+1) (kW m can st.2 (W,aI k false) c) c:=λc=>rfl;have kx:nT (aI k false)=0:=by unfold nT;simp[List.count_replicate]
   rw[Lw];have xs:=Hi.s;have xa:=Hi.a;((try revert hK K);(repeat'(first|refine Va (X3 @xs @xa @mL.{0}) ?_|(refine V2 (X3 @xs @xa @mL.{0}) ?_ ?_<;>try with_reducible intro hb)|(refine Xi ?_ ?_<;>try intro ht)|refine VD ?_ ?_|exact Xx|fail))<;>try with_reducible intro K hK)
   refine bd (λz:Nat×List Ob=>(⟨ar [(15,.ptr (ob.length+1) 0 0),(16,.ptr (ob.length+2) 0 0),(128,OJ k),(129,OJ z.1)],z.2⟩:St))
    (λz=>z.1<=k/\WF m can gi ai bi mi D E (kW m can st.2 (W,aI k false) z.1).1 z.2/\UF 70 gi (ob.length+1) ob.length (os.length+3) os.length (ob.length+2) st.2 (kW m can st.2 (W,aI k false) z.1).2 z.2/\Kp mi ((ob.length,0)::D) E os z.2/\(kW m can st.2 (W,aI k false) z.1).2.length=k/\jx m (kW m can st.2 (W,aI k false) z.1).1/\WB (B+618475290624*(nT (kW m can st.2 (W,aI k false) z.1).2:Nat)) (kW m can st.2 (W,aI k false) z.1).1)
    (λz=>k-z.1) (0,D0) ⟨aS _,UD,Hi,UE,by dsimp only;rw[LF];simp,hs,by dsimp only;rw[LF];dsimp only;rw[kx];exact hW.mono CZ⟩ (Xv X0) ?_
   (try clear kx;clear UD Hi UE LF xs xa)
   rintro⟨c,o6⟩⟨hc,h1,h2,h3,h4,h5,h6⟩Ql ao ax;dsimp only at hc h1 h2 h3 h4 h5 h6 ⊢;by_cases fI:c<k
   ·have sX:=hAs c;generalize sY:kW m can st.2 (W,aI k false) (c+1)=r1 at *;generalize kW m can st.2 (W,aI k false) c=r0 at *;have fs:=h2.s;have fa:=h2.a;have fu:=h2.u;by_cases eN:r0.2.getD c false=true
    ·rw[if_pos eN]at sX;((try revert hK K);(repeat'(first|refine Va (X4 @fs @fa @eN @h4) ?_|(refine V2 (X4 @fs @fa @eN @h4) ?_ ?_<;>try with_reducible intro hb)|(refine Xi ?_ ?_<;>try intro ht)|refine VD ?_ ?_|exact Xx|fail))<;>try with_reducible intro K hK)
     all_goals try(exfalso;omega)
     exact ao _ (c+1,o6) ⟨Ji,by dsimp only;rw[sY,sX];exact h1,by dsimp only;rw[sY,sX];exact h2,h3,by dsimp only;rw[sY,sX];exact h4,by dsimp only;rw[sY,sX];exact h5,by dsimp only;rw[sY,sX];exact h6⟩ Ji (Xv X0)
    ·rw[if_neg eN]at sX;have vK:r0.2.getD c false=false:=by simpa using eN
     have ny:=ahk hm hf hUN nJ pg (m.cls.length+1) r0 c o6 B CZ CZ vK CZ h1 h2 h5 CZ CZ h6;repeat'(first|((fail_if_success (first|refine eH 31 ?_|refine eI 31 ?_));refine Xr (X4 @fs @fa @vK @h4) ?_;intro K hK)|refine Xo (X4 @fs @fa @vK @h4) ?_|(refine hK _ ?_;clear hK K)|(refine Xg (X4 @fs @fa @vK @h4) ?_ ?_<;>try intro hb)|(refine Xi ?_ ?_<;>try intro ht)|refine Xy ?_|refine Xd ?_ ?_|exact Xx|fail)
     all_goals try(exfalso;omega)
     refine px 2 Fs _ rfl ?_;intro K hK;simp(disch:=omega)only[Ac,↓Pc,simprocAttr,jO,List.drop,fu,DY];repeat'(first|with_reducible refine c6 ?_ ?_|omega|with_reducible rfl)
     refine⟨rfl,(show lr Tryz.prog 70 [OJ c,.ptr (ob.length+1) 0 0,.ptr (os.length+3) 0 0,.ptr os.length 0 0,.ptr (ob.length+2) 0 0] (some 139) _ _ from ?_)⟩;refine qz ny ?_;rintro r o7⟨rfl,g1,g2,g3,g4⟩;refine⟨g3.len,?_⟩;simp(disch:=omega)only[Ac,↓Pc,simprocAttr,List.drop];refine hK _ ?_;clear hK K;repeat(first|refine Xu ?_)
     ((try revert hK K);(repeat'(first|refine Va X0 ?_|(refine V2 X0 ?_ ?_<;>try with_reducible intro hb)|(refine Xi ?_ ?_<;>try intro ht)|refine VD ?_ ?_|exact Xx|fail))<;>try with_reducible intro K hK)
     exact ao _ (c+1,o7) ⟨Ji,by dsimp only;rw[sY,sX];exact g1,by dsimp only;rw[sY,sX];exact g2,h3.trans g3,by dsimp only;rw[sY,sX];exact g4.len.trans Lw,by dsimp only;rw[sY,sX];exact g4.sh,by dsimp only;rw[sY,sX];exact g4.wb.mono CZ⟩ Ji (Xv X0)
   ·obtain rfl:c=k:=CZ;((try revert hK K);(repeat'(first|refine Va X0 ?_|(refine V2 X0 ?_ ?_<;>try with_reducible intro hb)|(refine Xi ?_ ?_<;>try intro ht)|refine VD ?_ ?_|exact Xx|fail))<;>try with_reducible intro K hK)
    refine ax _ _ rfl ?_;clear ao ax Ql;repeat(first|refine Xu ?_)
    ((try revert hK K);(repeat'(first|refine Vb X0 ?_|(refine V2 X0 ?_ ?_<;>try with_reducible intro hb)|(refine Xi ?_ ?_<;>try intro ht)|refine VD ?_ ?_|exact Xx|fail))<;>try with_reducible intro K hK)
    unfold lQ;simp only[gG,gv];have hnk:=LH (kW m can st.2 (W,aI c false) c).2;exact⟨.bx [],_,⟨rfl,h1,⟨h3.len,λi o e1 e2 e3=>h3.same i o e1 (λhm=>by
     rw[e9,fF]at hm;rcases a8.1 hm with e|hm
     ·have:=gX e3;dsimp only at e;omega
     ·exact e2 hm) e3⟩,h5,h6.mono CZ⟩,dX rfl h3.len rfl⟩
end
section
variable {m:aj} {os:List Ob}
def afU(hm:VM m){left:List (List Bool)}(hf:cP m left)(os:List Ob):
  dZ Tryz.prog 38 [.agg (ay m),.tree 1 (rowsOf aE left)] os λr ob=>∃ gi ai bi mi D E,r=.ptr gi 0 0/\WF m (cZ m left m.cls.length) gi ai bi mi D E (W0 m) ob/\os.length<=ob.length/\(∀ (i:Nat) o,os[i]?=some o->ob[i]?=some o)/\os.length<=mi/\∀ i∈(D++E).map (·.1),os.length<=i:=by
 have pD:=hm.ae;have qE:=hm.cls;refine dZ.aQ 110 os.length [.tmp 4] Tryz.func38 ?_;((try revert hK K);(repeat'(first|refine Va (X3 @ay.eq_1 @bF @bw.{0}) ?_|(refine V2 (X3 @ay.eq_1 @bF @bw.{0}) ?_ ?_<;>try with_reducible intro hb)|(refine Xi ?_ ?_<;>try intro ht)|refine VD ?_ ?_|exact Xx|fail))<;>try with_reducible intro K hK)
 refine df (σ':=⟨ar [(1,.tree 1 (rowsOf aE left)),(2,.ptr os.length 0 0),(5,.ptr (os.length+2) 0 0),(22,.tree 1 (rowsOf bm m.cls)),(23,OJ m.cls.length),(24,OJ 0)],os++[.var (ay m),.mp 3 [],.var (ay m++[.lit (.slice none 0 0),.lit (.slice none 0 0),.lit (.slice none 0 0),.db (os.length+1)])]⟩) (Xv @ay.eq_1) ?_;refine df (agV m os _ _ _ _) ?_;refine bd (λz:Nat×List (Nat×List Int)×Nat×Nat×List Ob=>(⟨ar [(1,.tree 1 (rowsOf aE left)),(2,.ptr os.length 0 0),(5,.ptr (os.length+2) 0 0),(22,.tree 1 (rowsOf bm m.cls)),(23,OJ m.cls.length),(24,OJ z.1)],z.2.2.2.2⟩:St))
  (λz=>z.1<=m.cls.length/\FX (BW m left os z.1 z.2.1 z.2.2.1 z.2.2.2.1) z.2.2.2.2/\z.2.1.map (·.2)=(m.cls.take z.1).map b8)
  (λz=>m.cls.length-z.1) (0,[],os.length+3,os.length+4,os++[.var (ay m),.mp 3 [],gW m (os.length+1) (os.length+3) (os.length+4) (os.length+5) 0 0,.arr 1 [],.arr 1 [],.arr 1 []]) ⟨aS _,BW0 m left os,Fl⟩ (Xv X0) ?_
 rintro⟨c,Q,ci,oi,ob⟩⟨hc,hF,hQ⟩Ql ao ax;dsimp only at hc hF hQ ⊢;by_cases fI:c<m.cls.length
 ·have vL:=hm.opt _ (aF (l:=m.cls) (i:=c) (d:=default) fI);have qF:=hm.rp _ (aF (l:=m.cls) (i:=c) (d:=default) fI);have hZ:=eQ fI;have UG:=hf.2 c (by have:=hf.1;omega);have jD:=agK m left c;have UH:=LI (X:=left) (c:=c) (by have:=hf.1;omega);have anG:=hf.1;generalize ic:m.cls.getD c default=l at *;generalize BK:left.getD c default=row at *;repeat'(first|((fail_if_success (first|refine eH 7 ?_|refine eI 7 ?_));refine Xr (X2 @ic @bm.eq_1) ?_;intro K hK)|refine Xo (X2 @ic @bm.eq_1) ?_|(refine hK _ ?_;clear hK K)|(refine Xg (X2 @ic @bm.eq_1) ?_ ?_<;>try intro hb)|(refine Xi ?_ ?_<;>try intro ht)|refine Xy ?_|refine Xd ?_ ?_|exact Xx|fail)
  ((try revert hK K);(repeat'(first|refine Va X0 ?_|(refine V2 X0 ?_ ?_<;>try with_reducible intro hb)|(refine Xi ?_ ?_<;>try intro ht)|refine VD ?_ ?_|exact Xx|fail))<;>try with_reducible intro K hK)
  have cr:row.length=l.length:=UG;refine df (aH.nil 8 1 (by simp only[Kc,simprocAttr]) Fs) ?_;refine df (aH.nil 9 1 (by simp only[Kc,simprocAttr]) Fs) ?_;dsimp only;rw[bw,bI];refine bd (λz:Nat×Nat×Nat×List Ob=>(⟨ar [(1,.tree 1 (rowsOf aE left)),(2,.ptr os.length 0 0),(5,.ptr (os.length+2) 0 0),(6,OJ c),(8,.ref z.2.1 1 0 z.1),(9,.ref z.2.2.1 1 0 z.1),(22,.tree 1 (rowsOf bm m.cls)),(23,OJ m.cls.length),(24,OJ c),(29,.tree 6 (rowsOf cA l)),(30,OJ l.length),(31,OJ z.1)],z.2.2.2⟩:St))
   (λz=>z.1<=l.length/\FX ((z.2.1,.arr 1 (br ((fX l row).take z.1)))::(z.2.2.1,.arr 1 (ints ((b8 l).take z.1)))::BW m left os c Q ci oi) z.2.2.2)
   (λz=>l.length-z.1) (0,ob.length,ob.length+1,ob++[.arr 1 [],.arr 1 []]) ⟨aS _,?_⟩ ?_ ?_
  ·exact hF.news (N:=[(ob.length,.arr 1 []),(ob.length+1,.arr 1 [])]) (l:=[.arr 1 [],.arr 1 []]) (λp hp=>by
    simp only[a8,iJ,or_false]at hp;rcases hp with rfl|rfl
    ·exact⟨0,rfl,rfl⟩
    ·exact⟨1,rfl,rfl⟩) Fl
  ·exact Xv X0
  clear hF;rintro⟨k,x,y,o2⟩⟨hk,hF⟩du bE bG;dsimp only at hk hF ⊢;by_cases bc:k<l.length
  ·have LJ:=qF _ (aF (l:=l) (i:=k) (d:=default) bc);have dP:=DJ LJ;have Bj:lz (l.getD k default)=((l.getD k default).ch.map (·.2)).foldl dK 0:=rfl;have nD:(fX l row).take (k+1)=(fX l row).take k++[row.getD k false&&decide (lz (l.getD k default)<1099511627776)]:=by
    rw[eQ (by simp[fX];exact bc)];congr 2;unfold fX;rw[az,bY,nN bc];rfl
   have ho1:(b8 l).take (k+1)=(b8 l).take k++[lz (l.getD k default)]:=by
    rw[eQ (by simp[b8];exact bc)];congr 2;unfold b8;rw[az,bY,az,bS bc];rfl
   have bz:((fX l row).take k).length=k:=by rw[fZ];simp[fX];omega
   have nE:((b8 l).take k).length=k:=by rw[fZ];simp[b8];omega
   generalize mz:l.getD k default=o at *;have UJ:o.ch.length<9223372036854775808:=by have h1:=UK hm.uC.1 LJ;have h2:=hm.uC.2;omega
   ((try revert hK K);(repeat'(first|refine Va (X4 @mz @cA.eq_1 @bF @bw.{0}) ?_|(refine V2 (X4 @mz @cA.eq_1 @bF @bw.{0}) ?_ ?_<;>try with_reducible intro hb)|(refine Xi ?_ ?_<;>try intro ht)|refine VD ?_ ?_|exact Xx|fail))<;>try with_reducible intro K hK)
   have qG:=Hj LJ;refine bd (λz:Nat×List Ob=>(⟨ar [(1,.tree 1 (rowsOf aE left)),(2,.ptr os.length 0 0),(5,.ptr (os.length+2) 0 0),(6,OJ c),(8,.ref x 1 0 k),(9,.ref y 1 0 k),(10,OJ k),(12,OJ (((o.ch.take z.1).map (·.2)).foldl dK 0)),(22,.tree 1 (rowsOf bm m.cls)),(23,OJ m.cls.length),(24,OJ c),(29,.tree 6 (rowsOf cA l)),(30,OJ l.length),(31,OJ k),(37,.tree 2 (rowsOf dt o.ch)),(38,OJ o.ch.length),(39,OJ z.1)],z.2⟩:St))
    (λz=>z.1<=o.ch.length/\FX ((x,.arr 1 (br ((fX l row).take k)))::(y,.arr 1 (ints ((b8 l).take k)))::BW m left os c Q ci oi) z.2)
    (λz=>o.ch.length-z.1) (0,o2++[.var (cA o)]) ⟨aS _,hF.app _⟩ (Xv (X3 @List.take_zero.{0} @List.map_nil.{0,0} @List.foldl_nil.{0,0})) ?_
   clear hF;rintro⟨q,o3⟩⟨hq,hF⟩qH kE iB;dsimp only at hq hF ⊢;have yq:bQ (((o.ch.take q).map (·.2)).foldl dK 0):=D1 _ _ (λv hv=>by
    obtain⟨w,hw,rfl⟩:=b6.1 hv;exact qG w (List.mem_of_mem_take hw)) (by unfold bQ;decide)
   unfold bQ at yq;by_cases vA:q<o.ch.length
   ·have ka:((o.ch.take (q+1)).map (·.2)).foldl dK 0=min ((((o.ch.take q).map (·.2)).foldl dK 0)+(o.ch.getD q default).2) 1099511627776:=by
     rw[eQ vA,dJ,List.foldl_append];rfl
    have D2:=qG _ (aF (l:=o.ch) (i:=q) (d:=default) vA);unfold bQ at D2;generalize GY:((o.ch.take (q+1)).map (·.2)).foldl dK 0=s1 at *;generalize ((o.ch.take q).map (·.2)).foldl dK 0=s0 at *;generalize bf:o.ch.getD q default=cc at *;((try revert hK K);(repeat'(first|refine Va (X4 @bf @dt.eq_1 @bF @bw.{0}) ?_|(refine V2 (X4 @bf @dt.eq_1 @bF @bw.{0}) ?_ ?_<;>try with_reducible intro hb)|(refine Xi ?_ ?_<;>try intro ht)|refine VD ?_ ?_|exact Xx|fail))<;>try with_reducible intro K hK)
    all_goals try(exfalso;omega)
    exact kE _ (q+1,_) ⟨Ji,hF.app [.var (dt cc)]⟩ Ji (by dsimp only;rw[GY,ka];exact Xv @dt.eq_1)
   ·obtain rfl:q=o.ch.length:=CZ;rw[y0]at yq ⊢;((try revert hK K);(repeat'(first|refine Va X0 ?_|(refine V2 X0 ?_ ?_<;>try with_reducible intro hb)|(refine Xi ?_ ?_<;>try intro ht)|refine VD ?_ ?_|exact Xx|fail))<;>try with_reducible intro K hK)
    refine iB _ _ rfl ?_;clear kE iB qH;repeat(first|refine Xu ?_)
    rw[<- Bj]at yq ⊢;generalize uy:lz o=sm at *;have fx:=hF.at_ (x,.arr 1 (br ((fX l row).take k))) Fl;have fy:=hF.at_ (y,.arr 1 (ints ((b8 l).take k))) Fl;have qj:x≠y:=FX.ne (P:=[]) (a:=(x,.arr 1 (br ((fX l row).take k)))) (b:=(y,.arr 1 (ints ((b8 l).take k)))) hF Fl;dsimp only at fx fy;have UL:=aM fx;have UM:=aM fy;have sx:=gZ fx;have Hk:=eY (y:=.gone) fy qj;have UP:=aM Hk;have sy:=gZ Hk;have zZ:=(hF.kill .gone).kill .gone;have lc:(br ((fX l row).take k)).length=k:=by rw[ze];exact bz
    have lo:(ints ((b8 l).take k)).length=k:=by rw[xW];exact nE
    have tc:jO k (br ((fX l row).take k))=br ((fX l row).take k):=c9 CZ;have to:jO k (ints ((b8 l).take k))=ints ((b8 l).take k):=c9 CZ;have UQ:∀ l2 k2,((o3.set x .gone).set y .gone++l2)[o3.length+k2]?=l2[k2]?:=λl2 k2=>yl Fl l2 k2;generalize UR:row.getD k false=rk at *;have kD:∀ bv,bv=(rk&&decide (sm<1099511627776))->FX ((o3.length+1,.arr 1 (br ((fX l row).take (k+1))))::(o3.length+3,.arr 1 (ints ((b8 l).take (k+1))))::BW m left os c Q ci oi) ((o3.set x .gone).set y .gone++[.arr 1 [[.lit (.bool bv)]],.arr 1 (br ((fX l row).take k++[bv])),.arr 1 [[OJ sm]],.arr 1 (ints ((b8 l).take k++[sm]))]):=λbv hbv=>by
     rw[nD,ho1,<- hbv];have sZ:((o3.set x .gone).set y .gone).length=o3.length:=Fl;have h:=zZ.news (N:=[(o3.length+1,.arr 1 (br ((fX l row).take k++[bv]))),(o3.length+3,.arr 1 (ints ((b8 l).take k++[sm])))]) (l:=[.arr 1 [[.lit (.bool bv)]],.arr 1 (br ((fX l row).take k++[bv])),.arr 1 [[OJ sm]],.arr 1 (ints ((b8 l).take k++[sm]))]) (λp hp=>by
      rw[sZ];simp only[a8,iJ,or_false]at hp;rcases hp with rfl|rfl
      ·exact⟨1,rfl,rfl⟩
      ·exact⟨3,rfl,rfl⟩) Fl
     exact h
    ((try revert hK K);(repeat'(first|refine Va (X5 @bF @bw.{0} @bI.{0} @bH.{0} (X5 @UH @BK @aE.eq_1 @UR (X5 @fx @UL @sx @fy (X5 @UM @Hk @UP @sy (X5 @lc @lo @tc @to (X4 @oH @UQ @C6 @C5)))))) ?_|(refine V2 (X5 @bF @bw.{0} @bI.{0} @bH.{0} (X5 @UH @BK @aE.eq_1 @UR (X5 @fx @UL @sx @fy (X5 @UM @Hk @UP @sy (X5 @lc @lo @tc @to (X4 @oH @UQ @C6 @C5)))))) ?_ ?_<;>try with_reducible intro hb)|(refine Xi ?_ ?_<;>try intro ht)|refine VD ?_ ?_|exact Xx|fail))<;>try with_reducible intro K hK)
    all_goals first
     |exact bE _ (k+1,o3.length+1,o3.length+3,_) ⟨Ji,kD (decide (sm<1099511627776)) (by simp[*])⟩ Ji (Xv X0)
     |exact bE _ (k+1,o3.length+1,o3.length+3,_) ⟨Ji,kD false (by simp[*])⟩ Ji (Xv X0)
  ·obtain rfl:k=l.length:=CZ;have e1:(fX l row).take l.length=fX l row:=c9 (by simp[fX]);have e2:(b8 l).take l.length=b8 l:=c9 (by simp[b8]);rw[e1,e2]at hF;((try revert hK K);(repeat'(first|refine Va X0 ?_|(refine V2 X0 ?_ ?_<;>try with_reducible intro hb)|(refine Xi ?_ ?_<;>try intro ht)|refine VD ?_ ?_|exact Xx|fail))<;>try with_reducible intro K hK)
   refine bG _ _ rfl ?_;clear bE bG du;repeat(first|refine Xu ?_)
   have nE:(b8 l).length=l.length:=by simp[b8]
   have bz:(fX l row).length=l.length:=by simp[fX]
   have fx:=hF.at_ (x,.arr 1 (br (fX l row))) Fl;refine df (aH.US 8 x 1 (rows:=br (fX l row)) fx (by rw[ze,bz];simp only[Kc,simprocAttr]) (JT _) (QT _)) ?_;have zZ:=hF.kill .gone;dsimp only;generalize o2.set x .gone=o4 at *;have dh :∃o6,FX (ly (y,b8 l)::BW m left os c Q ci oi) o6/\aH os.length ⟨ar [(1,.tree 1 (rowsOf aE left)),(2,.ptr os.length 0 0),(5,.ptr (os.length+2) 0 0),(8,.tree 1 (br (fX l row))),(9,.ref y 1 0 l.length),(22,.tree 1 (rowsOf bm m.cls)),(23,OJ m.cls.length),(24,OJ c)],o4⟩
     ⟨ar [(1,.tree 1 (rowsOf aE left)),(2,.ptr os.length 0 0),(5,.ptr (os.length+2) 0 0),(8,.tree 1 (br (fX l row))),(9,oG (y,l.length)),(22,.tree 1 (rowsOf bm m.cls)),(23,OJ m.cls.length),(24,OJ c)],o6⟩:=by
    unfold ly oG;dsimp only;by_cases h0:l.length=0
    ·have hl0:b8 l=[]:=O2.1 (nE.trans h0);rw[hl0,if_pos rfl,if_pos h0];rw[hl0]at zZ;refine⟨o4.set y .gone,zZ.put _,?_⟩;refine aH.trans (aH.US 9 y 1 (rows:=[]) (zZ.at_ (y,.arr 1 (ints [])) Fl) (by rw[h0];rfl) Fl Fl) ?_;exact Xv X0
    ·have hl0:b8 l≠[]:=λe=>h0 (by rw[<- nE,e];rfl);rw[if_neg hl0,if_neg h0];exact⟨o4,zZ,by exact Xv X0⟩
   obtain⟨o6,BL,hT⟩:=dh;refine df (σ':=⟨ar [(1,.tree 1 (rowsOf aE left)),(2,.ptr os.length 0 0),(5,.ptr (os.length+2) 0 0),(8,.tree 1 (br (fX l row))),(9,.ref y 1 0 l.length),(22,.tree 1 (rowsOf bm m.cls)),(23,OJ m.cls.length),(24,OJ c)],o4⟩) (Xv X0) ?_;refine df hT ?_;clear hT hF zZ fx o4;have qA:Q.length=c:=by have:=congrArg jB hQ;simp at this;omega
   have fG:=BL.at_ (os.length+2,gW m (os.length+1) ci oi (os.length+5) c 0) (by simp[BW]);have fC:=BL.at_ (ci,.arr 1 (rowsOf aE (cZ m left c))) (by simp[BW]);have fO:=BL.at_ (oi,.arr 1 (rowsOf dF (dQ Q))) (by simp[BW]);unfold gW ay at fG;dsimp only[e9,iH]at fG fC fO;have DM:(ly (y,b8 l)::BW m left os c Q ci oi).Perm ((ci,.arr 1 (rowsOf aE (cZ m left c)))::(oi,.arr 1 (rowsOf dF (dQ Q)))::(os.length+2,gW m (os.length+1) ci oi (os.length+5) c 0)::ly (y,b8 l)::(os.length+5,.arr 1 [])::(os.length,.var (ay m))::(os.length+1,.mp 3 [])::(Q.map ly++nI os)):=by
    exact agM _ _ _ _ _
   have z6:=BL.perm DM;have ahn:ci≠oi:=FX.ne (P:=[]) (a:=(ci,.arr 1 (rowsOf aE (cZ m left c)))) (b:=(oi,.arr 1 (rowsOf dF (dQ Q)))) z6 Fl;have LK:ci≠os.length+2:=FX.ne (P:=[]) (a:=(ci,.arr 1 (rowsOf aE (cZ m left c)))) (b:=(os.length+2,gW m (os.length+1) ci oi (os.length+5) c 0)) z6 Fl;have LL:oi≠os.length+2:=FX.ne (P:=[(ci,.arr 1 (rowsOf aE (cZ m left c)))]) (a:=(oi,.arr 1 (rowsOf dF (dQ Q)))) (b:=(os.length+2,gW m (os.length+1) ci oi (os.length+5) c 0)) z6 Fl;have fCl:=aM fC;have fOl:=aM fO;have BM:=aM fG;have sC:=gZ fC;have vM:=eY (y:=.gone) fG LK;have BN:=aM vM;have LM:=eY (y:=.gone) fO ahn;have ahq:=aM LM;have sO:=gZ LM;have D3:=eY (y:=.gone) vM LL;have ahr:=aM D3;have D4:=(z6.kill .gone).kill .gone;have lC:(rowsOf aE (cZ m left c)).length=c:=by rw[cU];simp[cZ]
   have lO:(rowsOf dF (dQ Q)).length=c:=by rw[cU];simp[dQ,qA]
   have tC:jO c (rowsOf aE (cZ m left c))=rowsOf aE (cZ m left c):=c9 CZ;have tO:jO c (rowsOf dF (dQ Q))=rowsOf dF (dQ Q):=c9 CZ;have rA:rowsOf aE (cZ m left c)++[[.tree 1 (br (fX l row))]]=rowsOf aE (cZ m left (c+1)):=by rw[jD];unfold rowsOf;rw[dJ];rfl
   have yr:rowsOf dF (dQ Q)++[[oG (y,l.length)]]=rowsOf dF (dQ (Q++[(y,b8 l)])):=by rw[<- Lu,show(b8 l).length=l.length by simp[b8]]
   have l6:((o6.set ci .gone).set oi .gone).length=o6.length:=Fl;have l5:(o6.set ci Ob.gone).length=o6.length:=Fl;have e5:=λl k=>yl l5 l k;have e50:=λx l=>Hf l5 x l;have e6:=λl k=>yl l6 l k;have e60:=λx l=>Hf l6 x l;have sG:=gZ D3;have sG2:=λy=>gZ (lS (y:=y) D3);have sG5:=λy=>aM (lS (y:=y) D3);have xf:(os.length+2∈[os.length+2])=True:=Fl;have D5:(ci ∉ [os.length+2])=True:=by simp[LK]
   have hmo:(oi ∉ [os.length+2])=True:=by simp[LL]
   have ahx:(ci∈[os.length+2])=False:=by simp[LK]
   have ahy:(oi∈[os.length+2])=False:=by simp[LL]
   have rm:=agJ (y,l.length);have ahz:cellsOf (oG (y,l.length))=[oG (y,l.length)]:=by unfold oG;split<;>rfl
   have anH:=gX fG;have kD:∀ (s:St) (cc:Nat) (G1:Ob) (l4:List Ob),cc=1\/cc=2->l4[cc]?=some (.arr 1 (rowsOf aE (cZ m left (c+1))))->l4[3]?=some (.arr 1 (rowsOf dF (dQ (Q++[(y,b8 l)])))) ->
     aH os.length s ⟨ar [(1,.tree 1 (rowsOf aE left)),(2,.ptr os.length 0 0),(5,.ptr (os.length+2) 0 0),(22,.tree 1 (rowsOf bm m.cls)),(23,OJ m.cls.length),(24,OJ c)],(((o6.set ci .gone).set oi .gone).set (os.length+2) G1).set (os.length+2) (gW m (os.length+1) (o6.length+cc) (o6.length+3) (os.length+5) (c+1) 0)++l4⟩ ->
     ∃ cc l4,FX (BW m left os (c+1) (Q++[(y,b8 l)]) (o6.length+cc) (o6.length+3)) l4/\aH os.length s ⟨ar [(1,.tree 1 (rowsOf aE left)),(2,.ptr os.length 0 0),(5,.ptr (os.length+2) 0 0),(22,.tree 1 (rowsOf bm m.cls)),(23,OJ m.cls.length),(24,OJ c)],l4⟩:=λs cc G1 l4 bf h1 h2 ht=>by
    refine⟨cc,_,?_,ht⟩;have h:=((D4.put G1).put (gW m (os.length+1) (o6.length+cc) (o6.length+3) (os.length+5) (c+1) 0)).news (N:=[(o6.length+cc,.arr 1 (rowsOf aE (cZ m left (c+1)))),(o6.length+3,.arr 1 (rowsOf dF (dQ (Q++[(y,b8 l)]))))]) (l:=l4) (λp hp=>by
     simp only[bH];simp only[a8,iJ,or_false]at hp;rcases hp with rfl|rfl
     ·exact⟨cc,rfl,h1⟩
     ·exact⟨3,rfl,h2⟩) Jo
    have h':=h.perm (agN _ _ _ _ _ _ _ _ _);unfold BW;rw[dJ,bw];exact h'
   refine Ha (λs=>∃ cc l4,FX (BW m left os (c+1) (Q++[(y,b8 l)]) (o6.length+cc) (o6.length+3)) l4/\aH os.length s ⟨ar [(1,.tree 1 (rowsOf aE left)),(2,.ptr os.length 0 0),(5,.ptr (os.length+2) 0 0),(22,.tree 1 (rowsOf bm m.cls)),(23,OJ m.cls.length),(24,OJ c)],l4⟩) ?_ ?_
   ·rintro s ⟨cc,l4,h1,h2⟩;repeat(first|refine Xu ?_)
    refine df h2 ?_;((try revert hK K);(repeat'(first|refine Va X0 ?_|(refine V2 X0 ?_ ?_<;>try with_reducible intro hb)|(refine Xi ?_ ?_<;>try intro ht)|refine VD ?_ ?_|exact Xx|fail))<;>try with_reducible intro K hK)
    exact ao _ (c+1,Q++[(y,b8 l)],o6.length+cc,o6.length+3,l4) ⟨Ji,h1,by dsimp only;rw[dJ,hQ,hZ,dJ];rfl⟩ Ji (Xv X0)
   intro QQ key;clear ao ax;refine Uz [os.length+2] [] [8,15] (.take 0 (.take 1 (.take 2 (.take 3 (.take 4 (.take 5 (.take 6 (.take 9 (.take 10 (.take 11 (.take 12 (.take 13 (.both 7 (.both 8 (.take 14 (.take 15 (.take 16 (.take 17 (.take 18 (.take 19 (.take 20 (.take 21 .nil)))))))) 14 (.take 8 (.take 15 (.take 16 (.take 17 (.take 18 (.take 19 (.take 20 (.take 21 .nil))))))))) 14 (.take 7 (.take 8 (.take 15 (.take 16 (.take 17 (.take 18 (.take 19 (.take 20 (.take 21 .nil)))))))))))))))))))))) rfl Fs (by decide +kernel) ?_;simp(disch:=omega)only[Ac,↓Pc,simprocAttr,Ra,jg,xf,D5,hmo,ahx,ahy,not_false_eq_true,fC,fO,fG,fCl,fOl,BM,sC,vM,BN,LM,ahq,sO,D3,ahr,lC,lO,tC,tO,rA,yr,l5,l6,e5,e50,e6,e60,sG,sG2,sG5,rm,ahz,bF,bw,bI];repeat'(first|with_reducible refine c6 ?_ ?_|omega|with_reducible rfl|(intro id bV;simp only[a8,iJ,or_false]at bV;omega))
   all_goals first
    | (refine key _ (kD _ 1 (.var (ay m++[.ref (o6.length+1) 1 0 (c+1),.ref oi 1 0 c,.ref (os.length+5) 1 0 0,.db (os.length+1)])) [.arr 1 [[.tree 1 (br (fX l row))]],.arr 1 (rowsOf aE (cZ m left (c+1))),.arr 1 [[oG (y,l.length)]],.arr 1 (rowsOf dF (dQ (Q++[(y,b8 l)])))] (.inl rfl) rfl rfl ?_);exact Xv (X2 @gW.eq_1 @ay.eq_1);done)
    | (refine key _ (kD _ 2 (.var (ay m++[.ref (o6.length+2) 1 0 (c+1),.ref oi 1 0 c,.ref (os.length+5) 1 0 0,.db (os.length+1)])) [.arr 1 [[.tree 1 (br (fX l row))]],.arr 1 [[oG (y,l.length)]],.arr 1 (rowsOf aE (cZ m left (c+1))),.arr 1 (rowsOf dF (dQ (Q++[(y,b8 l)])))] (.inr rfl) rfl rfl ?_);exact Xv (X2 @gW.eq_1 @ay.eq_1);done)
    | (refine key _ (kD _ 2 (.var (ay m++[.ref (o6.length+2) 1 0 (c+1),.ref oi 1 0 c,.ref (os.length+5) 1 0 0,.db (os.length+1)])) [.arr 1 [[oG (y,l.length)]],.arr 1 [[.tree 1 (br (fX l row))]],.arr 1 (rowsOf aE (cZ m left (c+1))),.arr 1 (rowsOf dF (dQ (Q++[(y,b8 l)])))] (.inr rfl) rfl rfl ?_);exact Xv (X2 @gW.eq_1 @ay.eq_1);done)
 ·obtain rfl:c=m.cls.length:=CZ;rw[y0]at hQ;((try revert hK K);(repeat'(first|refine Va X0 ?_|(refine V2 X0 ?_ ?_<;>try with_reducible intro hb)|(refine Xi ?_ ?_<;>try intro ht)|refine VD ?_ ?_|exact Xx|fail))<;>try with_reducible intro K hK)
  refine ax _ _ rfl ?_;clear ao ax Ql;repeat(first|refine Xu ?_)
  have DT:FX (B2 m left os Q ci oi (os.length+5) 0 []) ob:=hF.perm (agO _ _ _ _ _ _ _);clear hF;have fA:=DT.at_ (os.length,.var (ay m)) (by simp[B2,BR]);dsimp only at fA;((try revert hK K);(repeat'(first|refine Va (X2 @fA @ay.eq_1) ?_|(refine V2 (X2 @fA @ay.eq_1) ?_ ?_<;>try with_reducible intro hb)|(refine Xi ?_ ?_<;>try intro ht)|refine VD ?_ ?_|exact Xx|fail))<;>try with_reducible intro K hK)
  refine bd (λz:Nat×List (Nat×List Int)×Nat×List Ob=>(⟨ar [(5,.ptr (os.length+2) 0 0),(90,.tree 4 (rowsOf aL m.ae)),(91,OJ m.ae.length),(92,OJ z.1)],z.2.2.2⟩:St))
   (λz=>z.1<=m.ae.length/\FX (B2 m left os Q ci oi z.2.2.1 z.1 z.2.1) z.2.2.2/\z.2.1.map (·.2)=(m.ae.take z.1).map (·.aC))
   (λz=>m.ae.length-z.1) (0,[],os.length+5,ob) ⟨aS _,DT,Fl⟩ (Xv X0) ?_
  clear DT fA;rintro⟨j,QE,ti,ob⟩⟨hj,hF,yn⟩Ql ao ax;dsimp only at hj hF yn ⊢;by_cases gx:j<m.ae.length
  ·have hZ:=eQ gx;obtain⟨dj,_⟩:=yo hm gx;have kF:(bN m j).aC.length<=576:=by
    obtain⟨_,_,_,_,h1⟩:=qI dj;have a:=z7 hm (bN m j).fst.toNat;have b:=z7 hm (bN m j).snd.toNat;have h2:(bN m j).aC.length=aD m (bN m j).fst.toNat*aD m (bN m j).snd.toNat:=by exact_mod_cast h1
    rw[h2];exact Nat.mul_le_mul a b
   have eK:m.ae.getD j default=bN m j:=rfl;rw[eK]at hZ;generalize bN m j=p at *;have qA:QE.length=j:=by have:=congrArg jB yn;simp at this;omega
   have fG:=hF.at_ (os.length+2,gW m (os.length+1) ci oi ti m.cls.length j) (by simp[B2]);have fT:=hF.at_ (ti,.arr 1 (rowsOf dF (dQ QE))) (by simp[B2]);unfold gW ay at fG;dsimp only[e9,iH]at fG fT;have zA:os.length+2≠ti:=FX.ne (P:=[]) (a:=(os.length+2,gW m (os.length+1) ci oi ti m.cls.length j)) (b:=(ti,.arr 1 (rowsOf dF (dQ QE)))) hF Fl;have z6:FX ((ti,.arr 1 (rowsOf dF (dQ QE)))::(os.length+2,gW m (os.length+1) ci oi ti m.cls.length j)::(QE.map ly++BR m left os Q ci oi)) ob:=hF.perm (pX.swap _ _ _);have D4:=z6.kill .gone;have xe:=aM fT;have BM:=aM fG;have sT:=gZ fT;have vM:=eY (y:=.gone) fG (Ne.symm zA);have BN:=aM vM;have sG:=gZ vM;have lT:(rowsOf dF (dQ QE)).length=j:=by rw[cU];simp[dQ,qA]
   have tT:jO j (rowsOf dF (dQ QE))=rowsOf dF (dQ QE):=c9 CZ;have yr:rowsOf dF (dQ QE)++[[oG (ob.length+1,p.aC.length)]]=rowsOf dF (dQ (QE++[(ob.length+1,p.aC)])):=Lu QE (ob.length+1,p.aC);have vJ:=gX fG;repeat'(first|((fail_if_success (first|refine eH 23 ?_|refine eI 23 ?_));refine Xr (X3 @eK @bF @bw.{0}) ?_;intro K hK)|refine Xo (X3 @eK @bF @bw.{0}) ?_|(refine hK _ ?_;clear hK K)|(refine Xg (X3 @eK @bF @bw.{0}) ?_ ?_<;>try intro hb)|(refine Xi ?_ ?_<;>try intro ht)|refine Xy ?_|refine Xd ?_ ?_|exact Xx|fail)
   refine df (σ':=⟨ar [(5,.ptr (os.length+2) 0 0),(16,.ptr ob.length 0 0),(90,.tree 4 (rowsOf aL m.ae)),(91,OJ m.ae.length),(92,OJ j)],ob++[.var (aL p)]⟩) (Xv @aL.eq_1) ?_;refine Ha (λs=>∃ q tn l4,FX (B2 m left os Q ci oi tn (j+1) (QE++[(q,p.aC)])) l4/\aH os.length s ⟨ar [(5,.ptr (os.length+2) 0 0),(90,.tree 4 (rowsOf aL m.ae)),(91,OJ m.ae.length),(92,OJ j)],l4⟩) ?_ ?_
   ·rintro s ⟨q,tn,l4,h1,h2⟩;repeat(first|refine Xu ?_)
    refine df h2 ?_;((try revert hK K);(repeat'(first|refine Va X0 ?_|(refine V2 X0 ?_ ?_<;>try with_reducible intro hb)|(refine Xi ?_ ?_<;>try intro ht)|refine VD ?_ ?_|exact Xx|fail))<;>try with_reducible intro K hK)
    exact ao _ (j+1,QE++[(q,p.aC)],tn,l4) ⟨Ji,h1,by dsimp only;rw[dJ,yn,hZ,dJ];rfl⟩ Ji (Xv X0)
   intro QQ key;clear ao ax;by_cases h0:p.aC.length=0
   ·have Hl:p.aC=[]:=O2.1 h0;have bz:=ahA p.aC CZ;rw[Hl]at bz key;have UT:rowsOf dF (dQ QE)++[[.tree 1 (ints [])]]=rowsOf dF (dQ (QE++[(ti,[])])):=Lu QE (ti,[]);have hg5:FX ((os.length+2,gW m (os.length+1) ci oi ti m.cls.length j)::(ti,.gone)::(QE.map ly++BR m left os Q ci oi)) (ob.set ti .gone):=(z6.put .gone).perm (pX.swap _ _ _);have kD:FX (B2 m left os Q ci oi (ob.length+2) (j+1) (QE++[(ti,[])])) ((ob.set ti .gone).set (os.length+2) (gW m (os.length+1) ci oi (ob.length+2) m.cls.length (j+1))++[.var [OJ p.fst,OJ p.snd,OJ p.ei,.tree 1 (ints [])],.arr 1 [[.tree 1 (ints [])]],.arr 1 (rowsOf dF (dQ (QE++[(ti,[])])))]):=by
     have h:=(hg5.put (gW m (os.length+1) ci oi (ob.length+2) m.cls.length (j+1))).news (N:=[(ob.length+2,.arr 1 (rowsOf dF (dQ (QE++[(ti,[])]))))]) (l:=[.var [OJ p.fst,OJ p.snd,OJ p.ei,.tree 1 (ints [])],.arr 1 [[.tree 1 (ints [])]],.arr 1 (rowsOf dF (dQ (QE++[(ti,[])])))]) (λq hq=>by
      simp only[bH];rw[dI]at hq;subst hq;exact⟨2,rfl,rfl⟩) Fl
     have h':=h.perm (agQ _ _ _ _ _);unfold B2;rw[dJ,bw];exact h'
    rw[Hl]at yr kF;refine q7 [] (.take 0 (.take 1 (.take 5 (.take 6 (.both 2 (.both 3 (.both 4 (.take 7 (.take 8 (.take 9 (.take 10 (.take 11 (.take 12 .nil)))))) 7 (.take 4 (.take 8 (.take 9 (.take 10 (.take 11 (.take 12 .nil))))))) 7 (.take 3 (.take 4 (.take 8 (.take 9 (.take 10 (.take 11 (.take 12 .nil)))))))) 7 (.take 2 (.take 3 (.take 4 (.take 8 (.take 9 (.take 10 (.take 11 (.take 12 .nil))))))))))))) rfl Fs (by decide +kernel) ?_;simp(disch:=omega)only[Ac,↓Pc,simprocAttr,Pw,fT,fG,xe,BM,sT,vM,BN,sG,lT,tT,UT,aL,Hl,oH,bF,bw,bI];repeat'(first|with_reducible refine c6 ?_ ?_|omega|with_reducible rfl)
    all_goals
     (refine Xn [] (bz) ?_;simp(disch:=omega)only[Ac,↓Pc,simprocAttr,Pw,fT,fG,xe,BM,sT,vM,BN,sG,lT,tT,UT,aL,Hl,oH,bF,bw,bI])
     repeat'(first|with_reducible refine c6 ?_ ?_|omega|with_reducible rfl)
    all_goals exact key _ ⟨ti,ob.length+2,_,kD,by exact Xv (X2 @gW.eq_1 @ay.eq_1)⟩
   ·have bz:=UU p.aC CZ CZ;have UW:rowsOf dF (dQ QE)++[[.ref (ob.length+1) 1 0 p.aC.length]]=rowsOf dF (dQ (QE++[(ob.length+1,p.aC)])):=by rw[<- yr];unfold oG;rw[if_neg h0]
    have kD:FX (B2 m left os Q ci oi (ob.length+3) (j+1) (QE++[(ob.length+1,p.aC)])) ((ob.set ti .gone).set (os.length+2) (gW m (os.length+1) ci oi (ob.length+3) m.cls.length (j+1))++[.var (aL p),.arr 1 (ints p.aC),.arr 1 [[.ref (ob.length+1) 1 0 p.aC.length]],.arr 1 (rowsOf dF (dQ (QE++[(ob.length+1,p.aC)])))]):=by
     have h:=(D4.put (gW m (os.length+1) ci oi (ob.length+3) m.cls.length (j+1))).news (N:=[(ob.length+3,.arr 1 (rowsOf dF (dQ (QE++[(ob.length+1,p.aC)])))),ly (ob.length+1,p.aC)]) (l:=[.var (aL p),.arr 1 (ints p.aC),.arr 1 [[.ref (ob.length+1) 1 0 p.aC.length]],.arr 1 (rowsOf dF (dQ (QE++[(ob.length+1,p.aC)])))]) (λq hq=>by
      simp only[bH];simp only[a8,iJ,or_false]at hq;rcases hq with rfl|rfl
      ·exact⟨3,rfl,rfl⟩
      ·refine⟨1,rfl,?_⟩;unfold ly;dsimp only;rw[if_neg (λe=>h0 (by rw[e];rfl))];rfl) (by simp[ly])
     have h':=h.perm (agP _ _ _ _ _);unfold B2;rw[dJ,bw];exact h'
    refine q7 [] (.take 0 (.take 1 (.take 5 (.take 6 (.both 2 (.both 3 (.both 4 (.take 7 (.take 8 (.take 9 (.take 10 (.take 11 (.take 12 .nil)))))) 7 (.take 4 (.take 8 (.take 9 (.take 10 (.take 11 (.take 12 .nil))))))) 7 (.take 3 (.take 4 (.take 8 (.take 9 (.take 10 (.take 11 (.take 12 .nil)))))))) 7 (.take 2 (.take 3 (.take 4 (.take 8 (.take 9 (.take 10 (.take 11 (.take 12 .nil))))))))))))) rfl Fs (by decide +kernel) ?_;simp(disch:=omega)only[Ac,↓Pc,simprocAttr,Pw,fT,fG,xe,BM,sT,vM,BN,sG,lT,tT,UW,aL,oH,bF,bw,bI];repeat'(first|with_reducible refine c6 ?_ ?_|omega|with_reducible rfl)
    all_goals
     (refine Xn [] (bz) ?_;simp(disch:=omega)only[Ac,↓Pc,simprocAttr,Pw,fT,fG,xe,BM,sT,vM,BN,sG,lT,tT,UW,aL,oH,bF,bw,bI,FG])
     repeat'(first|with_reducible refine c6 ?_ ?_|omega|with_reducible rfl)
    all_goals exact key _ ⟨ob.length+1,ob.length+3,_,kD,by exact Xv (X3 @gW.eq_1 @ay.eq_1 @aL.eq_1)⟩
  ·obtain rfl:j=m.ae.length:=CZ;rw[y0]at yn;((try revert hK K);(repeat'(first|refine Va X0 ?_|(refine V2 X0 ?_ ?_<;>try with_reducible intro hb)|(refine Xi ?_ ?_<;>try intro ht)|refine VD ?_ ?_|exact Xx|fail))<;>try with_reducible intro K hK)
   refine ax _ _ rfl ?_;clear ao ax Ql;repeat(first|refine Xu ?_)
   have fG:=hF.at_ (os.length+2,gW m (os.length+1) ci oi ti m.cls.length m.ae.length) (by simp[B2]);have fC:=hF.at_ (ci,.arr 1 (rowsOf aE (cZ m left m.cls.length))) (by simp[B2,BR]);dsimp only at fG fC;unfold gW at fG;refine df (aH.DB ci (os.length+2) 4 1 (cells:=ay m++[.ref ci 1 0 m.cls.length,.ref oi 1 0 m.cls.length,.ref ti 1 0 m.ae.length,.db (os.length+1)]) (rows:=rowsOf aE (cZ m left m.cls.length)) fG fC (by rw[cU];simp[cZ,ay]) (pw _) (zG _)) ?_;obtain⟨UX,oC,iy⟩:=agS hQ yn hF;have hlen:os.length<=((ob.set ci .gone).set (os.length+2) (.var (ay m++[.tree 1 (rowsOf aE (cZ m left m.cls.length)),.ref oi 1 0 m.cls.length,.ref ti 1 0 m.ae.length,.db (os.length+1)]))).length:=by
    have:=gX fG;simp only[bH];omega
   refine df (σ':=⟨ar [(5,.ptr (os.length+2) 0 0)],(ob.set ci .gone).set (os.length+2) (.var (ay m++[.tree 1 (rowsOf aE (cZ m left m.cls.length)),.ref oi 1 0 m.cls.length,.ref ti 1 0 m.ae.length,.db (os.length+1)]))⟩) (Xv @ay.eq_1) ?_;generalize (ob.set ci .gone).set (os.length+2) (.var (ay m++[.tree 1 (rowsOf aE (cZ m left m.cls.length)),.ref oi 1 0 m.cls.length,.ref ti 1 0 m.ae.length,.db (os.length+1)]))=o9 at *;have vJ:=gX UX.v;((try revert hK K);(repeat'(first|refine Vb X0 ?_|(refine V2 X0 ?_ ?_<;>try with_reducible intro hb)|(refine Xi ?_ ?_<;>try intro ht)|refine VD ?_ ?_|exact Xx|fail))<;>try with_reducible intro K hK)
   unfold lQ;simp only[gG,gv];simp(disch:=omega)only[Ac,↓Pc,simprocAttr];exact⟨_,_,⟨_,_,_,_,_,_,rfl,UX,hlen,oC,CZ,iy⟩,dX rfl hlen rfl⟩
end
end T

