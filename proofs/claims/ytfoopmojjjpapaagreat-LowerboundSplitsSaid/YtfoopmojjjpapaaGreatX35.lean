import Derived.Test.YtfoopmojjjpapaaGreatX34
import Derived.Shelf.SlSortCmp.WholeK
set_option linter.all false
set_option maxHeartbeats 0
set_option maxRecDepth 20000
open Nat renaming lt_or_ge→dT,le_refl→aZ,eq_zero_or_pos→pD,zero_le→aP
open List renaming getD_eq_getElem?_getD→ay,getElem?_eq_getElem→bx,map_append→dU,mem_append→cG,length_set→bJ,cons_append→dw,map_cons→ez,mem_cons_of_mem→dZ,mem_cons_self→yx,getElem?_set→bU,getElem?_eq_some_iff→aY,getElem?_map→bM,getElem?_set_ne→gT,drop_zero→AN,take_of_length_le→dt,replicate→aK,eq_of_mem_replicate→CN,mem_of_getElem?→hZ,mem_map→bY,getElem?_eq_none→dN,mem_filter→AR,mem_singleton→cS,mem_cons→bu,getElem_of_mem→kr,range→bn,mem_range→nB,append_assoc→bH,take→jd,drop→eQ
open Option renaming bind_some→tX
open And renaming intro→cD
open Go Go.Am Go.Proofs
namespace T
def nT(l:List Bool):Nat:=l.count true
def PQ(l:List Bool):nT l<=l.length:=List.count_le_length
def anU{l:List Bool}{c:Nat}(hc:c<l.length)(h:l.getD c false=false):nT l<l.length:=by
 rcases dT (nT l) l.length with h1|h1
 ·exact h1
 ·exfalso;have h2:l.count true=l.length:=Nat.le_antisymm List.count_le_length h1;have h3:=List.count_eq_length.1 h2 (l.getD c false) (aF hc);rw[h]at h3;cases h3
def anV{l:List Bool}{c:Nat}(hc:c<l.length)(h:l.getD c false=false):nT (l.set c true)=nT l+1:=by
 unfold nT;rw[List.count_set hc];have h2:l[c]=false:=by rw[ay,bx hc,Option.getD_some]at h;exact h
 simp[h2]
structure UO(m:ah)(B:Int)(n:Nat)(st Eg:WS×List Bool):Prop where
 len:Eg.2.length=m.cls.length
 sh:nV m Eg.1
 wb:WB (B+618475290624*(nT Eg.2:Nat)-618475290624*(n:Nat)) Eg.1
 up:nT st.2+n<=nT Eg.2
 mono:∀ j,st.2.getD j false=true->Eg.2.getD j false=true
structure UF(F gi si sa kK wi kL:Nat)(c6:List (List Int))(seen:List Bool)(os:List Ob):Prop where
 s:os[si]?=some (.var [.ref sa 1 0 seen.length])
 a:os[sa]?=some (.arr 1 (aV seen))
 b:os[kK]?=some (.var [.tree 1 (eO c6)])
 w:os[wi]?=some (.var [.ptr gi 0 0])
 u:os[kL]?=some (.var [.fn F [.ptr si 0 0,.ptr kK 0 0,.ptr wi 0 0,.ptr kL 0 0]])
structure UN(gi ai bi mi:Nat)(D E:List (Nat×Nat))(si sa kK wi kL:Nat):Prop where
 out:∀ i,i=si\/i=sa\/i=kK\/i=wi\/i=kL->i≠mi/\i ∉ (D++E).map (·.1)
 sa:sa≠gi/\sa≠ai/\sa≠bi/\sa≠si/\sa≠kK/\sa≠wi/\sa≠kL
section
variable {m:ah} {can:List (List Bool)} {gi ai bi mi:Nat} {D E:List (Nat×Nat)} {W:WS} {os ob:List Ob} {F si sa kK wi kL:Nat} {c6:List (List Int)} {seen:List Bool}
def WF.other(h:WF m can gi ai bi mi D E W os){i:Nat}(h1:i≠gi/\i≠ai/\i≠bi/\i≠mi)(h2:i ∉ (D++E).map (·.1))(y:Ob):WF m can gi ai bi mi D E W (os.set i y):=by
 rw[dU,cG,not_or]at h2;exact⟨fW h.v h1.1,fW h.a h1.2.1,fW h.b h1.2.2.1,fW h.mp h1.2.2.2,h.rD.other h2.1,h.rE.other h2.2,h.nd,λi hi=>by rw[bJ];exact h.lt i hi⟩
def UF.kp(h:UF F gi si sa kK wi kL c6 seen os)(hn:UN gi ai bi mi D E si sa kK wi kL)(hk:Kp mi D E os ob):UF F gi si sa kK wi kL c6 seen ob:=by
 have k:∀ i,i=si\/i=sa\/i=kK\/i=wi\/i=kL->∀ o,os[i]?=some o->ob[i]?=some o:=λi hi o ho=>hk.same i o (hn.out i hi).1 (hn.out i hi).2 ho;exact⟨k _ G9 _ h.s,k _ G9 _ h.a,k _ G9 _ h.b,k _ G9 _ h.w,k _ G9 _ h.u⟩
def UF.app(h:UF F gi si sa kK wi kL c6 seen os)(l:List Ob):UF F gi si sa kK wi kL c6 seen (os++l):=⟨aR h.s l,aR h.a l,aR h.b l,aR h.w l,aR h.u l⟩
def UF.set(h:UF F gi si sa kK wi kL c6 seen os)(hn:UN gi ai bi mi D E si sa kK wi kL){s2:List Bool}(hl:s2.length=seen.length):UF F gi si sa kK wi kL c6 s2 (os.set sa (.arr 1 (aV s2))):=by
 obtain⟨_,_,_,h4,h5,h6,h7⟩:=hn.sa;exact⟨by rw[hl];exact fW h.s h4,nr h.a,fW h.b h5,fW h.w h6,fW h.u h7⟩
def Kp.wide{mi:Nat}{D E:List (Nat×Nat)}{os ob:List Ob}(h:Kp mi D E os ob)(q:Nat×Nat):Kp mi (q::D) E os ob :=
 ⟨h.len,λi o h1 h2 h3=>h.same i o h1 (λhh=>h2 (by rw[dw,ez];exact dZ _ hh)) h3⟩
def Kp.put{mi:Nat}{D E:List (Nat×Nat)}{os o1:List Ob}(h:Kp mi ((sa,0)::D) E os o1)(y:Ob):Kp mi ((sa,0)::D) E os (o1.set sa y) :=
 ⟨by rw[bJ];exact h.len,λi o h1 h2 h3=>fW (h.same i o h1 h2 h3) (λe=>h2 (by rw[dw,ez];exact e▸yx ..))⟩
end
def wP(m:ah)(can:List (List Bool))(up:WS×List Bool->Nat->WS×List Bool)(st:WS×List Bool)(p:Nat):Nat->WS×List Bool
 |0=>st
 |s+1=>Cv m can up (wP m can up st p s) p s
def yo(m:ah)(can:List (List Bool))(up:WS×List Bool->Nat->WS×List Bool)(st:WS×List Bool)(l:List Int):WS×List Bool:=l.foldl (λst p=>wP m can up st p.toNat 2) st
def anW(m:ah)(can:List (List Bool))(up:WS×List Bool->Nat->WS×List Bool)(st:WS×List Bool){l:List Int}{k:Nat}(h:k<l.length):yo m can up st (l.take (k+1))=wP m can up (yo m can up st (l.take k)) (l.getD k default).toNat 2:=by
 rw[ep h];unfold yo;rw[List.foldl_append];rfl
def anX(m:ah)(can:List (List Bool))(c6:List (List Int))(f:Nat)(st:WS×List Bool)(c:Nat):jz m can c6 (f+1) st c=yo m can (jz m can c6 f) (st.1,st.2.set c true) (c6.getD c default):=rfl
def mq(q:Nat×List Int):List AV:=if q.2=[] then [.lit (.slice none 0 0)] else [.ref q.1 1 0 q.2.length]
def PH{α:Type}[Inhabited α](L:List α)(c k:Nat)(x:α)(hc:c<L.length):(L.set c x).getD k default=if k=c then x else L.getD k default:=by
 rw[ay,bU];by_cases h:k=c
 ·subst h;simp[hc]
 ·rw[if_neg (λe=>h e.symm),if_neg h,ay]
def iS{os:List Ob}{i:Nat}{o:Ob}(h:os[i]?=some o):i<os.length:=(aY.1 h).1
def Ka{Q:List (Nat×List Int)}{c:Nat}(hc:c<Q.length):(rowsOf mq Q)[c]?=some (mq (Q.getD c default)):=by
 unfold rowsOf;rw[bM,ay,bx hc];rfl
def vr(q:Nat×List Int):AV:=if q.2=[] then .lit (.slice none 0 0) else .ref q.1 1 0 q.2.length
def rz(q:Nat×List Int)(os:List Ob):List Ob:=if q.2=[] then os else os.set q.1 .gone
def PG(q:Nat×List Int):mq q=[vr q]:=by unfold mq vr;split<;>rfl
def ad4(q:Nat×List Int)(os:List Ob):(rz q os).length=os.length:=by unfold rz;split<;>simp
def Cw{q:Nat×List Int}{os:List Ob}{k:Nat}{o:Ob}(h:os[k]?=some o)(hk:q.2≠[]->k≠q.1):(rz q os)[k]?=some o:=by
 unfold rz;split
 ·exact h
 ·rename_i hq;rw[gT (Ne.symm (hk hq))];exact h
def anY{q:Nat×List Int}{os:List Ob}(h:q.2≠[]->os[q.1]?=some (.arr 1 (ints q.2)))(e:Nat->AV):mB ⟨e,os⟩ 1 (vr q)=some (ints q.2,⟨e,rz q os⟩):=by
 unfold vr rz;by_cases hq:q.2=[]
 ·rw[if_pos hq,if_pos hq,hq];rfl
 ·rw[if_neg hq,if_neg hq];unfold mB;simp only[h hq,and_self,if_true,AN];rw[dt (by rw[xl];exact aZ _)]
def adZ{ps:List Nat}{q:Nat×List Int}(h:q.2≠[]->q.1 ∉ ps):Ce ps (vr q)=True:=by
 unfold vr;split
 ·exact OG _
 ·rename_i hq;rw[OH];exact eq_true (h hq)
def anZ{q:Nat×List Int}{os:List Ob}(h:q.2≠[]->q.1<os.length)(l:List Ob):rz q (os++l)=rz q os++l:=by
 unfold rz;split
 ·rfl
 ·rename_i hq;rw[List.set_append_left _ _ (h hq)]
def ad3{q:Nat×List Int}{os:List Ob}(h:q.2≠[]->os[q.1]?=some (.arr 1 (ints q.2)))(l:List Ob)(e:Nat->AV):mB ⟨e,os++l⟩ 1 (vr q)=some (ints q.2,⟨e,rz q os++l⟩):=by
 rw[anY (λhq=>aR (h hq) l),anZ (λhq=>iS (h hq))]
def ad5(Q:List (Nat×List Int))(c pa:Nat)(l:List Int)(n:Int):(rowsOf mq Q).set c [.ref pa 1 0 (l.length+1)]=rowsOf mq (Q.set c (pa,l++[n])):=by
 unfold rowsOf;rw[List.map_set];congr 1;unfold mq;rw[if_neg G9];simp
def Az{X:List Ob}{n:Nat}(h:X.length=n)(l:List Ob)(k:Nat):(X++l)[n+k]?=l[k]?:=by subst h;exact lf X l k
def Kd{X:List Ob}{n:Nat}(h:X.length=n)(x:Ob)(l:List Ob):(X++x::l)[n]?=some x:=by subst h;exact kF X x l
def PA{Q:List (Nat×List Int)}{a:Nat}(h:a<Q.length):(Q.map (·.2)).getD a default=(Q.getD a default).2:=by
 rw[ay,bM,ay,bx h];rfl
structure LR(F:List (Nat×Ob))(lp:Nat)(Q:List (Nat×List Int))(ob:List Ob):Prop where
 fx:∀ p∈F,ob[p.1]?=some p.2
 tU:∀ p∈F,p.1≠lp/\∀ c,c<Q.length->(Q.getD c default).2≠[]->p.1≠(Q.getD c default).1
 ls:ob[lp]?=some (.arr 1 (rowsOf mq Q))
 row:∀ c,c<Q.length->(Q.getD c default).2≠[]->ob[(Q.getD c default).1]?=some (.arr 1 (ints (Q.getD c default).2))/\(Q.getD c default).1≠lp
 inj:∀ c c',c<Q.length->c'<Q.length->(Q.getD c default).2≠[]->(Q.getD c' default).2≠[]->(Q.getD c default).1=(Q.getD c' default).1->c=c'
section
variable {F:List (Nat×Ob)} {lp:Nat} {Q:List (Nat×List Int)} {ob l:List Ob}
def LR.app(h:LR F lp Q ob)(l:List Ob):LR F lp Q (ob++l) :=
 ⟨λp hp=>aR (h.fx p hp) l,h.tU,aR h.ls l,λc hc hn=>⟨aR (h.row c hc hn).1 l,(h.row c hc hn).2⟩,h.inj⟩
def LR.anl(h:LR F lp Q ob){a b:Nat}(ha:a<Q.length)(hb:b<Q.length)(gN:a≠b){n:Int}{fin:List Ob}{pa pb:Nat}(ML:ob.length<=pa)(dY:ob.length<=pb)(cu:pa≠pb)(hk:∀ k o,ob[k]?=some o->k≠lp->((Q.getD a default).2≠[]->k≠(Q.getD a default).1)->((Q.getD b default).2≠[]->k≠(Q.getD b default).1)->fin[k]?=some o)(hl:fin[lp]?=some (.arr 1 (rowsOf mq ((Q.set a (pa,(Q.getD a default).2++[n])).set b (pb,(Q.getD b default).2++[n])))))(h1:fin[pa]?=some (.arr 1 (ints ((Q.getD a default).2++[n]))))(h2:fin[pb]?=some (.arr 1 (ints ((Q.getD b default).2++[n])))):
  LR F lp ((Q.set a (pa,(Q.getD a default).2++[n])).set b (pb,(Q.getD b default).2++[n])) fin:=by
 have hlp:lp<ob.length:=iS h.ls;have hg:∀ k,((Q.set a (pa,(Q.getD a default).2++[n])).set b (pb,(Q.getD b default).2++[n])).getD k default=if k=b then(pb,(Q.getD b default).2++[n]) else if k=a then(pa,(Q.getD a default).2++[n]) else Q.getD k default:=λk=>by
  rw[PH _ _ _ _ (by simpa using hb)];split
  ·rfl
  ·rw[PH _ _ _ _ ha]
 have hold:∀ c,c<Q.length->(Q.getD c default).2≠[]->(Q.getD c default).1<ob.length:=λc hc hn=>iS (h.row c hc hn).1;refine⟨λp hp=>hk _ _ (h.fx p hp) (h.tU p hp).1 (λhn=>(h.tU p hp).2 a ha hn) (λhn=>(h.tU p hp).2 b hb hn),λp hp=>⟨(h.tU p hp).1,λk eF hn=>?_⟩,hl,λk eF hn=>?_,λk k' eF PX hn rQ e=>?_⟩
 ·have zd:=iS (h.fx p hp);rw[bJ,bJ]at eF;rw[hg]at hn ⊢;split at hn
  ·rename_i e;rw[if_pos e];dsimp only;omega
  ·rename_i e;rw[if_neg e];split at hn
   ·rename_i e2;rw[if_pos e2];dsimp only;omega
   ·rename_i e2;rw[if_neg e2];exact(h.tU p hp).2 k eF hn
 ·rw[bJ,bJ]at eF;rw[hg]at hn ⊢;split at hn
  ·rename_i e;rw[if_pos e];exact⟨h2,Hi⟩
  ·rename_i e;rw[if_neg e];split at hn
   ·rename_i e2;rw[if_pos e2];exact⟨h1,Hi⟩
   ·rename_i e2;rw[if_neg e2];have hr:=h.row k eF hn;exact⟨hk _ _ hr.1 hr.2 (λGe e3=>e2 (h.inj k a eF ha hn Ge e3)) (λdR e3=>e (h.inj k b eF hb hn dR e3)),hr.2⟩
 ·rw[bJ,bJ]at eF PX;rw[hg]at hn e;rw[hg k']at rQ e;have o1:=hold k eF;have o2:=hold k' PX;have i1:=h.inj k k' eF PX;by_cases x1:k=b<;>by_cases x2:k'=b
  ·exact x1.trans x2.symm
  ·rw[if_pos x1,if_neg x2]at e;rw[if_neg x2]at rQ;by_cases x3:k'=a
   ·rw[if_pos x3]at e;dsimp only at e;omega
   ·rw[if_neg x3]at e rQ;have:=o2 rQ;dsimp only at e;omega
  ·rw[if_neg x1,if_pos x2]at e;rw[if_neg x1]at hn;by_cases x3:k=a
   ·rw[if_pos x3]at e;dsimp only at e;omega
   ·rw[if_neg x3]at e hn;have:=o1 hn;dsimp only at e;omega
  ·rw[if_neg x1,if_neg x2]at e;rw[if_neg x1]at hn;rw[if_neg x2]at rQ;by_cases x3:k=a<;>by_cases x4:k'=a
   ·exact x3.trans x4.symm
   ·rw[if_pos x3,if_neg x4]at e;rw[if_neg x4]at rQ;have:=o2 rQ;dsimp only at e;omega
   ·rw[if_neg x3,if_pos x4]at e;rw[if_neg x3]at hn;have:=o1 hn;dsimp only at e;omega
   ·rw[if_neg x3,if_neg x4]at e;rw[if_neg x3]at hn;rw[if_neg x4]at rQ;exact i1 hn rQ e
def LR.start{N:Nat}(hF:∀ p∈F,ob[p.1]?=some p.2):LR F ob.length (aK N (0,[])) (ob++[.arr 1 (aK N [.lit (.slice none 0 0)])]):=by
 have hz:∀ c,((aK N ((0:Nat),([]:List Int))).getD c default).2=[]:=λc=>by
  rw[ay];cases hh:(aK N ((0:Nat),([]:List Int)))[c]? with
  |none=>rfl
  |some q=>rw[CN (hZ hh)];rfl
 refine⟨λp hp=>aR (hF p hp) _,λp hp=>⟨by have:=iS (hF p hp);omega,λc _ hn=>absurd (hz c) hn⟩,?_,λc _ hn=>absurd (hz c) hn,λc c' _ _ hn=>absurd (hz c) hn⟩;rw[show rowsOf mq (aK N ((0:Nat),([]:List Int)))=aK N [.lit (.slice none 0 0)] by unfold rowsOf;rw[List.map_replicate];rfl];exact kF _ _ _
end
def wO(S:List Nat)(ob:List Ob):List Ob:=ob.mapIdx λi o=>if i∈S then .gone else o
def ad8(S:List Nat)(ob:List Ob):(wO S ob).length=ob.length:=by simp[wO]
def PI{S:List Nat}{ob:List Ob}{i:Nat}{o:Ob}(h:ob[i]?=some o):(wO S ob)[i]?=some (if i∈S then .gone else o):=by
 unfold wO;rw[List.getElem?_mapIdx,h];rfl
def PJ{S:List Nat}{ob:List Ob}{i:Nat}{o:Ob}(h:ob[i]?=some o)(hi:i ∉ S):(wO S ob)[i]?=some o:=by rw[PI h,if_neg hi]
def oL(lp:Nat)(Q:List (Nat×List Int)):List Nat:=lp::(Q.filter λq=>decide (q.2≠[])).map (·.1)
section
variable {F:List (Nat×Ob)} {lp:Nat} {Q:List (Nat×List Int)} {ob:List Ob}
def anB(uL:ob[lp]?=some (.arr 1 (rowsOf mq Q))){X:Nat->Prop}(bK:∀ c,c<Q.length->(Q.getD c default).2≠[]->ob[(Q.getD c default).1]?=some (.arr 1 (ints (Q.getD c default).2))/\X c)(e:Nat->AV):cX ⟨e,ob⟩ (λi=>i ∉ oL lp Q) (.tree 1 (eO (Q.map (·.2)))) (.ref lp 1 0 Q.length):=by
 have Dv:∀ row∈eO (Q.map (·.2)),row.length=1:=λrow hr=>by
  unfold eO at hr;obtain⟨_,_,rfl⟩:=bY.1 hr;rfl
 refine .ref lp 1 0 Q.length _ _ (λr c=>(cellAt (rowsOf mq Q) r c).getD .undef) uL (λhn=>hn (yx ..)) (by simp[eO,rowsOf]) Dv (λr c v hv=>?_) (λr c v hv=>?_);all_goals
  unfold cellAt at hv;by_cases hr:r<Q.length;rotate_left
  ·rw[dN (by simp[eO];omega)]at hv;simp at hv
  have e1:(eO (Q.map (·.2)))[r]?=some [.tree 1 (ints (Q.getD r default).2)]:=by
   unfold eO;rw[bM,bM,bx hr,ay,bx hr];rfl
  rw[e1,tX]at hv;have mD:c=0:=by
   have:=(aY.1 hv).1;simp at this;exact this
  subst mD;simp only[List.getElem?_cons_zero,Option.some.injEq]at hv;subst hv;have e2:=Ka hr
 ·rw[AN,dt (by simp[rowsOf])];unfold cellAt;rw[e2,tX];unfold mq;split<;>rfl
 ·unfold cellAt;rw[e2,tX];by_cases hq:(Q.getD r default).2=[]
  ·unfold mq;rw[if_pos hq,hq];exact .nil 1
  ·have e3:(mq (Q.getD r default))[0]?.getD .undef=.ref (Q.getD r default).1 1 0 (Q.getD r default).2.length:=by unfold mq;rw[if_neg hq];rfl
   rw[e3];have hm:(Q.getD r default).1∈oL lp Q:=by
    refine dZ _ (bY.2 ⟨Q.getD r default,AR.2 ⟨aF hr,by rw[decide_eq_true_eq];exact hq⟩,rfl⟩)
   refine cX.flat (bK r hr hq).1 (uw _) (by rw[xl]) (λhn=>hn hm) λrow ael v hv=>?_;unfold ints at ael;obtain⟨x,_,rfl⟩:=bY.1 ael;rw[cS]at hv;exact .inl ⟨_,hv⟩
def LR.at_(h:LR F lp Q ob){i:Nat}(hi:i∈oL lp Q):∀ p∈F,p.1≠i:=λp hp=>by
 rcases bu.1 hi with rfl|hi
 ·exact(h.tU p hp).1
 ·obtain⟨q,hq,rfl⟩:=bY.1 hi;obtain⟨h1,h2⟩:=AR.1 hq;rw[decide_eq_true_eq]at h2;obtain⟨c,hc,rfl⟩:=kr h1;have e:Q.getD c default=Q[c]:=by rw[ay,bx hc];rfl
  have:=(h.tU p hp).2 c hc (by rw[e];exact h2);rwa [e]at this
def LR.kill(h:LR F lp Q ob):∀ p∈F,(wO (oL lp Q) ob)[p.1]?=some p.2:=λp hp=>PJ (h.fx p hp) λhi=>h.at_ hi p hp rfl
end
def pA(os:List Ob):List (Nat×Ob):=os.zipIdx.map λq=>(q.2,q.1)
def AD{os:List Ob}{p:Nat×Ob}:p∈pA os↔os[p.1]?=some p.2:=by
 unfold pA;rw[bY];constructor
 ·rintro⟨q,hq,rfl⟩;exact List.mem_zipIdx_iff_getElem?.1 hq
 ·intro h;exact⟨(p.2,p.1),List.mem_zipIdx_iff_getElem?.2 h,rfl⟩
def LR.head{F0:List (Nat×Ob)}{lp:Nat}{Q:List (Nat×List Int)}{ob:List Ob}{i:Nat}{x y:Ob}(h:LR ((i,x)::F0) lp Q ob)(hd:∀ p∈F0,p.1≠i):LR ((i,y)::F0) lp Q (ob.set i y):=by
 obtain⟨d1,d2⟩:=h.tU (i,x) (yx ..);refine⟨λp hp=>?_,λp hp=>?_,fW h.ls d1,λc hc hn=>⟨fW (h.row c hc hn).1 (d2 c hc hn),(h.row c hc hn).2⟩,h.inj⟩
 ·rcases bu.1 hp with rfl|hp
  ·exact nr (h.fx (i,x) (yx ..))
  ·exact fW (h.fx p (dZ _ hp)) (Ne.symm (hd p hp))
 ·rcases bu.1 hp with rfl|hp
  ·exact⟨d1,d2⟩
  ·exact h.tU p (dZ _ hp)
section
variable {F F':List (Nat×Ob)} {lp:Nat} {Q:List (Nat×List Int)} {ob l:List Ob}
def LR.more(h:LR F lp Q ob)(hF:∀ p∈F',p∈F\/∃ j,p.1=ob.length+j/\l[j]?=some p.2):LR F' lp Q (ob++l):=by
 have hlp:lp<ob.length:=iS h.ls;refine⟨λp hp=>?_,λp hp=>?_,aR h.ls l,λc hc hn=>⟨aR (h.row c hc hn).1 l,(h.row c hc hn).2⟩,h.inj⟩
 ·rcases hF p hp with h1|⟨j,h1,h2⟩
  ·exact aR (h.fx p h1) l
  ·rw[h1,lf];exact h2
 ·rcases hF p hp with h1|⟨j,h1,h2⟩
  ·exact h.tU p h1
  ·exact⟨Ey,λc hc hn=>by have:=iS (h.row c hc hn).1;omega⟩
end
def LR.sub{F F2:List (Nat×Ob)}{lp:Nat}{Q:List (Nat×List Int)}{ob:List Ob}(h:LR F lp Q ob)(hs:∀ p∈F2,p∈F):LR F2 lp Q ob:=⟨λp hp=>h.fx p (hs p hp),λp hp=>h.tU p (hs p hp),h.ls,h.row,h.inj⟩
def LR.cell{F:List (Nat×Ob)}{lp:Nat}{Q:List (Nat×List Int)}{ob:List Ob}(h:LR F lp Q ob){c:Nat}(hc:c<Q.length):(Q.getD c default).2≠[]->ob[(Q.getD c default).1]?=some (.arr 1 (ints (Q.getD c default).2)):=λhn=>(h.row c hc hn).1
def ani{os:List Ob}{i:Nat}{o:Ob}(h:os[i]?=some o):os.set i o=os:=by
 have h1:=(aY.1 h);obtain⟨h2,h3⟩:=h1;rw[<- h3,List.set_getElem_self]
def J9(t:List Int)(a:Nat)(eK:Int):∀ i,(nY t a eK i).length=t.length
 |0=>rfl
 |i+1=>by
  rw[nY];split
  ·rw[bJ];exact J9 t a eK i
  ·exact J9 t a eK i
def J8(t:List Int)(a:Nat)(eK:Int)(ha:t.getD a 0≠eK):∀ i,(nY t a eK i).getD a 0=t.getD a 0
 |0=>rfl
 |i+1=>by
  rw[nY];split
  ·rename_i h;rw[PY];split
   ·rename_i e;obtain⟨e,_⟩:=e;have h2:=congrArg (λj=>(nY t a eK i).getD j 0) e;exact absurd ((J8 t a eK ha i).symm.trans (h2.symm.trans h)) ha
   ·exact J8 t a eK ha i
  ·exact J8 t a eK ha i
section
variable {m:ah}
def an1{t:List Int×List (List Int)}{N:Nat}(h1:t.1.length=N)(h2:t.2.length=N)(p:Nat):(Ec m t p).1.length=N/\(Ec m t p).2.length=N:=by
 unfold Ec;dsimp only;split
 ·exact⟨h1,h2⟩
 ·exact⟨by rw[J9];exact h1,by simp[h2]⟩
def J6(round:Nat):∀ k,(lL m round k).1.length=m.cls.length/\(lL m round k).2.length=m.cls.length
 |0=>⟨by simp[lL],by simp[lL]⟩
 |k+1=>an1 (J6 round k).1 (J6 round k).2 _
def Kb(round:Nat):∀ k,∀ c,((lL m round k).2.getD c default).length<=k/\∀ x∈(lL m round k).2.getD c default,0<=x/\(0<m.ae.length->x<m.ae.length)
 |0,c=>by
  have:(lL m round 0).2.getD c default=[]:=by
   show(aK m.cls.length []).getD c default=[];rw[ay];cases hh:(aK m.cls.length ([]:List Int))[c]? with
   |none=>rfl
   |some q=>rw[CN (hZ hh)];rfl
  rw[this];simp
 |k+1,c=>by
  have ih:=Kb round k;rw[lL];generalize hp:(k+round)%m.ae.length=p;have dG:0<m.ae.length->p<m.ae.length:=λh=>by rw[<- hp];exact Nat.mod_lt _ h
  unfold Ec;dsimp only;split
  ·exact⟨by have:=(ih c).1;omega,(ih c).2⟩
  ·have key:∀ l:List Int,l.length<=k->(∀ x∈l,0<=x/\(0<m.ae.length->x<m.ae.length))->(l++[(p:Int)]).length<=k+1/\∀ x∈l++[(p:Int)],0<=x/\(0<m.ae.length->x<m.ae.length):=λl h1 h2=>by
    refine⟨Hj,λx hx=>?_⟩;rcases cG.1 hx with hx|hx
    ·exact h2 x hx
    ·simp only[cS]at hx;subst hx;exact⟨Ey,λh=>by have:=dG h;omega⟩
   rw[Eh];split
   ·exact key _ (ih _).1 (ih _).2
   ·rw[Eh];split
    ·exact key _ (ih _).1 (ih _).2
    ·exact⟨by have:=(ih c).1;omega,(ih c).2⟩
end
def LR.lt{F:List (Nat×Ob)}{lp:Nat}{Q:List (Nat×List Int)}{ob:List Ob}(h:LR F lp Q ob){i:Nat}(hi:i∈oL lp Q):i<ob.length:=by
 rcases bu.1 hi with rfl|hi
 ·exact iS h.ls
 ·obtain⟨q,hq,rfl⟩:=bY.1 hi;obtain⟨h1,h2⟩:=AR.1 hq;rw[decide_eq_true_eq]at h2;obtain⟨c,hc,rfl⟩:=kr h1;have e:Q.getD c default=Q[c]:=by rw[ay,bx hc];rfl
  have:=iS (h.row c hc (by rw[e];exact h2)).1;rwa [e]at this
def R1.pre{os ob:List Ob}{D:List (Nat×Nat)}{S:List (List Int)}(h:R1 os D S)(hp:∀ (i:Nat) o,os[i]?=some o->ob[i]?=some o):R1 ob D S :=
 ⟨h.len,λj hj=>⟨(h.row j hj).1,λh0=>hp _ _ ((h.row j hj).2 h0)⟩⟩
def WF.pre{m:ah}{can:List (List Bool)}{gi ai bi mi:Nat}{D E:List (Nat×Nat)}{W:WS}{os ob:List Ob}(h:WF m can gi ai bi mi D E W os)(hl:os.length<=ob.length)(hp:∀ (i:Nat) o,os[i]?=some o->ob[i]?=some o):WF m can gi ai bi mi D E W ob :=
 ⟨hp _ _ h.v,hp _ _ h.a,hp _ _ h.b,hp _ _ h.mp,h.rD.pre hp,h.rE.pre hp,h.nd,λi hi=>Nat.lt_of_lt_of_le (h.lt i hi) hl⟩
def an2:Go.Shelf.Ren:=⟨fun|6=>73|15=>106|14=>105|28=>142|29=>143|20=>134|21=>135|22=>136|23=>137|24=>138|25=>139|26=>140|27=>141|46=>151|47=>152|48=>153|49=>154|50=>155|57=>157|n=>n,fun|22=>38|24=>94|25=>140|3=>3|39=>174|0=>0|53=>207|55=>209|4=>4|46=>201|45=>200|50=>58|5=>5|9=>9|66=>222|70=>226|76=>229|77=>230|n=>n,λn=>n⟩
def aem:SlLaysF0.n6 Tryz.prog an2:={
mixed:=by kernel_rfl,
 f6:=⟨Tryz.f73.name,Hg,Tryz.func73.trans (congrArg some (by kernel_rfl))⟩,
 f14:=⟨Tryz.f105.name,Hg,Tryz.func105.trans (congrArg some (by kernel_rfl))⟩,
 f15:=Tryz.func106.trans (congrArg some (by kernel_rfl)),
 f20:=⟨Tryz.f134.name,Hg,Tryz.func134.trans (congrArg some (by kernel_rfl))⟩,
 f21:=⟨Tryz.f135.name,Hg,Tryz.func135.trans (congrArg some (by kernel_rfl))⟩,
 f22:=⟨Tryz.f136.name,Hg,Tryz.func136.trans (congrArg some (by kernel_rfl))⟩,
 f23:=⟨Tryz.f137.name,Hg,Tryz.func137.trans (congrArg some (by kernel_rfl))⟩,
 f24:=⟨Tryz.f138.name,Hg,Tryz.func138.trans (congrArg some (by kernel_rfl))⟩,
 f25:=⟨Tryz.f139.name,Hg,Tryz.func139.trans (congrArg some (by kernel_rfl))⟩,
 f26:=⟨Tryz.f140.name,Hg,Tryz.func140.trans (congrArg some (by kernel_rfl))⟩,
 f27:=⟨Tryz.f141.name,Hg,Tryz.func141.trans (congrArg some (by kernel_rfl))⟩,
 f28:=Tryz.func142.trans (congrArg some (by kernel_rfl)),
 f29:=Tryz.func143.trans (congrArg some (by kernel_rfl)),
 f46:=⟨Tryz.f151.name,Hg,Tryz.func151.trans (congrArg some (by kernel_rfl))⟩,
 f47:=Tryz.func152.trans (congrArg some (by kernel_rfl)),
 f48:=Tryz.func153.trans (congrArg some (by kernel_rfl)),
 f49:=⟨Tryz.f154.name,Hg,Tryz.func154.trans (congrArg some (by kernel_rfl))⟩,
 f50:=⟨Tryz.f155.name,Hg,Tryz.func155.trans (congrArg some (by kernel_rfl))⟩,
 f57:=⟨Tryz.f157.name,Hg,Tryz.func157.trans (congrArg some (by kernel_rfl))⟩,
 t0:=Tryz.underlying0,
 a0:=Tryz.isAgg0,
 z0:=Tryz.sizeOf0,
 v0:=Tryz.zeroValue0,
 t3:=Tryz.underlying3,
 a3:=Tryz.isAgg3,
 z3:=Tryz.sizeOf3,
 v3:=Tryz.zeroValue3,
 t4:=Tryz.underlying4,
 a4:=Tryz.isAgg4,
 z4:=Tryz.sizeOf4,
 v4:=Tryz.zeroValue4,
 t5:=Tryz.underlying5,
 a5:=Tryz.isAgg5,
 z5:=Tryz.sizeOf5,
 v5:=Tryz.zeroValue5,
 t9:=Tryz.underlying9,
 a9:=Tryz.isAgg9,
 z9:=Tryz.sizeOf9,
 v9:=Tryz.zeroValue9,
 t22:=Tryz.underlying38,
 a22:=Tryz.isAgg38,
 z22:=Tryz.sizeOf38,
 v22:=Tryz.zeroValue38,
 t25:=Tryz.underlying140,
 a25:=Tryz.isAgg140,
 z25:=Tryz.sizeOf140,
 v25:=Tryz.zeroValue140,
 t39:=Tryz.underlying174,
 a39:=Tryz.isAgg174,
 z39:=Tryz.sizeOf174,
 v39:=Tryz.zeroValue174,
 t45:=Tryz.underlying200,
 a45:=Tryz.isAgg200,
 z45:=Tryz.sizeOf200,
 v45:=Tryz.zeroValue200,
 t46:=Tryz.underlying201,
 a46:=Tryz.isAgg201,
 z46:=Tryz.sizeOf201,
 v46:=Tryz.zeroValue201,
 t50:=Tryz.underlying58,
 a50:=Tryz.isAgg58,
 z50:=Tryz.sizeOf58,
 v50:=Tryz.zeroValue58,
 t53:=Tryz.underlying207,
 a53:=Tryz.isAgg207,
 z53:=Tryz.sizeOf207,
 v53:=Tryz.zeroValue207,
 t55:=Tryz.underlying209,
 a55:=Tryz.isAgg209,
 z55:=Tryz.sizeOf209,
 v55:=Tryz.zeroValue209,
 t66:=Tryz.underlying222,
 a66:=Tryz.isAgg222,
 z66:=Tryz.sizeOf222,
 v66:=Tryz.zeroValue222,
 t70:=Tryz.underlying226,
 a70:=Tryz.isAgg226,
 z70:=Tryz.sizeOf226,
 v70:=Tryz.zeroValue226,
 t76:=Tryz.underlying229,
 a76:=Tryz.isAgg229,
 z76:=Tryz.sizeOf229,
 v76:=Tryz.zeroValue229,
 t77:=Tryz.underlying230,
 a77:=Tryz.isAgg230,
 z77:=Tryz.sizeOf230,
 v77:=Tryz.zeroValue230 }
def Co(q:List Int×Int):Mv:=⟨q.1.getD 0 0,q.1.getD 1 0,q.1.getD 2 0,q.2⟩
def mQ(am:List (List Int×Int))(seen:List Nat):List Mv:=(seen.filter λj=>decide ((am.getD j default).2≠0)).map λj=>Co (am.getD j default)
def kJ(am:List (List Int×Int)):List Mv:=(am.filter λq=>decide (q.2≠0)).map Co
def amg(am:List (List Int×Int))(seen:List Nat)(j:Nat):mQ am (seen++[j])=if(am.getD j default).2≠0 then mQ am seen++[Co (am.getD j default)] else mQ am seen:=by
 unfold mQ;rw[List.filter_append,dU];split
 ·rename_i h;rw[List.filter_cons_of_pos (by simpa using h)];rfl
 ·rename_i h;rw[List.filter_cons_of_neg (by simpa using h)];simp
def adk(am:List (List Int×Int))(seen:List Nat):(mQ am seen).length<=seen.length:=by
 unfold mQ;rw[List.length_map];exact List.length_filter_le _ _
def an3(am:List (List Int×Int)):mQ am (bn am.length)=kJ am:=by
 have e:am=(bn am.length).map λj=>am.getD j default:=by
  apply List.ext_getElem?;intro k;rw[bM];rcases dT k am.length with h|h
  ·rw[List.getElem?_range h,Option.map_some,ay,bx h];rfl
  ·rw[dN h,dN (by simpa using h)];rfl
 unfold mQ kJ
 conv=>rhs;rw[e]
 rw[List.filter_map,List.map_map];rfl
def adj{seen:List Nat}{n:Nat}(hn:seen.Nodup)(hl:∀ j∈seen,j<n)(ha:∀ j<n,j∈seen):seen.Perm (bn n) :=
 (List.perm_ext_iff_of_nodup hn List.nodup_range).2 λa=>⟨λh=>nB.2 (hl a h),λh=>ha a (nB.1 h)⟩
def ama{am:List (List Int×Int)}{seen:List Nat}(hn:seen.Nodup)(hl:∀ j∈seen,j<am.length)(ha:∀ j<am.length,j∈seen):(mQ am seen).Perm (kJ am):=by
 rw[<- an3];exact((adj hn hl ha).filter _).map _
def zi(id:Nat)(X:List Mv):AV:=if X=[] then .lit (.slice none 0 0) else .ref id 4 0 X.length
def yh(id:Nat)(X:List Mv)(os:List Ob):List Ob:=if X=[] then os else os.set id .gone
def amj(id:Nat)(X:List Mv)(os:List Ob):(yh id X os).length=os.length:=by unfold yh;split<;>simp
def an4{id:Nat}{X:List Mv}{os:List Ob}(h:X≠[]->id<os.length)(l:List Ob):yh id X (os++l)=yh id X os++l:=by
 unfold yh;split
 ·rfl
 ·rename_i hx;rw[List.set_append_left _ _ (h hx)]
def aml{id:Nat}{X:List Mv}{os:List Ob}{k:Nat}{o:Ob}(h:os[k]?=some o)(hk:X≠[]->k≠id):(yh id X os)[k]?=some o:=by
 unfold yh;split
 ·exact h
 ·rename_i hx;exact fW h (Ne.symm (hk hx))
def ami{id:Nat}{X:List Mv}{os:List Ob}(h:X≠[]->os[id]?=some (.arr 4 (rowsOf aU X)))(l:List Ob)(e:Nat->AV):mB ⟨e,os++l⟩ 4 (zi id X)=some (rowsOf aU X,⟨e,yh id X os++l⟩):=by
 rw[<- an4 (λhx=>iS (h hx))];unfold zi yh;by_cases hx:X=[]
 ·rw[if_pos hx,if_pos hx,hx];rfl
 ·rw[if_neg hx,if_neg hx];unfold mB;simp only[aR (h hx),and_self,if_true,AN];rw[dt (by rw[cF];exact aZ _)]
def amk(id:Nat)(X:List Mv)(x:Mv):AV.ref id 4 0 (X.length+1)=zi id (X++[x]):=by
 unfold zi;rw[if_neg G9];simp
section
variable {m:ah} {can:List (List Bool)} {gi ai bi mi:Nat} {D E:List (Nat×Nat)} {W:WS} {os:List Ob}
def PR{X:List (List Bool)}{c:Nat}(hc:c<X.length):(rowsOf aA X)[c]?=some [.tree 1 (aV (X.getD c default))]:=by
 unfold rowsOf;rw[bM,ay,bx hc];rfl
def an5(hm:VM m)(hf:cK m can)(h:WF m can gi ai bi mi D E W os)(hs:nV m W){B:Int}(hB:0<=B/\B<=1152921504606846976)(hW:WB B W){p s:Nat}(hp:p<m.ae.length)(jD:s<=1):
  dv Tryz.prog 72 [.ptr gi 0 0,QM p,QM s] os λr ob=>r=.bC []/\WF m can gi ai bi mi D E (Cu m can W p s) ob/\Kp mi D E os ob:=by
 obtain⟨dY,q1,q2,q3,q4,q5⟩:=AF hm hp;have p6:=hm.ae;have sL:=hm.cls;have bI:∀ s,s<=1->aG m p s<m.cls.length:=λs hs=>by
  rcases(show s=0\/s=1 by omega) with rfl|rfl
  ·exact q1
  ·exact q2
 have vY:=GS hm h hp;have ka:=GS hm (h.app [.gone,.gone,.gone,.gone]) hp;have e0:(c7 m p).fst=((aG m p 0:Nat):Int):=by show _=((c7 m p).fst.toNat:Int);omega
 have e1:(c7 m p).snd=((aG m p 1:Nat):Int):=by show _=((c7 m p).snd.toNat:Int);omega
 rw[e0,e1]at vY ka;refine dv.aM 155 os.length [] Tryz.func72 ?_;refine Xk ?_;refine wo ?_;intro Q hn he;refine pH ⟨ar [(0,.ptr gi 0 0),(1,QM p),(2,QM s),(6,QM (aG m p s:Nat)),(7,QM (aG m p (1-s):Nat))],os++[.gone,.gone,.gone,.gone,.gone,.gone,.gone,.gone]⟩ hn ?_ (λkey=>?_);rotate_left
 ·refine nf [] (.take 0 (.take 1 (.take 2 (.take 3 (.take 8 (.take 9 (.take 11 (.take 12 (.both 4 (.both 5 (.both 6 (.both 7 (.take 10 (.take 13 (.take 14 (.take 15 (.take 16 (.take 17 (.take 18 .nil))))))) 10 (.take 7 (.take 13 (.take 14 (.take 15 (.take 16 (.take 17 (.take 18 .nil)))))))) 10 (.take 6 (.take 7 (.take 13 (.take 14 (.take 15 (.take 16 (.take 17 (.take 18 .nil))))))))) 10 (.take 5 (.take 6 (.take 7 (.take 13 (.take 14 (.take 15 (.take 16 (.take 17 (.take 18 .nil)))))))))) 10 (.take 4 (.take 5 (.take 6 (.take 7 (.take 13 (.take 14 (.take 15 (.take 16 (.take 17 (.take 18 .nil))))))))))))))))))) rfl Hg (by decide +kernel) ?_;simp(disch:=omega)only[Ac,↓Pc,simprocAttr,wB,wA,wz,wy,uY,rO,od,mX,mY,cy,↓Lq];repeat'(first|with_reducible refine cD ?_ ?_|omega|with_reducible rfl)
  all_goals
   refine gr vY G9 ?_;rcases(show s=0\/s=1 by omega) with rfl|rfl;all_goals
    simp(disch:=omega)only[Ac,↓Pc,simprocAttr,wB,wA,wz,wy,uY,rO,od,mX,mY,cy,↓Lq,bH];repeat'(first|with_reducible refine cD ?_ ?_|omega|with_reducible rfl)
   all_goals
    refine gr ka G9 ?_;simp(disch:=omega)only[Ac,↓Pc,simprocAttr,wB,wA,wz,wy,uY,rO,od,mX,mY,cy,↓Lq,bH];repeat'(first|with_reducible refine cD ?_ ?_|omega|with_reducible rfl)
   all_goals
    refine key _ ?_;exact Xv X0
 (try clear hn;try clear he)
 try(try clear Q)
 have tV:=h.app [.gone,.gone,.gone,.gone,.gone,.gone,.gone,.gone];have gf:Kp mi D E os (os++[.gone,.gone,.gone,.gone,.gone,.gone,.gone,.gone]):=(Kp.refl mi D E os).app _;clear vY ka h;generalize os++[Ob.gone,Ob.gone,Ob.gone,Ob.gone,Ob.gone,Ob.gone,Ob.gone,Ob.gone]=lI at *;have hc:=bI s jD;have gq:=bI (1-s) Ey;have py:1-(1-s)=s:=Ey;have hsi:((1:Int)-(s:Int))=((1-s:Nat):Int):=Ey;have hD:D.length=m.cls.length:=tV.rD.len.trans hs.ol;have z1:=CC hm (aG m p s);have z2:=CC hm (aG m p (1-s));have hf1:=hf.1;have hfc:_=cU m (aG m p s):=hf.2 (aG m p s) Ey;have GU:_=cU m (aG m p (1-s)):=hf.2 (aG m p (1-s)) Ey;have zq:=PR (X:=can) (c:=aG m p s) Ey;have GV:=PR (X:=can) (c:=aG m p (1-s)) Ey;have hwp:Cu m can W p s=j3 m can (mo m can W p s (cU m (aG m p s))) p s (cU m (aG m p (1-s))):=rfl;have PZ:=λi=>Kk (can:=can) hs p s i;have bA:=λi=>P1 (can:=can) hm hB.1 hW p s i;have sA:∀ i,mo m can W p s (i+1)=_:=λi=>mo.eq_2 ..;have s0:mo m can W p s 0=W:=rfl;have fv:=tV.v;have fa:=tV.a;have Kl:(D.getD (aG m p s) default).2=cU m (aG m p s):=((tV.rD.row _ Ey).1).symm.trans (hs.or _ hc);have JB:(D.getD (aG m p (1-s)) default).2=cU m (aG m p (1-s)):=((tV.rD.row _ Ey).1).symm.trans (hs.or _ gq);refine Xk ?_;refine Xk ?_;refine wo ?_;intro Q hn he;refine pH ⟨ar [(0,.ptr gi 0 0),(1,QM p),(2,QM s),(6,QM (aG m p s:Nat)),(7,QM (aG m p (1-s):Nat)),(37,QM (cU m (aG m p s):Nat)),(38,QM 0)],lI⟩ hn ?_ (λkey=>?_);rotate_left
 ·(try clear hn;try clear he)
  have fr:=(tV.rD.row _ (show aG m p s<D.length by omega)).2;rcases pD (D.getD (aG m p s) default).2 with h0|h0
  ·have e:=P2 h0;rw[Kl]at h0;rw[h0]at key;((try revert hK K);(repeat'(first|refine Va (X3 @fv @fa @e) ?_|(refine V2 (X3 @fv @fa @e) ?_ ?_<;>try with_reducible intro hb)|(refine Xi ?_ ?_<;>try intro ht)|refine VD ?_ ?_|exact Xx|fail))<;>try with_reducible intro K hK)
   refine key _ ?_;exact Xv X0
  ·have e:=CD h0;have fr:=fr h0;rw[Kl]at e;((try revert hK K);(repeat'(first|refine Va (X4 @fv @fa @e @fr) ?_|(refine V2 (X4 @fv @fa @e @fr) ?_ ?_<;>try with_reducible intro hb)|(refine Xi ?_ ?_<;>try intro ht)|refine VD ?_ ?_|exact Xx|fail))<;>try with_reducible intro K hK)
   refine key _ ?_;exact Xv X0
 (try clear hn;try clear he)
 try(try clear Q)
 clear fv fa;((try revert hK K);(repeat'(first|refine Va X0 ?_|(refine V2 X0 ?_ ?_<;>try with_reducible intro hb)|(refine Xi ?_ ?_<;>try intro ht)|refine VD ?_ ?_|exact Xx|fail))<;>try with_reducible intro K hK)
 refine aQ (λz:Nat×List Ob=>(⟨ar [(0,.ptr gi 0 0),(1,QM p),(2,QM s),(6,QM (aG m p s:Nat)),(7,QM (aG m p (1-s):Nat)),(37,QM (cU m (aG m p s):Nat)),(38,QM z.1)],z.2⟩:St))
  (λz=>z.1<=cU m (aG m p s)/\WF m can gi ai bi mi D E (mo m can W p s z.1) z.2/\Kp mi D E os z.2)
  (λz=>cU m (aG m p s)-z.1) (0,lI) ⟨aP _,tV,gf⟩ (Xv X0) ?_
 clear tV gf lI;rintro⟨i,ok⟩⟨hi,hM,bk⟩Ql ak aq;dsimp only at hi hM bk ⊢;have fv:=hM.v;have fa:=hM.a;obtain⟨rl,rr⟩:=hM.rD.row (aG m p s) Ey;by_cases au:i<cU m (aG m p s)
 ·have rr:=rr Ey;have eD:=CD (q:=D.getD (aG m p s) default) Ey;have eW:=(bA i).ob (aG m p s) i;have qj:=aep hm hM (PZ i) (B:=B+12884901888*i) Ey (bA i) hp jD au (amt:=-pB (mo m can W p s i) (aG m p s) i) Ey;have Km:=sA i;have B7:((mo m can W p s i).own.getD (aG m p s) default).getD i 0=pB (mo m can W p s i) (aG m p s) i:=rfl;generalize vu:mo m can W p s (i+1)=W1 at *;have OY:i<24:=Ey;by_cases eL:zr can (aG m p s) i=true
  ·rw[if_pos eL]at Km;have aW:(can.getD (aG m p s) default).getD i false=true:=eL;generalize pB (mo m can W p s i) (aG m p s) i=ow at *;generalize (mo m can W p s i).own.getD (aG m p s) default=row at *;repeat'(first|((fail_if_success (first|refine dW 5 ?_|refine dX 5 ?_));refine Xr (X4 @fv @zq @aW @aA.eq_1) ?_;intro K hK)|refine Xo (X4 @fv @zq @aW @aA.eq_1) ?_|(refine hK _ ?_;clear hK K)|(refine Xg (X4 @fv @zq @aW @aA.eq_1) ?_ ?_<;>try intro hb)|(refine Xi ?_ ?_<;>try intro ht)|refine Xy ?_|refine Xd ?_ ?_|exact Xx|fail)
   refine oC 15 Hg _ rfl ?_;intro K hK;simp(disch:=omega)only[Ac,↓Pc,simprocAttr,jd,eQ,fv,fa,eD,rr,B7];repeat'(first|with_reducible refine cD ?_ ?_|omega|with_reducible rfl)
   refine⟨rfl,(show kd Tryz.prog 103 [.ptr gi 0 0,QM p,QM s,QM i,QM (-ow)] (some 66) _ _ from ?_)⟩;refine sw qj ?_;rintro r kG⟨rfl,zs,gK⟩;refine⟨gK.len,?_⟩;simp(disch:=omega)only[Ac,↓Pc,simprocAttr,eQ];refine hK _ ?_;clear hK K;repeat(first|refine Xu ?_)
   ((try revert hK K);(repeat'(first|refine Va X0 ?_|(refine V2 X0 ?_ ?_<;>try with_reducible intro hb)|(refine Xi ?_ ?_<;>try intro ht)|refine VD ?_ ?_|exact Xx|fail))<;>try with_reducible intro K hK)
   exact ak _ (i+1,kG) ⟨Hi,by dsimp only;rw[vu,Km];exact zs,bk.trans gK⟩ Hi (Xv X0)
  ·rw[if_neg eL]at Km;have aW:(can.getD (aG m p s) default).getD i false=false:=by simpa [zr] using eL
   ((try revert hK K);(repeat'(first|refine Va (X4 @fv @zq @aW @aA.eq_1) ?_|(refine V2 (X4 @fv @zq @aW @aA.eq_1) ?_ ?_<;>try with_reducible intro hb)|(refine Xi ?_ ?_<;>try intro ht)|refine VD ?_ ?_|exact Xx|fail))<;>try with_reducible intro K hK)
   exact ak _ (i+1,ok) ⟨Hi,by dsimp only;rw[vu,Km];exact hM,bk⟩ Hi (Xv X0)
 ·obtain rfl:i=cU m (aG m p s):=Ey;((try revert hK K);(repeat'(first|refine Va X0 ?_|(refine V2 X0 ?_ ?_<;>try with_reducible intro hb)|(refine Xi ?_ ?_<;>try intro ht)|refine VD ?_ ?_|exact Xx|fail))<;>try with_reducible intro K hK)
  refine aq _ _ rfl ?_;clear ak aq Ql;repeat(first|refine Xu ?_)
  clear fv fa rl rr;have an6:=PZ (cU m (aG m p s));have an7:=(bA (cU m (aG m p s))).mono (C:=B+309237645312) Ey;rw[hwp];clear sA s0 hwp PZ bA hs hW;generalize mo m can W p s (cU m (aG m p s))=WA at *;have shB:=λi=>Kn (can:=can) an6 p s i;have bB:=λi=>P3 (can:=can) hm Ey an7 p s i;have sB:∀ i,j3 m can WA p s (i+1)=_:=λi=>j3.eq_2 ..;have fv:=hM.v;have fa:=hM.a;refine Xk ?_;refine wo ?_;intro Q hn he;refine pH ⟨ar [(0,.ptr gi 0 0),(1,QM p),(2,QM s),(6,QM (aG m p s:Nat)),(7,QM (aG m p (1-s):Nat)),(75,QM (cU m (aG m p (1-s)):Nat)),(76,QM 0)],ok⟩ hn ?_ (λkey=>?_);rotate_left
  ·(try clear hn;try clear he)
   have fr:=(hM.rD.row _ (show aG m p (1-s)<D.length by omega)).2;rcases pD (D.getD (aG m p (1-s)) default).2 with h0|h0
   ·have e:=P2 h0;rw[JB]at h0;rw[h0]at key;((try revert hK K);(repeat'(first|refine Va (X3 @fv @fa @e) ?_|(refine V2 (X3 @fv @fa @e) ?_ ?_<;>try with_reducible intro hb)|(refine Xi ?_ ?_<;>try intro ht)|refine VD ?_ ?_|exact Xx|fail))<;>try with_reducible intro K hK)
    refine key _ ?_;exact Xv X0
   ·have e:=CD h0;have fr:=fr h0;rw[JB]at e;((try revert hK K);(repeat'(first|refine Va (X4 @fv @fa @e @fr) ?_|(refine V2 (X4 @fv @fa @e @fr) ?_ ?_<;>try with_reducible intro hb)|(refine Xi ?_ ?_<;>try intro ht)|refine VD ?_ ?_|exact Xx|fail))<;>try with_reducible intro K hK)
    refine key _ ?_;exact Xv X0
  (try clear hn;try clear he)
  try(try clear Q)
  clear fv fa;((try revert hK K);(repeat'(first|refine Va X0 ?_|(refine V2 X0 ?_ ?_<;>try with_reducible intro hb)|(refine Xi ?_ ?_<;>try intro ht)|refine VD ?_ ?_|exact Xx|fail))<;>try with_reducible intro K hK)
  refine aQ (λz:Nat×List Ob=>(⟨ar [(0,.ptr gi 0 0),(1,QM p),(2,QM s),(6,QM (aG m p s:Nat)),(7,QM (aG m p (1-s):Nat)),(75,QM (cU m (aG m p (1-s)):Nat)),(76,QM z.1)],z.2⟩:St))
   (λz=>z.1<=cU m (aG m p (1-s))/\WF m can gi ai bi mi D E (j3 m can WA p s z.1) z.2/\Kp mi D E os z.2)
   (λz=>cU m (aG m p (1-s))-z.1) (0,ok) ⟨aP _,hM,bk⟩ (Xv X0) ?_
  clear hM bk ok;rintro⟨k,ok⟩⟨hk,hM,bk⟩Ql ak aq;dsimp only at hk hM bk ⊢;by_cases bj:k<cU m (aG m p (1-s))
  ·have OY:k<24:=Ey;have Ko:=sB k;have P4:=λi=>aer (can:=can) (m:=m) Ey (bB k) p s k i;have qj:=aep hm hM (shB k) (B:=B+309237645312+12884901888*k) Ey (bB k) hp (s:=1-s) Ey bj (amt:=Ei (qA m can (j3 m can WA p s k) p s k (cU m (aG m p s)))) (by have:=P4 (cU m (aG m p s));unfold Ei;split<;>omega);have hsk:=shB k;generalize vu:j3 m can WA p s (k+1)=W1 at *;have fv:=hM.v;have fa:=hM.a;by_cases eL:zr can (aG m p (1-s)) k=true
   ·rw[if_pos eL]at Ko;have aW:(can.getD (aG m p (1-s)) default).getD k false=true:=eL;repeat'(first|((fail_if_success (first|refine dW 12 ?_|refine dX 12 ?_));refine Xr (X4 @fv @GV @aW @aA.eq_1) ?_;intro K hK)|refine Xo (X4 @fv @GV @aW @aA.eq_1) ?_|(refine hK _ ?_;clear hK K)|(refine Xg (X4 @fv @GV @aW @aA.eq_1) ?_ ?_<;>try intro hb)|(refine Xi ?_ ?_<;>try intro ht)|refine Xy ?_|refine Xd ?_ ?_|exact Xx|fail)
    refine wo ?_;intro Q hn he;refine pH ⟨ar [(0,.ptr gi 0 0),(1,QM p),(2,QM s),(6,QM (aG m p s:Nat)),(7,QM (aG m p (1-s):Nat)),(9,QM k),(10,QM 1099511627776),(75,QM (cU m (aG m p (1-s)):Nat)),(76,QM k),(97,QM (cU m (aG m p s):Nat)),(98,QM 0)],ok⟩ hn ?_ (λkey=>?_);rotate_left
    ·(try clear hn;try clear he)
     have fr:=(hM.rD.row _ (show aG m p s<D.length by omega)).2;rcases pD (D.getD (aG m p s) default).2 with h0|h0
     ·have e:=P2 h0;rw[Kl]at h0;rw[h0]at key;((try revert hK K);(repeat'(first|refine Va (X3 @fv @fa @e) ?_|(refine V2 (X3 @fv @fa @e) ?_ ?_<;>try with_reducible intro hb)|(refine Xi ?_ ?_<;>try intro ht)|refine VD ?_ ?_|exact Xx|fail))<;>try with_reducible intro K hK)
      refine key _ ?_;exact Xv X0
     ·have e:=CD h0;have fr:=fr h0;rw[Kl]at e;((try revert hK K);(repeat'(first|refine Va (X4 @fv @fa @e @fr) ?_|(refine V2 (X4 @fv @fa @e @fr) ?_ ?_<;>try with_reducible intro hb)|(refine Xi ?_ ?_<;>try intro ht)|refine VD ?_ ?_|exact Xx|fail))<;>try with_reducible intro K hK)
      refine key _ ?_;exact Xv X0
    (try clear hn;try clear he)
    try(try clear Q)
    ((try revert hK K);(repeat'(first|refine Va X0 ?_|(refine V2 X0 ?_ ?_<;>try with_reducible intro hb)|(refine Xi ?_ ?_<;>try intro ht)|refine VD ?_ ?_|exact Xx|fail))<;>try with_reducible intro K hK)
    have hl0:qA m can (j3 m can WA p s k) p s k 0=1099511627776:=rfl;have uL:∀ i,qA m can (j3 m can WA p s k) p s k (i+1)=_:=λi=>qA.eq_2 ..;have oI:∀ i,i<cU m (aG m p s)->kM m p s i k<(c7 m p).aB.length:=λi hi=>aet hm hp jD hi bj;have hE:E.length=m.ae.length:=hM.rE.len.trans hsk.tl;obtain⟨tl,tr⟩:=hM.rE.row p Ey;have oJ:=hsk.tr p hp;have F8:=(bB k).tb p;have gj:m.ae.getD p default=c7 m p:=rfl;have wj:∀ j,((j3 m can WA p s k).aB.getD p default).getD j 0=CE (j3 m can WA p s k) p j:=λj=>rfl;have fb:=hM.b;refine aQ (λi:Nat=>(⟨ar [(0,.ptr gi 0 0),(1,QM p),(2,QM s),(6,QM (aG m p s:Nat)),(7,QM (aG m p (1-s):Nat)),(9,QM k),(10,QM (qA m can (j3 m can WA p s k) p s k i)),(75,QM (cU m (aG m p (1-s)):Nat)),(76,QM k),(97,QM (cU m (aG m p s):Nat)),(98,QM i)],ok⟩:St))
     (λi=>i<=cU m (aG m p s)) (λi=>cU m (aG m p s)-i) 0 (aP _) (by rw[hl0];exact Xv X0) ?_
    rintro i qR cR bg bm;have aqY:=P4 i;by_cases hi3:i<cU m (aG m p s)
    ·have hA:=aeu hm hM hp (s:=s) (o:=i) (k:=k) Ey OY;have By:=oI i hi3;have mC:=uL i;have tr:=tr Ey;have eE:=CD (q:=E.getD p default) Ey;have htj:=F8 (kM m p s i k);have Kq:=wj (kM m p s i k);generalize hl1:qA m can (j3 m can WA p s k) p s k (i+1)=l1 at *;generalize qA m can (j3 m can WA p s k) p s k i=l0 at *;generalize CE (j3 m can WA p s k) p (kM m p s i k)=tj at *;generalize (j3 m can WA p s k).aB.getD p default=aq0 at *;generalize kM m p s i k=av at *;generalize c7 m p=pp at *;generalize xq:pp.aB.getD av 0=pe at *;have Kr:(can.getD (aG m p s) default).getD i false=zr can (aG m p s) i:=rfl;generalize zr can (aG m p s) i=cb at *;by_cases hq:cb=true/\pe≠1099511627776
     ·rw[if_pos hq]at mC;obtain⟨rfl,Ip⟩:=hq;((try revert hK K);(repeat'(first|refine Va X0 ?_|(refine V2 X0 ?_ ?_<;>try with_reducible intro hb)|(refine Xi ?_ ?_<;>try intro ht)|refine VD ?_ ?_|exact Xx|fail))<;>try with_reducible intro K hK)
      refine gr hA G9 ?_;((try revert hK K);(repeat'(first|refine Va (X5 @fv @fb @eE @tr (X5 @gj @aI.eq_1 @xq @Kq (X3 @zq @Kr @aA.eq_1))) ?_|(refine V2 (X5 @fv @fb @eE @tr (X5 @gj @aI.eq_1 @xq @Kq (X3 @zq @Kr @aA.eq_1))) ?_ ?_<;>try with_reducible intro hb)|(refine Xi ?_ ?_<;>try intro ht)|refine VD ?_ ?_|exact Xx|fail))<;>try with_reducible intro K hK)
      all_goals try(exfalso;omega)
      all_goals exact bg _ (i+1) Ey Ey (by rw[hl1,mC];exact Xv X0)
     ·rw[if_neg hq]at mC;((try revert hK K);(repeat'(first|refine Va X0 ?_|(refine V2 X0 ?_ ?_<;>try with_reducible intro hb)|(refine Xi ?_ ?_<;>try intro ht)|refine VD ?_ ?_|exact Xx|fail))<;>try with_reducible intro K hK)
      refine gr hA G9 ?_;((try revert hK K);(repeat'(first|refine Va (X5 @fv @fb @eE @tr (X5 @gj @aI.eq_1 @xq @Kq (X3 @zq @Kr @aA.eq_1))) ?_|(refine V2 (X5 @fv @fb @eE @tr (X5 @gj @aI.eq_1 @xq @Kq (X3 @zq @Kr @aA.eq_1))) ?_ ?_<;>try with_reducible intro hb)|(refine Xi ?_ ?_<;>try intro ht)|refine VD ?_ ?_|exact Xx|fail))<;>try with_reducible intro K hK)
      all_goals first
       |exact bg _ (i+1) Ey Ey (by rw[hl1,mC];exact Xv X0)
       |exact absurd ⟨by assumption,by assumption⟩ hq
    ·obtain rfl:i=cU m (aG m p s):=Ey;((try revert hK K);(repeat'(first|refine Va X0 ?_|(refine V2 X0 ?_ ?_<;>try with_reducible intro hb)|(refine Xi ?_ ?_<;>try intro ht)|refine VD ?_ ?_|exact Xx|fail))<;>try with_reducible intro K hK)
     refine bm _ _ rfl ?_;clear bg bm cR;repeat(first|refine Xu ?_)
     clear P4 hl0 uL oI F8 wj fv fa fb tl tr;have gI:Ei (qA m can (j3 m can WA p s k) p s k (cU m (aG m p s)))=_:=Ei.eq_1 _;generalize qA m can (j3 m can WA p s k) p s k (cU m (aG m p s))=L at *;generalize Ei L=amt at *;by_cases hL:L=1099511627776;all_goals
      first|rw[if_pos hL]at gI|rw[if_neg hL]at gI
      repeat'(first|((fail_if_success (first|refine dW 21 ?_|refine dX 21 ?_));refine Xr @hL ?_;intro K hK)|refine Xo @hL ?_|(refine hK _ ?_;clear hK K)|(refine Xg @hL ?_ ?_<;>try intro hb)|(refine Xi ?_ ?_<;>try intro ht)|refine Xy ?_|refine Xd ?_ ?_|exact Xx|fail)
      all_goals try(exfalso;omega)
      refine oC 6 Hg _ rfl ?_;intro K hK;simp(disch:=omega)only[Ac,↓Pc,simprocAttr,jd,eQ,hsi];repeat'(first|with_reducible refine cD ?_ ?_|omega|with_reducible rfl)
      rw[<- gI];refine⟨rfl,(show kd Tryz.prog 103 [.ptr gi 0 0,QM p,QM (1-s:Nat),QM k,QM amt] (some 153) _ _ from ?_)⟩;refine sw qj ?_;rintro r kG⟨rfl,zs,gK⟩;refine⟨gK.len,?_⟩;simp(disch:=omega)only[Ac,↓Pc,simprocAttr,eQ];refine hK _ ?_;clear hK K;repeat(first|refine Xu ?_)
      ((try revert hK K);(repeat'(first|refine Va X0 ?_|(refine V2 X0 ?_ ?_<;>try with_reducible intro hb)|(refine Xi ?_ ?_<;>try intro ht)|refine VD ?_ ?_|exact Xx|fail))<;>try with_reducible intro K hK)
      exact ak _ (k+1,kG) ⟨Hi,by dsimp only;rw[vu,Ko];exact zs,bk.trans gK⟩ Hi (Xv X0)
   ·rw[if_neg eL]at Ko;have aW:(can.getD (aG m p (1-s)) default).getD k false=false:=by simpa [zr] using eL
    ((try revert hK K);(repeat'(first|refine Va (X4 @fv @GV @aW @aA.eq_1) ?_|(refine V2 (X4 @fv @GV @aW @aA.eq_1) ?_ ?_<;>try with_reducible intro hb)|(refine Xi ?_ ?_<;>try intro ht)|refine VD ?_ ?_|exact Xx|fail))<;>try with_reducible intro K hK)
    exact ak _ (k+1,ok) ⟨Hi,by dsimp only;rw[vu,Ko];exact hM,bk⟩ Hi (Xv X0)
  ·obtain rfl:k=cU m (aG m p (1-s)):=Ey;((try revert hK K);(repeat'(first|refine Va X0 ?_|(refine V2 X0 ?_ ?_<;>try with_reducible intro hb)|(refine Xi ?_ ?_<;>try intro ht)|refine VD ?_ ?_|exact Xx|fail))<;>try with_reducible intro K hK)
   refine aq _ _ rfl ?_;clear ak aq Ql;repeat(first|refine Xu ?_)
   ((try revert hK K);(repeat'(first|refine Vb X0 ?_|(refine V2 X0 ?_ ?_<;>try with_reducible intro hb)|(refine Xi ?_ ?_<;>try intro ht)|refine VD ?_ ?_|exact Xx|fail))<;>try with_reducible intro K hK)
   unfold fU;simp only[dV,dP];exact⟨.bC [],_,⟨rfl,hM,bk⟩,eN rfl bk.len rfl⟩
end
def GO:ty Tryz.prog 88 = { kind:=9,size:=1,bytes:=8,elem:=0,len:=0,zero:=some [.nilFunc],aS:=[] }:=by kernel_rfl
section
variable {m:ah} {can:List (List Bool)} {gi ai bi mi:Nat} {D E:List (Nat×Nat)} {si sa kK wi kL:Nat} {c6:List (List Int)}
def anE(hm:VM m)(hf:cK m can)(GW:UN gi ai bi mi D E si sa kK wi kL)(yV:c6.length=m.cls.length)(nM:∀ c,c<m.cls.length->(c6.getD c default).length<9223372036854775808/\∀ x∈c6.getD c default,0<=x/\x<m.ae.length):
  ∀ (f:Nat) (st:WS×List Bool) (c:Nat) (os:List Ob) (B:Int),m.cls.length-nT st.2<=f->c<m.cls.length->st.2.getD c false=false->st.2.length=m.cls.length->WF m can gi ai bi mi D E st.1 os->UF 70 gi si sa kK wi kL c6 st.2 os->nV m st.1 ->
   0<=B+618475290624*(nT st.2:Nat)->B<=576460752303423488->WB (B+618475290624*(nT st.2:Nat)) st.1 ->
   dv Tryz.prog 70 [QM c,.ptr si 0 0,.ptr kK 0 0,.ptr wi 0 0,.ptr kL 0 0] os λr ob=>r=.bC []/\WF m can gi ai bi mi D E (jz m can c6 f st c).1 ob/\UF 70 gi si sa kK wi kL c6 (jz m can c6 f st c).2 ob/\Kp mi ((sa,0)::D) E os ob/\UO m B 1 st (jz m can c6 f st c):=by
 intro f
 induction f with
 |zero =>
  intro st c os B h0 hc hs hl;have:=anU Ey hs;omega
 |succ f ih =>
  intro st c os B h0 hc hs hl hW hU oD hB qB JZ;have np:=hm.cls;have p6:=hm.ae;have fs:=hU.s;have fa:=hU.a;have hnt:=anV Ey hs;have aev:=PQ (st.2.set c true);rw[bJ,hl]at aev;obtain⟨n1,n2,n3,n4,n5,n6,n7⟩:=GW.sa;have vu:=hW.other ⟨n1,n2,n3,(GW.out sa G9).1⟩ (GW.out sa G9).2 (.arr 1 (aV (st.2.set c true)));have P5:=hU.set GW (s2:=st.2.set c true) G9;have gf:Kp mi ((sa,0)::D) E os (os.set sa (.arr 1 (aV (st.2.set c true)))):=(Kp.refl mi _ E os).put _;have hO1:UO m B 1 st (st.1,st.2.set c true):=⟨by simpa using hl,oD,JZ.mono Hi,Hi,λj hj=>by
   dsimp only;by_cases e:c=j
   ·subst e;simp[ay,bU,hl,hc]
   ·rw[ay,gT e,<- ay];exact hj⟩
  rw[anX];obtain⟨fN,lG⟩:=nM c hc;have hbc:(eO c6)[c]?=some [.tree 1 (ints (c6.getD c default))]:=Hv c6 c Ey;generalize lX:c6.getD c default=l at *;have aex:c6.getD c []=l:=lX;have P6:=P5.b;refine dv.aM 49 os.length [] Tryz.func70 ?_;((try revert hK K);(repeat'(first|refine Va (X4 @fs @fa @P6 @aex) ?_|(refine V2 (X4 @fs @fa @P6 @aex) ?_ ?_<;>try with_reducible intro hb)|(refine Xi ?_ ?_<;>try intro ht)|refine VD ?_ ?_|exact Xx|fail))<;>try with_reducible intro K hK)
  have uW:yo m can (jz m can c6 f) (st.1,st.2.set c true) (l.take 0)=(st.1,st.2.set c true):=rfl;refine aQ (λz:Nat×List Ob=>(⟨ar [(1,.ptr si 0 0),(2,.ptr kK 0 0),(3,.ptr wi 0 0),(4,.ptr kL 0 0),(17,.tree 1 (ints l)),(18,QM l.length),(19,QM z.1)],z.2⟩:St))
   (λz=>z.1<=l.length/\WF m can gi ai bi mi D E (yo m can (jz m can c6 f) (st.1,st.2.set c true) (l.take z.1)).1 z.2/\UF 70 gi si sa kK wi kL c6 (yo m can (jz m can c6 f) (st.1,st.2.set c true) (l.take z.1)).2 z.2/\Kp mi ((sa,0)::D) E os z.2/\UO m B 1 st (yo m can (jz m can c6 f) (st.1,st.2.set c true) (l.take z.1)))
   (λz=>l.length-z.1) (0,os.set sa (.arr 1 (aV (st.2.set c true)))) ⟨aP _,by dsimp only;rw[uW];exact vu,by dsimp only;rw[uW];exact P5,gf,by dsimp only;rw[uW];exact hO1⟩ (Xv X0) ?_
  clear vu P5 gf hO1 uW fs fa P6 hnt aev hW hU;rintro⟨j,ob⟩⟨hj,hW,hU,bk,hO⟩Ql ak aq;dsimp only at hj hW hU bk hO ⊢;by_cases fI:j<l.length
  ·have eX:=anW m can (jz m can c6 f) (st.1,st.2.set c true) fI;obtain⟨hx0,hx1⟩:=lG (l.getD j default) (aF fI);generalize hx3:l.getD j default=x at *;have Bg:l.getD j 0=x:=hx3;generalize vu:yo m can (jz m can c6 f) (st.1,st.2.set c true) (l.take (j+1))=r1 at *;generalize yo m can (jz m can c6 f) (st.1,st.2.set c true) (l.take j)=sj at *;obtain⟨p,rfl⟩:∃p:Nat,x=p:=⟨x.toNat,Ey⟩;rw[Int.toNat_natCast]at eX;have hp:p<m.ae.length:=Ey;obtain⟨dY,q1,q2,q3,q4,q5⟩:=AF hm hp;have he:=GS hm hW hp;have fw:=hU.w;have rn:=hW.app [.gone,.gone,.gone,.gone];have hU2:=hU.app [.gone,.gone,.gone,.gone];have aez:=bk.app [.gone,.gone,.gone,.gone];have e0:(c7 m p).fst=((aG m p 0:Nat):Int):=by show _=((c7 m p).fst.toNat:Int);omega
   have e1:(c7 m p).snd=((aG m p 1:Nat):Int):=by show _=((c7 m p).snd.toNat:Int);omega
   rw[e0,e1]at he;have hEq:∀ s,s<2->([[.tree 1 (ints [((aG m p 0:Nat):Int)])],[.tree 1 (ints [((aG m p 1:Nat):Int)])]]:List (List AV))[s]?=some [.tree 1 (ints [((aG m p s:Nat):Int)])]:=λs hs=>by
    rcases(show s=0\/s=1 by omega) with rfl|rfl<;>rfl
   have Ap:([[.tree 1 (ints [((aG m p 0:Nat):Int)])],[.tree 1 (ints [((aG m p 1:Nat):Int)])]]:List (List AV)).length=2:=rfl;generalize ([[.tree 1 (ints [((aG m p 0:Nat):Int)])],[.tree 1 (ints [((aG m p 1:Nat):Int)])]]:List (List AV))=EN at *;have bI:∀ s,s<2->aG m p s<m.cls.length:=λs hs=>by
    rcases(show s=0\/s=1 by omega) with rfl|rfl
    ·exact q1
    ·exact q2
   repeat'(first|((fail_if_success (first|refine dW 4 ?_|refine dX 4 ?_));refine Xr @Bg ?_;intro K hK)|refine Xo @Bg ?_|(refine hK _ ?_;clear hK K)|(refine Xg @Bg ?_ ?_<;>try intro hb)|(refine Xi ?_ ?_<;>try intro ht)|refine Xy ?_|refine Xd ?_ ?_|exact Xx|fail)
   ((try revert hK K);(repeat'(first|refine Va @fw ?_|(refine V2 @fw ?_ ?_<;>try with_reducible intro hb)|(refine Xi ?_ ?_<;>try intro ht)|refine VD ?_ ?_|exact Xx|fail))<;>try with_reducible intro K hK)
   refine gr he G9 ?_;((try revert hK K);(repeat'(first|refine Va @Ap ?_|(refine V2 @Ap ?_ ?_<;>try with_reducible intro hb)|(refine Xi ?_ ?_<;>try intro ht)|refine VD ?_ ?_|exact Xx|fail))<;>try with_reducible intro K hK)
   have yQ:wP m can (jz m can c6 f) sj p 0=sj:=rfl;have py:∀ s,wP m can (jz m can c6 f) sj p (s+1)=Cv m can (jz m can c6 f) (wP m can (jz m can c6 f) sj p s) p s:=λs=>rfl;refine aQ (λz:Nat×List Ob=>(⟨ar [(1,.ptr si 0 0),(2,.ptr kK 0 0),(3,.ptr wi 0 0),(4,.ptr kL 0 0),(7,QM p),(17,.tree 1 (ints l)),(18,QM l.length),(19,QM j),(25,.tree 1 EN),(26,QM 2),(27,QM z.1)],z.2⟩:St))
    (λz=>z.1<=2/\WF m can gi ai bi mi D E (wP m can (jz m can c6 f) sj p z.1).1 z.2/\UF 70 gi si sa kK wi kL c6 (wP m can (jz m can c6 f) sj p z.1).2 z.2/\Kp mi ((sa,0)::D) E os z.2/\UO m B 1 st (wP m can (jz m can c6 f) sj p z.1))
    (λz=>2-z.1) (0,ob++[.gone,.gone,.gone,.gone]) ⟨Hi,by dsimp only;rw[yQ];exact rn,by dsimp only;rw[yQ];exact hU2,aez,by dsimp only;rw[yQ];exact hO⟩ (Xv X0) ?_
   (try clear he;clear rn hU2 aez hO hW hU bk fw yQ)
   rintro⟨s,ob⟩⟨j5,hW,hU,bk,hO⟩cR bg bm;dsimp only at j5 hW hU bk hO ⊢;by_cases je:s<2
   ·have GX:EN.getD s []=[.tree 1 (ints [((aG m p s:Nat):Int)])]:=by rw[ay,hEq s je];rfl
    have tN:=bI s je;have oZ:=py s;unfold Cv at oZ;generalize rn:wP m can (jz m can c6 f) sj p (s+1)=r2 at *;generalize wP m can (jz m can c6 f) sj p s=sk at *;have fs:=hU.s;have fa:=hU.a;have fw:=hU.w;have fu:=hU.u;have eF:=hO.len;generalize iZ:aG m p s=kc at *;by_cases ym:sk.2.getD kc false=true
    ·rw[if_pos ym]at oZ;((try revert hK K);(repeat'(first|refine Va (X5 @GX @Ap @fs @fa @ym) ?_|(refine V2 (X5 @GX @Ap @fs @fa @ym) ?_ ?_<;>try with_reducible intro hb)|(refine Xi ?_ ?_<;>try intro ht)|refine VD ?_ ?_|exact Xx|fail))<;>try with_reducible intro K hK)
     exact bg _ (s+1,ob) ⟨Hi,by dsimp only;rw[rn,oZ];exact hW,by dsimp only;rw[rn,oZ];exact hU,bk,by dsimp only;rw[rn,oZ];exact hO⟩ Hi (Xv X0)
    ·rw[if_neg ym]at oZ;have Ks:sk.2.getD kc false=false:=by simpa using ym
     repeat'(first|((fail_if_success (first|refine dW 9 ?_|refine dX 9 ?_));refine Xr (X5 @GX @Ap @fs @fa @Ks) ?_;intro K hK)|refine Xo (X5 @GX @Ap @fs @fa @Ks) ?_|(refine hK _ ?_;clear hK K)|(refine Xg (X5 @GX @Ap @fs @fa @Ks) ?_ ?_<;>try intro hb)|(refine Xi ?_ ?_<;>try intro ht)|refine Xy ?_|refine Xd ?_ ?_|exact Xx|fail)
     have GY:=ih sk kc ob (B-618475290624) (by have:=hO.up;omega) tN Ks eF hW hU hO.sh (by have:=hO.up;omega) Ey (hO.wb.mono Ey);generalize jz m can c6 f sk kc=s3 at *;refine oC 2 Hg _ rfl ?_;intro K hK;simp(disch:=omega)only[Ac,↓Pc,simprocAttr,jd,eQ,fu,GO];repeat'(first|with_reducible refine cD ?_ ?_|omega|with_reducible rfl)
     refine⟨rfl,(show kd Tryz.prog 70 [QM kc,.ptr si 0 0,.ptr kK 0 0,.ptr wi 0 0,.ptr kL 0 0] (some 42) _ _ from ?_)⟩;refine sw GY ?_;rintro r kG⟨rfl,Pf,hU3,gK,AG⟩;refine⟨gK.len,?_⟩;simp(disch:=omega)only[Ac,↓Pc,simprocAttr,eQ];refine hK _ ?_;clear hK K;repeat(first|refine Xu ?_)
     have hO4:=hO.up;have hO5:=AG.up;have hO6:=PQ s3.2;rw[AG.len]at hO6;have hJ:=an5 hm hf Pf AG.sh (B:=B-618475290624+618475290624*(nT s3.2:Nat)-618475290624) ⟨Ey,Ey⟩ (AG.wb.mono Ey) hp (s:=s) Ey;have fw3:=hU3.w;refine oC 3 Hg _ rfl ?_;intro K hK;simp(disch:=omega)only[Ac,↓Pc,simprocAttr,jd,eQ,fw3];repeat'(first|with_reducible refine cD ?_ ?_|omega|with_reducible rfl)
     refine⟨rfl,(show kd Tryz.prog 72 [.ptr gi 0 0,QM p,QM s] (some 46) _ _ from ?_)⟩;refine sw hJ ?_;rintro r ob4⟨rfl,hW4,uN⟩;refine⟨uN.len,?_⟩;simp(disch:=omega)only[Ac,↓Pc,simprocAttr,eQ];refine hK _ ?_;clear hK K;repeat(first|refine Xu ?_)
     ((try revert hK K);(repeat'(first|refine Va X0 ?_|(refine V2 X0 ?_ ?_<;>try with_reducible intro hb)|(refine Xi ?_ ?_<;>try intro ht)|refine VD ?_ ?_|exact Xx|fail))<;>try with_reducible intro K hK)
     have hU4:=hU3.kp GW uN;have hO7:UO m B 1 st (Cu m can s3.1 p s,s3.2):=⟨AG.len,aoh AG.sh p s,(aoi (can:=can) hm Ey AG.wb p s).mono Hi,Hi,λj hj=>AG.mono j (hO.mono j hj)⟩;exact bg _ (s+1,ob4) ⟨Hi,by dsimp only;rw[rn,oZ];exact hW4,by dsimp only;rw[rn,oZ];exact hU4,(bk.trans gK).trans (uN.wide _),by dsimp only;rw[rn,oZ];exact hO7⟩ Hi (Xv X0)
   ·obtain rfl:s=2:=Ey;((try revert hK K);(repeat'(first|refine Va X0 ?_|(refine V2 X0 ?_ ?_<;>try with_reducible intro hb)|(refine Xi ?_ ?_<;>try intro ht)|refine VD ?_ ?_|exact Xx|fail))<;>try with_reducible intro K hK)
    refine bm _ _ rfl ?_;clear bg bm cR;repeat(first|refine Xu ?_)
    ((try revert hK K);(repeat'(first|refine Va X0 ?_|(refine V2 X0 ?_ ?_<;>try with_reducible intro hb)|(refine Xi ?_ ?_<;>try intro ht)|refine VD ?_ ?_|exact Xx|fail))<;>try with_reducible intro K hK)
    rw[<- eX]at hW hU hO;exact ak _ (j+1,ob) ⟨Hi,by dsimp only;rw[vu];exact hW,by dsimp only;rw[vu];exact hU,bk,by dsimp only;rw[vu];exact hO⟩ Hi (Xv X0)
  ·obtain rfl:j=l.length:=Ey;((try revert hK K);(repeat'(first|refine Va X0 ?_|(refine V2 X0 ?_ ?_<;>try with_reducible intro hb)|(refine Xi ?_ ?_<;>try intro ht)|refine VD ?_ ?_|exact Xx|fail))<;>try with_reducible intro K hK)
   refine aq _ _ rfl ?_;clear ak aq Ql;repeat(first|refine Xu ?_)
   ((try revert hK K);(repeat'(first|refine Vb X0 ?_|(refine V2 X0 ?_ ?_<;>try with_reducible intro hb)|(refine Xi ?_ ?_<;>try intro ht)|refine VD ?_ ?_|exact Xx|fail))<;>try with_reducible intro K hK)
   unfold fU;simp only[dV,dP];rw[List.take_length]at hW hU hO;exact⟨.bC [],_,⟨rfl,hW,hU,bk,hO⟩,eN rfl bk.len rfl⟩
end
end T

