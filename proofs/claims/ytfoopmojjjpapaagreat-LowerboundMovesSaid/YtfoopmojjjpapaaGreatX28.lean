import Derived.Test.YtfoopmojjjpapaaGreatX25
import Derived.Test.YtfoopmojjjpapaaGreatX27
set_option linter.all false
set_option maxHeartbeats 0
set_option maxRecDepth 20000
open List renaming getD_eq_getElem?_getD→aB,getElem?_eq_some_iff→aR,getElem?_map→b9,getElem?_eq_getElem→bT,drop_zero→yW,take_of_length_le→c8,length_set→bK,replicate→aJ,eq_of_mem_replicate→AM,mem_of_getElem?→gk,mem_map→b8,mem_cons_self→wH,getElem?_eq_none→gj,mem_cons_of_mem→dI,mem_filter→yV,mem_singleton→cU,mem_cons→bj,getElem_of_mem→qX,mem_append→cC,map_append→dS,range→bn,getElem?_range→qQ,map_map→wF,mem_range→oV,nodup_append→pV,nodup_cons→nr,Perm→pW,perm_middle→xL,length→kI,mem_append_right→xK,mem_append_left→Cu,Sublist→AS
open Nat renaming le_refl→bb,lt_or_ge→dE
open Option renaming bind_some→rU
open Go Go.Am
namespace T
def kW(q:Nat×List Int):List AV:=if q.2=[] then [.lit (.slice none 0 0)] else [.ref q.1 1 0 q.2.length]
def Ma{α:Type}[Inhabited α](L:List α)(c k:Nat)(x:α)(hc:c<L.length):(L.set c x).getD k default=if k=c then x else L.getD k default:=by
 rw[aB,List.getElem?_set];by_cases h:k=c
 ·subst h;simp[hc]
 ·rw[if_neg (λe=>h e.symm),if_neg h,aB]
def iH{os:List Ob}{i:Nat}{o:Ob}(h:os[i]?=some o):i<os.length:=(aR.1 h).1
def Hu{Q:List (Nat×List Int)}{c:Nat}(hc:c<Q.length):(rowsOf kW Q)[c]?=some (kW (Q.getD c default)):=by
 unfold rowsOf;rw[b9,aB,bT hc];rfl
def tx(q:Nat×List Int):AV:=if q.2=[] then .lit (.slice none 0 0) else .ref q.1 1 0 q.2.length
def pM(q:Nat×List Int)(os:List Ob):List Ob:=if q.2=[] then os else os.set q.1 .gone
def L8(q:Nat×List Int):kW q=[tx q]:=by unfold kW tx;split<;>rfl
def Y2(q:Nat×List Int)(os:List Ob):(pM q os).length=os.length:=by unfold pM;split<;>simp
def Ai{q:Nat×List Int}{os:List Ob}{k:Nat}{o:Ob}(h:os[k]?=some o)(hk:q.2≠[]->k≠q.1):(pM q os)[k]?=some o:=by
 unfold pM;split
 ·exact h
 ·rename_i hq;rw[List.getElem?_set_ne (Ne.symm (hk hq))];exact h
def ajW{q:Nat×List Int}{os:List Ob}(h:q.2≠[]->os[q.1]?=some (.arr 1 (ints q.2)))(e:Nat->AV):k0 ⟨e,os⟩ 1 (tx q)=some (ints q.2,⟨e,pM q os⟩):=by
 unfold tx pM;by_cases hq:q.2=[]
 ·rw[if_pos hq,if_pos hq,hq];rfl
 ·rw[if_neg hq,if_neg hq];unfold k0;simp only[h hq,and_self,if_true,yW];rw[c8 (by rw[wL];exact bb _)]
def YX{ps:List Nat}{q:Nat×List Int}(h:q.2≠[]->q.1 ∉ ps):Ah ps (tx q)=True:=by
 unfold tx;split
 ·exact ML _
 ·rename_i hq;rw[MN];exact eq_true (h hq)
def ajX{q:Nat×List Int}{os:List Ob}(h:q.2≠[]->q.1<os.length)(l:List Ob):pM q (os++l)=pM q os++l:=by
 unfold pM;split
 ·rfl
 ·rename_i hq;rw[List.set_append_left _ _ (h hq)]
def Y1{q:Nat×List Int}{os:List Ob}(h:q.2≠[]->os[q.1]?=some (.arr 1 (ints q.2)))(l:List Ob)(e:Nat->AV):k0 ⟨e,os++l⟩ 1 (tx q)=some (ints q.2,⟨e,pM q os++l⟩):=by
 rw[ajW (λhq=>aL (h hq) l),ajX (λhq=>iH (h hq))]
def Y3(Q:List (Nat×List Int))(c pa:Nat)(l:List Int)(n:Int):(rowsOf kW Q).set c [.ref pa 1 0 (l.length+1)]=rowsOf kW (Q.set c (pa,l++[n])):=by
 unfold rowsOf;rw[List.map_set];congr 1;unfold kW;rw[if_neg Iy];simp
def yM{X:List Ob}{n:Nat}(h:X.length=n)(l:List Ob)(k:Nat):(X++l)[n+k]?=l[k]?:=by subst h;exact kS X l k
def Hw{X:List Ob}{n:Nat}(h:X.length=n)(x:Ob)(l:List Ob):(X++x::l)[n]?=some x:=by subst h;exact kq X x l
def L9{Q:List (Nat×List Int)}{a:Nat}(h:a<Q.length):(Q.map (·.2)).getD a default=(Q.getD a default).2:=by
 rw[aB,b9,aB,bT h];rfl
structure LR(F:List (Nat×Ob))(lp:Nat)(Q:List (Nat×List Int))(ob:List Ob):Prop where
 fx:∀ p∈F,ob[p.1]?=some p.2
 rO:∀ p∈F,p.1≠lp/\∀ c,c<Q.length->(Q.getD c default).2≠[]->p.1≠(Q.getD c default).1
 ls:ob[lp]?=some (.arr 1 (rowsOf kW Q))
 row:∀ c,c<Q.length->(Q.getD c default).2≠[]->ob[(Q.getD c default).1]?=some (.arr 1 (ints (Q.getD c default).2))/\(Q.getD c default).1≠lp
 inj:∀ c c',c<Q.length->c'<Q.length->(Q.getD c default).2≠[]->(Q.getD c' default).2≠[]->(Q.getD c default).1=(Q.getD c' default).1->c=c'
section
variable {F:List (Nat×Ob)} {lp:Nat} {Q:List (Nat×List Int)} {ob l:List Ob}
def LR.app(h:LR F lp Q ob)(l:List Ob):LR F lp Q (ob++l) :=
 ⟨λp hp=>aL (h.fx p hp) l,h.rO,aL h.ls l,λc hc hn=>⟨aL (h.row c hc hn).1 l,(h.row c hc hn).2⟩,h.inj⟩
def LR.aia(h:LR F lp Q ob){a b:Nat}(ha:a<Q.length)(hb:b<Q.length)(iY:a≠b){n:Int}{fin:List Ob}{pa pb:Nat}(MO:ob.length<=pa)(dO:ob.length<=pb)(cu:pa≠pb)(hk:∀ k o,ob[k]?=some o->k≠lp->((Q.getD a default).2≠[]->k≠(Q.getD a default).1)->((Q.getD b default).2≠[]->k≠(Q.getD b default).1)->fin[k]?=some o)(hl:fin[lp]?=some (.arr 1 (rowsOf kW ((Q.set a (pa,(Q.getD a default).2++[n])).set b (pb,(Q.getD b default).2++[n])))))(h1:fin[pa]?=some (.arr 1 (ints ((Q.getD a default).2++[n]))))(h2:fin[pb]?=some (.arr 1 (ints ((Q.getD b default).2++[n])))):
  LR F lp ((Q.set a (pa,(Q.getD a default).2++[n])).set b (pb,(Q.getD b default).2++[n])) fin:=by
 have hlp:lp<ob.length:=iH h.ls;have hg:∀ k,((Q.set a (pa,(Q.getD a default).2++[n])).set b (pb,(Q.getD b default).2++[n])).getD k default=if k=b then(pb,(Q.getD b default).2++[n]) else if k=a then(pa,(Q.getD a default).2++[n]) else Q.getD k default:=λk=>by
  rw[Ma _ _ _ _ (by simpa using hb)];split
  ·rfl
  ·rw[Ma _ _ _ _ ha]
 have hold:∀ c,c<Q.length->(Q.getD c default).2≠[]->(Q.getD c default).1<ob.length:=λc hc hn=>iH (h.row c hc hn).1;refine⟨λp hp=>hk _ _ (h.fx p hp) (h.rO p hp).1 (λhn=>(h.rO p hp).2 a ha hn) (λhn=>(h.rO p hp).2 b hb hn),λp hp=>⟨(h.rO p hp).1,λk eW hn=>?_⟩,hl,λk eW hn=>?_,λk k' eW MP hn qg e=>?_⟩
 ·have Eh:=iH (h.fx p hp);rw[bK,bK]at eW;rw[hg]at hn ⊢;split at hn
  ·rename_i e;rw[if_pos e];dsimp only;omega
  ·rename_i e;rw[if_neg e];split at hn
   ·rename_i e2;rw[if_pos e2];dsimp only;omega
   ·rename_i e2;rw[if_neg e2];exact(h.rO p hp).2 k eW hn
 ·rw[bK,bK]at eW;rw[hg]at hn ⊢;split at hn
  ·rename_i e;rw[if_pos e];exact⟨h2,NQ⟩
  ·rename_i e;rw[if_neg e];split at hn
   ·rename_i e2;rw[if_pos e2];exact⟨h1,NQ⟩
   ·rename_i e2;rw[if_neg e2];have hr:=h.row k eW hn;exact⟨hk _ _ hr.1 hr.2 (λEb e3=>e2 (h.inj k a eW ha hn Eb e3)) (λdC e3=>e (h.inj k b eW hb hn dC e3)),hr.2⟩
 ·rw[bK,bK]at eW MP;rw[hg]at hn e;rw[hg k']at qg e;have o1:=hold k eW;have o2:=hold k' MP;have i1:=h.inj k k' eW MP;by_cases x1:k=b<;>by_cases x2:k'=b
  ·exact x1.trans x2.symm
  ·rw[if_pos x1,if_neg x2]at e;rw[if_neg x2]at qg;by_cases x3:k'=a
   ·rw[if_pos x3]at e;dsimp only at e;omega
   ·rw[if_neg x3]at e qg;have:=o2 qg;dsimp only at e;omega
  ·rw[if_neg x1,if_pos x2]at e;rw[if_neg x1]at hn;by_cases x3:k=a
   ·rw[if_pos x3]at e;dsimp only at e;omega
   ·rw[if_neg x3]at e hn;have:=o1 hn;dsimp only at e;omega
  ·rw[if_neg x1,if_neg x2]at e;rw[if_neg x1]at hn;rw[if_neg x2]at qg;by_cases x3:k=a<;>by_cases x4:k'=a
   ·exact x3.trans x4.symm
   ·rw[if_pos x3,if_neg x4]at e;rw[if_neg x4]at qg;have:=o2 qg;dsimp only at e;omega
   ·rw[if_neg x3,if_pos x4]at e;rw[if_neg x3]at hn;have:=o1 hn;dsimp only at e;omega
   ·rw[if_neg x3,if_neg x4]at e;rw[if_neg x3]at hn;rw[if_neg x4]at qg;exact i1 hn qg e
def LR.start{N:Nat}(hF:∀ p∈F,ob[p.1]?=some p.2):LR F ob.length (aJ N (0,[])) (ob++[.arr 1 (aJ N [.lit (.slice none 0 0)])]):=by
 have hz:∀ c,((aJ N ((0:Nat),([]:List Int))).getD c default).2=[]:=λc=>by
  rw[aB];cases hh:(aJ N ((0:Nat),([]:List Int)))[c]? with
  |none=>rfl
  |some q=>rw[AM (gk hh)];rfl
 refine⟨λp hp=>aL (hF p hp) _,λp hp=>⟨by have:=iH (hF p hp);omega,λc _ hn=>absurd (hz c) hn⟩,?_,λc _ hn=>absurd (hz c) hn,λc c' _ _ hn=>absurd (hz c) hn⟩;rw[show rowsOf kW (aJ N ((0:Nat),([]:List Int)))=aJ N [.lit (.slice none 0 0)] by unfold rowsOf;rw[List.map_replicate];rfl];exact kq _ _ _
end
def uN(S:List Nat)(ob:List Ob):List Ob:=ob.mapIdx λi o=>if i∈S then .gone else o
def Y7(S:List Nat)(ob:List Ob):(uN S ob).length=ob.length:=by simp[uN]
def Md{S:List Nat}{ob:List Ob}{i:Nat}{o:Ob}(h:ob[i]?=some o):(uN S ob)[i]?=some (if i∈S then .gone else o):=by
 unfold uN;rw[List.getElem?_mapIdx,h];rfl
def Me{S:List Nat}{ob:List Ob}{i:Nat}{o:Ob}(h:ob[i]?=some o)(hi:i ∉ S):(uN S ob)[i]?=some o:=by rw[Md h,if_neg hi]
def nm(lp:Nat)(Q:List (Nat×List Int)):List Nat:=lp::(Q.filter λq=>decide (q.2≠[])).map (·.1)
section
variable {F:List (Nat×Ob)} {lp:Nat} {Q:List (Nat×List Int)} {ob:List Ob}
def air(s9:ob[lp]?=some (.arr 1 (rowsOf kW Q))){X:Nat->Prop}(bN:∀ c,c<Q.length->(Q.getD c default).2≠[]->ob[(Q.getD c default).1]?=some (.arr 1 (ints (Q.getD c default).2))/\X c)(e:Nat->AV):cL ⟨e,ob⟩ (λi=>i ∉ nm lp Q) (.tree 1 (fc (Q.map (·.2)))) (.ref lp 1 0 Q.length):=by
 have Cd:∀ row∈fc (Q.map (·.2)),row.length=1:=λrow hr=>by
  unfold fc at hr;obtain⟨_,_,rfl⟩:=b8.1 hr;rfl
 refine .ref lp 1 0 Q.length _ _ (λr c=>(cellAt (rowsOf kW Q) r c).getD .undef) s9 (λhn=>hn (wH ..)) (by simp[fc,rowsOf]) Cd (λr c v hv=>?_) (λr c v hv=>?_);all_goals
  unfold cellAt at hv;by_cases hr:r<Q.length;rotate_left
  ·rw[gj (by simp[fc];omega)]at hv;simp at hv
  have e1:(fc (Q.map (·.2)))[r]?=some [.tree 1 (ints (Q.getD r default).2)]:=by
   unfold fc;rw[b9,b9,bT hr,aB,bT hr];rfl
  rw[e1,rU]at hv;have mR:c=0:=by
   have:=(aR.1 hv).1;simp at this;exact this
  subst mR;simp only[List.getElem?_cons_zero,Option.some.injEq]at hv;subst hv;have e2:=Hu hr
 ·rw[yW,c8 (by simp[rowsOf])];unfold cellAt;rw[e2,rU];unfold kW;split<;>rfl
 ·unfold cellAt;rw[e2,rU];by_cases hq:(Q.getD r default).2=[]
  ·unfold kW;rw[if_pos hq,hq];exact .nil 1
  ·have e3:(kW (Q.getD r default))[0]?.getD .undef=.ref (Q.getD r default).1 1 0 (Q.getD r default).2.length:=by unfold kW;rw[if_neg hq];rfl
   rw[e3];have hm:(Q.getD r default).1∈nm lp Q:=by
    refine dI _ (b8.2 ⟨Q.getD r default,yV.2 ⟨aG hr,by rw[decide_eq_true_eq];exact hq⟩,rfl⟩)
   refine cL.flat (bN r hr hq).1 (tY _) (by rw[wL]) (λhn=>hn hm) λrow aal v hv=>?_;unfold ints at aal;obtain⟨x,_,rfl⟩:=b8.1 aal;rw[cU]at hv;exact .inl ⟨_,hv⟩
def LR.at_(h:LR F lp Q ob){i:Nat}(hi:i∈nm lp Q):∀ p∈F,p.1≠i:=λp hp=>by
 rcases bj.1 hi with rfl|hi
 ·exact(h.rO p hp).1
 ·obtain⟨q,hq,rfl⟩:=b8.1 hi;obtain⟨h1,h2⟩:=yV.1 hq;rw[decide_eq_true_eq]at h2;obtain⟨c,hc,rfl⟩:=qX h1;have e:Q.getD c default=Q[c]:=by rw[aB,bT hc];rfl
  have:=(h.rO p hp).2 c hc (by rw[e];exact h2);rwa [e]at this
def LR.kill(h:LR F lp Q ob):∀ p∈F,(uN (nm lp Q) ob)[p.1]?=some p.2:=λp hp=>Me (h.fx p hp) λhi=>h.at_ hi p hp rfl
end
def nM(os:List Ob):List (Nat×Ob):=os.zipIdx.map λq=>(q.2,q.1)
def yK{os:List Ob}{p:Nat×Ob}:p∈nM os↔os[p.1]?=some p.2:=by
 unfold nM;rw[b8];constructor
 ·rintro⟨q,hq,rfl⟩;exact List.mem_zipIdx_iff_getElem?.1 hq
 ·intro h;exact⟨(p.2,p.1),List.mem_zipIdx_iff_getElem?.2 h,rfl⟩
def LR.head{F0:List (Nat×Ob)}{lp:Nat}{Q:List (Nat×List Int)}{ob:List Ob}{i:Nat}{x y:Ob}(h:LR ((i,x)::F0) lp Q ob)(hd:∀ p∈F0,p.1≠i):LR ((i,y)::F0) lp Q (ob.set i y):=by
 obtain⟨d1,d2⟩:=h.rO (i,x) (wH ..);refine⟨λp hp=>?_,λp hp=>?_,e7 h.ls d1,λc hc hn=>⟨e7 (h.row c hc hn).1 (d2 c hc hn),(h.row c hc hn).2⟩,h.inj⟩
 ·rcases bj.1 hp with rfl|hp
  ·exact lZ (h.fx (i,x) (wH ..))
  ·exact e7 (h.fx p (dI _ hp)) (Ne.symm (hd p hp))
 ·rcases bj.1 hp with rfl|hp
  ·exact⟨d1,d2⟩
  ·exact h.rO p (dI _ hp)
section
variable {F F':List (Nat×Ob)} {lp:Nat} {Q:List (Nat×List Int)} {ob l:List Ob}
def LR.more(h:LR F lp Q ob)(hF:∀ p∈F',p∈F\/∃ j,p.1=ob.length+j/\l[j]?=some p.2):LR F' lp Q (ob++l):=by
 have hlp:lp<ob.length:=iH h.ls;refine⟨λp hp=>?_,λp hp=>?_,aL h.ls l,λc hc hn=>⟨aL (h.row c hc hn).1 l,(h.row c hc hn).2⟩,h.inj⟩
 ·rcases hF p hp with h1|⟨j,h1,h2⟩
  ·exact aL (h.fx p h1) l
  ·rw[h1,kS];exact h2
 ·rcases hF p hp with h1|⟨j,h1,h2⟩
  ·exact h.rO p h1
  ·exact⟨Ix,λc hc hn=>by have:=iH (h.row c hc hn).1;omega⟩
end
def LR.sub{F F2:List (Nat×Ob)}{lp:Nat}{Q:List (Nat×List Int)}{ob:List Ob}(h:LR F lp Q ob)(hs:∀ p∈F2,p∈F):LR F2 lp Q ob:=⟨λp hp=>h.fx p (hs p hp),λp hp=>h.rO p (hs p hp),h.ls,h.row,h.inj⟩
def LR.cell{F:List (Nat×Ob)}{lp:Nat}{Q:List (Nat×List Int)}{ob:List Ob}(h:LR F lp Q ob){c:Nat}(hc:c<Q.length):(Q.getD c default).2≠[]->ob[(Q.getD c default).1]?=some (.arr 1 (ints (Q.getD c default).2)):=λhn=>(h.row c hc hn).1
def ah8{os:List Ob}{i:Nat}{o:Ob}(h:os[i]?=some o):os.set i o=os:=by
 have h1:=(aR.1 h);obtain⟨h2,h3⟩:=h1;rw[<- h3,List.set_getElem_self]
def Hp(t:List Int)(a:Nat)(dY:Int):∀ i,(mG t a dY i).length=t.length
 |0=>rfl
 |i+1=>by
  rw[mG];split
  ·rw[bK];exact Hp t a dY i
  ·exact Hp t a dY i
def Ho(t:List Int)(a:Nat)(dY:Int)(ha:t.getD a 0≠dY):∀ i,(mG t a dY i).getD a 0=t.getD a 0
 |0=>rfl
 |i+1=>by
  rw[mG];split
  ·rename_i h;rw[MH];split
   ·rename_i e;obtain⟨e,_⟩:=e;have h2:=congrArg (λj=>(mG t a dY i).getD j 0) e;exact absurd ((Ho t a dY ha i).symm.trans (h2.symm.trans h)) ha
   ·exact Ho t a dY ha i
  ·exact Ho t a dY ha i
section
variable {m:ah}
def ajZ{t:List Int×List (List Int)}{N:Nat}(h1:t.1.length=N)(h2:t.2.length=N)(p:Nat):(B4 m t p).1.length=N/\(B4 m t p).2.length=N:=by
 unfold B4;dsimp only;split
 ·exact⟨h1,h2⟩
 ·exact⟨by rw[Hp];exact h1,by simp[h2]⟩
def Hm(round:Nat):∀ k,(kE m round k).1.length=m.cls.length/\(kE m round k).2.length=m.cls.length
 |0=>⟨by simp[kE],by simp[kE]⟩
 |k+1=>ajZ (Hm round k).1 (Hm round k).2 _
def Hv(round:Nat):∀ k,∀ c,((kE m round k).2.getD c default).length<=k/\∀ x∈(kE m round k).2.getD c default,0<=x/\(0<m.ae.length->x<m.ae.length)
 |0,c=>by
  have:(kE m round 0).2.getD c default=[]:=by
   show(aJ m.cls.length []).getD c default=[];rw[aB];cases hh:(aJ m.cls.length ([]:List Int))[c]? with
   |none=>rfl
   |some q=>rw[AM (gk hh)];rfl
  rw[this];simp
 |k+1,c=>by
  have ih:=Hv round k;rw[kE];generalize hp:(k+round)%m.ae.length=p;have dD:0<m.ae.length->p<m.ae.length:=λh=>by rw[<- hp];exact Nat.mod_lt _ h
  unfold B4;dsimp only;split
  ·exact⟨by have:=(ih c).1;omega,(ih c).2⟩
  ·have key:∀ l:List Int,l.length<=k->(∀ x∈l,0<=x/\(0<m.ae.length->x<m.ae.length))->(l++[(p:Int)]).length<=k+1/\∀ x∈l++[(p:Int)],0<=x/\(0<m.ae.length->x<m.ae.length):=λl h1 h2=>by
    refine⟨NS,λx hx=>?_⟩;rcases cC.1 hx with hx|hx
    ·exact h2 x hx
    ·simp only[cU]at hx;subst hx;exact⟨Ix,λh=>by have:=dD h;omega⟩
   rw[Cb];split
   ·exact key _ (ih _).1 (ih _).2
   ·rw[Cb];split
    ·exact key _ (ih _).1 (ih _).2
    ·exact⟨by have:=(ih c).1;omega,(ih c).2⟩
end
def LR.lt{F:List (Nat×Ob)}{lp:Nat}{Q:List (Nat×List Int)}{ob:List Ob}(h:LR F lp Q ob){i:Nat}(hi:i∈nm lp Q):i<ob.length:=by
 rcases bj.1 hi with rfl|hi
 ·exact iH h.ls
 ·obtain⟨q,hq,rfl⟩:=b8.1 hi;obtain⟨h1,h2⟩:=yV.1 hq;rw[decide_eq_true_eq]at h2;obtain⟨c,hc,rfl⟩:=qX h1;have e:Q.getD c default=Q[c]:=by rw[aB,bT hc];rfl
  have:=iH (h.row c hc (by rw[e];exact h2)).1;rwa [e]at this
def R1.pre{os ob:List Ob}{D:List (Nat×Nat)}{S:List (List Int)}(h:R1 os D S)(hp:∀ (i:Nat) o,os[i]?=some o->ob[i]?=some o):R1 ob D S :=
 ⟨h.len,λj hj=>⟨(h.row j hj).1,λh0=>hp _ _ ((h.row j hj).2 h0)⟩⟩
def WF.pre{m:ah}{can:List (List Bool)}{gi ai bi mi:Nat}{D E:List (Nat×Nat)}{W:WS}{os ob:List Ob}(h:WF m can gi ai bi mi D E W os)(hl:os.length<=ob.length)(hp:∀ (i:Nat) o,os[i]?=some o->ob[i]?=some o):WF m can gi ai bi mi D E W ob :=
 ⟨hp _ _ h.v,hp _ _ h.a,hp _ _ h.b,hp _ _ h.mp,h.rD.pre hp,h.rE.pre hp,h.nd,λi hi=>Nat.lt_of_lt_of_le (h.lt i hi) hl⟩
def Ay(q:List Int×Int):Mv:=⟨q.1.getD 0 0,q.1.getD 1 0,q.1.getD 2 0,q.2⟩
def lD(am:List (List Int×Int))(seen:List Nat):List Mv:=(seen.filter λj=>decide ((am.getD j default).2≠0)).map λj=>Ay (am.getD j default)
def ke(am:List (List Int×Int)):List Mv:=(am.filter λq=>decide (q.2≠0)).map Ay
def aj0(am:List (List Int×Int))(seen:List Nat)(j:Nat):lD am (seen++[j])=if(am.getD j default).2≠0 then lD am seen++[Ay (am.getD j default)] else lD am seen:=by
 unfold lD;rw[List.filter_append,dS];split
 ·rename_i h;rw[List.filter_cons_of_pos (by simpa using h)];rfl
 ·rename_i h;rw[List.filter_cons_of_neg (by simpa using h)];simp
def aam(am:List (List Int×Int))(seen:List Nat):(lD am seen).length<=seen.length:=by
 unfold lD;rw[List.length_map];exact List.length_filter_le _ _
def aj1(am:List (List Int×Int)):lD am (bn am.length)=ke am:=by
 have e:am=(bn am.length).map λj=>am.getD j default:=by
  apply List.ext_getElem?;intro k;rw[b9];rcases dE k am.length with h|h
  ·rw[qQ h,Option.map_some,aB,bT h];rfl
  ·rw[gj h,gj (by simpa using h)];rfl
 unfold lD ke
 conv=>rhs;rw[e]
 rw[List.filter_map,wF];rfl
def aan{seen:List Nat}{n:Nat}(hn:seen.Nodup)(hl:∀ j∈seen,j<n)(ha:∀ j<n,j∈seen):seen.Perm (bn n) :=
 (List.perm_ext_iff_of_nodup hn List.nodup_range).2 λa=>⟨λh=>oV.2 (hl a h),λh=>ha a (oV.1 h)⟩
def aj2{am:List (List Int×Int)}{seen:List Nat}(hn:seen.Nodup)(hl:∀ j∈seen,j<am.length)(ha:∀ j<am.length,j∈seen):(lD am seen).Perm (ke am):=by
 rw[<- aj1];exact((aan hn hl ha).filter _).map _
def xz(id:Nat)(X:List Mv):AV:=if X=[] then .lit (.slice none 0 0) else .ref id 4 0 X.length
def v7(id:Nat)(X:List Mv)(os:List Ob):List Ob:=if X=[] then os else os.set id .gone
def aj3(id:Nat)(X:List Mv)(os:List Ob):(v7 id X os).length=os.length:=by unfold v7;split<;>simp
def aj4{id:Nat}{X:List Mv}{os:List Ob}(h:X≠[]->id<os.length)(l:List Ob):v7 id X (os++l)=v7 id X os++l:=by
 unfold v7;split
 ·rfl
 ·rename_i hx;rw[List.set_append_left _ _ (h hx)]
def aj5{id:Nat}{X:List Mv}{os:List Ob}{k:Nat}{o:Ob}(h:os[k]?=some o)(hk:X≠[]->k≠id):(v7 id X os)[k]?=some o:=by
 unfold v7;split
 ·exact h
 ·rename_i hx;exact e7 h (Ne.symm (hk hx))
def aj6{id:Nat}{X:List Mv}{os:List Ob}(h:X≠[]->os[id]?=some (.arr 4 (rowsOf aO X)))(l:List Ob)(e:Nat->AV):k0 ⟨e,os++l⟩ 4 (xz id X)=some (rowsOf aO X,⟨e,v7 id X os++l⟩):=by
 rw[<- aj4 (λhx=>iH (h hx))];unfold xz v7;by_cases hx:X=[]
 ·rw[if_pos hx,if_pos hx,hx];rfl
 ·rw[if_neg hx,if_neg hx];unfold k0;simp only[aL (h hx),and_self,if_true,yW];rw[c8 (by rw[cf];exact bb _)]
def aj7(id:Nat)(X:List Mv)(x:Mv):AV.ref id 4 0 (X.length+1)=xz id (X++[x]):=by
 unfold xz;rw[if_neg Iy];simp
structure FX(B:List (Nat×Ob))(ob:List Ob):Prop where
 at_:∀ b∈B,ob[b.1]?=some b.2
 nd:(B.map (·.1)).Nodup
section
variable {B B' N:List (Nat×Ob)} {ob l:List Ob}
def FX.app(h:FX B ob)(l:List Ob):FX B (ob++l):=⟨λb hb=>aL (h.at_ b hb) l,h.nd⟩
def FX.perm(h:FX B ob)(hp:B.Perm B'):FX B' ob:=⟨λb hb=>h.at_ b (hp.mem_iff.2 hb),(hp.map _).nodup_iff.1 h.nd⟩
def FX.sub(h:FX B ob)(hs:B'.Sublist B):FX B' ob:=⟨λb hb=>h.at_ b (hs.subset hb),(hs.map _).nodup h.nd⟩
def FX.news(h:FX B ob)(hN:∀ p∈N,∃ j,p.1=ob.length+j/\l[j]?=some p.2)(hd:(N.map (·.1)).Nodup):FX (N++B) (ob++l):=by
 refine⟨λb hb=>?_,?_⟩
 ·rcases cC.1 hb with hb|hb
  ·obtain⟨j,e1,e2⟩:=hN b hb;rw[e1,kS];exact e2
  ·exact aL (h.at_ b hb) l
 ·rw[dS];refine pV.2 ⟨hd,h.nd,λa ha b hb e=>?_⟩;obtain⟨p,hp,rfl⟩:=b8.1 ha;obtain⟨q,hq,rfl⟩:=b8.1 hb;obtain⟨j,e1,_⟩:=hN p hp;have:=iH (h.at_ q hq);omega
def FX.put{i:Nat}{x:Ob}(h:FX ((i,x)::B) ob)(y:Ob):FX ((i,y)::B) (ob.set i y):=by
 have hn:=(nr.1 h.nd).1;refine⟨λb hb=>?_,h.nd⟩;rcases bj.1 hb with rfl|hb
 ·exact lZ (h.at_ _ (wH ..))
 ·exact e7 (h.at_ b (dI _ hb)) (λe=>hn (b8.2 ⟨b,hb,e.symm⟩))
def FX.kill{i:Nat}{x:Ob}(h:FX ((i,x)::B) ob)(y:Ob):FX B (ob.set i y):=(h.put y).sub (List.sublist_cons_self _ _)
def FX.start(os:List Ob):FX (nM os) os:=by
 refine⟨λb hb=>yK.1 hb,?_⟩;unfold nM;rw[wF];have:(os.zipIdx.map ((λx:Nat×Ob=>x.1) ∘ λq:Ob×Nat=>(q.2,q.1)))=os.zipIdx.map Prod.snd:=rfl;rw[this,List.zipIdx_map_snd];exact List.nodup_range'
def FX.ne{a b:Nat×Ob}{P S:List (Nat×Ob)}(h:FX (P++a::S) ob)(hb:b∈S):a.1≠b.1:=λe=>by
 have hn:=h.nd;rw[dS]at hn;have:=(pV.1 hn).2.1;exact(nr.1 this).1 (b8.2 ⟨b,hb,e.symm⟩)
end
def oN(q:Nat×Nat):AV:=if q.2=0 then .tree 1 [] else .ref q.1 1 0 q.2
def aj8(q:Nat×Nat):dH q=[oN q]:=by unfold dH oN;rfl
def aiN(q:Nat×Nat):cV (oN q)=true:=by unfold oN;split<;>rfl
def lA(q:Nat×List Int):Nat×Ob:=(q.1,if q.2=[] then .gone else .arr 1 (ints q.2))
def dQ(Q:List (Nat×List Int)):List (Nat×Nat):=Q.map λq=>(q.1,q.2.length)
def Mo(Q:List (Nat×List Int))(q:Nat×List Int):rowsOf dH (dQ Q)++[[oN (q.1,q.2.length)]]=rowsOf dH (dQ (Q++[q])):=by
 unfold rowsOf dQ;rw[dS,dS];simp[aj8]
def gw(l:List cg)(r:List Bool):List Bool:=(bn l.length).map λi=>r.getD i false&&decide (qC (l.getD i default)<1099511627776)
def dR(m:ah)(left:List (List Bool))(n:Nat):List (List Bool):=(bn n).map λc=>gw (m.cls.getD c default) (left.getD c default)
def W0(m:ah):WS:=⟨m.cls.map bV,m.ae.map (·.ax),[]⟩
def aiy(m:ah)(left:List (List Bool))(n:Nat):dR m left (n+1)=dR m left n++[gw (m.cls.getD n default) (left.getD n default)]:=by
 unfold dR;rw[List.range_succ,dS];rfl
def aj9(m:ah)(left:List (List Bool)):df m (dR m left m.cls.length):=by
 refine⟨by simp[dR],λi hi=>?_⟩;have aq:i<m.cls.length:=by simpa [dR] using hi
 unfold dR;rw[aB,b9,qQ aq];simp[gw]
def gW(m:ah)(mi ci oi ti c e:Nat):Ob:=.var (ao m++[.ref ci 1 0 c,.ref oi 1 0 c,.ref ti 1 0 e,.du mi])
def BW(m:ah)(left:List (List Bool))(os:List Ob)(c:Nat)(Q:List (Nat×List Int))(ci oi:Nat):List (Nat×Ob) :=
 (os.length+2,gW m (os.length+1) ci oi (os.length+5) c 0)::(ci,.arr 1 (rowsOf aA (dR m left c)))::(oi,.arr 1 (rowsOf dH (dQ Q)))::(os.length+5,.arr 1 [])::(os.length,.var (ao m))::(os.length+1,.mp 3 [])::(Q.map lA++nM os)
def BW0(m:ah)(left:List (List Bool))(os:List Ob):FX (BW m left os 0 [] (os.length+3) (os.length+4)) (os++[.var (ao m),.mp 3 [],gW m (os.length+1) (os.length+3) (os.length+4) (os.length+5) 0 0,.arr 1 [],.arr 1 [],.arr 1 []]):=by
 have h:=(FX.start os).news (N:=[(os.length+2,gW m (os.length+1) (os.length+3) (os.length+4) (os.length+5) 0 0),(os.length+3,.arr 1 []),(os.length+4,.arr 1 []),(os.length+5,.arr 1 []),(os.length,.var (ao m)),(os.length+1,.mp 3 [])])
  (l:=[.var (ao m),.mp 3 [],gW m (os.length+1) (os.length+3) (os.length+4) (os.length+5) 0 0,.arr 1 [],.arr 1 [],.arr 1 []]) (λp hp=>by
   simp only[bj,List.not_mem_nil,or_false]at hp;rcases hp with rfl|rfl|rfl|rfl|rfl|rfl
   ·exact⟨2,rfl,rfl⟩
   ·exact⟨3,rfl,rfl⟩
   ·exact⟨4,rfl,rfl⟩
   ·exact⟨5,rfl,rfl⟩
   ·exact⟨0,rfl,rfl⟩
   ·exact⟨1,rfl,rfl⟩) Iy
 exact h
def aiA{α:Type}(a b c d:α)(R:List α):(a::b::c::d::R).Perm (c::d::b::a::R) :=
 ((List.perm_append_comm (l₁:=[a,b]) (l₂:=[c,d])).trans (pW.append_left [c,d] (pW.swap b a []))).append_right R
def aiP{α:Type}(ca ow g rb t n n1:α)(R S:List α):(ca::ow::g::rb::t::n::n1::(R++S)).Perm (g::ca::ow::t::n::n1::(R++rb::S)) :=
 (xL (l₁:=[ca,ow])).trans (pW.append_left [g,ca,ow] (xL (l₁:=t::n::n1::R) (l₂:=S)).symm)
def BR(m:ah)(left:List (List Bool))(os:List Ob)(Q:List (Nat×List Int))(ci oi:Nat):List (Nat×Ob) :=
 (ci,.arr 1 (rowsOf aA (dR m left m.cls.length)))::(oi,.arr 1 (rowsOf dH (dQ Q)))::(os.length,.var (ao m))::(os.length+1,.mp 3 [])::(Q.map lA++nM os)
def B2(m:ah)(left:List (List Bool))(os:List Ob)(Q:List (Nat×List Int))(ci oi ti e:Nat)(QE:List (Nat×List Int)):List (Nat×Ob) :=
 (os.length+2,gW m (os.length+1) ci oi ti m.cls.length e)::(ti,.arr 1 (rowsOf dH (dQ QE)))::(QE.map lA++BR m left os Q ci oi)
def aiQ{α:Type}(g ca ow t n n1:α)(S:List α):(g::ca::ow::t::n::n1::S).Perm (g::t::ca::ow::n::n1::S) :=
 pW.append_left [g] (xL (l₁:=[ca,ow]) (l₂:=n::n1::S))
def aiT{α:Type}(tn rb g:α)(R S:List α):(tn::rb::g::(R++S)).Perm (g::tn::(R++rb::S)) :=
 (xL (l₁:=[tn,rb]) (l₂:=R++S)).trans (pW.append_left [g] ((xL (l₁:=tn::R) (l₂:=S)).symm.trans (pW.refl _) |> λh=>(pW.swap rb tn (R++S)).trans h))
def aiS{α:Type}(tn g rb:α)(R S:List α):(tn::g::rb::(R++S)).Perm (g::tn::(R++rb::S)) :=
 (pW.swap g tn _).trans (pW.append_left [g,tn] (xL (l₁:=R) (l₂:=S)).symm)
def aj'{Q:List (Nat×List Int)}{j:Nat}(h:j<Q.length):(dQ Q).getD j default=((Q.getD j default).1,(Q.getD j default).2.length):=by
 unfold dQ;rw[aB,b9,aB,bT h];rfl
def aao{Q:List (Nat×List Int)}{S:List (List Int)}{ob:List Ob}(hQ:Q.map (·.2)=S)(h:∀ q∈Q.map lA,ob[q.1]?=some q.2):R1 ob (dQ Q) S:=by
 subst hQ;refine⟨by simp[dQ],λj hj=>?_⟩;have fe:j<Q.length:=by simpa [dQ] using hj
 rw[aj' fe,L9 fe];refine⟨rfl,λh0=>?_⟩;have h1:=h _ (List.mem_map_of_mem (aG (l:=Q) (i:=j) (d:=default) fe));unfold lA at h1;dsimp only at h1 h0;rw[if_neg (λe=>by rw[e]at h0;exact absurd h0 NI)]at h1;exact h1
def aiU{m:ah}{left:List (List Bool)}{os ob:List Ob}{Q QE:List (Nat×List Int)}{ci oi ti:Nat}(hQ:Q.map (·.2)=m.cls.map bV)(yN:QE.map (·.2)=m.ae.map (·.ax))(hF:FX (B2 m left os Q ci oi ti m.ae.length QE) ob):
  WF m (dR m left m.cls.length) (os.length+2) oi ti (os.length+1) (dQ Q) (dQ QE) (W0 m) ((ob.set ci .gone).set (os.length+2) (.var (ao m++[.tree 1 (rowsOf aA (dR m left m.cls.length)),.ref oi 1 0 m.cls.length,.ref ti 1 0 m.ae.length,.du (os.length+1)]))) /\
  (∀ (i:Nat) o,os[i]?=some o->((ob.set ci .gone).set (os.length+2) (.var (ao m++[.tree 1 (rowsOf aA (dR m left m.cls.length)),.ref oi 1 0 m.cls.length,.ref ti 1 0 m.ae.length,.du (os.length+1)])))[i]?=some o)/\∀ i∈(dQ Q++dQ QE).map (·.1),os.length<=i:=by
 have hlQ:(dQ Q).length=m.cls.length:=by have:=congrArg kI hQ;simp[dQ]at this ⊢;exact this
 have hlE:(dQ QE).length=m.ae.length:=by have:=congrArg kI yN;simp[dQ]at this ⊢;exact this
 have h1:=hF.perm ((xL (l₁:=(os.length+2,gW m (os.length+1) ci oi ti m.cls.length m.ae.length)::(ti,.arr 1 (rowsOf dH (dQ QE)))::QE.map lA) (l₂:=(oi,.arr 1 (rowsOf dH (dQ Q)))::(os.length,.var (ao m))::(os.length+1,.mp 3 [])::(Q.map lA++nM os))):(B2 m left os Q ci oi ti m.ae.length QE).Perm _);have h2:=((h1.put .gone).perm (pW.swap _ _ _)).put (.var (ao m++[.tree 1 (rowsOf aA (dR m left m.cls.length)),.ref oi 1 0 m.cls.length,.ref ti 1 0 m.ae.length,.du (os.length+1)]));generalize bI:(ob.set ci .gone).set (os.length+2) (.var (ao m++[.tree 1 (rowsOf aA (dR m left m.cls.length)),.ref oi 1 0 m.cls.length,.ref ti 1 0 m.ae.length,.du (os.length+1)]))=ob' at *;have nh:=h2.at_;have hrQ:∀ q∈Q.map lA,ob'[q.1]?=some q.2:=λq hq=>nh q (dI _ (dI _ (dI _ (xK _ (dI _ (dI _ (dI _ (Cu _ hq))))))));have hrE:∀ q∈QE.map lA,ob'[q.1]?=some q.2:=λq hq=>nh q (dI _ (dI _ (dI _ (Cu _ hq))));have fQ:(dQ Q).map (·.1)=(Q.map lA).map (·.1):=by unfold dQ;rw[wF,wF];rfl
 have fE:(dQ QE).map (·.1)=(QE.map lA).map (·.1):=by unfold dQ;rw[wF,wF];rfl
 have hn:((os.length+2)::ci::ti::((dQ QE).map (·.1)++(oi::os.length::(os.length+1)::((dQ Q).map (·.1)++(nM os).map (·.1))))).Nodup:=by
  have h4:=h2.nd;rw[fQ,fE];simp only[List.map_cons,List.append_eq,List.cons_append,dS]at h4;exact h4
 have gd:∀ i,i∈(dQ Q).map (·.1)\/i∈(dQ QE).map (·.1)->os.length<=i:=λi hi=>by
  rcases dE i os.length with a6|gd
  ·exfalso;have hm:i∈(nM os).map (·.1):=b8.2 ⟨(i,os[i]),yK.2 (bT a6),rfl⟩;have n3:=(nr.1 (nr.1 (nr.1 hn).2).2).2;obtain⟨_,n4,n5⟩:=pV.1 n3;rcases hi with hi|hi
   ·have n6:=(nr.1 (nr.1 (nr.1 n4).2).2).2;exact(pV.1 n6).2.2 i hi i hm rfl
   ·exact n5 i hi i (dI _ (dI _ (dI _ (xK _ hm)))) rfl
  ·exact gd
 refine⟨⟨?_,?_,?_,?_,aao hQ hrQ,aao yN hrE,?_,λi hi=>?_⟩,λi o hi=>?_,λi hi=>?_⟩
 ·rw[hlQ,hlE];exact nh _ (wH ..)
 ·exact nh (oi,.arr 1 (rowsOf dH (dQ Q))) (dI _ (dI _ (dI _ (xK _ (wH ..)))))
 ·exact nh (ti,.arr 1 (rowsOf dH (dQ QE))) (dI _ (dI _ (wH ..)))
 ·exact nh (os.length+1,.mp 3 []) (dI _ (dI _ (dI _ (xK _ (dI _ (dI _ (wH ..)))))))
 ·rw[dS];generalize (dQ Q).map (·.1)=a at *;generalize (dQ QE).map (·.1)=b at *;have hs:((os.length+2)::ti::(b++(oi::(os.length+1)::a))).Sublist ((os.length+2)::ci::ti::(b++oi::os.length::(os.length+1)::(a++List.map (·.1) (nM os)))):=by
   refine AS.cons_cons _ (AS.cons _ (AS.cons_cons _ (AS.append (AS.refl _) (AS.cons_cons _ (AS.cons _ (AS.cons_cons _ (List.sublist_append_left _ _)))))))
  have h3:=hs.nodup hn;refine(pW.nodup_iff ?_).1 h3;exact pW.append_left [os.length+2] ((pW.append_left [ti] (List.perm_append_comm (l₁:=b) (l₂:=oi::(os.length+1)::a))).trans (pW.swap oi ti _))
 ·rw[dS,fQ,fE]at hi;rcases cC.1 hi with hi|hi
  ·obtain⟨q,hq,rfl⟩:=b8.1 hi;exact iH (hrQ q hq)
  ·obtain⟨q,hq,rfl⟩:=b8.1 hi;exact iH (hrE q hq)
 ·exact nh (i,o) (dI _ (dI _ (dI _ (xK _ (dI _ (dI _ (dI _ (xK _ (yK.2 hi)))))))))
 ·rw[dS]at hi;exact gd i (cC.1 hi)
def aiw{n0:Nat}(m:ah)(os:List Ob)(A M:Ob)(mi:Nat)(e:Nat->AV):aF n0 ⟨e,os++[A,M,.var (ao m++[.lit (.slice none 0 0),.lit (.slice none 0 0),.lit (.slice none 0 0),.du mi])]⟩
  ⟨e,os++[A,M,gW m mi (os.length+3) (os.length+4) (os.length+5) 0 0,.arr 1 [],.arr 1 [],.arr 1 []]⟩:=by
 have key:∀ (l l2:List Ob) (c k:Nat) (cells:List AV),l[2]?=some (.var cells)->cells[c]?=some (.lit (.slice none 0 0))->l.length=k->l2=(l++[Ob.arr 1 []]).set 2 (.var (cells.set c (.ref (os.length+k) 1 0 0)))->aF n0 ⟨e,os++l⟩ ⟨e,os++l2⟩:=by
  intro l l2 c k cells h1 h2 h3 h4;have h:=aF.qt (n0:=n0) (σ:=⟨e,os++l⟩) (os.length+2) c 1 (cells:=cells) (by dsimp only;rw[kS];exact h1) h2 NI;dsimp only at h;rw[List.append_assoc,Dx,List.length_append,h3]at h;rw[h4];exact h
 refine(key _ [A,M,.var (ao m++[.ref (os.length+3) 1 0 0,.lit (.slice none 0 0),.lit (.slice none 0 0),.du mi]),.arr 1 []] 4 3 _ rfl rfl rfl rfl).trans ?_;refine(key _ [A,M,.var (ao m++[.ref (os.length+3) 1 0 0,.ref (os.length+4) 1 0 0,.lit (.slice none 0 0),.du mi]),.arr 1 [],.arr 1 []] 5 4 _ rfl rfl rfl rfl).trans ?_;exact key _ _ 6 5 _ rfl rfl rfl rfl
end T

