import Derived.Test.YtfoopmojjjpapaaGreatX32
import Derived.Shelf.SlSortCmp.WholeK
set_option linter.all false
set_option maxHeartbeats 0
set_option maxRecDepth 20000
open List renaming getD_eq_getElem?_getD→az,getElem?_eq_some_iff→aT,getElem?_map→bY,getElem?_eq_getElem→bS,drop_zero→AP,take_of_length_le→c9,length_set→bH,replicate→aI,eq_of_mem_replicate→Ft,mem_of_getElem?→ik,mem_map→b6,mem_cons_self→u4,getElem?_eq_none→fY,mem_cons_of_mem→dx,mem_filter→xN,mem_singleton→dI,mem_cons→a8,getElem_of_mem→pW,range→aY,mem_range→mN
open Nat renaming le_refl→aU
open Option renaming bind_some→rT
open Bool renaming not_eq_true→AU
open Go Go.Am Go.Proofs
namespace T
def kZ(q:Nat×List Int):List AV:=if q.2=[] then [.lit (.slice none 0 0)] else [.ref q.1 1 0 q.2.length]
def Lz{α:Type}[Inhabited α](L:List α)(c k:Nat)(x:α)(hc:c<L.length):(L.set c x).getD k default=if k=c then x else L.getD k default:=by
 rw[az,List.getElem?_set];by_cases h:k=c
 ·subst h;simp[hc]
 ·rw[if_neg (λe=>h e.symm),if_neg h,az]
def gX{os:List Ob}{i:Nat}{o:Ob}(h:os[i]?=some o):i<os.length:=(aT.1 h).1
def Hb{Q:List (Nat×List Int)}{c:Nat}(hc:c<Q.length):(rowsOf kZ Q)[c]?=some (kZ (Q.getD c default)):=by
 unfold rowsOf;rw[bY,az,bS hc];rfl
def sW(q:Nat×List Int):AV:=if q.2=[] then .lit (.slice none 0 0) else .ref q.1 1 0 q.2.length
def pE(q:Nat×List Int)(os:List Ob):List Ob:=if q.2=[] then os else os.set q.1 .gone
def Ly(q:Nat×List Int):kZ q=[sW q]:=by unfold kZ sW;split<;>rfl
def Ux(q:Nat×List Int)(os:List Ob):(pE q os).length=os.length:=by unfold pE;split<;>simp
def zX{q:Nat×List Int}{os:List Ob}{k:Nat}{o:Ob}(h:os[k]?=some o)(hk:q.2≠[]->k≠q.1):(pE q os)[k]?=some o:=by
 unfold pE;split
 ·exact h
 ·rename_i hq;rw[List.getElem?_set_ne (Ne.symm (hk hq))];exact h
def ahC{q:Nat×List Int}{os:List Ob}(h:q.2≠[]->os[q.1]?=some (.arr 1 (ints q.2)))(e:Nat->AV):lj ⟨e,os⟩ 1 (sW q)=some (ints q.2,⟨e,pE q os⟩):=by
 unfold sW pE;by_cases hq:q.2=[]
 ·rw[if_pos hq,if_pos hq,hq];rfl
 ·rw[if_neg hq,if_neg hq];unfold lj;simp only[h hq,and_self,if_true,AP];rw[c9 (by rw[xW];exact aU _)]
def Us{ps:List Nat}{q:Nat×List Int}(h:q.2≠[]->q.1 ∉ ps):zV ps (sW q)=True:=by
 unfold sW;split
 ·exact LN _
 ·rename_i hq;rw[LP];exact eq_true (h hq)
def ahD{q:Nat×List Int}{os:List Ob}(h:q.2≠[]->q.1<os.length)(l:List Ob):pE q (os++l)=pE q os++l:=by
 unfold pE;split
 ·rfl
 ·rename_i hq;rw[List.set_append_left _ _ (h hq)]
def Uw{q:Nat×List Int}{os:List Ob}(h:q.2≠[]->os[q.1]?=some (.arr 1 (ints q.2)))(l:List Ob)(e:Nat->AV):lj ⟨e,os++l⟩ 1 (sW q)=some (ints q.2,⟨e,pE q os++l⟩):=by
 rw[ahC (λhq=>aM (h hq) l),ahD (λhq=>gX (h hq))]
def Uy(Q:List (Nat×List Int))(c pa:Nat)(l:List Int)(n:Int):(rowsOf kZ Q).set c [.ref pa 1 0 (l.length+1)]=rowsOf kZ (Q.set c (pa,l++[n])):=by
 unfold rowsOf;rw[List.map_set];congr 1;unfold kZ;rw[if_neg Fl];simp
def yl{X:List Ob}{n:Nat}(h:X.length=n)(l:List Ob)(k:Nat):(X++l)[n+k]?=l[k]?:=by subst h;exact kC X l k
def Hf{X:List Ob}{n:Nat}(h:X.length=n)(x:Ob)(l:List Ob):(X++x::l)[n]?=some x:=by subst h;exact jX X x l
def Lv{Q:List (Nat×List Int)}{a:Nat}(h:a<Q.length):(Q.map (·.2)).getD a default=(Q.getD a default).2:=by
 rw[az,bY,az,bS h];rfl
structure LR(F:List (Nat×Ob))(lp:Nat)(Q:List (Nat×List Int))(ob:List Ob):Prop where
 fx:∀ p∈F,ob[p.1]?=some p.2
 ry:∀ p∈F,p.1≠lp/\∀ c,c<Q.length->(Q.getD c default).2≠[]->p.1≠(Q.getD c default).1
 ls:ob[lp]?=some (.arr 1 (rowsOf kZ Q))
 row:∀ c,c<Q.length->(Q.getD c default).2≠[]->ob[(Q.getD c default).1]?=some (.arr 1 (ints (Q.getD c default).2))/\(Q.getD c default).1≠lp
 inj:∀ c c',c<Q.length->c'<Q.length->(Q.getD c default).2≠[]->(Q.getD c' default).2≠[]->(Q.getD c default).1=(Q.getD c' default).1->c=c'
section
variable {F:List (Nat×Ob)} {lp:Nat} {Q:List (Nat×List Int)} {ob l:List Ob}
def LR.app(h:LR F lp Q ob)(l:List Ob):LR F lp Q (ob++l) :=
 ⟨λp hp=>aM (h.fx p hp) l,h.ry,aM h.ls l,λc hc hn=>⟨aM (h.row c hc hn).1 l,(h.row c hc hn).2⟩,h.inj⟩
def LR.ag1(h:LR F lp Q ob){a b:Nat}(ha:a<Q.length)(hb:b<Q.length)(eX:a≠b){n:Int}{fin:List Ob}{pa pb:Nat}(LQ:ob.length<=pa)(dj:ob.length<=pb)(cg:pa≠pb)(hk:∀ k o,ob[k]?=some o->k≠lp->((Q.getD a default).2≠[]->k≠(Q.getD a default).1)->((Q.getD b default).2≠[]->k≠(Q.getD b default).1)->fin[k]?=some o)(hl:fin[lp]?=some (.arr 1 (rowsOf kZ ((Q.set a (pa,(Q.getD a default).2++[n])).set b (pb,(Q.getD b default).2++[n])))))(h1:fin[pa]?=some (.arr 1 (ints ((Q.getD a default).2++[n]))))(h2:fin[pb]?=some (.arr 1 (ints ((Q.getD b default).2++[n])))):
  LR F lp ((Q.set a (pa,(Q.getD a default).2++[n])).set b (pb,(Q.getD b default).2++[n])) fin:=by
 have hlp:lp<ob.length:=gX h.ls;have hg:∀ k,((Q.set a (pa,(Q.getD a default).2++[n])).set b (pb,(Q.getD b default).2++[n])).getD k default=if k=b then(pb,(Q.getD b default).2++[n]) else if k=a then(pa,(Q.getD a default).2++[n]) else Q.getD k default:=λk=>by
  rw[Lz _ _ _ _ (by simpa using hb)];split
  ·rfl
  ·rw[Lz _ _ _ _ ha]
 have hold:∀ c,c<Q.length->(Q.getD c default).2≠[]->(Q.getD c default).1<ob.length:=λc hc hn=>gX (h.row c hc hn).1;refine⟨λp hp=>hk _ _ (h.fx p hp) (h.ry p hp).1 (λhn=>(h.ry p hp).2 a ha hn) (λhn=>(h.ry p hp).2 b hb hn),λp hp=>⟨(h.ry p hp).1,λk dY hn=>?_⟩,hl,λk dY hn=>?_,λk k' dY LS hn rh e=>?_⟩
 ·have DM:=gX (h.fx p hp);rw[bH,bH]at dY;rw[hg]at hn ⊢;split at hn
  ·rename_i e;rw[if_pos e];dsimp only;omega
  ·rename_i e;rw[if_neg e];split at hn
   ·rename_i e2;rw[if_pos e2];dsimp only;omega
   ·rename_i e2;rw[if_neg e2];exact(h.ry p hp).2 k dY hn
 ·rw[bH,bH]at dY;rw[hg]at hn ⊢;split at hn
  ·rename_i e;rw[if_pos e];exact⟨h2,Ji⟩
  ·rename_i e;rw[if_neg e];split at hn
   ·rename_i e2;rw[if_pos e2];exact⟨h1,Ji⟩
   ·rename_i e2;rw[if_neg e2];have hr:=h.row k dY hn;exact⟨hk _ _ hr.1 hr.2 (λDV e3=>e2 (h.inj k a dY ha hn DV e3)) (λdE e3=>e (h.inj k b dY hb hn dE e3)),hr.2⟩
 ·rw[bH,bH]at dY LS;rw[hg]at hn e;rw[hg k']at rh e;have o1:=hold k dY;have o2:=hold k' LS;have i1:=h.inj k k' dY LS;by_cases x1:k=b<;>by_cases x2:k'=b
  ·exact x1.trans x2.symm
  ·rw[if_pos x1,if_neg x2]at e;rw[if_neg x2]at rh;by_cases x3:k'=a
   ·rw[if_pos x3]at e;dsimp only at e;omega
   ·rw[if_neg x3]at e rh;have:=o2 rh;dsimp only at e;omega
  ·rw[if_neg x1,if_pos x2]at e;rw[if_neg x1]at hn;by_cases x3:k=a
   ·rw[if_pos x3]at e;dsimp only at e;omega
   ·rw[if_neg x3]at e hn;have:=o1 hn;dsimp only at e;omega
  ·rw[if_neg x1,if_neg x2]at e;rw[if_neg x1]at hn;rw[if_neg x2]at rh;by_cases x3:k=a<;>by_cases x4:k'=a
   ·exact x3.trans x4.symm
   ·rw[if_pos x3,if_neg x4]at e;rw[if_neg x4]at rh;have:=o2 rh;dsimp only at e;omega
   ·rw[if_neg x3,if_pos x4]at e;rw[if_neg x3]at hn;have:=o1 hn;dsimp only at e;omega
   ·rw[if_neg x3,if_neg x4]at e;rw[if_neg x3]at hn;rw[if_neg x4]at rh;exact i1 hn rh e
def LR.start{N:Nat}(hF:∀ p∈F,ob[p.1]?=some p.2):LR F ob.length (aI N (0,[])) (ob++[.arr 1 (aI N [.lit (.slice none 0 0)])]):=by
 have hz:∀ c,((aI N ((0:Nat),([]:List Int))).getD c default).2=[]:=λc=>by
  rw[az];cases hh:(aI N ((0:Nat),([]:List Int)))[c]? with
  |none=>rfl
  |some q=>rw[Ft (ik hh)];rfl
 refine⟨λp hp=>aM (hF p hp) _,λp hp=>⟨by have:=gX (hF p hp);omega,λc _ hn=>absurd (hz c) hn⟩,?_,λc _ hn=>absurd (hz c) hn,λc c' _ _ hn=>absurd (hz c) hn⟩;rw[show rowsOf kZ (aI N ((0:Nat),([]:List Int)))=aI N [.lit (.slice none 0 0)] by unfold rowsOf;rw[List.map_replicate];rfl];exact jX _ _ _
end
def uB(S:List Nat)(ob:List Ob):List Ob:=ob.mapIdx λi o=>if i∈S then .gone else o
def UC(S:List Nat)(ob:List Ob):(uB S ob).length=ob.length:=by simp[uB]
def LB{S:List Nat}{ob:List Ob}{i:Nat}{o:Ob}(h:ob[i]?=some o):(uB S ob)[i]?=some (if i∈S then .gone else o):=by
 unfold uB;rw[List.getElem?_mapIdx,h];rfl
def LC{S:List Nat}{ob:List Ob}{i:Nat}{o:Ob}(h:ob[i]?=some o)(hi:i ∉ S):(uB S ob)[i]?=some o:=by rw[LB h,if_neg hi]
def nh(lp:Nat)(Q:List (Nat×List Int)):List Nat:=lp::(Q.filter λq=>decide (q.2≠[])).map (·.1)
section
variable {F:List (Nat×Ob)} {lp:Nat} {Q:List (Nat×List Int)} {ob:List Ob}
def ahh(qA:ob[lp]?=some (.arr 1 (rowsOf kZ Q))){X:Nat->Prop}(bR:∀ c,c<Q.length->(Q.getD c default).2≠[]->ob[(Q.getD c default).1]?=some (.arr 1 (ints (Q.getD c default).2))/\X c)(e:Nat->AV):dU ⟨e,ob⟩ (λi=>i ∉ nh lp Q) (.tree 1 (fe (Q.map (·.2)))) (.ref lp 1 0 Q.length):=by
 have Ls:∀ row∈fe (Q.map (·.2)),row.length=1:=λrow hr=>by
  unfold fe at hr;obtain⟨_,_,rfl⟩:=b6.1 hr;rfl
 refine .ref lp 1 0 Q.length _ _ (λr c=>(cellAt (rowsOf kZ Q) r c).getD .undef) qA (λhn=>hn (u4 ..)) (by simp[fe,rowsOf]) Ls (λr c v hv=>?_) (λr c v hv=>?_);all_goals
  unfold cellAt at hv;by_cases hr:r<Q.length;rotate_left
  ·rw[fY (by simp[fe];omega)]at hv;simp at hv
  have e1:(fe (Q.map (·.2)))[r]?=some [.tree 1 (ints (Q.getD r default).2)]:=by
   unfold fe;rw[bY,bY,bS hr,az,bS hr];rfl
  rw[e1,rT]at hv;have qn:c=0:=by
   have:=(aT.1 hv).1;simp at this;exact this
  subst qn;simp only[List.getElem?_cons_zero,Option.some.injEq]at hv;subst hv;have e2:=Hb hr
 ·rw[AP,c9 (by simp[rowsOf])];unfold cellAt;rw[e2,rT];unfold kZ;split<;>rfl
 ·unfold cellAt;rw[e2,rT];by_cases hq:(Q.getD r default).2=[]
  ·unfold kZ;rw[if_pos hq,hq];exact .nil 1
  ·have e3:(kZ (Q.getD r default))[0]?.getD .undef=.ref (Q.getD r default).1 1 0 (Q.getD r default).2.length:=by unfold kZ;rw[if_neg hq];rfl
   rw[e3];have hm:(Q.getD r default).1∈nh lp Q:=by
    refine dx _ (b6.2 ⟨Q.getD r default,xN.2 ⟨aF hr,by rw[decide_eq_true_eq];exact hq⟩,rfl⟩)
   refine dU.flat (bR r hr hq).1 (x7 _) (by rw[xW]) (λhn=>hn hm) λrow UY v hv=>?_;unfold ints at UY;obtain⟨x,_,rfl⟩:=b6.1 UY;rw[dI]at hv;exact .inl ⟨_,hv⟩
def LR.at_(h:LR F lp Q ob){i:Nat}(hi:i∈nh lp Q):∀ p∈F,p.1≠i:=λp hp=>by
 rcases a8.1 hi with rfl|hi
 ·exact(h.ry p hp).1
 ·obtain⟨q,hq,rfl⟩:=b6.1 hi;obtain⟨h1,h2⟩:=xN.1 hq;rw[decide_eq_true_eq]at h2;obtain⟨c,hc,rfl⟩:=pW h1;have e:Q.getD c default=Q[c]:=by rw[az,bS hc];rfl
  have:=(h.ry p hp).2 c hc (by rw[e];exact h2);rwa [e]at this
def LR.kill(h:LR F lp Q ob):∀ p∈F,(uB (nh lp Q) ob)[p.1]?=some p.2:=λp hp=>LC (h.fx p hp) λhi=>h.at_ hi p hp rfl
end
def nI(os:List Ob):List (Nat×Ob):=os.zipIdx.map λq=>(q.2,q.1)
def ym{os:List Ob}{p:Nat×Ob}:p∈nI os↔os[p.1]?=some p.2:=by
 unfold nI;rw[b6];constructor
 ·rintro⟨q,hq,rfl⟩;exact List.mem_zipIdx_iff_getElem?.1 hq
 ·intro h;exact⟨(p.2,p.1),List.mem_zipIdx_iff_getElem?.2 h,rfl⟩
def LR.head{F0:List (Nat×Ob)}{lp:Nat}{Q:List (Nat×List Int)}{ob:List Ob}{i:Nat}{x y:Ob}(h:LR ((i,x)::F0) lp Q ob)(hd:∀ p∈F0,p.1≠i):LR ((i,y)::F0) lp Q (ob.set i y):=by
 obtain⟨d1,d2⟩:=h.ry (i,x) (u4 ..);refine⟨λp hp=>?_,λp hp=>?_,eY h.ls d1,λc hc hn=>⟨eY (h.row c hc hn).1 (d2 c hc hn),(h.row c hc hn).2⟩,h.inj⟩
 ·rcases a8.1 hp with rfl|hp
  ·exact lS (h.fx (i,x) (u4 ..))
  ·exact eY (h.fx p (dx _ hp)) (Ne.symm (hd p hp))
 ·rcases a8.1 hp with rfl|hp
  ·exact⟨d1,d2⟩
  ·exact h.ry p (dx _ hp)
section
variable {F F':List (Nat×Ob)} {lp:Nat} {Q:List (Nat×List Int)} {ob l:List Ob}
def LR.more(h:LR F lp Q ob)(hF:∀ p∈F',p∈F\/∃ j,p.1=ob.length+j/\l[j]?=some p.2):LR F' lp Q (ob++l):=by
 have hlp:lp<ob.length:=gX h.ls;refine⟨λp hp=>?_,λp hp=>?_,aM h.ls l,λc hc hn=>⟨aM (h.row c hc hn).1 l,(h.row c hc hn).2⟩,h.inj⟩
 ·rcases hF p hp with h1|⟨j,h1,h2⟩
  ·exact aM (h.fx p h1) l
  ·rw[h1,kC];exact h2
 ·rcases hF p hp with h1|⟨j,h1,h2⟩
  ·exact h.ry p h1
  ·exact⟨CZ,λc hc hn=>by have:=gX (h.row c hc hn).1;omega⟩
end
def LR.sub{F F2:List (Nat×Ob)}{lp:Nat}{Q:List (Nat×List Int)}{ob:List Ob}(h:LR F lp Q ob)(hs:∀ p∈F2,p∈F):LR F2 lp Q ob:=⟨λp hp=>h.fx p (hs p hp),λp hp=>h.ry p (hs p hp),h.ls,h.row,h.inj⟩
def LR.cell{F:List (Nat×Ob)}{lp:Nat}{Q:List (Nat×List Int)}{ob:List Ob}(h:LR F lp Q ob){c:Nat}(hc:c<Q.length):(Q.getD c default).2≠[]->ob[(Q.getD c default).1]?=some (.arr 1 (ints (Q.getD c default).2)):=λhn=>(h.row c hc hn).1
def agY{os:List Ob}{i:Nat}{o:Ob}(h:os[i]?=some o):os.set i o=os:=by
 have h1:=(aT.1 h);obtain⟨h2,h3⟩:=h1;rw[<- h3,List.set_getElem_self]
def G8(t:List Int)(a:Nat)(dV:Int):∀ i,(lU t a dV i).length=t.length
 |0=>rfl
 |i+1=>by
  rw[lU];split
  ·rw[bH];exact G8 t a dV i
  ·exact G8 t a dV i
def G7(t:List Int)(a:Nat)(dV:Int)(ha:t.getD a 0≠dV):∀ i,(lU t a dV i).getD a 0=t.getD a 0
 |0=>rfl
 |i+1=>by
  rw[lU];split
  ·rename_i h;rw[BO];split
   ·rename_i e;obtain⟨e,_⟩:=e;have h2:=congrArg (λj=>(lU t a dV i).getD j 0) e;exact absurd ((G7 t a dV ha i).symm.trans (h2.symm.trans h)) ha
   ·exact G7 t a dV ha i
  ·exact G7 t a dV ha i
section
variable {m:aj}
def ahF{t:List Int×List (List Int)}{N:Nat}(h1:t.1.length=N)(h2:t.2.length=N)(p:Nat):(BH m t p).1.length=N/\(BH m t p).2.length=N:=by
 unfold BH;dsimp only;split
 ·exact⟨h1,h2⟩
 ·exact⟨by rw[G8];exact h1,by simp[h2]⟩
def G5(round:Nat):∀ k,(jY m round k).1.length=m.cls.length/\(jY m round k).2.length=m.cls.length
 |0=>⟨by simp[jY],by simp[jY]⟩
 |k+1=>ahF (G5 round k).1 (G5 round k).2 _
def He(round:Nat):∀ k,∀ c,((jY m round k).2.getD c default).length<=k/\∀ x∈(jY m round k).2.getD c default,0<=x/\(0<m.ae.length->x<m.ae.length)
 |0,c=>by
  have:(jY m round 0).2.getD c default=[]:=by
   show(aI m.cls.length []).getD c default=[];rw[az];cases hh:(aI m.cls.length ([]:List Int))[c]? with
   |none=>rfl
   |some q=>rw[Ft (ik hh)];rfl
  rw[this];simp
 |k+1,c=>by
  have ih:=He round k;rw[jY];generalize hp:(k+round)%m.ae.length=p;have cM:0<m.ae.length->p<m.ae.length:=λh=>by rw[<- hp];exact Nat.mod_lt _ h
  unfold BH;dsimp only;split
  ·exact⟨by have:=(ih c).1;omega,(ih c).2⟩
  ·have key:∀ l:List Int,l.length<=k->(∀ x∈l,0<=x/\(0<m.ae.length->x<m.ae.length))->(l++[(p:Int)]).length<=k+1/\∀ x∈l++[(p:Int)],0<=x/\(0<m.ae.length->x<m.ae.length):=λl h1 h2=>by
    refine⟨Jo,λx hx=>?_⟩;rcases List.mem_append.1 hx with hx|hx
    ·exact h2 x hx
    ·simp only[dI]at hx;subst hx;exact⟨CZ,λh=>by have:=cM h;omega⟩
   rw[vN];split
   ·exact key _ (ih _).1 (ih _).2
   ·rw[vN];split
    ·exact key _ (ih _).1 (ih _).2
    ·exact⟨by have:=(ih c).1;omega,(ih c).2⟩
end
def LR.lt{F:List (Nat×Ob)}{lp:Nat}{Q:List (Nat×List Int)}{ob:List Ob}(h:LR F lp Q ob){i:Nat}(hi:i∈nh lp Q):i<ob.length:=by
 rcases a8.1 hi with rfl|hi
 ·exact gX h.ls
 ·obtain⟨q,hq,rfl⟩:=b6.1 hi;obtain⟨h1,h2⟩:=xN.1 hq;rw[decide_eq_true_eq]at h2;obtain⟨c,hc,rfl⟩:=pW h1;have e:Q.getD c default=Q[c]:=by rw[az,bS hc];rfl
  have:=gX (h.row c hc (by rw[e];exact h2)).1;rwa [e]at this
def R1.pre{os ob:List Ob}{D:List (Nat×Nat)}{S:List (List Int)}(h:R1 os D S)(hp:∀ (i:Nat) o,os[i]?=some o->ob[i]?=some o):R1 ob D S :=
 ⟨h.len,λj hj=>⟨(h.row j hj).1,λh0=>hp _ _ ((h.row j hj).2 h0)⟩⟩
def WF.pre{m:aj}{can:List (List Bool)}{gi ai bi mi:Nat}{D E:List (Nat×Nat)}{W:WS}{os ob:List Ob}(h:WF m can gi ai bi mi D E W os)(hl:os.length<=ob.length)(hp:∀ (i:Nat) o,os[i]?=some o->ob[i]?=some o):WF m can gi ai bi mi D E W ob :=
 ⟨hp _ _ h.v,hp _ _ h.a,hp _ _ h.b,hp _ _ h.mp,h.rD.pre hp,h.rE.pre hp,h.nd,λi hi=>Nat.lt_of_lt_of_le (h.lt i hi) hl⟩
def ahG:Go.Shelf.Ren:=⟨fun|6=>73|15=>106|14=>105|28=>142|29=>143|20=>134|21=>135|22=>136|23=>137|24=>138|25=>139|26=>140|27=>141|46=>151|47=>152|48=>153|49=>154|50=>155|57=>157|n=>n,fun|22=>38|24=>94|25=>140|3=>3|39=>174|0=>0|53=>207|55=>209|4=>4|46=>201|45=>200|50=>58|5=>5|9=>9|66=>222|70=>226|76=>229|77=>230|n=>n,λn=>n⟩
def T5:SlLaysF0.n6 Tryz.prog ahG:={
mixed:=by kernel_rfl,
 f6:=⟨Tryz.f73.name,Fs,Tryz.func73.trans (congrArg some (by kernel_rfl))⟩,
 f14:=⟨Tryz.f105.name,Fs,Tryz.func105.trans (congrArg some (by kernel_rfl))⟩,
 f15:=Tryz.func106.trans (congrArg some (by kernel_rfl)),
 f20:=⟨Tryz.f134.name,Fs,Tryz.func134.trans (congrArg some (by kernel_rfl))⟩,
 f21:=⟨Tryz.f135.name,Fs,Tryz.func135.trans (congrArg some (by kernel_rfl))⟩,
 f22:=⟨Tryz.f136.name,Fs,Tryz.func136.trans (congrArg some (by kernel_rfl))⟩,
 f23:=⟨Tryz.f137.name,Fs,Tryz.func137.trans (congrArg some (by kernel_rfl))⟩,
 f24:=⟨Tryz.f138.name,Fs,Tryz.func138.trans (congrArg some (by kernel_rfl))⟩,
 f25:=⟨Tryz.f139.name,Fs,Tryz.func139.trans (congrArg some (by kernel_rfl))⟩,
 f26:=⟨Tryz.f140.name,Fs,Tryz.func140.trans (congrArg some (by kernel_rfl))⟩,
 f27:=⟨Tryz.f141.name,Fs,Tryz.func141.trans (congrArg some (by kernel_rfl))⟩,
 f28:=Tryz.func142.trans (congrArg some (by kernel_rfl)),
 f29:=Tryz.func143.trans (congrArg some (by kernel_rfl)),
 f46:=⟨Tryz.f151.name,Fs,Tryz.func151.trans (congrArg some (by kernel_rfl))⟩,
 f47:=Tryz.func152.trans (congrArg some (by kernel_rfl)),
 f48:=Tryz.func153.trans (congrArg some (by kernel_rfl)),
 f49:=⟨Tryz.f154.name,Fs,Tryz.func154.trans (congrArg some (by kernel_rfl))⟩,
 f50:=⟨Tryz.f155.name,Fs,Tryz.func155.trans (congrArg some (by kernel_rfl))⟩,
 f57:=⟨Tryz.f157.name,Fs,Tryz.func157.trans (congrArg some (by kernel_rfl))⟩,
 t0:=Tryz.underlying0,
 a0:=Tryz.isAgg0,
 z0:=Tryz.sizeOf0,
 v0:=Tryz.zeroValue0,
 t3:=Tryz.underlying3,
 a3:=Tryz.isAgg3,
 z3:=Tryz.sizeOf3,
 v3:=Tryz.zeroValue3,
 t4:=Tryz.underlying4,
 a4:=Tryz.isAgg4,
 z4:=Tryz.sizeOf4,
 v4:=Tryz.zeroValue4,
 t5:=Tryz.underlying5,
 a5:=Tryz.isAgg5,
 z5:=Tryz.sizeOf5,
 v5:=Tryz.zeroValue5,
 t9:=Tryz.underlying9,
 a9:=Tryz.isAgg9,
 z9:=Tryz.sizeOf9,
 v9:=Tryz.zeroValue9,
 t22:=Tryz.underlying38,
 a22:=Tryz.isAgg38,
 z22:=Tryz.sizeOf38,
 v22:=Tryz.zeroValue38,
 t25:=Tryz.underlying140,
 a25:=Tryz.isAgg140,
 z25:=Tryz.sizeOf140,
 v25:=Tryz.zeroValue140,
 t39:=Tryz.underlying174,
 a39:=Tryz.isAgg174,
 z39:=Tryz.sizeOf174,
 v39:=Tryz.zeroValue174,
 t45:=Tryz.underlying200,
 a45:=Tryz.isAgg200,
 z45:=Tryz.sizeOf200,
 v45:=Tryz.zeroValue200,
 t46:=Tryz.underlying201,
 a46:=Tryz.isAgg201,
 z46:=Tryz.sizeOf201,
 v46:=Tryz.zeroValue201,
 t50:=Tryz.underlying58,
 a50:=Tryz.isAgg58,
 z50:=Tryz.sizeOf58,
 v50:=Tryz.zeroValue58,
 t53:=Tryz.underlying207,
 a53:=Tryz.isAgg207,
 z53:=Tryz.sizeOf207,
 v53:=Tryz.zeroValue207,
 t55:=Tryz.underlying209,
 a55:=Tryz.isAgg209,
 z55:=Tryz.sizeOf209,
 v55:=Tryz.zeroValue209,
 t66:=Tryz.underlying222,
 a66:=Tryz.isAgg222,
 z66:=Tryz.sizeOf222,
 v66:=Tryz.zeroValue222,
 t70:=Tryz.underlying226,
 a70:=Tryz.isAgg226,
 z70:=Tryz.sizeOf226,
 v70:=Tryz.zeroValue226,
 t76:=Tryz.underlying229,
 a76:=Tryz.isAgg229,
 z76:=Tryz.sizeOf229,
 v76:=Tryz.zeroValue229,
 t77:=Tryz.underlying230,
 a77:=Tryz.isAgg230,
 z77:=Tryz.sizeOf230,
 v77:=Tryz.zeroValue230 }
def kX(q:List Int×Int):Mv:=⟨q.1.getD 0 0,q.1.getD 1 0,q.1.getD 2 0,q.2⟩
def lv(am:List (List Int×Int))(seen:List Nat):List Mv:=(seen.filter λj=>decide ((am.getD j default).2≠0)).map λj=>kX (am.getD j default)
def eP(am:List (List Int×Int)):List Mv:=(am.filter λq=>decide (q.2≠0)).map kX
def agB(am:List (List Int×Int))(seen:List Nat)(j:Nat):lv am (seen++[j])=if(am.getD j default).2≠0 then lv am seen++[kX (am.getD j default)] else lv am seen:=by
 unfold lv;rw[List.filter_append,List.map_append];split
 ·rename_i h;rw[List.filter_cons_of_pos (by simpa using h)];rfl
 ·rename_i h;rw[List.filter_cons_of_neg (by simpa using h)];simp
def Uc(am:List (List Int×Int))(seen:List Nat):(lv am seen).length<=seen.length:=by
 unfold lv;rw[List.length_map];exact List.length_filter_le _ _
def ahH(am:List (List Int×Int)):lv am (aY am.length)=eP am:=by
 have e:am=(aY am.length).map λj=>am.getD j default:=by
  apply List.ext_getElem?;intro k;rw[bY];rcases Nat.lt_or_ge k am.length with h|h
  ·rw[List.getElem?_range h,Option.map_some,az,bS h];rfl
  ·rw[fY h,fY (by simpa using h)];rfl
 unfold lv eP
 conv=>rhs;rw[e]
 rw[List.filter_map,List.map_map];rfl
def Ub{seen:List Nat}{n:Nat}(hn:seen.Nodup)(hl:∀ j∈seen,j<n)(ha:∀ j<n,j∈seen):seen.Perm (aY n) :=
 (List.perm_ext_iff_of_nodup hn List.nodup_range).2 λa=>⟨λh=>mN.2 (hl a h),λh=>ha a (mN.1 h)⟩
def agy{am:List (List Int×Int)}{seen:List Nat}(hn:seen.Nodup)(hl:∀ j∈seen,j<am.length)(ha:∀ j<am.length,j∈seen):(lv am seen).Perm (eP am):=by
 rw[<- ahH];exact((Ub hn hl ha).filter _).map _
def w9(id:Nat)(X:List Mv):AV:=if X=[] then .lit (.slice none 0 0) else .ref id 4 0 X.length
def vH(id:Nat)(X:List Mv)(os:List Ob):List Ob:=if X=[] then os else os.set id .gone
def agF(id:Nat)(X:List Mv)(os:List Ob):(vH id X os).length=os.length:=by unfold vH;split<;>simp
def ahI{id:Nat}{X:List Mv}{os:List Ob}(h:X≠[]->id<os.length)(l:List Ob):vH id X (os++l)=vH id X os++l:=by
 unfold vH;split
 ·rfl
 ·rename_i hx;rw[List.set_append_left _ _ (h hx)]
def agH{id:Nat}{X:List Mv}{os:List Ob}{k:Nat}{o:Ob}(h:os[k]?=some o)(hk:X≠[]->k≠id):(vH id X os)[k]?=some o:=by
 unfold vH;split
 ·exact h
 ·rename_i hx;exact eY h (Ne.symm (hk hx))
def agE{id:Nat}{X:List Mv}{os:List Ob}(h:X≠[]->os[id]?=some (.arr 4 (rowsOf aP X)))(l:List Ob)(e:Nat->AV):lj ⟨e,os++l⟩ 4 (w9 id X)=some (rowsOf aP X,⟨e,vH id X os++l⟩):=by
 rw[<- ahI (λhx=>gX (h hx))];unfold w9 vH;by_cases hx:X=[]
 ·rw[if_pos hx,if_pos hx,hx];rfl
 ·rw[if_neg hx,if_neg hx];unfold lj;simp only[aM (h hx),and_self,if_true,AP];rw[c9 (by rw[cU];exact aU _)]
def agG(id:Nat)(X:List Mv)(x:Mv):AV.ref id 4 0 (X.length+1)=w9 id (X++[x]):=by
 unfold w9;rw[if_neg Fl];simp
def sS(a b:Mv):Int:=qJ [kh a.pair b.pair,kh a.side b.side,kh a.opt b.opt]
def ahJ(a b:Mv):Holds Tryz.prog 74 [.agg (aP a),.agg (aP b)] [] (OJ (sS a b)) []:=by
 unfold sS;have h1:=D6 a.pair b.pair;have h2:=D6 a.side b.side;have h3:=D6 a.opt b.opt;generalize kh a.pair b.pair=c1 at *;generalize kh a.side b.side=c2 at *;generalize kh a.opt b.opt=c3 at *;have h4:=LU [c1,c2,c3] Fl;refine Holds.aQ 22 0 [.tmp 4] Tryz.func74 ?_;((try revert hK K);(repeat'(first|refine Vd @aP.eq_1 (X3 h1 h2 h3) ?_|(refine V2 @aP.eq_1 ?_ ?_<;>try with_reducible intro hb)|(refine Xi ?_ ?_<;>try intro ht)|refine VD ?_ ?_|exact Xx|fail))<;>try with_reducible intro K hK)
 refine vh [] h4 Fs trivial ⟨cC.cJ (rows:=ints [c1,c2,c3]) rfl (x7 _) rfl Fl (Bf _),trivial⟩ rfl Fl ?_;((try revert hK K);(repeat'(first|refine Vb X0 ?_|(refine V2 X0 ?_ ?_<;>try with_reducible intro hb)|(refine Xi ?_ ?_<;>try intro ht)|refine VD ?_ ?_|exact Xx|fail))<;>try with_reducible intro K hK)
 exact aW rfl rfl
def UZ(w:World)(Z:Nat->Prop)(blk:gd)(os:List Ob)(l:List Value):aw os w Z blk (.agg (l.map .lit)) (.agg l.toArray) :=
 .agg _ _ Fl λj x hj=>by
  simp only[bY,Option.map_eq_some_iff]at hj;obtain⟨v,hv,rfl⟩:=hj;have:l.toArray.getD j Go.undef=v:=by simp[Array.getD_eq_getD_getElem?,hv]
  rw[this];exact .lit _
def grown{P:Program}{f:FuncId}{args:List AV}{res:Value}(h:Am.Holds P f args [] (.lit res) [])(argv:Array Value)(W:World)(aO:argv.size=args.length)(ha:∀ j x,args[j]?=some x->aw [] W (λ_=>False) (λ_=>none) x (argv.getD j Go.undef)):
  Calls P f argv W (λe w'=>e=.returned res/\∃ q gu,w'=Sort.grow (W.drewN q) gu):=by
 refine(h.2 ⟨W,argv,λ_=>False,λ_=>none⟩ aO ⟨λk=>?_,λi o hi=>by simp at hi,λi j b o c o' c' ⟨x,hx,_⟩=>by simp at hx,λb _ h=>h,λb h=>h.elim,λg=>.undef _⟩).mono ?_
 ·show aw [] W _ _ (args.getD k .undef) _;rcases hk:args[k]? with _|x
  ·rw[az,hk];exact .undef _
  ·rw[az,hk];exact ha k x hk
 rintro e w'⟨cv,aB,rfl,rfl,h3,h4,h5⟩;have h6:=h4.ar 0;have h7:aB.tmps.getD 0 Go.undef=cv:=by rw[h3];rfl
 rw[h7]at h6;have:cv=res:=aw.cz h6;subst this;refine⟨rfl,aB.w.drawn-W.drawn,aB.w.heap.extract W.heap.size,?_⟩;have hh:aB.w.heap=W.heap++aB.w.heap.extract W.heap.size:=by
  apply Array.ext_getElem?;intro k;rw[Array.getElem?_append];split
  ·rename_i hk;exact h5.dS k hk (λ⟨i,o,c,⟨x,hx,_⟩,_⟩=>by simp at hx)
  ·rename_i hk;have:=h5.size;simp only[Array.getElem?_extract];by_cases fK:k<aB.w.heap.size
   ·rw[if_pos (by simp at *;omega)];congr 1;simp at *;omega
   ·rw[if_neg (by simp at *;omega)];simp at *;omega
 have e1:=h5.kM;have e2:=h5.tape;have e3:=h5.output;have e4:=h5.drawn;cases hw:aB.w with
 |mk hp tp dr os ou =>
  rw[hw]at hh e1 e2 e3 e4;simp only at hh e1 e2 e3 e4;have e5:dr=W.drawn+(dr-W.drawn):=CZ;show _=World.mk _ _ _ _ _;rw[World.mk.injEq];exact⟨hh,e2,e5,e1,e3⟩
instance:Inhabited Mv:=⟨⟨0,0,0,0⟩⟩
def qC(x y:Mv):Go.Proofs.ltOf sS x y=true↔x.pair<y.pair\/(x.pair=y.pair/\(x.side<y.side\/(x.side=y.side/\x.opt<y.opt))):=by
 unfold Go.Proofs.ltOf sS;rw[decide_eq_true_eq];unfold kh;simp only[qJ];repeat' split
 all_goals first|omega|skip
 all_goals simp_all
 all_goals omega
def agn:Sort.SWO (Go.Proofs.ltOf sS) where
 irrefl x:=by
  rw[<- AU,qC];omega
 trans x y z:=by rw[qC,qC,qC];omega
 ntrans x y z:=by rw[<- AU,<- AU,<- AU,qC,qC,qC];omega
def oD(x:Mv):List Value:=[.int .i64 x.pair,.int .i64 x.side,.int .i64 x.opt,.int .i64 x.amt]
def T3(x:Mv):aP x=(oD x).map .lit:=rfl
def ago(blk off size:Nat)(w:World):Go.Proofs.CmpLays Tryz.prog 74 #[] oD 4 sS blk off size w:=by
 intro m os dk _ x y;rw[Array.append_empty];refine grown (ahJ x y) #[.agg (oD x).toArray,.agg (oD y).toArray] _ rfl λj v hj=>?_;rcases j with _|_|j
 ·cases hj;exact UZ _ _ _ _ (oD x)
 ·cases hj;exact UZ _ _ _ _ (oD y)
 ·cases hj
end T

