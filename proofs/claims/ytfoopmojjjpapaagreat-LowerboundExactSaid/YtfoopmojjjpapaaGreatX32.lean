import Derived.Test.YtfoopmojjjpapaaGreatX31
import Derived.Shelf.SlSortCmp.WholeK
set_option linter.all false
set_option maxHeartbeats 0
set_option maxRecDepth 20000
open Nat renaming lt_or_ge→du,le_refl→aX
open List renaming getD_eq_getElem?_getD→ax,getElem?_eq_getElem→bq,map_append→dH,mem_append→cT,length_set→bw,cons_append→ek,map_cons→fP,mem_cons_of_mem→dw,mem_cons_self→wx,getElem?_set→bP,getElem?_eq_some_iff→aR,getElem?_map→bV,getElem?_set_ne→fD,drop_zero→y0,take_of_length_le→cZ,replicate→aO,eq_of_mem_replicate→E2,mem_of_getElem?→gY,mem_map→bS,getElem?_eq_none→fl,mem_filter→y9,mem_singleton→c8,mem_cons→bm,getElem_of_mem→kX,range→bk,mem_range→nv,drop→eV
open Option renaming bind_some→r8
open Bool renaming not_eq_true→tV
open Go Go.Am Go.Proofs
namespace T
def nT(l:List Bool):Nat:=l.count true
def Ni(l:List Bool):nT l<=l.length:=List.count_le_length
def akR{l:List Bool}{c:Nat}(hc:c<l.length)(h:l.getD c false=false):nT l<l.length:=by
 rcases du (nT l) l.length with h1|h1
 ·exact h1
 ·exfalso;have h2:l.count true=l.length:=Nat.le_antisymm List.count_le_length h1;have h3:=List.count_eq_length.1 h2 (l.getD c false) (aE hc);rw[h]at h3;cases h3
def akS{l:List Bool}{c:Nat}(hc:c<l.length)(h:l.getD c false=false):nT (l.set c true)=nT l+1:=by
 unfold nT;rw[List.count_set hc];have h2:l[c]=false:=by rw[ax,bq hc,Option.getD_some]at h;exact h
 simp[h2]
structure UO(m:ah)(B:Int)(n:Nat)(st Cu:WS×List Bool):Prop where
 len:Cu.2.length=m.cls.length
 sh:mB m Cu.1
 wb:WB (B+618475290624*(nT Cu.2:Nat)-618475290624*(n:Nat)) Cu.1
 up:nT st.2+n<=nT Cu.2
 mono:∀ j,st.2.getD j false=true->Cu.2.getD j false=true
structure UF(F gi si sa jY wi jZ:Nat)(cL:List (List Int))(seen:List Bool)(os:List Ob):Prop where
 s:os[si]?=some (.var [.ref sa 1 0 seen.length])
 a:os[sa]?=some (.arr 1 (a8 seen))
 b:os[jY]?=some (.var [.tree 1 (eW cL)])
 w:os[wi]?=some (.var [.ptr gi 0 0])
 u:os[jZ]?=some (.var [.fn F [.ptr si 0 0,.ptr jY 0 0,.ptr wi 0 0,.ptr jZ 0 0]])
structure UN(gi ai bi mi:Nat)(D E:List (Nat×Nat))(si sa jY wi jZ:Nat):Prop where
 out:∀ i,i=si\/i=sa\/i=jY\/i=wi\/i=jZ->i≠mi/\i ∉ (D++E).map (·.1)
 sa:sa≠gi/\sa≠ai/\sa≠bi/\sa≠si/\sa≠jY/\sa≠wi/\sa≠jZ
section
variable {m:ah} {can:List (List Bool)} {gi ai bi mi:Nat} {D E:List (Nat×Nat)} {W:WS} {os ob:List Ob} {F si sa jY wi jZ:Nat} {cL:List (List Int)} {seen:List Bool}
def WF.other(h:WF m can gi ai bi mi D E W os){i:Nat}(h1:i≠gi/\i≠ai/\i≠bi/\i≠mi)(h2:i ∉ (D++E).map (·.1))(y:Ob):WF m can gi ai bi mi D E W (os.set i y):=by
 rw[dH,cT,not_or]at h2;exact⟨eU h.v h1.1,eU h.a h1.2.1,eU h.b h1.2.2.1,eU h.mp h1.2.2.2,h.rD.other h2.1,h.rE.other h2.2,h.nd,λi hi=>by rw[bw];exact h.lt i hi⟩
def UF.kp(h:UF F gi si sa jY wi jZ cL seen os)(hn:UN gi ai bi mi D E si sa jY wi jZ)(hk:Kp mi D E os ob):UF F gi si sa jY wi jZ cL seen ob:=by
 have k:∀ i,i=si\/i=sa\/i=jY\/i=wi\/i=jZ->∀ o,os[i]?=some o->ob[i]?=some o:=λi hi o ho=>hk.same i o (hn.out i hi).1 (hn.out i hi).2 ho;exact⟨k _ IM _ h.s,k _ IM _ h.a,k _ IM _ h.b,k _ IM _ h.w,k _ IM _ h.u⟩
def UF.app(h:UF F gi si sa jY wi jZ cL seen os)(l:List Ob):UF F gi si sa jY wi jZ cL seen (os++l):=⟨aK h.s l,aK h.a l,aK h.b l,aK h.w l,aK h.u l⟩
def UF.set(h:UF F gi si sa jY wi jZ cL seen os)(hn:UN gi ai bi mi D E si sa jY wi jZ){s2:List Bool}(hl:s2.length=seen.length):UF F gi si sa jY wi jZ cL s2 (os.set sa (.arr 1 (a8 s2))):=by
 obtain⟨_,_,_,h4,h5,h6,h7⟩:=hn.sa;exact⟨by rw[hl];exact eU h.s h4,lS h.a,eU h.b h5,eU h.w h6,eU h.u h7⟩
def Kp.wide{mi:Nat}{D E:List (Nat×Nat)}{os ob:List Ob}(h:Kp mi D E os ob)(q:Nat×Nat):Kp mi (q::D) E os ob :=
 ⟨h.len,λi o h1 h2 h3=>h.same i o h1 (λhh=>h2 (by rw[ek,fP];exact dw _ hh)) h3⟩
def Kp.put{mi:Nat}{D E:List (Nat×Nat)}{os o1:List Ob}(h:Kp mi ((sa,0)::D) E os o1)(y:Ob):Kp mi ((sa,0)::D) E os (o1.set sa y) :=
 ⟨by rw[bw];exact h.len,λi o h1 h2 h3=>eU (h.same i o h1 h2 h3) (λe=>h2 (by rw[ek,fP];exact e▸wx ..))⟩
end
def uT(m:ah)(can:List (List Bool))(up:WS×List Bool->Nat->WS×List Bool)(st:WS×List Bool)(p:Nat):Nat->WS×List Bool
 |0=>st
 |s+1=>AA m can up (uT m can up st p s) p s
def vZ(m:ah)(can:List (List Bool))(up:WS×List Bool->Nat->WS×List Bool)(st:WS×List Bool)(l:List Int):WS×List Bool:=l.foldl (λst p=>uT m can up st p.toNat 2) st
def akT(m:ah)(can:List (List Bool))(up:WS×List Bool->Nat->WS×List Bool)(st:WS×List Bool){l:List Int}{k:Nat}(h:k<l.length):vZ m can up st (l.take (k+1))=uT m can up (vZ m can up st (l.take k)) (l.getD k default).toNat 2:=by
 rw[ei h];unfold vZ;rw[List.foldl_append];rfl
def akU(m:ah)(can:List (List Bool))(cL:List (List Int))(f:Nat)(st:WS×List Bool)(c:Nat):iS m can cL (f+1) st c=vZ m can (iS m can cL f) (st.1,st.2.set c true) (cL.getD c default):=rfl
def kT(q:Nat×List Int):List AV:=if q.2=[] then [.lit (.slice none 0 0)] else [.ref q.1 1 0 q.2.length]
def Nb{α:Type}[Inhabited α](L:List α)(c k:Nat)(x:α)(hc:c<L.length):(L.set c x).getD k default=if k=c then x else L.getD k default:=by
 rw[ax,bP];by_cases h:k=c
 ·subst h;simp[hc]
 ·rw[if_neg (λe=>h e.symm),if_neg h,ax]
def gX{os:List Ob}{i:Nat}{o:Ob}(h:os[i]?=some o):i<os.length:=(aR.1 h).1
def Ig{Q:List (Nat×List Int)}{c:Nat}(hc:c<Q.length):(rowsOf kT Q)[c]?=some (kT (Q.getD c default)):=by
 unfold rowsOf;rw[bV,ax,bq hc];rfl
def tH(q:Nat×List Int):AV:=if q.2=[] then .lit (.slice none 0 0) else .ref q.1 1 0 q.2.length
def pV(q:Nat×List Int)(os:List Ob):List Ob:=if q.2=[] then os else os.set q.1 .gone
def Na(q:Nat×List Int):kT q=[tH q]:=by unfold kT tH;split<;>rfl
def aa6(q:Nat×List Int)(os:List Ob):(pV q os).length=os.length:=by unfold pV;split<;>simp
def AB{q:Nat×List Int}{os:List Ob}{k:Nat}{o:Ob}(h:os[k]?=some o)(hk:q.2≠[]->k≠q.1):(pV q os)[k]?=some o:=by
 unfold pV;split
 ·exact h
 ·rename_i hq;rw[fD (Ne.symm (hk hq))];exact h
def akV{q:Nat×List Int}{os:List Ob}(h:q.2≠[]->os[q.1]?=some (.arr 1 (ints q.2)))(e:Nat->AV):kZ ⟨e,os⟩ 1 (tH q)=some (ints q.2,⟨e,pV q os⟩):=by
 unfold tH pV;by_cases hq:q.2=[]
 ·rw[if_pos hq,if_pos hq,hq];rfl
 ·rw[if_neg hq,if_neg hq];unfold kZ;simp only[h hq,and_self,if_true,y0];rw[cZ (by rw[vc];exact aX _)]
def aa1{ps:List Nat}{q:Nat×List Int}(h:q.2≠[]->q.1 ∉ ps):Ar ps (tH q)=True:=by
 unfold tH;split
 ·exact ML _
 ·rename_i hq;rw[MN];exact eq_true (h hq)
def akW{q:Nat×List Int}{os:List Ob}(h:q.2≠[]->q.1<os.length)(l:List Ob):pV q (os++l)=pV q os++l:=by
 unfold pV;split
 ·rfl
 ·rename_i hq;rw[List.set_append_left _ _ (h hq)]
def aa5{q:Nat×List Int}{os:List Ob}(h:q.2≠[]->os[q.1]?=some (.arr 1 (ints q.2)))(l:List Ob)(e:Nat->AV):kZ ⟨e,os++l⟩ 1 (tH q)=some (ints q.2,⟨e,pV q os++l⟩):=by
 rw[akV (λhq=>aK (h hq) l),akW (λhq=>gX (h hq))]
def aa7(Q:List (Nat×List Int))(c pa:Nat)(l:List Int)(n:Int):(rowsOf kT Q).set c [.ref pa 1 0 (l.length+1)]=rowsOf kT (Q.set c (pa,l++[n])):=by
 unfold rowsOf;rw[List.map_set];congr 1;unfold kT;rw[if_neg IM];simp
def yP{X:List Ob}{n:Nat}(h:X.length=n)(l:List Ob)(k:Nat):(X++l)[n+k]?=l[k]?:=by subst h;exact kN X l k
def Ii{X:List Ob}{n:Nat}(h:X.length=n)(x:Ob)(l:List Ob):(X++x::l)[n]?=some x:=by subst h;exact ka X x l
def M8{Q:List (Nat×List Int)}{a:Nat}(h:a<Q.length):(Q.map (·.2)).getD a default=(Q.getD a default).2:=by
 rw[ax,bV,ax,bq h];rfl
structure LR(F:List (Nat×Ob))(lp:Nat)(Q:List (Nat×List Int))(ob:List Ob):Prop where
 fx:∀ p∈F,ob[p.1]?=some p.2
 rX:∀ p∈F,p.1≠lp/\∀ c,c<Q.length->(Q.getD c default).2≠[]->p.1≠(Q.getD c default).1
 ls:ob[lp]?=some (.arr 1 (rowsOf kT Q))
 row:∀ c,c<Q.length->(Q.getD c default).2≠[]->ob[(Q.getD c default).1]?=some (.arr 1 (ints (Q.getD c default).2))/\(Q.getD c default).1≠lp
 inj:∀ c c',c<Q.length->c'<Q.length->(Q.getD c default).2≠[]->(Q.getD c' default).2≠[]->(Q.getD c default).1=(Q.getD c' default).1->c=c'
section
variable {F:List (Nat×Ob)} {lp:Nat} {Q:List (Nat×List Int)} {ob l:List Ob}
def LR.app(h:LR F lp Q ob)(l:List Ob):LR F lp Q (ob++l) :=
 ⟨λp hp=>aK (h.fx p hp) l,h.rX,aK h.ls l,λc hc hn=>⟨aK (h.row c hc hn).1 l,(h.row c hc hn).2⟩,h.inj⟩
def LR.aki(h:LR F lp Q ob){a b:Nat}(ha:a<Q.length)(hb:b<Q.length)(eX:a≠b){n:Int}{fin:List Ob}{pa pb:Nat}(hpa:ob.length<=pa)(dp:ob.length<=pb)(cB:pa≠pb)(hk:∀ k o,ob[k]?=some o->k≠lp->((Q.getD a default).2≠[]->k≠(Q.getD a default).1)->((Q.getD b default).2≠[]->k≠(Q.getD b default).1)->fin[k]?=some o)(hl:fin[lp]?=some (.arr 1 (rowsOf kT ((Q.set a (pa,(Q.getD a default).2++[n])).set b (pb,(Q.getD b default).2++[n])))))(h1:fin[pa]?=some (.arr 1 (ints ((Q.getD a default).2++[n]))))(h2:fin[pb]?=some (.arr 1 (ints ((Q.getD b default).2++[n])))):
  LR F lp ((Q.set a (pa,(Q.getD a default).2++[n])).set b (pb,(Q.getD b default).2++[n])) fin:=by
 have hlp:lp<ob.length:=gX h.ls;have hg:∀ k,((Q.set a (pa,(Q.getD a default).2++[n])).set b (pb,(Q.getD b default).2++[n])).getD k default=if k=b then(pb,(Q.getD b default).2++[n]) else if k=a then(pa,(Q.getD a default).2++[n]) else Q.getD k default:=λk=>by
  rw[Nb _ _ _ _ (by simpa using hb)];split
  ·rfl
  ·rw[Nb _ _ _ _ ha]
 have hold:∀ c,c<Q.length->(Q.getD c default).2≠[]->(Q.getD c default).1<ob.length:=λc hc hn=>gX (h.row c hc hn).1;refine⟨λp hp=>hk _ _ (h.fx p hp) (h.rX p hp).1 (λhn=>(h.rX p hp).2 a ha hn) (λhn=>(h.rX p hp).2 b hb hn),λp hp=>⟨(h.rX p hp).1,λk ed hn=>?_⟩,hl,λk ed hn=>?_,λk k' ed Nr hn rA e=>?_⟩
 ·have Es:=gX (h.fx p hp);rw[bw,bw]at ed;rw[hg]at hn ⊢;split at hn
  ·rename_i e;rw[if_pos e];dsimp only;omega
  ·rename_i e;rw[if_neg e];split at hn
   ·rename_i e2;rw[if_pos e2];dsimp only;omega
   ·rename_i e2;rw[if_neg e2];exact(h.rX p hp).2 k ed hn
 ·rw[bw,bw]at ed;rw[hg]at hn ⊢;split at hn
  ·rename_i e;rw[if_pos e];exact⟨h2,NZ⟩
  ·rename_i e;rw[if_neg e];split at hn
   ·rename_i e2;rw[if_pos e2];exact⟨h1,NZ⟩
   ·rename_i e2;rw[if_neg e2];have hr:=h.row k ed hn;exact⟨hk _ _ hr.1 hr.2 (λDB e3=>e2 (h.inj k a ed ha hn DB e3)) (λdJ e3=>e (h.inj k b ed hb hn dJ e3)),hr.2⟩
 ·rw[bw,bw]at ed Nr;rw[hg]at hn e;rw[hg k']at rA e;have o1:=hold k ed;have o2:=hold k' Nr;have i1:=h.inj k k' ed Nr;by_cases x1:k=b<;>by_cases x2:k'=b
  ·exact x1.trans x2.symm
  ·rw[if_pos x1,if_neg x2]at e;rw[if_neg x2]at rA;by_cases x3:k'=a
   ·rw[if_pos x3]at e;dsimp only at e;omega
   ·rw[if_neg x3]at e rA;have:=o2 rA;dsimp only at e;omega
  ·rw[if_neg x1,if_pos x2]at e;rw[if_neg x1]at hn;by_cases x3:k=a
   ·rw[if_pos x3]at e;dsimp only at e;omega
   ·rw[if_neg x3]at e hn;have:=o1 hn;dsimp only at e;omega
  ·rw[if_neg x1,if_neg x2]at e;rw[if_neg x1]at hn;rw[if_neg x2]at rA;by_cases x3:k=a<;>by_cases x4:k'=a
   ·exact x3.trans x4.symm
   ·rw[if_pos x3,if_neg x4]at e;rw[if_neg x4]at rA;have:=o2 rA;dsimp only at e;omega
   ·rw[if_neg x3,if_pos x4]at e;rw[if_neg x3]at hn;have:=o1 hn;dsimp only at e;omega
   ·rw[if_neg x3,if_neg x4]at e;rw[if_neg x3]at hn;rw[if_neg x4]at rA;exact i1 hn rA e
def LR.start{N:Nat}(hF:∀ p∈F,ob[p.1]?=some p.2):LR F ob.length (aO N (0,[])) (ob++[.arr 1 (aO N [.lit (.slice none 0 0)])]):=by
 have hz:∀ c,((aO N ((0:Nat),([]:List Int))).getD c default).2=[]:=λc=>by
  rw[ax];cases hh:(aO N ((0:Nat),([]:List Int)))[c]? with
  |none=>rfl
  |some q=>rw[E2 (gY hh)];rfl
 refine⟨λp hp=>aK (hF p hp) _,λp hp=>⟨by have:=gX (hF p hp);omega,λc _ hn=>absurd (hz c) hn⟩,?_,λc _ hn=>absurd (hz c) hn,λc c' _ _ hn=>absurd (hz c) hn⟩;rw[show rowsOf kT (aO N ((0:Nat),([]:List Int)))=aO N [.lit (.slice none 0 0)] by unfold rowsOf;rw[List.map_replicate];rfl];exact ka _ _ _
end
def uS(S:List Nat)(ob:List Ob):List Ob:=ob.mapIdx λi o=>if i∈S then .gone else o
def aa'(S:List Nat)(ob:List Ob):(uS S ob).length=ob.length:=by simp[uS]
def Nc{S:List Nat}{ob:List Ob}{i:Nat}{o:Ob}(h:ob[i]?=some o):(uS S ob)[i]?=some (if i∈S then .gone else o):=by
 unfold uS;rw[List.getElem?_mapIdx,h];rfl
def Nf{S:List Nat}{ob:List Ob}{i:Nat}{o:Ob}(h:ob[i]?=some o)(hi:i ∉ S):(uS S ob)[i]?=some o:=by rw[Nc h,if_neg hi]
def np(lp:Nat)(Q:List (Nat×List Int)):List Nat:=lp::(Q.filter λq=>decide (q.2≠[])).map (·.1)
section
variable {F:List (Nat×Ob)} {lp:Nat} {Q:List (Nat×List Int)} {ob:List Ob}
def akx(vV:ob[lp]?=some (.arr 1 (rowsOf kT Q))){X:Nat->Prop}(bE:∀ c,c<Q.length->(Q.getD c default).2≠[]->ob[(Q.getD c default).1]?=some (.arr 1 (ints (Q.getD c default).2))/\X c)(e:Nat->AV):dF ⟨e,ob⟩ (λi=>i ∉ np lp Q) (.tree 1 (eW (Q.map (·.2)))) (.ref lp 1 0 Q.length):=by
 have Cl:∀ row∈eW (Q.map (·.2)),row.length=1:=λrow hr=>by
  unfold eW at hr;obtain⟨_,_,rfl⟩:=bS.1 hr;rfl
 refine .ref lp 1 0 Q.length _ _ (λr c=>(cellAt (rowsOf kT Q) r c).getD .undef) vV (λhn=>hn (wx ..)) (by simp[eW,rowsOf]) Cl (λr c v hv=>?_) (λr c v hv=>?_);all_goals
  unfold cellAt at hv;by_cases hr:r<Q.length;rotate_left
  ·rw[fl (by simp[eW];omega)]at hv;simp at hv
  have e1:(eW (Q.map (·.2)))[r]?=some [.tree 1 (ints (Q.getD r default).2)]:=by
   unfold eW;rw[bV,bV,bq hr,ax,bq hr];rfl
  rw[e1,r8]at hv;have mj:c=0:=by
   have:=(aR.1 hv).1;simp at this;exact this
  subst mj;simp only[List.getElem?_cons_zero,Option.some.injEq]at hv;subst hv;have e2:=Ig hr
 ·rw[y0,cZ (by simp[rowsOf])];unfold cellAt;rw[e2,r8];unfold kT;split<;>rfl
 ·unfold cellAt;rw[e2,r8];by_cases hq:(Q.getD r default).2=[]
  ·unfold kT;rw[if_pos hq,hq];exact .nil 1
  ·have e3:(kT (Q.getD r default))[0]?.getD .undef=.ref (Q.getD r default).1 1 0 (Q.getD r default).2.length:=by unfold kT;rw[if_neg hq];rfl
   rw[e3];have hm:(Q.getD r default).1∈np lp Q:=by
    refine dw _ (bS.2 ⟨Q.getD r default,y9.2 ⟨aE hr,by rw[decide_eq_true_eq];exact hq⟩,rfl⟩)
   refine dF.flat (bE r hr hq).1 (vd _) (by rw[vc]) (λhn=>hn hm) λrow abl v hv=>?_;unfold ints at abl;obtain⟨x,_,rfl⟩:=bS.1 abl;rw[c8]at hv;exact .inl ⟨_,hv⟩
def LR.at_(h:LR F lp Q ob){i:Nat}(hi:i∈np lp Q):∀ p∈F,p.1≠i:=λp hp=>by
 rcases bm.1 hi with rfl|hi
 ·exact(h.rX p hp).1
 ·obtain⟨q,hq,rfl⟩:=bS.1 hi;obtain⟨h1,h2⟩:=y9.1 hq;rw[decide_eq_true_eq]at h2;obtain⟨c,hc,rfl⟩:=kX h1;have e:Q.getD c default=Q[c]:=by rw[ax,bq hc];rfl
  have:=(h.rX p hp).2 c hc (by rw[e];exact h2);rwa [e]at this
def LR.kill(h:LR F lp Q ob):∀ p∈F,(uS (np lp Q) ob)[p.1]?=some p.2:=λp hp=>Nf (h.fx p hp) λhi=>h.at_ hi p hp rfl
end
def nU(os:List Ob):List (Nat×Ob):=os.zipIdx.map λq=>(q.2,q.1)
def yS{os:List Ob}{p:Nat×Ob}:p∈nU os↔os[p.1]?=some p.2:=by
 unfold nU;rw[bS];constructor
 ·rintro⟨q,hq,rfl⟩;exact List.mem_zipIdx_iff_getElem?.1 hq
 ·intro h;exact⟨(p.2,p.1),List.mem_zipIdx_iff_getElem?.2 h,rfl⟩
def LR.head{F0:List (Nat×Ob)}{lp:Nat}{Q:List (Nat×List Int)}{ob:List Ob}{i:Nat}{x y:Ob}(h:LR ((i,x)::F0) lp Q ob)(hd:∀ p∈F0,p.1≠i):LR ((i,y)::F0) lp Q (ob.set i y):=by
 obtain⟨d1,d2⟩:=h.rX (i,x) (wx ..);refine⟨λp hp=>?_,λp hp=>?_,eU h.ls d1,λc hc hn=>⟨eU (h.row c hc hn).1 (d2 c hc hn),(h.row c hc hn).2⟩,h.inj⟩
 ·rcases bm.1 hp with rfl|hp
  ·exact lS (h.fx (i,x) (wx ..))
  ·exact eU (h.fx p (dw _ hp)) (Ne.symm (hd p hp))
 ·rcases bm.1 hp with rfl|hp
  ·exact⟨d1,d2⟩
  ·exact h.rX p (dw _ hp)
section
variable {F F':List (Nat×Ob)} {lp:Nat} {Q:List (Nat×List Int)} {ob l:List Ob}
def LR.more(h:LR F lp Q ob)(hF:∀ p∈F',p∈F\/∃ j,p.1=ob.length+j/\l[j]?=some p.2):LR F' lp Q (ob++l):=by
 have hlp:lp<ob.length:=gX h.ls;refine⟨λp hp=>?_,λp hp=>?_,aK h.ls l,λc hc hn=>⟨aK (h.row c hc hn).1 l,(h.row c hc hn).2⟩,h.inj⟩
 ·rcases hF p hp with h1|⟨j,h1,h2⟩
  ·exact aK (h.fx p h1) l
  ·rw[h1,kN];exact h2
 ·rcases hF p hp with h1|⟨j,h1,h2⟩
  ·exact h.rX p h1
  ·exact⟨AT,λc hc hn=>by have:=gX (h.row c hc hn).1;omega⟩
end
def LR.sub{F F2:List (Nat×Ob)}{lp:Nat}{Q:List (Nat×List Int)}{ob:List Ob}(h:LR F lp Q ob)(hs:∀ p∈F2,p∈F):LR F2 lp Q ob:=⟨λp hp=>h.fx p (hs p hp),λp hp=>h.rX p (hs p hp),h.ls,h.row,h.inj⟩
def LR.cell{F:List (Nat×Ob)}{lp:Nat}{Q:List (Nat×List Int)}{ob:List Ob}(h:LR F lp Q ob){c:Nat}(hc:c<Q.length):(Q.getD c default).2≠[]->ob[(Q.getD c default).1]?=some (.arr 1 (ints (Q.getD c default).2)):=λhn=>(h.row c hc hn).1
def akf{os:List Ob}{i:Nat}{o:Ob}(h:os[i]?=some o):os.set i o=os:=by
 have h1:=(aR.1 h);obtain⟨h2,h3⟩:=h1;rw[<- h3,List.set_getElem_self]
def Ib(t:List Int)(a:Nat)(dV:Int):∀ i,(mD t a dV i).length=t.length
 |0=>rfl
 |i+1=>by
  rw[mD];split
  ·rw[bw];exact Ib t a dV i
  ·exact Ib t a dV i
def Ia(t:List Int)(a:Nat)(dV:Int)(ha:t.getD a 0≠dV):∀ i,(mD t a dV i).getD a 0=t.getD a 0
 |0=>rfl
 |i+1=>by
  rw[mD];split
  ·rename_i h;rw[Ns];split
   ·rename_i e;obtain⟨e,_⟩:=e;have h2:=congrArg (λj=>(mD t a dV i).getD j 0) e;exact absurd ((Ia t a dV ha i).symm.trans (h2.symm.trans h)) ha
   ·exact Ia t a dV ha i
  ·exact Ia t a dV ha i
section
variable {m:ah}
def akY{t:List Int×List (List Int)}{N:Nat}(h1:t.1.length=N)(h2:t.2.length=N)(p:Nat):(Co m t p).1.length=N/\(Co m t p).2.length=N:=by
 unfold Co;dsimp only;split
 ·exact⟨h1,h2⟩
 ·exact⟨by rw[Ib];exact h1,by simp[h2]⟩
def H9(round:Nat):∀ k,(kv m round k).1.length=m.cls.length/\(kv m round k).2.length=m.cls.length
 |0=>⟨by simp[kv],by simp[kv]⟩
 |k+1=>akY (H9 round k).1 (H9 round k).2 _
def Ih(round:Nat):∀ k,∀ c,((kv m round k).2.getD c default).length<=k/\∀ x∈(kv m round k).2.getD c default,0<=x/\(0<m.ae.length->x<m.ae.length)
 |0,c=>by
  have:(kv m round 0).2.getD c default=[]:=by
   show(aO m.cls.length []).getD c default=[];rw[ax];cases hh:(aO m.cls.length ([]:List Int))[c]? with
   |none=>rfl
   |some q=>rw[E2 (gY hh)];rfl
  rw[this];simp
 |k+1,c=>by
  have ih:=Ih round k;rw[kv];generalize hp:(k+round)%m.ae.length=p;have eG:0<m.ae.length->p<m.ae.length:=λh=>by rw[<- hp];exact Nat.mod_lt _ h
  unfold Co;dsimp only;split
  ·exact⟨by have:=(ih c).1;omega,(ih c).2⟩
  ·have key:∀ l:List Int,l.length<=k->(∀ x∈l,0<=x/\(0<m.ae.length->x<m.ae.length))->(l++[(p:Int)]).length<=k+1/\∀ x∈l++[(p:Int)],0<=x/\(0<m.ae.length->x<m.ae.length):=λl h1 h2=>by
    refine⟨N0,λx hx=>?_⟩;rcases cT.1 hx with hx|hx
    ·exact h2 x hx
    ·simp only[c8]at hx;subst hx;exact⟨AT,λh=>by have:=eG h;omega⟩
   rw[Cv];split
   ·exact key _ (ih _).1 (ih _).2
   ·rw[Cv];split
    ·exact key _ (ih _).1 (ih _).2
    ·exact⟨by have:=(ih c).1;omega,(ih c).2⟩
end
def LR.lt{F:List (Nat×Ob)}{lp:Nat}{Q:List (Nat×List Int)}{ob:List Ob}(h:LR F lp Q ob){i:Nat}(hi:i∈np lp Q):i<ob.length:=by
 rcases bm.1 hi with rfl|hi
 ·exact gX h.ls
 ·obtain⟨q,hq,rfl⟩:=bS.1 hi;obtain⟨h1,h2⟩:=y9.1 hq;rw[decide_eq_true_eq]at h2;obtain⟨c,hc,rfl⟩:=kX h1;have e:Q.getD c default=Q[c]:=by rw[ax,bq hc];rfl
  have:=gX (h.row c hc (by rw[e];exact h2)).1;rwa [e]at this
def R1.pre{os ob:List Ob}{D:List (Nat×Nat)}{S:List (List Int)}(h:R1 os D S)(hp:∀ (i:Nat) o,os[i]?=some o->ob[i]?=some o):R1 ob D S :=
 ⟨h.len,λj hj=>⟨(h.row j hj).1,λh0=>hp _ _ ((h.row j hj).2 h0)⟩⟩
def WF.pre{m:ah}{can:List (List Bool)}{gi ai bi mi:Nat}{D E:List (Nat×Nat)}{W:WS}{os ob:List Ob}(h:WF m can gi ai bi mi D E W os)(hl:os.length<=ob.length)(hp:∀ (i:Nat) o,os[i]?=some o->ob[i]?=some o):WF m can gi ai bi mi D E W ob :=
 ⟨hp _ _ h.v,hp _ _ h.a,hp _ _ h.b,hp _ _ h.mp,h.rD.pre hp,h.rE.pre hp,h.nd,λi hi=>Nat.lt_of_lt_of_le (h.lt i hi) hl⟩
def akZ:Go.Shelf.Ren:=⟨fun|6=>73|15=>106|14=>105|28=>142|29=>143|20=>134|21=>135|22=>136|23=>137|24=>138|25=>139|26=>140|27=>141|46=>151|47=>152|48=>153|49=>154|50=>155|57=>157|n=>n,fun|22=>38|24=>94|25=>140|3=>3|39=>174|0=>0|53=>207|55=>209|4=>4|46=>201|45=>200|50=>58|5=>5|9=>9|66=>222|70=>226|76=>229|77=>230|n=>n,λn=>n⟩
def aaP:SlLaysF0.n6 Tryz.prog akZ:={
mixed:=by kernel_rfl,
 f6:=⟨Tryz.f73.name,IP,Tryz.func73.trans (congrArg some (by kernel_rfl))⟩,
 f14:=⟨Tryz.f105.name,IP,Tryz.func105.trans (congrArg some (by kernel_rfl))⟩,
 f15:=Tryz.func106.trans (congrArg some (by kernel_rfl)),
 f20:=⟨Tryz.f134.name,IP,Tryz.func134.trans (congrArg some (by kernel_rfl))⟩,
 f21:=⟨Tryz.f135.name,IP,Tryz.func135.trans (congrArg some (by kernel_rfl))⟩,
 f22:=⟨Tryz.f136.name,IP,Tryz.func136.trans (congrArg some (by kernel_rfl))⟩,
 f23:=⟨Tryz.f137.name,IP,Tryz.func137.trans (congrArg some (by kernel_rfl))⟩,
 f24:=⟨Tryz.f138.name,IP,Tryz.func138.trans (congrArg some (by kernel_rfl))⟩,
 f25:=⟨Tryz.f139.name,IP,Tryz.func139.trans (congrArg some (by kernel_rfl))⟩,
 f26:=⟨Tryz.f140.name,IP,Tryz.func140.trans (congrArg some (by kernel_rfl))⟩,
 f27:=⟨Tryz.f141.name,IP,Tryz.func141.trans (congrArg some (by kernel_rfl))⟩,
 f28:=Tryz.func142.trans (congrArg some (by kernel_rfl)),
 f29:=Tryz.func143.trans (congrArg some (by kernel_rfl)),
 f46:=⟨Tryz.f151.name,IP,Tryz.func151.trans (congrArg some (by kernel_rfl))⟩,
 f47:=Tryz.func152.trans (congrArg some (by kernel_rfl)),
 f48:=Tryz.func153.trans (congrArg some (by kernel_rfl)),
 f49:=⟨Tryz.f154.name,IP,Tryz.func154.trans (congrArg some (by kernel_rfl))⟩,
 f50:=⟨Tryz.f155.name,IP,Tryz.func155.trans (congrArg some (by kernel_rfl))⟩,
 f57:=⟨Tryz.f157.name,IP,Tryz.func157.trans (congrArg some (by kernel_rfl))⟩,
 t0:=Tryz.underlying0,
 a0:=Tryz.isAgg0,
 z0:=Tryz.sizeOf0,
 v0:=Tryz.zeroValue0,
 t3:=Tryz.underlying3,
 a3:=Tryz.isAgg3,
 z3:=Tryz.sizeOf3,
 v3:=Tryz.zeroValue3,
 t4:=Tryz.underlying4,
 a4:=Tryz.isAgg4,
 z4:=Tryz.sizeOf4,
 v4:=Tryz.zeroValue4,
 t5:=Tryz.underlying5,
 a5:=Tryz.isAgg5,
 z5:=Tryz.sizeOf5,
 v5:=Tryz.zeroValue5,
 t9:=Tryz.underlying9,
 a9:=Tryz.isAgg9,
 z9:=Tryz.sizeOf9,
 v9:=Tryz.zeroValue9,
 t22:=Tryz.underlying38,
 a22:=Tryz.isAgg38,
 z22:=Tryz.sizeOf38,
 v22:=Tryz.zeroValue38,
 t25:=Tryz.underlying140,
 a25:=Tryz.isAgg140,
 z25:=Tryz.sizeOf140,
 v25:=Tryz.zeroValue140,
 t39:=Tryz.underlying174,
 a39:=Tryz.isAgg174,
 z39:=Tryz.sizeOf174,
 v39:=Tryz.zeroValue174,
 t45:=Tryz.underlying200,
 a45:=Tryz.isAgg200,
 z45:=Tryz.sizeOf200,
 v45:=Tryz.zeroValue200,
 t46:=Tryz.underlying201,
 a46:=Tryz.isAgg201,
 z46:=Tryz.sizeOf201,
 v46:=Tryz.zeroValue201,
 t50:=Tryz.underlying58,
 a50:=Tryz.isAgg58,
 z50:=Tryz.sizeOf58,
 v50:=Tryz.zeroValue58,
 t53:=Tryz.underlying207,
 a53:=Tryz.isAgg207,
 z53:=Tryz.sizeOf207,
 v53:=Tryz.zeroValue207,
 t55:=Tryz.underlying209,
 a55:=Tryz.isAgg209,
 z55:=Tryz.sizeOf209,
 v55:=Tryz.zeroValue209,
 t66:=Tryz.underlying222,
 a66:=Tryz.isAgg222,
 z66:=Tryz.sizeOf222,
 v66:=Tryz.zeroValue222,
 t70:=Tryz.underlying226,
 a70:=Tryz.isAgg226,
 z70:=Tryz.sizeOf226,
 v70:=Tryz.zeroValue226,
 t76:=Tryz.underlying229,
 a76:=Tryz.isAgg229,
 z76:=Tryz.sizeOf229,
 v76:=Tryz.zeroValue229,
 t77:=Tryz.underlying230,
 a77:=Tryz.isAgg230,
 z77:=Tryz.sizeOf230,
 v77:=Tryz.zeroValue230 }
def Aw(q:List Int×Int):Mv:=⟨q.1.getD 0 0,q.1.getD 1 0,q.1.getD 2 0,q.2⟩
def lz(am:List (List Int×Int))(seen:List Nat):List Mv:=(seen.filter λj=>decide ((am.getD j default).2≠0)).map λj=>Aw (am.getD j default)
def jX(am:List (List Int×Int)):List Mv:=(am.filter λq=>decide (q.2≠0)).map Aw
def aji(am:List (List Int×Int))(seen:List Nat)(j:Nat):lz am (seen++[j])=if(am.getD j default).2≠0 then lz am seen++[Aw (am.getD j default)] else lz am seen:=by
 unfold lz;rw[List.filter_append,dH];split
 ·rename_i h;rw[List.filter_cons_of_pos (by simpa using h)];rfl
 ·rename_i h;rw[List.filter_cons_of_neg (by simpa using h)];simp
def aaf(am:List (List Int×Int))(seen:List Nat):(lz am seen).length<=seen.length:=by
 unfold lz;rw[List.length_map];exact List.length_filter_le _ _
def ak0(am:List (List Int×Int)):lz am (bk am.length)=jX am:=by
 have e:am=(bk am.length).map λj=>am.getD j default:=by
  apply List.ext_getElem?;intro k;rw[bV];rcases du k am.length with h|h
  ·rw[List.getElem?_range h,Option.map_some,ax,bq h];rfl
  ·rw[fl h,fl (by simpa using h)];rfl
 unfold lz jX
 conv=>rhs;rw[e]
 rw[List.filter_map,List.map_map];rfl
def aae{seen:List Nat}{n:Nat}(hn:seen.Nodup)(hl:∀ j∈seen,j<n)(ha:∀ j<n,j∈seen):seen.Perm (bk n) :=
 (List.perm_ext_iff_of_nodup hn List.nodup_range).2 λa=>⟨λh=>nv.2 (hl a h),λh=>ha a (nv.1 h)⟩
def ajc{am:List (List Int×Int)}{seen:List Nat}(hn:seen.Nodup)(hl:∀ j∈seen,j<am.length)(ha:∀ j<am.length,j∈seen):(lz am seen).Perm (jX am):=by
 rw[<- ak0];exact((aae hn hl ha).filter _).map _
def xr(id:Nat)(X:List Mv):AV:=if X=[] then .lit (.slice none 0 0) else .ref id 4 0 X.length
def vU(id:Nat)(X:List Mv)(os:List Ob):List Ob:=if X=[] then os else os.set id .gone
def ajl(id:Nat)(X:List Mv)(os:List Ob):(vU id X os).length=os.length:=by unfold vU;split<;>simp
def ak1{id:Nat}{X:List Mv}{os:List Ob}(h:X≠[]->id<os.length)(l:List Ob):vU id X (os++l)=vU id X os++l:=by
 unfold vU;split
 ·rfl
 ·rename_i hx;rw[List.set_append_left _ _ (h hx)]
def ajn{id:Nat}{X:List Mv}{os:List Ob}{k:Nat}{o:Ob}(h:os[k]?=some o)(hk:X≠[]->k≠id):(vU id X os)[k]?=some o:=by
 unfold vU;split
 ·exact h
 ·rename_i hx;exact eU h (Ne.symm (hk hx))
def ajk{id:Nat}{X:List Mv}{os:List Ob}(h:X≠[]->os[id]?=some (.arr 4 (rowsOf aP X)))(l:List Ob)(e:Nat->AV):kZ ⟨e,os++l⟩ 4 (xr id X)=some (rowsOf aP X,⟨e,vU id X os++l⟩):=by
 rw[<- ak1 (λhx=>gX (h hx))];unfold xr vU;by_cases hx:X=[]
 ·rw[if_pos hx,if_pos hx,hx];rfl
 ·rw[if_neg hx,if_neg hx];unfold kZ;simp only[aK (h hx),and_self,if_true,y0];rw[cZ (by rw[cr];exact aX _)]
def ajm(id:Nat)(X:List Mv)(x:Mv):AV.ref id 4 0 (X.length+1)=xr id (X++[x]):=by
 unfold xr;rw[if_neg IM];simp
def tG(a b:Mv):Int:=qQ [kd a.pair b.pair,kd a.side b.side,kd a.opt b.opt]
def ak2(a b:Mv):Holds Tryz.prog 74 [.agg (aP a),.agg (aP b)] [] (Oi (tG a b)) []:=by
 unfold tG;have h1:=En a.pair b.pair;have h2:=En a.side b.side;have h3:=En a.opt b.opt;generalize kd a.pair b.pair=c1 at *;generalize kd a.side b.side=c2 at *;generalize kd a.opt b.opt=c3 at *;have h4:=Mq [c1,c2,c3] IM;refine Holds.aN 22 0 [.tmp 4] Tryz.func74 ?_;((try revert hK K);(repeat'(first|refine Vd @aP.eq_1 (X3 h1 h2 h3) ?_|(refine V2 @aP.eq_1 ?_ ?_<;>try with_reducible intro hb)|(refine Xi ?_ ?_<;>try intro ht)|refine VD ?_ ?_|exact Xx|fail))<;>try with_reducible intro K hK)
 refine rj [] h4 IP trivial ⟨bT.cC (rows:=ints [c1,c2,c3]) rfl (vd _) rfl IM (xX _),trivial⟩ rfl IM ?_;((try revert hK K);(repeat'(first|refine Vb X0 ?_|(refine V2 X0 ?_ ?_<;>try with_reducible intro hb)|(refine Xi ?_ ?_<;>try intro ht)|refine VD ?_ ?_|exact Xx|fail))<;>try with_reducible intro K hK)
 exact aU rfl rfl
def abm(w:World)(Z:Nat->Prop)(blk:fR)(os:List Ob)(l:List Value):aw os w Z blk (.agg (l.map .lit)) (.agg l.toArray) :=
 .agg _ _ IM λj x hj=>by
  simp only[bV,Option.map_eq_some_iff]at hj;obtain⟨v,hv,rfl⟩:=hj;have:l.toArray.getD j Go.undef=v:=by simp[Array.getD_eq_getD_getElem?,hv]
  rw[this];exact .lit _
def grown{P:Program}{f:FuncId}{args:List AV}{res:Value}(h:Am.Holds P f args [] (.lit res) [])(argv:Array Value)(W:World)(aJ:argv.size=args.length)(ha:∀ j x,args[j]?=some x->aw [] W (λ_=>False) (λ_=>none) x (argv.getD j Go.undef)):
  Calls P f argv W (λe w'=>e=.returned res/\∃ q gk,w'=Sort.grow (W.drewN q) gk):=by
 refine(h.2 ⟨W,argv,λ_=>False,λ_=>none⟩ aJ ⟨λk=>?_,λi o hi=>by simp at hi,λi j b o c o' c' ⟨x,hx,_⟩=>by simp at hx,λb _ h=>h,λb h=>h.elim,λg=>.undef _⟩).mono ?_
 ·show aw [] W _ _ (args.getD k .undef) _;rcases hk:args[k]? with _|x
  ·rw[ax,hk];exact .undef _
  ·rw[ax,hk];exact ha k x hk
 rintro e w'⟨cv,az,rfl,rfl,h3,h4,h5⟩;have h6:=h4.ao 0;have h7:az.tmps.getD 0 Go.undef=cv:=by rw[h3];rfl
 rw[h7]at h6;have:cv=res:=aw.cD h6;subst this;refine⟨rfl,az.w.drawn-W.drawn,az.w.heap.extract W.heap.size,?_⟩;have hh:az.w.heap=W.heap++az.w.heap.extract W.heap.size:=by
  apply Array.ext_getElem?;intro k;rw[Array.getElem?_append];split
  ·rename_i hk;exact h5.dN k hk (λ⟨i,o,c,⟨x,hx,_⟩,_⟩=>by simp at hx)
  ·rename_i hk;have:=h5.size;simp only[Array.getElem?_extract];by_cases cE:k<az.w.heap.size
   ·rw[if_pos (by simp at *;omega)];congr 1;simp at *;omega
   ·rw[if_neg (by simp at *;omega)];simp at *;omega
 have e1:=h5.kD;have e2:=h5.tape;have e3:=h5.output;have e4:=h5.drawn;cases hw:az.w with
 |mk hp tp dr os ou =>
  rw[hw]at hh e1 e2 e3 e4;simp only at hh e1 e2 e3 e4;have e5:dr=W.drawn+(dr-W.drawn):=AT;show _=World.mk _ _ _ _ _;rw[World.mk.injEq];exact⟨hh,e2,e5,e1,e3⟩
instance:Inhabited Mv:=⟨⟨0,0,0,0⟩⟩
def qZ(x y:Mv):Go.Proofs.ltOf tG x y=true↔x.pair<y.pair\/(x.pair=y.pair/\(x.side<y.side\/(x.side=y.side/\x.opt<y.opt))):=by
 unfold Go.Proofs.ltOf tG;rw[decide_eq_true_eq];unfold kd;simp only[qQ];repeat' split
 all_goals first|omega|skip
 all_goals simp_all
 all_goals omega
def ajT:Sort.SWO (Go.Proofs.ltOf tG) where
 irrefl x:=by
  rw[<- tV,qZ];omega
 trans x y z:=by rw[qZ,qZ,qZ];omega
 ntrans x y z:=by rw[<- tV,<- tV,<- tV,qZ,qZ,qZ];omega
def oR(x:Mv):List Value:=[.int .i64 x.pair,.int .i64 x.side,.int .i64 x.opt,.int .i64 x.amt]
def aaN(x:Mv):aP x=(oR x).map .lit:=rfl
def ajU(blk off size:Nat)(w:World):Go.Proofs.CmpLays Tryz.prog 74 #[] oR 4 tG blk off size w:=by
 intro m os dk _ x y;rw[Array.append_empty];refine grown (ak2 x y) #[.agg (oR x).toArray,.agg (oR y).toArray] _ rfl λj v hj=>?_;rcases j with _|_|j
 ·cases hj;exact abm _ _ _ _ (oR x)
 ·cases hj;exact abm _ _ _ _ (oR y)
 ·cases hj
def ED:ty Tryz.prog 88 = { kind:=9,size:=1,bytes:=8,elem:=0,len:=0,zero:=some [.nilFunc],aL:=[] }:=by kernel_rfl
section
variable {m:ah} {can:List (List Bool)} {gi ai bi mi:Nat} {D E:List (Nat×Nat)} {si sa jY wi jZ:Nat} {cL:List (List Int)}
def akA(hm:VM m)(hf:cp m can)(EI:UN gi ai bi mi D E si sa jY wi jZ)(xm:cL.length=m.cls.length)(mn:∀ c,c<m.cls.length->(cL.getD c default).length<9223372036854775808/\∀ x∈cL.getD c default,0<=x/\x<m.ae.length):
  ∀ (f:Nat) (st:WS×List Bool) (c:Nat) (os:List Ob) (B:Int),m.cls.length-nT st.2<=f->c<m.cls.length->st.2.getD c false=false->st.2.length=m.cls.length->WF m can gi ai bi mi D E st.1 os->UF 70 gi si sa jY wi jZ cL st.2 os->mB m st.1 ->
   0<=B+618475290624*(nT st.2:Nat)->B<=576460752303423488->WB (B+618475290624*(nT st.2:Nat)) st.1 ->
   dy Tryz.prog 70 [Oi c,.ptr si 0 0,.ptr jY 0 0,.ptr wi 0 0,.ptr jZ 0 0] os λr ob=>r=.bu []/\WF m can gi ai bi mi D E (iS m can cL f st c).1 ob/\UF 70 gi si sa jY wi jZ cL (iS m can cL f st c).2 ob/\Kp mi ((sa,0)::D) E os ob/\UO m B 1 st (iS m can cL f st c):=by
 intro f
 induction f with
 |zero =>
  intro st c os B h0 hc hs hl;have:=akR AT hs;omega
 |succ f ih =>
  intro st c os B h0 hc hs hl hW hU mo hB ZZ H4;have mY:=hm.cls;have oO:=hm.ae;have fs:=hU.s;have fa:=hU.a;have hnt:=akS AT hs;have abn:=Ni (st.2.set c true);rw[bw,hl]at abn;obtain⟨n1,n2,n3,n4,n5,n6,n7⟩:=EI.sa;have tJ:=hW.other ⟨n1,n2,n3,(EI.out sa IM).1⟩ (EI.out sa IM).2 (.arr 1 (a8 (st.2.set c true)));have Nt:=hU.set EI (s2:=st.2.set c true) IM;have eY:Kp mi ((sa,0)::D) E os (os.set sa (.arr 1 (a8 (st.2.set c true)))):=(Kp.refl mi _ E os).put _;have hO1:UO m B 1 st (st.1,st.2.set c true):=⟨by simpa using hl,mo,H4.mono NZ,NZ,λj hj=>by
   dsimp only;by_cases e:c=j
   ·subst e;simp[ax,bP,hl,hc]
   ·rw[ax,fD e,<- ax];exact hj⟩
  rw[akU];obtain⟨iu,oA⟩:=mn c hc;have hbc:(eW cL)[c]?=some [.tree 1 (ints (cL.getD c default))]:=I' cL c AT;generalize mV:cL.getD c default=l at *;have abp:cL.getD c []=l:=mV;have Nu:=Nt.b;refine dy.aN 49 os.length [] Tryz.func70 ?_;((try revert hK K);(repeat'(first|refine Va (X4 @fs @fa @Nu @abp) ?_|(refine V2 (X4 @fs @fa @Nu @abp) ?_ ?_<;>try with_reducible intro hb)|(refine Xi ?_ ?_<;>try intro ht)|refine VD ?_ ?_|exact Xx|fail))<;>try with_reducible intro K hK)
  have Aa:vZ m can (iS m can cL f) (st.1,st.2.set c true) (l.take 0)=(st.1,st.2.set c true):=rfl;refine bb (λz:Nat×List Ob=>(⟨ao [(1,.ptr si 0 0),(2,.ptr jY 0 0),(3,.ptr wi 0 0),(4,.ptr jZ 0 0),(17,.tree 1 (ints l)),(18,Oi l.length),(19,Oi z.1)],z.2⟩:St))
   (λz=>z.1<=l.length/\WF m can gi ai bi mi D E (vZ m can (iS m can cL f) (st.1,st.2.set c true) (l.take z.1)).1 z.2/\UF 70 gi si sa jY wi jZ cL (vZ m can (iS m can cL f) (st.1,st.2.set c true) (l.take z.1)).2 z.2/\Kp mi ((sa,0)::D) E os z.2/\UO m B 1 st (vZ m can (iS m can cL f) (st.1,st.2.set c true) (l.take z.1)))
   (λz=>l.length-z.1) (0,os.set sa (.arr 1 (a8 (st.2.set c true)))) ⟨Nat.zero_le _,by dsimp only;rw[Aa];exact tJ,by dsimp only;rw[Aa];exact Nt,eY,by dsimp only;rw[Aa];exact hO1⟩ (Xv X0) ?_
  clear tJ Nt eY hO1 Aa fs fa Nu hnt abn hW hU;rintro⟨j,ob⟩⟨hj,hW,hU,a7,hO⟩Ql ak au;dsimp only at hj hW hU a7 hO ⊢;by_cases fJ:j<l.length
  ·have er:=akT m can (iS m can cL f) (st.1,st.2.set c true) fJ;obtain⟨hx0,SJ⟩:=oA (l.getD j default) (aE fJ);generalize hx3:l.getD j default=x at *;have zw:l.getD j 0=x:=hx3;generalize tJ:vZ m can (iS m can cL f) (st.1,st.2.set c true) (l.take (j+1))=r1 at *;generalize vZ m can (iS m can cL f) (st.1,st.2.set c true) (l.take j)=sj at *;obtain⟨p,rfl⟩:∃p:Nat,x=p:=⟨x.toNat,AT⟩;rw[Int.toNat_natCast]at er;have hp:p<m.ae.length:=AT;obtain⟨dp,q1,q2,q3,q4,q5⟩:=yU hm hp;have he:=EJ hm hW hp;have fw:=hU.w;have pR:=hW.app [.gone,.gone,.gone,.gone];have hU2:=hU.app [.gone,.gone,.gone,.gone];have abr:=a7.app [.gone,.gone,.gone,.gone];have e0:(cM m p).fst=((aD m p 0:Nat):Int):=by show _=((cM m p).fst.toNat:Int);omega
   have e1:(cM m p).snd=((aD m p 1:Nat):Int):=by show _=((cM m p).snd.toNat:Int);omega
   rw[e0,e1]at he;have hEq:∀ s,s<2->([[.tree 1 (ints [((aD m p 0:Nat):Int)])],[.tree 1 (ints [((aD m p 1:Nat):Int)])]]:List (List AV))[s]?=some [.tree 1 (ints [((aD m p s:Nat):Int)])]:=λs hs=>by
    rcases(show s=0\/s=1 by omega) with rfl|rfl<;>rfl
   have yI:([[.tree 1 (ints [((aD m p 0:Nat):Int)])],[.tree 1 (ints [((aD m p 1:Nat):Int)])]]:List (List AV)).length=2:=rfl;generalize ([[.tree 1 (ints [((aD m p 0:Nat):Int)])],[.tree 1 (ints [((aD m p 1:Nat):Int)])]]:List (List AV))=EN at *;have bn:∀ s,s<2->aD m p s<m.cls.length:=λs hs=>by
    rcases(show s=0\/s=1 by omega) with rfl|rfl
    ·exact q1
    ·exact q2
   repeat'(first|((fail_if_success (first|refine eO 4 ?_|refine eP 4 ?_));refine Xr @zw ?_;intro K hK)|refine Xo @zw ?_|(refine hK _ ?_;clear hK K)|(refine Xg @zw ?_ ?_<;>try intro hb)|(refine Xi ?_ ?_<;>try intro ht)|refine Xy ?_|refine Xd ?_ ?_|exact Xx|fail)
   ((try revert hK K);(repeat'(first|refine Va @fw ?_|(refine V2 @fw ?_ ?_<;>try with_reducible intro hb)|(refine Xi ?_ ?_<;>try intro ht)|refine VD ?_ ?_|exact Xx|fail))<;>try with_reducible intro K hK)
   refine fi he IM ?_;((try revert hK K);(repeat'(first|refine Va @yI ?_|(refine V2 @yI ?_ ?_<;>try with_reducible intro hb)|(refine Xi ?_ ?_<;>try intro ht)|refine VD ?_ ?_|exact Xx|fail))<;>try with_reducible intro K hK)
   have wW:uT m can (iS m can cL f) sj p 0=sj:=rfl;have nS:∀ s,uT m can (iS m can cL f) sj p (s+1)=AA m can (iS m can cL f) (uT m can (iS m can cL f) sj p s) p s:=λs=>rfl;refine bb (λz:Nat×List Ob=>(⟨ao [(1,.ptr si 0 0),(2,.ptr jY 0 0),(3,.ptr wi 0 0),(4,.ptr jZ 0 0),(7,Oi p),(17,.tree 1 (ints l)),(18,Oi l.length),(19,Oi j),(25,.tree 1 EN),(26,Oi 2),(27,Oi z.1)],z.2⟩:St))
    (λz=>z.1<=2/\WF m can gi ai bi mi D E (uT m can (iS m can cL f) sj p z.1).1 z.2/\UF 70 gi si sa jY wi jZ cL (uT m can (iS m can cL f) sj p z.1).2 z.2/\Kp mi ((sa,0)::D) E os z.2/\UO m B 1 st (uT m can (iS m can cL f) sj p z.1))
    (λz=>2-z.1) (0,ob++[.gone,.gone,.gone,.gone]) ⟨NZ,by dsimp only;rw[wW];exact pR,by dsimp only;rw[wW];exact hU2,abr,by dsimp only;rw[wW];exact hO⟩ (Xv X0) ?_
   (try clear he;clear pR hU2 abr hO hW hU a7 fw wW)
   rintro⟨s,ob⟩⟨j3,hW,hU,a7,hO⟩dL bO bQ;dsimp only at j3 hW hU a7 hO ⊢;by_cases iz:s<2
   ·have EK:EN.getD s []=[.tree 1 (ints [((aD m p s:Nat):Int)])]:=by rw[ax,hEq s iz];rfl
    have xl:=bn s iz;have nG:=nS s;unfold AA at nG;generalize pR:uT m can (iS m can cL f) sj p (s+1)=r2 at *;generalize uT m can (iS m can cL f) sj p s=sk at *;have fs:=hU.s;have fa:=hU.a;have fw:=hU.w;have fu:=hU.u;have ed:=hO.len;generalize jU:aD m p s=kc at *;by_cases vX:sk.2.getD kc false=true
    ·rw[if_pos vX]at nG;((try revert hK K);(repeat'(first|refine Va (X5 @EK @yI @fs @fa @vX) ?_|(refine V2 (X5 @EK @yI @fs @fa @vX) ?_ ?_<;>try with_reducible intro hb)|(refine Xi ?_ ?_<;>try intro ht)|refine VD ?_ ?_|exact Xx|fail))<;>try with_reducible intro K hK)
     exact bO _ (s+1,ob) ⟨NZ,by dsimp only;rw[pR,nG];exact hW,by dsimp only;rw[pR,nG];exact hU,a7,by dsimp only;rw[pR,nG];exact hO⟩ NZ (Xv X0)
    ·rw[if_neg vX]at nG;have Io:sk.2.getD kc false=false:=by simpa using vX
     repeat'(first|((fail_if_success (first|refine eO 9 ?_|refine eP 9 ?_));refine Xr (X5 @EK @yI @fs @fa @Io) ?_;intro K hK)|refine Xo (X5 @EK @yI @fs @fa @Io) ?_|(refine hK _ ?_;clear hK K)|(refine Xg (X5 @EK @yI @fs @fa @Io) ?_ ?_<;>try intro hb)|(refine Xi ?_ ?_<;>try intro ht)|refine Xy ?_|refine Xd ?_ ?_|exact Xx|fail)
     have Nv:=ih sk kc ob (B-618475290624) (by have:=hO.up;omega) xl Io ed hW hU hO.sh (by have:=hO.up;omega) AT (hO.wb.mono AT);generalize iS m can cL f sk kc=s3 at *;refine ox 2 IP _ rfl ?_;intro K hK;simp(disch:=omega)only[Ac,↓Pc,simprocAttr,List.take,eV,fu,ED];repeat'(first|with_reducible refine And.intro ?_ ?_|omega|with_reducible rfl)
     refine⟨rfl,(show kK Tryz.prog 70 [Oi kc,.ptr si 0 0,.ptr jY 0 0,.ptr wi 0 0,.ptr jZ 0 0] (some 42) _ _ from ?_)⟩;refine qW Nv ?_;rintro r jV⟨rfl,MW,hU3,mX,yV⟩;refine⟨mX.len,?_⟩;simp(disch:=omega)only[Ac,↓Pc,simprocAttr,eV];refine hK _ ?_;clear hK K;repeat(first|refine Xu ?_)
     have hO4:=hO.up;have hO5:=yV.up;have hO6:=Ni s3.2;rw[yV.len]at hO6;have fk:=ak7 hm hf MW yV.sh (B:=B-618475290624+618475290624*(nT s3.2:Nat)-618475290624) ⟨AT,AT⟩ (yV.wb.mono AT) hp (s:=s) AT;have fw3:=hU3.w;refine ox 3 IP _ rfl ?_;intro K hK;simp(disch:=omega)only[Ac,↓Pc,simprocAttr,List.take,eV,fw3];repeat'(first|with_reducible refine And.intro ?_ ?_|omega|with_reducible rfl)
     refine⟨rfl,(show kK Tryz.prog 72 [.ptr gi 0 0,Oi p,Oi s] (some 46) _ _ from ?_)⟩;refine qW fk ?_;rintro r ob4⟨rfl,hW4,Ho⟩;refine⟨Ho.len,?_⟩;simp(disch:=omega)only[Ac,↓Pc,simprocAttr,eV];refine hK _ ?_;clear hK K;repeat(first|refine Xu ?_)
     ((try revert hK K);(repeat'(first|refine Va X0 ?_|(refine V2 X0 ?_ ?_<;>try with_reducible intro hb)|(refine Xi ?_ ?_<;>try intro ht)|refine VD ?_ ?_|exact Xx|fail))<;>try with_reducible intro K hK)
     have hU4:=hU3.kp EI Ho;have hO7:UO m B 1 st (Az m can s3.1 p s,s3.2):=⟨yV.len,alc yV.sh p s,(ald (can:=can) hm AT yV.wb p s).mono NZ,NZ,λj hj=>yV.mono j (hO.mono j hj)⟩;exact bO _ (s+1,ob4) ⟨NZ,by dsimp only;rw[pR,nG];exact hW4,by dsimp only;rw[pR,nG];exact hU4,(a7.trans mX).trans (Ho.wide _),by dsimp only;rw[pR,nG];exact hO7⟩ NZ (Xv X0)
   ·obtain rfl:s=2:=AT;((try revert hK K);(repeat'(first|refine Va X0 ?_|(refine V2 X0 ?_ ?_<;>try with_reducible intro hb)|(refine Xi ?_ ?_<;>try intro ht)|refine VD ?_ ?_|exact Xx|fail))<;>try with_reducible intro K hK)
    refine bQ _ _ rfl ?_;clear bO bQ dL;repeat(first|refine Xu ?_)
    ((try revert hK K);(repeat'(first|refine Va X0 ?_|(refine V2 X0 ?_ ?_<;>try with_reducible intro hb)|(refine Xi ?_ ?_<;>try intro ht)|refine VD ?_ ?_|exact Xx|fail))<;>try with_reducible intro K hK)
    rw[<- er]at hW hU hO;exact ak _ (j+1,ob) ⟨NZ,by dsimp only;rw[tJ];exact hW,by dsimp only;rw[tJ];exact hU,a7,by dsimp only;rw[tJ];exact hO⟩ NZ (Xv X0)
  ·obtain rfl:j=l.length:=AT;((try revert hK K);(repeat'(first|refine Va X0 ?_|(refine V2 X0 ?_ ?_<;>try with_reducible intro hb)|(refine Xi ?_ ?_<;>try intro ht)|refine VD ?_ ?_|exact Xx|fail))<;>try with_reducible intro K hK)
   refine au _ _ rfl ?_;clear ak au Ql;repeat(first|refine Xu ?_)
   ((try revert hK K);(repeat'(first|refine Vb X0 ?_|(refine V2 X0 ?_ ?_<;>try with_reducible intro hb)|(refine Xi ?_ ?_<;>try intro ht)|refine VD ?_ ?_|exact Xx|fail))<;>try with_reducible intro K hK)
   unfold kJ;simp only[gm,fW];rw[List.take_length]at hW hU hO;exact⟨.bu [],_,⟨rfl,hW,hU,a7,hO⟩,dX rfl a7.len rfl⟩
end
end T

