import Derived.Test.YtfoopmojjjpapaaGreatX24
import Derived.Test.YtfoopmojjjpapaaGreatX35
import Derived.Shelf.SlSortCmp.NoneTotal
set_option linter.all false
set_option maxHeartbeats 0
set_option maxRecDepth 20000
open List renaming mem_singleton→cV,length_map→fK,mem_map→bW,getElem?_map→bI,getElem?_eq_some_iff→aV,getElem?_eq_getElem→bF,nodup_nil→GG,take→ja,drop→eR,append_assoc→bE,length_append→bO
open Option renaming map_some→eH,some→cA
open Nat renaming zero_le→aS,le_refl→aY,reduceBEq→sF
open Array renaming length_toList→sg
open And renaming intro→c6
open Go Go.Am Go.Proofs
namespace T
def j2(X:List Mv):List Nd:=[⟨-1,[],X,[],[]⟩]
def HO{X:List Mv}(h:X.length<9223372036854775808):PB (j2 X):=by
 refine⟨by show(1:Nat)<_;decide,λx hx=>?_,λx hx=>?_,λx hx=>?_,λx hx=>?_,λx hx l hl=>?_⟩;all_goals unfold j2 at hx;rw[cV]at hx;subst hx
 ·show(0:Nat)<_;decide
 ·exact h
 ·show(0:Nat)<_;decide
 ·show(0:Nat)<_;decide
 ·simp at hl
def ads{m:ah}(hm:MB m):BB (cI m):=by
 unfold cI;split
 ·refine⟨by unfold dW;rw[fK];exact hm.cls,λr hr=>?_⟩;obtain⟨l,hl,rfl⟩:=bW.1 hr;rw[List.length_replicate];exact hm.opt l hl
 ·exact⟨GS,GM⟩
def amX(m:ah)(left:List (List Bool))(g:Lg):l8 m left g<=1099511627776:=by
 unfold l8;split
 ·exact Int.le_refl _
 ·omega
def HN{m:ah}{left:List (List Bool)}{X:List Mv}(h:(b8 m left X).2=0):X.length<=2000:=by
 unfold b8 gH at h;split at h
 ·rename_i h1;exact absurd h h1
 ·split at h
  ·cases h
  ·omega
def S6{m:ah}{left:List (List Bool)}{X:List Mv}(h:(b8 m left X).2=0):lg m left=0/\b8 m left X=gH m left X/\(b8 m left X).1<=1099511627776:=by
 unfold b8 at h ⊢;split at h
 ·rename_i h1;exact absurd h h1
 ·rename_i h1;rw[if_neg h1];refine⟨Decidable.not_not.1 h1,rfl,?_⟩;unfold gH at h ⊢;split at h
  ·cases h
  ·split at h
   ·cases h
   ·rename_i h2 h3;rw[if_neg h2,if_neg h3];exact amX _ _ _
def HP{m:ah}{X:List Mv}(h:(b8 m (cI m) X).2=0):nA m (j2 X)=((b8 m (cI m) X).1,true):=by
 obtain⟨h1,h2,h3⟩:=S6 h;have hv:=(EB h1).1;have qy:iR m=0:=nu.2 hv;have hs:jh m (j2 X)=true:=by
  unfold jh j2;simp[kL,mg,ln,jR,fi,List.range_succ]
 have e:pI m (j2 X) (gy m (j2 X)) 1099511627776=((b8 m (cI m) X).1,true):=by
  unfold pI;rw[if_pos ⟨qy,hs⟩];have ev:vs (j2 X) (root m)=[(0,cI m,[])]:=rfl;rw[ev];rw[jP,if_neg GM];have es:gy m (j2 X) 1099511627776 (0,cI m,[])=((b8 m (cI m) X).1,true):=by
   unfold gy;have en:nd (j2 X) 0=⟨-1,[],X,[],[]⟩:=rfl;rw[if_neg (by dsimp only;rw[en];simp),if_neg (by dsimp only;rw[en];simp),en];dsimp only;rw[<- h2,h];rw[Int.min_eq_right h3];rfl
  rw[es,if_pos rfl];rfl
 unfold nA;rw[e,if_pos rfl]
def adt:KX Tryz.prog 73:=⟨_,Tryz.func73,GS,rfl⟩
def amY{X:List Mv}{r c:Nat}{v:AV}(h:cellAt (rowsOf aU X) r c=some v):∃x y,X[r]?=some x/\(pZ x)[c]?=some y/\v=.lit y:=by
 unfold cellAt rowsOf at h;rw[bI]at h;cases hx:X[r]? with
 |none=>rw[hx]at h;simp at h
 |some x =>
  rw[hx]at h;simp only[eH,Option.bind_some,ac3,bI,Option.map_eq_some_iff]at h;obtain⟨y,hy,rfl⟩:=h;exact⟨x,y,rfl,hy,rfl⟩
def adu{d:Array Mv}{r c:Nat}{x:Mv}{y:Value}(hx:d.toList[r]?=some x)(hy:(pZ x)[c]?=some y):(Sort.flatK pZ 4 d)[r*4+c]! = y/\r*4+c<d.size*4:=by
 have hc:c<4:=(aV.1 hy).1;have hr:r<d.size:=by have:=(aV.1 hx).1;simpa using this
 have aX:r*4+c<d.size*4:=GK;refine⟨?_,aX⟩;rw[Sort.get_flatK _ _ _ _ aX,show(r*4+c)/4=r by omega,show(r*4+c)%4=c by omega];have e:d[r]! = x:=by
  rw[getElem!_pos d r hr];have:=(aV.1 hx).2;simpa using this
 rw[e,List.getElem!_eq_getElem?_getD,hy];rfl
def amZ(v:AV):cX Tryz.prog 73 [.lit (.slice none 0 0),.fn 74 []] [] (λres bn=>res=.bD []/\bn=[]):=by
 refine⟨adt,λγ aP hs=>?_⟩;obtain⟨v0,v1,hv⟩:∃v0 v1,γ.tmps = #[v0,v1]:=by
  match h:γ.tmps,aP with
  |⟨[a,b]⟩,_=>exact⟨a,b,rfl⟩
 have s0:=hs.ao 0;rw[hv]at s0;have e0:v0=.slice none 0 0:=aw.cF s0;subst e0;rw[hv];refine(AnyF.slices_SortFunc_none ac1 none 0 v1 γ.w).mono ?_;rintro e w'⟨rfl,rfl⟩;refine⟨.bD [],[],.tuple #[],{ γ with tmps:=#[.tuple #[]] },⟨rfl,rfl⟩,rfl,rfl,rfl,⟨λk=>?_,λi o hi=>by simp at hi,hs.inj,hs.nz,hs.gG,hs.gl⟩,(Fr.refl _ _).put _⟩;rcases k with _|k
 ·exact .bD _ _ rfl (λj x hj=>by simp at hj)
 ·exact .undef _
def am0(X:List Mv)(hX:X≠[])(hXm:X.length<4611686018427387904):cX Tryz.prog 73 [.ref 0 4 0 X.length,.fn 74 []] [.arr 4 (rowsOf aU X)] (λres bn=>res=.bD []/\∃ Y:List Mv,Y.Perm X/\Y.Pairwise (λa b=>Go.Proofs.ltOf uS b a=false)/\bn=[.arr 4 (rowsOf aU Y)]):=by
 have hXl:0<X.length:=List.length_pos_iff.2 hX;refine⟨adt,λγ aP hs=>?_⟩;obtain⟨v0,v1,hv⟩:∃v0 v1,γ.tmps = #[v0,v1]:=by
  match h:γ.tmps,aP with
  |⟨[a,b]⟩,_=>exact⟨a,b,rfl⟩
 have s0:=hs.ao 0;have s1:=hs.ao 1;rw[hv]at s0 s1 ⊢;obtain⟨CM,yD,ho⟩:=hs.dT 0 _ rfl;rcases ho with⟨_,hr⟩|⟨b,o,cap,cur,t,hb,jc,hle,jV,kj,O'⟩
 ·simp[rowsOf]at hr;exact absurd hr hX
 have hlen:(rowsOf aU X).length=X.length:=cH X;obtain⟨cap',rfl⟩:∃cap',v0=.slice (some ⟨b,o,none⟩) X.length cap':=by
  have s0':aw [.arr 4 (rowsOf aU X)] γ.w γ.Z γ.blk (.ref 0 4 0 X.length) v0:=s0;generalize X.length=L at s0' hXl ⊢;cases s0' with
  |cO _ _ h=>cases h
  |k9 _ _ _ _ _ h _=>simp at h
  |ref _ _ _ _ b' o' c1 c2 rows h a6 h1 h2 h3 =>
   have h':=hb.symm.trans a6;simp only[cA.injEq,Prod.mk.injEq]at h';obtain⟨rfl,rfl,rfl⟩:=h';exact⟨c2,GM⟩
  |mK _ _ h _=>omega
  |nj _ _ _ _ _ _ _ h _ _=>omega
 obtain rfl:v1=.func (.func 74) #[] #[]:=by
  have s1':aw [.arr 4 (rowsOf aU X)] γ.w γ.Z γ.blk (.fn 74 []) v1:=s1;cases s1' with
  |cO _ _ h=>cases h
  |fn _ _ bm h _ =>
   have:bm = #[]:=Array.eq_empty_of_size_eq_zero h;rw[this]
 have aT:∀ j x,(Sort.flatK pZ 4 X.toArray)[j]! = x->j<X.length*4->γ.w.cell? ⟨b,o+j,none⟩=some x:=by
  intro j x hx hj;rw[AP jc GK];obtain⟨m,hm⟩:∃m,X[j/4]?=some m:=⟨_,bF GK⟩;obtain⟨y,hy⟩:∃y,(pZ m)[j%4]?=some y:=⟨_,bF (by show j%4<4;omega)⟩;have h1:=(adu (d:=X.toArray) (by simpa using hm) hy).1;rw[show j/4*4+j%4=j by omega,hx]at h1;have h2:=O' (j/4) (j%4) (.lit y) (by
   unfold cellAt rowsOf;rw[bI,hm];simp[ac3,hy])
  rw[show j/4*4+j%4=j by omega]at h2;rw[aw.cF h2,h1]
 have hH:Sort.HoldsK pZ 4 γ.w b o X.toArray:=by
  intro j hj;have fe:j<X.length*4:=by simpa using hj
  exact⟨aT j _ rfl fe,by simp[World.frozen?,jc]⟩
 have hblk:b<γ.w.heap.size:=(Array.getElem?_eq_some_iff.1 jc).1;have eg:∀ args w,(callFunc 74 args).run Tryz.prog w=.ok (.enter 74 args) w:=enters_of Tryz.func74 (by kernel_rfl) rfl;have xr:=AnyQ.slices_SortFunc ac1 4 Tryz.isAgg94 Tryz.sizeOf94 pZ (λ_=>rfl) (λx v hv=>by simp[pZ]at hv;rcases hv with rfl|rfl|rfl|rfl<;>rfl) uS amE 74 #[] b o cap' X.toArray γ.w eg (amF b o X.toArray.size γ.w) hH hblk (by simpa using hXm);rw[show X.toArray.size=X.length by simp]at xr;refine Calls.mono xr ?_;rintro e w'⟨rfl,d',n,os,hp,am4,rfl⟩;obtain⟨yM,_,hp3⟩:=hp;have hds:d'.size=X.length:=by simpa using yM
 have am5:d'.toList.Perm X:=by
  have e1:d'.extract 0 X.length=d':=by rw[<- hds];exact Array.extract_size
  have e2:X.toArray.extract 0 X.length=X.toArray:=by
   have:=Array.extract_size (xs:=X.toArray);simpa using this
  rw[e1,e2]at hp3;simpa using hp3
 have xw:d'.toList.length=X.length:=by simpa using hds
 have am6:d'.toList.Pairwise (λa b=>Go.Proofs.ltOf uS b a=false):=by
  refine List.pairwise_iff_getElem.2 λi j hi hj xE=>?_;have h:=am4 i j (aS _) xE GK;rw[getElem!_pos d' i (by rw[sg]at hi;exact hi),getElem!_pos d' j (by rw[sg]at hj;exact hj)]at h;simpa using h
 let lJ:=Sort.putCells id o (Sort.flatK pZ 4 d') cur
 let w1:=Sort.putRowK pZ 4 (Sort.ahead γ.w n) b o d'
 have Dw:w1.heap[b]?=some (.cells lJ t (0,0)):=by
  show(γ.w.heap.modify b _)[b]?=_;rw[Array.getElem?_modify,if_pos rfl,jc];rfl
 have nr:∀ k,k≠b->w1.heap[k]?=γ.w.heap[k]?:=λk hk=>by
  show(γ.w.heap.modify b _)[k]?=_;rw[Array.getElem?_modify,if_neg (λe=>hk e.symm)]
 have JV:w1.heap.size=γ.w.heap.size:=by show(γ.w.heap.modify b _).size=_;simp
 have gD:lJ.size=cur.size:=by simp[lJ,Sort.putCells]
 have A6:ud [.arr 4 (rowsOf aU X)] γ.w γ.Z γ.blk o cap lJ (.arr 4 (rowsOf aU d'.toList)):=by
  refine⟨GS,λrow hr=>?_,by rw[gD];exact hle,?_,kj,λr c v hv=>?_⟩
  ·simp only[rowsOf,bW]at hr;obtain⟨x,_,rfl⟩:=hr;rfl
  ·rw[cH,xw,<- hlen];exact jV
  ·obtain⟨x,y,hx,hy,rfl⟩:=amY hv;obtain⟨h1,h2⟩:=adu hx hy;have h3:lJ.getD (o+(r*4+c)) Go.undef=y:=by
    have aX:o+(r*4+c)<cur.size:=GK;simp only[lJ,Sort.putCells,Array.getD_eq_getD_getElem?,Array.getElem?_mapIdx,Array.getElem?_eq_getElem aX,eH,Option.getD_some];rw[if_pos ⟨GK,by rw[Sort.size_flatK];omega⟩,show o+(r*4+c)-o=r*4+c by omega,h1];rfl
   rw[h3];exact .lit _
 have JW:=hs.write (id:=0) (ob':=.arr 4 (rowsOf aU d'.toList)) rfl GM ⟨rfl,by rw[cH,cH,xw]⟩ hb Dw nr JV A6;have EC:=Fr.write (σ:=⟨λk=>[AV.ref 0 4 0 X.length,.fn 74 []].getD k .undef,[.arr 4 (rowsOf aU X)]⟩) (γ:=γ) (id:=0) (.arr 4 (rowsOf aU d'.toList)) rfl GM ⟨rfl,by rw[cH,cH,xw]⟩ hb nr JV rfl rfl rfl (by show γ.w.drawn<=γ.w.drawn+n;omega);have O5:¬ γ.Z w1.heap.size:=λh=>Nat.lt_irrefl _ (Nat.lt_of_lt_of_eq (hs.gG _ h) JV.symm);have kE:¬ pA [.arr 4 (rowsOf aU d'.toList)] γ.blk w1.heap.size:=by
  rintro⟨i,o2,c2,hl,qw⟩;exact Nat.lt_irrefl _ (JW.blt hl qw)
 have bz:∀ k,k≠w1.heap.size->k<w1.heap.size->(Sort.grow w1 os).heap[k]?=w1.heap[k]?:=λk _ hk=>by
  show(w1.heap++os)[k]?=_;rw[Array.getElem?_append,if_pos hk]
 have Jz:w1.heap.size<=(Sort.grow w1 os).heap.size:=GM;have Gn:=JW.Bw (w':=Sort.grow w1 os) (b:=w1.heap.size) O5 kE bz Jz;have am7:=EC.Bw (σ:=⟨λk=>[AV.ref 0 4 0 X.length,.fn 74 []].getD k .undef,[.arr 4 (rowsOf aU d'.toList)]⟩) (w':=Sort.grow w1 os) (b:=w1.heap.size) (Nat.le_of_eq JV.symm) bz Jz rfl rfl rfl (aY _);refine⟨.bD [],[.arr 4 (rowsOf aU d'.toList)],.tuple #[],{ γ with w:=Sort.grow w1 os,tmps:=#[.tuple #[]] },⟨rfl,_,am5,am6,rfl⟩,rfl,rfl,rfl,⟨λk=>?_,Gn.dT,Gn.inj,Gn.nz,Gn.gG,Gn.gl⟩,am7.put _⟩;rcases k with _|k
 ·exact .bD _ _ rfl (λj x hj=>by simp at hj)
 ·exact .undef _
section
variable {m:ah} {can:List (List Bool)} {gi ai bi mi:Nat} {D E:List (Nat×Nat)} {W:WS} {os:List Ob}
def ady(am:List (List Int×Int))(j:Nat):(mE am)[j]?=(am[j]?).map λp=>(p.1,Qf p.2):=by unfold mE;rw[bI]
def JX(am:List (List Int×Int)):(mE am).length=am.length:=by unfold mE;simp
def am8:uG Tryz.prog 130:=⟨_,_,rfl⟩
def am9(h:WF m can gi ai bi mi D E W os)(hs:nG m W){B:Int}(hB:B<=2305843009213693952)(hW:WB B W)(xz:KN W):
  cX Tryz.prog 40 [.ptr gi 0 0] os λr ob=>r=.tree 4 (rowsOf aU (wg (kU W.am)))/\WF m can gi ai bi mi D E W ob/\Kp mi D E os ob:=by
 have fv:=h.v;have fm:=h.mp;have lI:=hW.al;refine cX.aM 32 os.length [.tmp 2] Tryz.func40 ?_;refine ahQ mi fm ?_;intro b0;have lL:iw xj b0 (.iW mi) b0=some (.iW mi):=s9 _ _ _;repeat'(first|(((first|refine mr ?_|refine rQ ?_);intro K hK) ;simp(disch:=omega)only[Ac,↓Pc,simprocAttr,fv,Mc])|(with_reducible refine gO ?_;simp(disch:=omega)only[Ac,↓Pc,simprocAttr,fv,Mc])|(refine hK _ _ ?_;clear hK K)|(with_reducible refine gS (λa6=>?_) (λa6=>?_)<;>(have hb:=a6;(try simp only[iv,simprocAttr]at hb);simp(disch:=omega)only[Ac,↓Pc,simprocAttr,fv,Mc,a6];clear a6))|(refine mc (λht=>?_) (λht=>?_)<;>(try simp only[iv,simprocAttr]at ht))|refine pP rfl ?_|(refine qH ?_;intro Qb dN eW fU)|(refine oo ?_;intro Q hn he)|((first|refine hn _ _ ?_|refine he _ _ _ rfl ?_);clear hn he;try clear Q)|((first|refine dN _ _ ?_|refine eW _ _ ?_|refine fU _ _ _ rfl ?_);clear dN eW fU;try clear Qb)|(refine aq _ _ _ rfl ?_;clear ak aq;try clear Ql)|with_reducible refine c6 ?_ ?_|omega|with_reducible rfl)
 refine ah3 (by simp only[Kc,simprocAttr]<;>exact rfl) fm am8 lL λr hr=>?_;repeat'(first|(((first|refine mr ?_|refine rQ ?_);intro K hK) ;simp(disch:=omega)only[Ac,↓Pc,simprocAttr,Mc])|(with_reducible refine gO ?_;simp(disch:=omega)only[Ac,↓Pc,simprocAttr,Mc])|(refine hK _ _ ?_;clear hK K)|(with_reducible refine gS (λa6=>?_) (λa6=>?_)<;>(have hb:=a6;(try simp only[iv,simprocAttr]at hb);simp(disch:=omega)only[Ac,↓Pc,simprocAttr,Mc,a6];clear a6))|(refine mc (λht=>?_) (λht=>?_)<;>(try simp only[iv,simprocAttr]at ht))|refine pP rfl ?_|(refine qH ?_;intro Qb dN eW fU)|(refine oo ?_;intro Q hn he)|((first|refine hn _ _ ?_|refine he _ _ _ rfl ?_);clear hn he;try clear Q)|((first|refine dN _ _ ?_|refine eW _ _ ?_|refine fU _ _ _ rfl ?_);clear dN eW fU;try clear Qb)|(refine aq _ _ _ rfl ?_;clear ak aq;try clear Ql)|with_reducible refine c6 ?_ ?_|omega|with_reducible rfl)
 have mM:yS os.length (mz W.am [])=.lit (.slice none 0 0):=by unfold yS mz;rfl
 refine IB (λz:List Nat×Nat×List Ob=>(⟨ao [(3,yS z.2.1 (mz W.am z.1)),(10,.lit (.pointer (some ⟨r,0,none⟩)))],z.2.2⟩:St))
  (λz m=>(z.1.Nodup/\∀ j∈z.1,j<W.am.length)/\(mz W.am z.1≠[]->z.2.2[z.2.1]?=some (.arr 4 (rowsOf aU (mz W.am z.1))))/\os.length<=z.2.1/\os.length<=z.2.2.length/\(∀ (i:Nat) o,os[i]?=some o->z.2.2[i]?=some o)/\m r=some (.iter b0 W.am.length z.1)/\m b0=some (.iW mi))
  (λz=>E3 z.1 W.am.length) ([],os.length,os) ⟨⟨GG,GM⟩,λhx=>absurd rfl hx,aY _,aY _,λ_ _ h=>h,by rw[s9,JX],by rw[qC _ _ (λe=>by rw[<- e,lL]at hr;cases hr)];exact lL⟩ (by(refine lP.ao _ _ rfl ?_;simp only[Tc,↓reduceIte,Nat.reduceEqDiff,sF,Nat.reduceAdd,mM];try trivial)) ?_
 rintro⟨seen,id,ob⟩m1⟨⟨bV,aX⟩,hX,bX,bP,qN,kI,fN⟩Ql ak aq;dsimp only at bV aX hX bX bP qN kI fN ⊢;have JY:=qN _ _ fm;repeat'(first|(((first|refine mr ?_|refine rQ ?_);intro K hK) ;simp(disch:=omega)only[Ac,↓Pc,simprocAttr,Mc])|(with_reducible refine gO ?_;simp(disch:=omega)only[Ac,↓Pc,simprocAttr,Mc])|(refine hK _ _ ?_;clear hK K)|(with_reducible refine gS (λa6=>?_) (λa6=>?_)<;>(have hb:=a6;(try simp only[iv,simprocAttr]at hb);simp(disch:=omega)only[Ac,↓Pc,simprocAttr,Mc,a6];clear a6))|(refine mc (λht=>?_) (λht=>?_)<;>(try simp only[iv,simprocAttr]at ht))|refine pP rfl ?_|(refine qH ?_;intro Qb dN eW fU)|(refine oo ?_;intro Q hn he)|((first|refine hn _ _ ?_|refine he _ _ _ rfl ?_);clear hn he;try clear Q)|((first|refine dN _ _ ?_|refine eW _ _ ?_|refine fU _ _ _ rfl ?_);clear dN eW fU;try clear Qb)|with_reducible refine c6 ?_ ?_|omega|with_reducible rfl)
 refine ah5 (by simp only[Kc,simprocAttr]<;>exact rfl) (by rw[JX];exact kI) JY fN (λdY=>?_) (λj q hq hj=>?_)
 ·rw[JX]at dY;repeat'(first|(((first|refine mr ?_|refine rQ ?_);intro K hK) ;simp(disch:=omega)only[Ac,↓Pc,simprocAttr,Mc])|(with_reducible refine gO ?_;simp(disch:=omega)only[Ac,↓Pc,simprocAttr,Mc])|(refine hK _ _ ?_;clear hK K)|(with_reducible refine gS (λa6=>?_) (λa6=>?_)<;>(have hb:=a6;(try simp only[iv,simprocAttr]at hb);simp(disch:=omega)only[Ac,↓Pc,simprocAttr,Mc,a6];clear a6))|(refine mc (λht=>?_) (λht=>?_)<;>(try simp only[iv,simprocAttr]at ht))|refine pP rfl ?_|(refine qH ?_;intro Qb dN eW fU)|(refine oo ?_;intro Q hn he)|((first|refine hn _ _ ?_|refine he _ _ _ rfl ?_);clear hn he;try clear Q)|((first|refine dN _ _ ?_|refine eW _ _ ?_|refine fU _ _ _ rfl ?_);clear dN eW fU;try clear Qb)|with_reducible refine c6 ?_ ?_|omega|with_reducible rfl)
  refine aq _ _ _ rfl ?_;clear ak aq Ql;repeat(first|((first|refine hn _ _ ?_|refine he _ _ _ rfl ?_);clear hn he;try clear Q)|((first|refine dN _ _ ?_|refine eW _ _ ?_|refine fU _ _ _ rfl ?_);clear dN eW fU;try clear Qb)|(refine aq _ _ _ rfl ?_;clear ak aq;try clear Ql))
  have hP:=amq bV aX dY;have hSo:=λY h1 h2=>am' (Y:=Y) xz hs.ky h1 h2;have lX:seen.length<=W.am.length:=by have:=(acX bV aX dY).length_eq;simp at this;omega
  have vC:=acW W.am seen;refine MX ?_;dsimp only;have hWb:=h.pre bP qN;have hKb:Kp mi D E os ob:=⟨bP,λi o _ _ hi=>qN i o hi⟩;generalize mz W.am seen=X at *;clear kI fN dY bV aX;by_cases Gp:X=[]
  ·subst Gp;refine SP 1 GS _ rfl ?_;intro K hK;simp(disch:=omega)only[Ac,↓Pc,simprocAttr,ja,eR,yS];repeat'(first|with_reducible refine c6 ?_ ?_|omega|with_reducible rfl)
   refine⟨rfl,(show j1 Tryz.prog 73 [.lit (.slice none 0 0),.fn 74 []] (some 30) _ _ from ?_)⟩;refine zA [] (amZ (.fn 74 [])) GS trivial ⟨.pure rfl,.pure rfl,trivial⟩ ?_;rintro r ly⟨rfl,rfl⟩;simp(disch:=omega)only[Ac,↓Pc,simprocAttr,eR];refine hK _ ?_;clear hK K;refine cL (aH.L1 3 4 rfl) ?_;((try revert hK K);(repeat'(first|refine Vb X0 ?_|(refine V2 X0 ?_ ?_<;>try with_reducible intro hb)|(refine Xi ?_ ?_<;>try intro ht)|refine VD ?_ ?_|exact Xx|fail))<;>try with_reducible intro K hK)
   unfold eU;simp only[dI,dE];simp(disch:=omega)only[Ac,↓Pc,simprocAttr];exact⟨_,_,⟨by rw[<- hSo [] hP .nil];rfl,hWb,hKb⟩,eF rfl hKb.len rfl⟩
  ·refine SP 1 GS _ rfl ?_;intro K hK;simp(disch:=omega)only[Ac,↓Pc,simprocAttr,ja,eR,yS,Gp];repeat'(first|with_reducible refine c6 ?_ ?_|omega|with_reducible rfl)
   refine⟨rfl,(show j1 Tryz.prog 73 [.ref id 4 0 X.length,.fn 74 []] (some 30) _ _ from ?_)⟩;refine zA [id] (am0 X Gp GK) GM ⟨by rw[wR];exact hX Gp,trivial⟩ ⟨.eq (by simp[bk,bq]),.pure rfl,trivial⟩ ?_;rintro r ly⟨rfl,Y,hY,hYs,rfl⟩;simp(disch:=omega)only[Ac,↓Pc,simprocAttr,eR];refine hK _ ?_;clear hK K;have yi:=hY.length_eq;have pU:=mR (y:=Ob.arr 4 (rowsOf aU Y)) (hX Gp);have Oz:=iY h.mp;refine cL (aH.HS 3 id 4 (rows:=rowsOf aU Y) pU (by simp only[Kc,simprocAttr,cH,yi]) (jd _) (oS _)) ?_;have tD:=hWb.other (i:=id) ⟨by have:=iY h.v;omega,by have:=iY h.a;omega,by have:=iY h.b;omega,GK⟩ (λhm=>by have:=h.lt _ hm;omega) .gone;have ed:Kp mi D E os (ob.set id .gone):=⟨by rw[List.length_set];exact bP,λi o _ _ hi=>fJ (qN i o hi) (by have:=iY hi;omega)⟩;dsimp only;rw[List.set_set];((try revert hK K);(repeat'(first|refine Vb X0 ?_|(refine V2 X0 ?_ ?_<;>try with_reducible intro hb)|(refine Xi ?_ ?_<;>try intro ht)|refine VD ?_ ?_|exact Xx|fail))<;>try with_reducible intro K hK)
   unfold eU;simp only[dI,dE];simp(disch:=omega)only[Ac,↓Pc,simprocAttr];exact⟨_,_,⟨by rw[<- hSo Y (hY.trans hP) hYs],tD,ed⟩,eF rfl ed.len rfl⟩
 ·rw[ady]at hq;cases he:W.am[j]? with
  |none=>rw[he]at hq;simp at hq
  |some qa =>
   rw[he]at hq;simp only[eH,cA.injEq]at hq;subst hq;have gu:=(aV.1 he).1;obtain⟨kp,ks,ko,Pa⟩:=hs.ky qa (List.mem_of_getElem? he);have Dg:W.am.getD j default=qa:=by rw[List.getD_eq_getElem?_getD,he];rfl
   have fc:=amo W.am seen j;rw[Dg]at fc;have BT:BY qa=⟨kp,ks,ko,qa.2⟩:=by unfold BY;rw[Pa];rfl
   have vU:=UG gu hj;obtain⟨ky,amt⟩:=qa;dsimp only at Pa fc BT ⊢;subst Pa;repeat'(first|(((first|refine mr ?_|refine rQ ?_);intro K hK) ;simp(disch:=omega)only[Ac,↓Pc,simprocAttr,Mc])|(with_reducible refine gO ?_;simp(disch:=omega)only[Ac,↓Pc,simprocAttr,Mc])|(refine hK _ _ ?_;clear hK K)|(with_reducible refine gS (λa6=>?_) (λa6=>?_)<;>(have hb:=a6;(try simp only[iv,simprocAttr]at hb);simp(disch:=omega)only[Ac,↓Pc,simprocAttr,Mc,a6];clear a6))|(refine mc (λht=>?_) (λht=>?_)<;>(try simp only[iv,simprocAttr]at ht))|refine pP rfl ?_|(refine qH ?_;intro Qb dN eW fU)|(refine oo ?_;intro Q hn he)|((first|refine hn _ _ ?_|refine he _ _ _ rfl ?_);clear hn he;try clear Q)|((first|refine dN _ _ ?_|refine eW _ _ ?_|refine fU _ _ _ rfl ?_);clear dN eW fU;try clear Qb)|with_reducible refine c6 ?_ ?_|omega|with_reducible rfl)
   refine ah6 (seen:=seen) (j:=j) (b:=b0) (q:=([kp,ks,ko],Qf amt)) (by simp only[Kc,simprocAttr]<;>exact rfl) (by rw[s9]) JY (by rw[qC _ _ (λe=>by rw[e]at fN;rw[fN]at kI;cases kI)];exact fN) (by rw[ady,he];rfl) ?_;have hkA:kA 3 [kp,ks,ko]=.agg [Qf kp,Qf ks,Qf ko]:=rfl;rw[hkA];have zt:iw m1 r (.iter b0 W.am.length (seen++[j])) r=_:=s9 _ _ _;have hbm:iw m1 r (.iter b0 W.am.length (seen++[j])) b0=some (.iW mi):=by rw[qC _ _ (λe=>by rw[e]at fN;rw[fN]at kI;cases kI)];exact fN
   have Jd:(seen++[j]).Nodup:=List.nodup_append.2 ⟨bV,GM,λa ha b hb=>by simp only[cV]at hb;subst hb;exact λe=>hj (e▸ha)⟩;have adE:∀ i∈seen++[j],i<W.am.length:=λi hi=>by
    rcases List.mem_append.1 hi with hi|hi
    ·exact aX i hi
    ·simp only[cV]at hi;subst hi;exact gu
   rw[JX];by_cases ha:amt=0
   ·rw[if_neg (by simpa using ha)]at fc;repeat'(first|(((first|refine mr ?_|refine rQ ?_);intro K hK) ;simp(disch:=omega)only[Ac,↓Pc,simprocAttr,bH,bE,ha,Mc])|(with_reducible refine gO ?_;simp(disch:=omega)only[Ac,↓Pc,simprocAttr,bH,bE,ha,Mc])|(refine hK _ _ ?_;clear hK K)|(with_reducible refine gS (λa6=>?_) (λa6=>?_)<;>(have hb:=a6;(try simp only[iv,simprocAttr]at hb);simp(disch:=omega)only[Ac,↓Pc,simprocAttr,bH,bE,ha,Mc,a6];clear a6))|(refine mc (λht=>?_) (λht=>?_)<;>(try simp only[iv,simprocAttr]at ht))|refine pP rfl ?_|(refine qH ?_;intro Qb dN eW fU)|(refine oo ?_;intro Q hn he)|((first|refine hn _ _ ?_|refine he _ _ _ rfl ?_);clear hn he;try clear Q)|((first|refine dN _ _ ?_|refine eW _ _ ?_|refine fU _ _ _ rfl ?_);clear dN eW fU;try clear Qb)|with_reducible refine c6 ?_ ?_|omega|with_reducible rfl)
    all_goals try(exfalso;omega)
    refine ak _ _ (seen++[j],id,ob++[.var [Qf kp,Qf ks,Qf ko]]) ⟨⟨Jd,adE⟩,by dsimp only;rw[fc];exact λhx=>aN (hX hx) _,bX,P2,λi o hi=>aN (qN i o hi) _,zt,hbm⟩ vU ?_;dsimp only;rw[fc];(refine lP.ao _ _ rfl ?_;simp only[Tc,↓reduceIte,Nat.reduceEqDiff,sF,Nat.reduceAdd];try trivial)
   ·rw[if_pos ha,BT]at fc;have dM:=amv hX;have vC:=acW W.am seen;have lX:seen.length<=W.am.length:=by
     have h1:=(List.Nodup.length_le_of_subset bV (l₂:=List.range W.am.length) (λa ha=>List.mem_range.2 (aX a ha)));simpa using h1
    have lM:=amr id (mz W.am seen) ob;have k8:rowsOf aU (mz W.am seen)++[[Qf kp,Qf ks,Qf ko,Qf amt]]=rowsOf aU (mz W.am seen++[⟨kp,ks,ko,amt⟩]):=by unfold rowsOf;rw[List.map_append];rfl
    have kj:=λq=>amw q (mz W.am seen) ⟨kp,ks,ko,amt⟩;have kg:=λ(i:Nat) o (hi:os[i]?=some o)=>amu (qN i o hi) (X:=mz W.am seen) (id:=id) (λ_=>by have:=iY hi;omega);generalize mz W.am seen=X at *;generalize xM id X ob=yG at *;repeat'(first|(((first|refine mr ?_|refine rQ ?_);intro K hK) ;simp(disch:=omega)only[Ac,↓Pc,simprocAttr,bH,bE,Mc])|(with_reducible refine gO ?_;simp(disch:=omega)only[Ac,↓Pc,simprocAttr,bH,bE,Mc])|(refine hK _ _ ?_;clear hK K)|(with_reducible refine gS (λa6=>?_) (λa6=>?_)<;>(have hb:=a6;(try simp only[iv,simprocAttr]at hb);simp(disch:=omega)only[Ac,↓Pc,simprocAttr,bH,bE,Mc,a6];clear a6))|(refine mc (λht=>?_) (λht=>?_)<;>(try simp only[iv,simprocAttr]at ht))|refine pP rfl ?_|(refine qH ?_;intro Qb dN eW fU)|(refine oo ?_;intro Q hn he)|((first|refine hn _ _ ?_|refine he _ _ _ rfl ?_);clear hn he;try clear Q)|((first|refine dN _ _ ?_|refine eW _ _ ?_|refine fU _ _ _ rfl ?_);clear dN eW fU;try clear Qb)|with_reducible refine c6 ?_ ?_|omega|with_reducible rfl)
    all_goals try(exfalso;omega)
    refine MX ?_;dsimp only;repeat'(first|((first|((first|refine rr ?_|refine uo ?_);intro K hK)|with_reducible refine gO ?_);simp(disch:=omega)only[Ac,↓Pc,simprocAttr,bH,bE,↓dM,lM,k8,cH,bO])|(refine hK _ ?_;clear hK K)|(with_reducible refine gS (λa6=>?_) (λa6=>?_)<;>(have hb:=a6;(try simp only[iv,simprocAttr]at hb);simp(disch:=omega)only[Ac,↓Pc,simprocAttr,bH,bE,↓dM,lM,k8,cH,bO,a6];clear a6))|(refine Wc (λht=>?_) (λht=>?_)<;>(try simp only[iv,simprocAttr]at ht))|refine Wz rfl ?_|refine Xz ?_|(simp only[Qc,Kc,simprocAttr])|with_reducible refine c6 ?_ ?_|omega|with_reducible rfl)
    refine dN _ _ ?_;refine ak _ _ (seen++[j],ob.length+2,yG++[.var [Qf kp,Qf ks,Qf ko],.arr 4 [[Qf kp,Qf ks,Qf ko,Qf amt]],.arr 4 (rowsOf aU (X++[⟨kp,ks,ko,amt⟩]))]) ⟨⟨Jd,adE⟩,?_,PW,by dsimp only;rw[bO,lM];omega,λi o hi=>aN (kg i o hi) _,zt,hbm⟩ vU ?_
    ·dsimp only;intro _;rw[fc,Af lM];rfl
    ·dsimp only;rw[fc,<- kj];(refine lP.ao _ _ rfl ?_;simp only[Tc,↓reduceIte,Nat.reduceEqDiff,sF,Nat.reduceAdd];try trivial)
end
def adF(m:ah)(left:List (List Bool))(rounds:Int)(kJ:MB m)(kH:BB left)(hr:cR rounds):
  cX Tryz.prog 15 [.agg (an m),.tree 1 (rowsOf aC left),Qf rounds] [] λr ob=>ob=[]/\∃ xv:AV,r=.bD [xv,Qf (nv m left rounds)]/\(nv m left rounds≠0->xv=.lit (.slice none 0 0))/\(nv m left rounds=0->xv=.tree 4 (rowsOf aU (oc m left rounds))):=by
 unfold cR at hr;have qy:=aaY m left [] kJ kH GM;have np:Holds Tryz.prog 17 [.agg (an m),.tree 1 (rowsOf aC left),.lit (.slice none 0 0)] [] (.bD [Qf (b8 m left []).1,Qf (b8 m left []).2]) []:=Holds.L8 (pre:=[.agg (an m),.tree 1 (rowsOf aC left)]) (post:=[]) qy;have Gq:=Me m left;have dV:=@EB m left;unfold nv;generalize adG:b8 m left []=v0 at *;obtain⟨val,e⟩:=v0;dsimp only at np qy;have he:e=lg m left:=by
  by_cases h:lg m left≠0
  ·rw[if_pos h]at Gq;exact congrArg Prod.snd Gq
  ·rw[if_neg h]at Gq;have:=congrArg Prod.snd Gq;dsimp only at this;omega
 subst he;by_cases hs:lg m left=0;rotate_left
 ·rw[if_pos hs];refine cX.aM 70 0 [.tmp 6,.tmp 7] Tryz.func15 ?_;((try revert hK K);(repeat'(first|refine Vd X0 np ?_|(refine V2 X0 ?_ ?_<;>try with_reducible intro hb)|(refine Xi ?_ ?_<;>try intro ht)|refine VD ?_ ?_|exact Xx|fail))<;>try with_reducible intro K hK)
  all_goals try(exfalso;omega)
  unfold eU;simp only[dI,dE];simp(disch:=omega)only[Ac,↓Pc,simprocAttr];refine⟨_,_,⟨rfl,.lit (.slice none 0 0),rfl,λ_=>rfl,λh=>absurd h hs⟩,?_⟩;exact Xw true [] X0
 rw[if_neg (by simpa using hs)]at Gq ⊢;by_cases gX:rounds<0\/64<rounds
 ·rw[if_pos gX];refine cX.aM 70 0 [.tmp 6,.tmp 7] Tryz.func15 ?_;((try revert hK K);(repeat'(first|refine Vd X0 np ?_|(refine V2 X0 ?_ ?_<;>try with_reducible intro hb)|(refine Xi ?_ ?_<;>try intro ht)|refine VD ?_ ?_|exact Xx|fail))<;>try with_reducible intro K hK)
  all_goals try(exfalso;omega)
  all_goals
   unfold eU;simp only[dI,dE];simp(disch:=omega)only[Ac,↓Pc,simprocAttr];refine⟨_,_,⟨rfl,.lit (.slice none 0 0),rfl,rfl⟩,?_⟩;exact Xw true [] X0
 rw[if_neg gX];obtain⟨cP,kG⟩:=dV hs;have apP:(b8 m left []).2=0:=by rw[adG];exact hs
 have anb:(b8 m left []).1=val:=by rw[adG]
 refine cX.aM 70 0 [.tmp 6,.tmp 7] Tryz.func15 ?_;repeat'(first|((fail_if_success (first|refine eM 7 ?_|refine eN 7 ?_));refine Xq X0 ?_;intro K hK)|refine Xo X0 ?_|refine Xc (np) ?_|(refine hK _ ?_;clear hK K)|(refine Xg X0 ?_ ?_<;>try intro hb)|(refine Xi ?_ ?_<;>try intro ht)|refine XY ?_|refine Xd ?_ ?_|exact Xx|fail)
 all_goals try(exfalso;omega)
 refine cL (aH.L1 (a:=none) (cap:=0) 10 4 (by simp only[Kc,simprocAttr])) ?_;dsimp only;have O4:=ak4 cP kG [.var (an m)];refine oa 2 GS _ rfl ?_;intro K hK;simp(disch:=omega)only[Ac,↓Pc,simprocAttr,ja,eR];refine⟨rfl,(show j1 Tryz.prog 38 [.agg (an m),.tree 1 (rowsOf aC left)] (some 33) _ _ from ?_)⟩;refine rS O4 ?_;rintro r ob⟨gi,ai,bi,mi,D,E,rfl,hW,hlen,qN,Oz,gd⟩;refine⟨hlen,?_⟩;simp(disch:=omega)only[Ac,↓Pc,simprocAttr,eR];refine hK _ ?_;clear hK K;repeat(first|refine Xu ?_)
 have f0:=qN 0 _ rfl;((try revert hK K);(repeat'(first|refine Va X0 ?_|(refine V2 X0 ?_ ?_<;>try with_reducible intro hb)|(refine Xi ?_ ?_<;>try intro ht)|refine VD ?_ ?_|exact Xx|fail))<;>try with_reducible intro K hK)
 obtain⟨n,rfl⟩:∃n:Nat,rounds=n:=⟨rounds.toNat,GK⟩;have hcf:=amy m left;have BF:(rowsOf aU ([]:List Mv))=[]:=rfl;refine aR (λz:Nat×List Mv×WS×List Ob=>(⟨ao [(1,.tree 1 (rowsOf aC left)),(3,.ptr 0 0 0),(8,Qf (b8 m left z.2.1).1),(10,.tree 4 (rowsOf aU z.2.1)),(11,.ptr gi 0 0),(34,Qf n),(35,Qf z.1)],z.2.2.2⟩:St))
  (λz=>(KN z.2.2.1/\Al m left (n-z.1) z.1 z.2.1 z.2.2.1=oc m left n)/\z.1<=n/\WF m (eh m left m.cls.length) gi ai bi mi D E z.2.2.1 z.2.2.2/\nG m z.2.2.1/\WB (1099511627776+14843406974976*(z.1:Int)) z.2.2.1/\z.2.2.2[0]?=some (.var (an m)))
  (λz=>n-z.1) (0,[],W0 m,ob) ⟨⟨GG,rfl⟩,aS _,hW,anf,(ang cP).mono GK,f0⟩ (by dsimp only;rw[anb,BF];exact Xv X0) ?_
 clear hW f0 qN hlen;rintro⟨k,X,V1,ob⟩⟨⟨xz,qP⟩,hk,hW,rG,JK,f0⟩Ql ak aq;dsimp only at xz qP hk hW rG JK f0 ⊢;have fin:∀ (X:List Mv) (ob:List Ob),X=oc m left n->∀ st,aH 0 st ⟨ao [(10,.tree 4 (rowsOf aU X))],ob⟩->Ql (.exit 0) st:=λX ob h0 st ht=>by
  refine aq _ _ rfl ?_;clear ak aq;repeat(first|refine Xu ?_)
  refine cL ht ?_;clear ht;((try revert hK K);(repeat'(first|refine Vb X0 ?_|(refine V2 X0 ?_ ?_<;>try with_reducible intro hb)|(refine Xi ?_ ?_<;>try intro ht)|refine VD ?_ ?_|exact Xx|fail))<;>try with_reducible intro K hK)
  unfold eU;simp only[dI,dE];simp(disch:=omega)only[Ac,↓Pc,simprocAttr];refine⟨_,_,⟨rfl,.tree 4 (rowsOf aU X),rfl,by rw[h0]⟩,?_⟩;exact Xw true [] X0
 by_cases bg:k<n
 ·obtain⟨r,kh⟩ :∃r,n-k=r+1:=⟨n-k-1,GK⟩;have hr3:n-(k+1)=r:=GK;rw[kh,Al]at qP;by_cases hxF:(b8 m left X).1=1099511627776
  ·rw[if_pos hxF]at qP;((try revert hK K);(repeat'(first|refine Va X0 ?_|(refine V2 X0 ?_ ?_<;>try with_reducible intro hb)|(refine Xi ?_ ?_<;>try intro ht)|refine VD ?_ ?_|exact Xx|fail))<;>try with_reducible intro K hK)
   all_goals try(exfalso;omega)
   exact fin X ob qP _ (Xv X0)
  ·rw[if_neg hxF]at qP;have adI:=ani (m:=m) (can:=eh m left m.cls.length) V1 xz k;have gk:=akF cP hcf hW rG (B:=1099511627776+14843406974976*(k:Int)) ⟨GK,GK⟩ JK (round:=k) GK;generalize qE m (eh m left m.cls.length) V1 k=V2 at *;repeat'(first|((fail_if_success (first|refine eM 12 ?_|refine eN 12 ?_));refine Xr X0 ?_;intro K hK)|refine Xo X0 ?_|(refine hK _ ?_;clear hK K)|(refine Xg X0 ?_ ?_<;>try intro hb)|(refine Xi ?_ ?_<;>try intro ht)|refine Xy ?_|refine Xd ?_ ?_|exact Xx|fail)
   all_goals try(exfalso;omega)
   refine oa 2 GS _ rfl ?_;intro K hK;simp(disch:=omega)only[Ac,↓Pc,simprocAttr,ja,eR];refine⟨rfl,(show j1 Tryz.prog 39 [.ptr gi 0 0,Qf k] (some 42) _ _ from ?_)⟩;refine rS gk ?_;rintro r' yG⟨rfl,tD,ed,adJ,Pb⟩;refine⟨ed.len,?_⟩;simp(disch:=omega)only[Ac,↓Pc,simprocAttr,eR];refine hK _ ?_;clear hK K;repeat(first|refine Xu ?_)
   have adK:0≠mi:=by simp only[List.length_cons,List.length_nil]at Oz;omega
   have n0D:0 ∉ (D++E).map (·.1):=λhm=>by have:=gd 0 hm;simp at this
   have f2:=ed.same 0 _ adK n0D f0;have xG:=am9 tD adJ GK Pb adI;repeat'(first|((fail_if_success (first|refine eM 13 ?_|refine eN 13 ?_));refine Xr X0 ?_;intro K hK)|refine Xo X0 ?_|(refine hK _ ?_;clear hK K)|(refine Xg X0 ?_ ?_<;>try intro hb)|(refine Xi ?_ ?_<;>try intro ht)|refine Xy ?_|refine Xd ?_ ?_|exact Xx|fail)
   refine oa 1 GS _ rfl ?_;intro K hK;simp(disch:=omega)only[Ac,↓Pc,simprocAttr,ja,eR];refine⟨rfl,(show j1 Tryz.prog 40 [.ptr gi 0 0] (some 44) _ _ from ?_)⟩;refine rS xG ?_;rintro r' kT⟨rfl,OS,Gf⟩;have hY:(wg (kU V2.am)).Perm (kU V2.am):=by unfold wg;exact Pd _ _ []
   generalize wg (kU V2.am)=Y at *;refine⟨Gf.len,?_⟩;simp(disch:=omega)only[Ac,↓Pc,simprocAttr,eR];refine hK _ ?_;clear hK K;repeat(first|refine Xu ?_)
   have f3:=Gf.same 0 _ adK n0D f2;have yi:Y.length<9223372036854775808:=by
    have h1:=hY.length_eq;have h2:=Pb.al;have h3:(kU V2.am).length<=V2.am.length:=by unfold kU;rw[fK];exact List.length_filter_le _ _
    omega
   have hvY:=aaY m left Y kJ kH yi;repeat'(first|((fail_if_success (first|refine eM 15 ?_|refine eN 15 ?_));refine Xq @f3 ?_;intro K hK)|refine Xo @f3 ?_|refine Xc (hvY) ?_|(refine hK _ ?_;clear hK K)|(refine Xg @f3 ?_ ?_<;>try intro hb)|(refine Xi ?_ ?_<;>try intro ht)|refine Xy ?_|refine Xd ?_ ?_|exact Xx|fail)
   have nm:∀ s X,aH 0 s ⟨ao [(1,.tree 1 (rowsOf aC left)),(3,.ptr 0 0 0),(8,Qf (b8 m left X).1),(10,.tree 4 (rowsOf aU X)),(11,.ptr gi 0 0),(34,Qf n),(35,Qf (k+1:Nat))],kT⟩->Al m left r (k+1) X V2=oc m left n->Ql .normal s:=λs X h1 h0 =>
    ak _ (k+1,X,V2,kT) ⟨⟨adI,by dsimp only;rw[hr3];exact h0⟩,PW,OS,adJ,Pb.mono (by push_cast;omega),f3⟩ PW h1
   have nx:=λs=>nm s X;have Gl:=λs=>nm s Y;have adM:=fin X kT;clear ak aq fin nm;generalize (b8 m left Y).1=vy at *;generalize (b8 m left Y).2=ey at *;generalize (b8 m left X).1=vx at *;have apQ:((k:Int)+1)=((k+1:Nat):Int):=by push_cast;rfl
   by_cases Pe:ey=0
   ·have yT:(ey != 0)=false:=by simp[Pe]
    by_cases Pf:vx<vy
    ·have d1:decide (vy<=vx)=false:=decide_eq_false GK;have d2:decide (vy > vx)=true:=decide_eq_true Pf;((try revert hK K);(repeat'(first|refine Va (X3 @yT @d1 @d2) ?_|(refine V2 (X3 @yT @d1 @d2) ?_ ?_<;>try with_reducible intro hb)|(refine Xi ?_ ?_<;>try intro ht)|refine VD ?_ ?_|exact Xx|fail))<;>try with_reducible intro K hK)
     all_goals try(exfalso;omega)
     all_goals exact Gl _ (Xv X0) (by rw[if_neg GK,if_pos Pf]at qP;exact qP)
    ·have d1:decide (vy<=vx)=true:=decide_eq_true GK;have d2:decide (vy > vx)=false:=decide_eq_false GK;by_cases apR:k=0
     ·have d3:decide ((k:Int) > 0)=false:=decide_eq_false GK;((try revert hK K);(repeat'(first|refine Va (X4 @yT @d1 @d2 @d3) ?_|(refine V2 (X4 @yT @d1 @d2 @d3) ?_ ?_<;>try with_reducible intro hb)|(refine Xi ?_ ?_<;>try intro ht)|refine VD ?_ ?_|exact Xx|fail))<;>try with_reducible intro K hK)
      all_goals try(exfalso;omega)
      all_goals exact nx _ (Xv X0) (by rw[if_neg GK,if_neg Pf]at qP;exact qP)
     ·have d3:decide ((k:Int) > 0)=true:=decide_eq_true GK;((try revert hK K);(repeat'(first|refine Va (X4 @yT @d1 @d2 @d3) ?_|(refine V2 (X4 @yT @d1 @d2 @d3) ?_ ?_<;>try with_reducible intro hb)|(refine Xi ?_ ?_<;>try intro ht)|refine VD ?_ ?_|exact Xx|fail))<;>try with_reducible intro K hK)
      all_goals try(exfalso;omega)
      all_goals exact adM (by rw[if_pos GK]at qP;exact qP) _ (Xv X0)
   ·have yT:(ey != 0)=true:=by simp[Pe]
    ((try revert hK K);(repeat'(first|refine Va @yT ?_|(refine V2 @yT ?_ ?_<;>try with_reducible intro hb)|(refine Xi ?_ ?_<;>try intro ht)|refine VD ?_ ?_|exact Xx|fail))<;>try with_reducible intro K hK)
    all_goals try(exfalso;omega)
    all_goals exact adM (by rw[if_pos (.inl Pe)]at qP;exact qP) _ (Xv X0)
 ·obtain rfl:k=n:=GK;((try revert hK K);(repeat'(first|refine Va X0 ?_|(refine V2 X0 ?_ ?_<;>try with_reducible intro hb)|(refine Xi ?_ ?_<;>try intro ht)|refine VD ?_ ?_|exact Xx|fail))<;>try with_reducible intro K hK)
  refine fin X ob (by rw[Nat.sub_self]at qP;exact qP) _ ?_;exact Xv X0
def ank(m:ah)(left:List (List Bool))(rounds:Int)(kJ:MB m)(kH:BB left)(hr:cR rounds)(h:nv m left rounds≠0):
  Holds Tryz.prog 15 [.agg (an m),.tree 1 (rowsOf aC left),Qf rounds] [] (.bD [.lit (.slice none 0 0),Qf (nv m left rounds)]) [] :=
 cX.one ((adF m left rounds kJ kH hr).mono λr os ⟨h1,xv,h2,h3,h4⟩=>by rw[h2,h3 h];exact⟨rfl,h1⟩)
def anl(m:ah)(left:List (List Bool))(rounds:Int)(kJ:MB m)(kH:BB left)(hr:cR rounds)(h:nv m left rounds=0):
  Holds Tryz.prog 15 [.agg (an m),.tree 1 (rowsOf aC left),Qf rounds] [] (.bD [.tree 4 (rowsOf aU (oc m left rounds)),Qf 0]) [] :=
 cX.one ((adF m left rounds kJ kH hr).mono λr os ⟨h1,xv,h2,h3,h4⟩=>by rw[h2,h4 h,h];exact⟨rfl,h1⟩)
def agx(m:ah)(rounds:Int)(kJ:MB m)(hr:cR rounds)(h:nv m (cI m) rounds≠0):
  Holds Tryz.prog 25 [.agg (an m),Qf rounds] [] (.bD [.agg [.lit (.slice none 0 0)],Qf 0,Qf (nv m (cI m) rounds)]) []:=by
 have h1:=Nh m kJ;have h2:=ank m (cI m) rounds kJ (ads kJ) hr h;generalize nv m (cI m) rounds=e at *;generalize cI m=al at *;have jY:(e != 0)=true:=by simp[h]
 refine Holds.aM 36 0 [.cell 4 53,.tmp 5,.tmp 6] Tryz.func25 ?_;((try revert hK K);(repeat'(first|refine Vd @jY (X2 h1 h2) ?_|(refine V2 @jY ?_ ?_<;>try with_reducible intro hb)|(refine Xi ?_ ?_<;>try intro ht)|refine VD ?_ ?_|exact Xx|fail))<;>try with_reducible intro K hK)
 all_goals try(exfalso;omega)
 simp(disch:=omega)only[Ac,↓Pc,simprocAttr];exact Xw true [] X0
def Ta(m:ah)(rounds:Int)(kJ:MB m)(hr:cR rounds)(h:nv m (cI m) rounds=0):
  Holds Tryz.prog 25 [.agg (an m),Qf rounds] [] (.bD [.agg (aJ (j2 (oc m (cI m) rounds))),Qf (b8 m (cI m) (oc m (cI m) rounds)).1,Qf 0]) []:=by
 have h1:=Nh m kJ;have h2:=anl m (cI m) rounds kJ (ads kJ) hr h;have hv:(b8 m (cI m) []).2=0:=by
  rw[Me];unfold nv at h;split at h
  ·rename_i h0;exact absurd h h0
  ·rename_i h0;rw[if_neg h0]
 have hx:=(Tb rounds hv).1;generalize oc m (cI m) rounds=X at *;have h3:=Ym m (j2 X) kJ (HO (by have:=HN hx;omega));rw[HP hx]at h3;generalize (b8 m (cI m) X).1=n at *;generalize cI m=al at *;refine Holds.aM 36 0 [.cell 4 53,.tmp 5,.tmp 6] Tryz.func25 ?_;repeat'(first|((fail_if_success (first|refine eM 5 ?_|refine eN 5 ?_));refine Xq X0 ?_;intro K hK)|refine Xo X0 ?_|refine Xc (h1) ?_|refine Xc (h2) ?_|(refine hK _ ?_;clear hK K)|(refine Xg X0 ?_ ?_<;>try intro hb)|(refine Xi ?_ ?_<;>try intro ht)|refine XY ?_|refine Xd ?_ ?_|exact Xx|fail)
 refine cL (aH.aja 2 0 5 (cells':=aB ⟨-1,[],X,[],[]⟩) rfl rfl (by exact⟨.inl rfl,.inr ⟨rfl,_,rfl⟩,.inl rfl,.inr ⟨rfl,_,rfl⟩,.inr ⟨rfl,_,rfl⟩,trivial⟩)) ?_;refine cL (aH.yg 2 3 0 5 (rows:=rowsOf aB (j2 X)) rfl rfl rfl (jd _) (oS _)) ?_;dsimp only;simp(disch:=omega)only[Ac,↓Pc,simprocAttr];((try revert hK K);(repeat'(first|refine Vd X0 h3 ?_|(refine V2 X0 ?_ ?_<;>try with_reducible intro hb)|(refine Xi ?_ ?_<;>try intro ht)|refine VD ?_ ?_|exact Xx|fail))<;>try with_reducible intro K hK)
 simp(disch:=omega)only[Ac,↓Pc,simprocAttr];exact Xw true [] X0
def oL1:cz:=⟨0,0,0,0,0,[(0,3)]⟩
def oLz:cz:=⟨0,0,0,0,0,[]⟩
def lU:ah:=⟨[[oL1,oLz],[oLz,oL1]],[⟨0,1,0,[0,5,5,0]⟩],[],1⟩
def adP:VM lU:=nu.1 (by decide +kernel)
def anm:nv lU (cI lU) 4=0:=by decide +kernel
def adQ:b8 lU (cI lU) (oc lU (cI lU) 4)=(3,0):=by decide +kernel
def S9:Holds Tryz.prog 9 [] [] (.lit (.bool true)) []:=by
 have h1:=Ta lU 4 adP.mb (by unfold cR;omega) anm;have qy:(b8 lU (cI lU) (oc lU (cI lU) 4)).2=0:=by rw[adQ]
 have h2:=Ym lU (j2 (oc lU (cI lU) 4)) adP.mb (HO (by have:=HN qy;omega));rw[HP qy]at h2;rw[adQ]at h1 h2;have dg:(j2 (oc lU (cI lU) 4)).length=1:=rfl;generalize j2 (oc lU (cI lU) 4)=Q at *;dsimp only at h1 h2;refine Holds.aM 53 0 [.tmp 0] Tryz.func9 ?_;repeat'(first|((fail_if_success (first|refine eM 1 ?_|refine eN 1 ?_));refine Xr X0 ?_;intro K hK)|refine Xo X0 ?_|(refine hK _ ?_;clear hK K)|(refine Xg X0 ?_ ?_<;>try intro hb)|(refine Xi ?_ ?_<;>try intro ht)|refine XY ?_|refine Xd ?_ ?_|exact Xx|fail)
 refine Nx 15 GS ?_;intro K K1 hK z7;simp(disch:=omega)only[Ac,↓Pc,simprocAttr,ja];refine z7 _ ⟨ao [(21,.agg (an lU))],[]⟩ ?_ ?_
 ·refine aH.aj [] true _ _ GS trivial GS GS ⟨?_,trivial⟩;simp only[Kc,simprocAttr];refine aZ.agg _ _ rfl (jE.spec (R:=aZ _ _ _ _) (cs:=an lU) (ds:=[.ref 4 1 0 2,.ref 6 4 0 1,.lit (.slice none 0 0),Qf 1]) ⟨.snap _ _ rfl ?_,.snap _ _ rfl ?_,.snap _ _ rfl (.nil 4),.pure rfl,trivial⟩).2
  ·exact cQ.mk rfl rfl (jD GS) (jd _) ⟨⟨cQ.mk rfl rfl (jD GS) (jd _) ⟨⟨.lit _,.lit _,.lit _,.lit _,.lit _,cQ.mk rfl rfl (jD GS) (jd _) ⟨⟨.lit _,.lit _,trivial⟩,trivial⟩,trivial⟩,⟨.lit _,.lit _,.lit _,.lit _,.lit _,.nil 2,trivial⟩,trivial⟩,trivial⟩,
    ⟨cQ.mk rfl rfl (jD GS) (jd _) ⟨⟨.lit _,.lit _,.lit _,.lit _,.lit _,.nil 2,trivial⟩,⟨.lit _,.lit _,.lit _,.lit _,.lit _,cQ.mk rfl rfl (jD GS) (jd _) ⟨⟨.lit _,.lit _,trivial⟩,trivial⟩,trivial⟩,trivial⟩,trivial⟩,trivial⟩
  ·exact cQ.mk rfl rfl (jD GS) (jd _) ⟨⟨.lit _,.lit _,.lit _,cQ.mk rfl rfl (jD GS) (vh _) ⟨⟨.lit _,trivial⟩,⟨.lit _,trivial⟩,⟨.lit _,trivial⟩,⟨.lit _,trivial⟩,trivial⟩,trivial⟩,trivial⟩
 clear z7 K1;simp(disch:=omega)only[Ac,↓Pc,simprocAttr,eR];refine hK _ ?_;clear hK K;generalize lU=m at *;repeat(first|refine Xu ?_)
 ((try revert hK K);(repeat'(first|refine Vd @aJ.eq_1 (X2 h1 h2) ?_|(refine V2 @aJ.eq_1 ?_ ?_<;>try with_reducible intro hb)|(refine Xi ?_ ?_<;>try intro ht)|refine VD ?_ ?_|exact Xx|fail))<;>try with_reducible intro K hK)
 all_goals exact aO (by rw[dg];rfl) (by rw[dg];rfl)
end T

