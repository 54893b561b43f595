import Derived.Test.YtfoopmojjjpapaaGreatX29
import Derived.Test.YtfoopmojjjpapaaGreatX44
import Derived.Shelf.SlSortCmp.NoneTotal
set_option linter.all false
set_option maxHeartbeats 0
set_option maxRecDepth 20000
open List renaming mem_singleton→cU,length_map→fW,mem_map→b8,getElem?_map→b9,getElem?_eq_some_iff→aR,getElem?_eq_getElem→bT,nodup_nil→Iu,take→iv,drop→eC,append_assoc→bC,length_append→bF
open Option renaming map_some→gY,some→cm
open Nat renaming zero_le→aT,le_refl→bb,reduceBEq→qW
open Array renaming length_toList→qR
open And renaming intro→cK
open Go Go.Am Go.Proofs
namespace T
def oT(X:List Mv):List Nd:=[⟨-1,[],X,[],[]⟩]
def abu{X:List Mv}(h:X.length<9223372036854775808):PB (oT X):=by
 refine⟨by show(1:Nat)<_;decide,λx hx=>?_,λx hx=>?_,λx hx=>?_,λx hx=>?_,λx hx l hl=>?_⟩;all_goals unfold oT at hx;rw[cU]at hx;subst hx
 ·show(0:Nat)<_;decide
 ·exact h
 ·show(0:Nat)<_;decide
 ·show(0:Nat)<_;decide
 ·simp at hl
def XF{m:ah}(hm:MB m):BB (eS m):=by
 unfold eS;split
 ·refine⟨by unfold dP;rw[fW];exact hm.cls,λr hr=>?_⟩;obtain⟨l,hl,rfl⟩:=b8.1 hr;rw[List.length_replicate];exact hm.opt l hl
 ·exact⟨NI,Iy⟩
def akZ(m:ah)(left:List (List Bool))(g:Lg):lq m left g<=1099511627776:=by
 unfold lq;split
 ·exact Int.le_refl _
 ·omega
def KW{m:ah}{left:List (List Bool)}{X:List Mv}(h:(bQ m left X).2=0):X.length<=2000:=by
 unfold bQ iO at h;split at h
 ·rename_i h1;exact absurd h h1
 ·split at h
  ·cases h
  ·omega
def XB{m:ah}{left:List (List Bool)}{X:List Mv}(h:(bQ m left X).2=0):kn m left=0/\bQ m left X=iO m left X/\(bQ m left X).1<=1099511627776:=by
 unfold bQ at h ⊢;split at h
 ·rename_i h1;exact absurd h h1
 ·rename_i h1;rw[if_neg h1];refine⟨Decidable.not_not.1 h1,rfl,?_⟩;unfold iO at h ⊢;split at h
  ·cases h
  ·split at h
   ·cases h
   ·rename_i h2 h3;rw[if_neg h2,if_neg h3];exact akZ _ _ _
def abv{m:ah}{X:List Mv}(h:(bQ m (eS m) X).2=0):th m (oT X)=((bQ m (eS m) X).1,true):=by
 obtain⟨h1,h2,h3⟩:=XB h;have hv:=(GF h1).1;have ni:jO m=0:=rA.2 hv;have hs:lY m (oT X)=true:=by
  unfold lY oT;simp[mz,rC,uC,jQ,jC,List.range_succ]
 have e:rH m (oT X) (jo m (oT X)) 1099511627776=((bQ m (eS m) X).1,true):=by
  unfold rH;rw[if_pos ⟨ni,hs⟩];have ev:vs (oT X) (root m)=[(0,eS m,[])]:=rfl;rw[ev];rw[kT,if_neg Iy];have es:jo m (oT X) 1099511627776 (0,eS m,[])=((bQ m (eS m) X).1,true):=by
   unfold jo;have en:nd (oT X) 0=⟨-1,[],X,[],[]⟩:=rfl;rw[if_neg (by dsimp only;rw[en];simp),if_neg (by dsimp only;rw[en];simp),en];dsimp only;rw[<- h2,h];rw[Int.min_eq_right h3];rfl
  rw[es,if_pos rfl];rfl
 unfold th;rw[e,if_pos rfl]
def abw:Jb Tryz.prog 73:=⟨_,Tryz.func73,NI,rfl⟩
def ak0{X:List Mv}{r c:Nat}{v:AV}(h:cellAt (rowsOf aO X) r c=some v):∃x y,X[r]?=some x/\(oQ x)[c]?=some y/\v=.lit y:=by
 unfold cellAt rowsOf at h;rw[b9]at h;cases hx:X[r]? with
 |none=>rw[hx]at h;simp at h
 |some x =>
  rw[hx]at h;simp only[gY,Option.bind_some,aat,b9,Option.map_eq_some_iff]at h;obtain⟨y,hy,rfl⟩:=h;exact⟨x,y,rfl,hy,rfl⟩
def abx{d:Array Mv}{r c:Nat}{x:Mv}{y:Value}(hx:d.toList[r]?=some x)(hy:(oQ x)[c]?=some y):(Sort.flatK oQ 4 d)[r*4+c]! = y/\r*4+c<d.size*4:=by
 have hc:c<4:=(aR.1 hy).1;have hr:r<d.size:=by have:=(aR.1 hx).1;simpa using this
 have a6:r*4+c<d.size*4:=Ix;refine⟨?_,a6⟩;rw[Sort.get_flatK _ _ _ _ a6,show(r*4+c)/4=r by omega,show(r*4+c)%4=c by omega];have e:d[r]! = x:=by
  rw[getElem!_pos d r hr];have:=(aR.1 hx).2;simpa using this
 rw[e,List.getElem!_eq_getElem?_getD,hy];rfl
def ak1(v:AV):cQ Tryz.prog 73 [.lit (.slice none 0 0),.fn 74 []] [] (λres a8=>res=.bu []/\a8=[]):=by
 refine⟨abw,λγ aN hs=>?_⟩;obtain⟨v0,v1,hv⟩:∃v0 v1,γ.tmps = #[v0,v1]:=by
  match h:γ.tmps,aN with
  |⟨[a,b]⟩,_=>exact⟨a,b,rfl⟩
 have s0:=hs.an 0;rw[hv]at s0;have e0:v0=.slice none 0 0:=aw.cz s0;subst e0;rw[hv];refine(AnyF.slices_SortFunc_none aar none 0 v1 γ.w).mono ?_;rintro e w'⟨rfl,rfl⟩;refine⟨.bu [],[],.tuple #[],{ γ with tmps:=#[.tuple #[]] },⟨rfl,rfl⟩,rfl,rfl,rfl,⟨λk=>?_,λi o hi=>by simp at hi,hs.inj,hs.nz,hs.fZ,hs.gl⟩,(Fr.refl _ _).put _⟩;rcases k with _|k
 ·exact .bu _ _ rfl (λj x hj=>by simp at hj)
 ·exact .undef _
def ak2(X:List Mv)(hX:X≠[])(hXm:X.length<4611686018427387904):cQ Tryz.prog 73 [.ref 0 4 0 X.length,.fn 74 []] [.arr 4 (rowsOf aO X)] (λres a8=>res=.bu []/\∃ Y:List Mv,Y.Perm X/\Y.Pairwise (λa b=>Go.Proofs.ltOf tG b a=false)/\a8=[.arr 4 (rowsOf aO Y)]):=by
 have hXl:0<X.length:=List.length_pos_iff.2 hX;refine⟨abw,λγ aN hs=>?_⟩;obtain⟨v0,v1,hv⟩:∃v0 v1,γ.tmps = #[v0,v1]:=by
  match h:γ.tmps,aN with
  |⟨[a,b]⟩,_=>exact⟨a,b,rfl⟩
 have s0:=hs.an 0;have s1:=hs.an 1;rw[hv]at s0 s1 ⊢;obtain⟨Bl,w5,ho⟩:=hs.dF 0 _ rfl;rcases ho with⟨_,hr⟩|⟨b,o,cap,cur,t,hb,iK,hle,jt,jM,ak5⟩
 ·simp[rowsOf]at hr;exact absurd hr hX
 have hlen:(rowsOf aO X).length=X.length:=cf X;obtain⟨cap',rfl⟩:∃cap',v0=.slice (some ⟨b,o,none⟩) X.length cap':=by
  have s0':aw [.arr 4 (rowsOf aO X)] γ.w γ.Z γ.blk (.ref 0 4 0 X.length) v0:=s0;generalize X.length=L at s0' hXl ⊢;cases s0' with
  |cG _ _ h=>cases h
  |kk _ _ _ _ _ h _=>simp at h
  |ref _ _ _ _ b' o' c1 c2 rows h aV h1 h2 h3 =>
   have h':=hb.symm.trans aV;simp only[cm.injEq,Prod.mk.injEq]at h';obtain⟨rfl,rfl,rfl⟩:=h';exact⟨c2,Iy⟩
  |lR _ _ h _=>omega
  |mo _ _ _ _ _ _ _ h _ _=>omega
 obtain rfl:v1=.func (.func 74) #[] #[]:=by
  have s1':aw [.arr 4 (rowsOf aO X)] γ.w γ.Z γ.blk (.fn 74 []) v1:=s1;cases s1' with
  |cG _ _ h=>cases h
  |fn _ _ a7 h _ =>
   have:a7 = #[]:=Array.eq_empty_of_size_eq_zero h;rw[this]
 have aP:∀ j x,(Sort.flatK oQ 4 X.toArray)[j]! = x->j<X.length*4->γ.w.cell? ⟨b,o+j,none⟩=some x:=by
  intro j x hx hj;rw[zh iK Ix];obtain⟨m,hm⟩:∃m,X[j/4]?=some m:=⟨_,bT Ix⟩;obtain⟨y,hy⟩:∃y,(oQ m)[j%4]?=some y:=⟨_,bT (by show j%4<4;omega)⟩;have h1:=(abx (d:=X.toArray) (by simpa using hm) hy).1;rw[show j/4*4+j%4=j by omega,hx]at h1;have h2:=ak5 (j/4) (j%4) (.lit y) (by
   unfold cellAt rowsOf;rw[b9,hm];simp[aat,hy])
  rw[show j/4*4+j%4=j by omega]at h2;rw[aw.cz h2,h1]
 have hH:Sort.HoldsK oQ 4 γ.w b o X.toArray:=by
  intro j hj;have fe:j<X.length*4:=by simpa using hj
  exact⟨aP j _ rfl fe,by simp[World.frozen?,iK]⟩
 have hblk:b<γ.w.heap.size:=(Array.getElem?_eq_some_iff.1 iK).1;have eg:∀ args w,(callFunc 74 args).run Tryz.prog w=.ok (.enter 74 args) w:=enters_of Tryz.func74 (by kernel_rfl) rfl;have vV:=AnyQ.slices_SortFunc aar 4 Tryz.isAgg94 Tryz.sizeOf94 oQ (λ_=>rfl) (λx v hv=>by simp[oQ]at hv;rcases hv with rfl|rfl|rfl|rfl<;>rfl) tG ake 74 #[] b o cap' X.toArray γ.w eg (akf b o X.toArray.size γ.w) hH hblk (by simpa using hXm);rw[show X.toArray.size=X.length by simp]at vV;refine Calls.mono vV ?_;rintro e w'⟨rfl,d',n,os,hp,ak7,rfl⟩;obtain⟨Eh,_,hp3⟩:=hp;have hds:d'.size=X.length:=by simpa using Eh
 have ak8:d'.toList.Perm X:=by
  have e1:d'.extract 0 X.length=d':=by rw[<- hds];exact Array.extract_size
  have e2:X.toArray.extract 0 X.length=X.toArray:=by
   have:=Array.extract_size (xs:=X.toArray);simpa using this
  rw[e1,e2]at hp3;simpa using hp3
 have vS:d'.toList.length=X.length:=by simpa using hds
 have ak9:d'.toList.Pairwise (λa b=>Go.Proofs.ltOf tG b a=false):=by
  refine List.pairwise_iff_getElem.2 λi j hi hj wm=>?_;have h:=ak7 i j (aT _) wm Ix;rw[getElem!_pos d' i (by rw[qR]at hi;exact hi),getElem!_pos d' j (by rw[qR]at hj;exact hj)]at h;simpa using h
 let kO:=Sort.putCells id o (Sort.flatK oQ 4 d') cur
 let w1:=Sort.putRowK oQ 4 (Sort.ahead γ.w n) b o d'
 have Cd:w1.heap[b]?=some (.cells kO t (0,0)):=by
  show(γ.w.heap.modify b _)[b]?=_;rw[Array.getElem?_modify,if_pos rfl,iK];rfl
 have mu:∀ k,k≠b->w1.heap[k]?=γ.w.heap[k]?:=λk hk=>by
  show(γ.w.heap.modify b _)[k]?=_;rw[Array.getElem?_modify,if_neg (λe=>hk e.symm)]
 have Ik:w1.heap.size=γ.w.heap.size:=by show(γ.w.heap.modify b _).size=_;simp
 have iI:kO.size=cur.size:=by simp[kO,Sort.putCells]
 have zu:sF [.arr 4 (rowsOf aO X)] γ.w γ.Z γ.blk o cap kO (.arr 4 (rowsOf aO d'.toList)):=by
  refine⟨NI,λrow hr=>?_,by rw[iI];exact hle,?_,jM,λr c v hv=>?_⟩
  ·simp only[rowsOf,b8]at hr;obtain⟨x,_,rfl⟩:=hr;rfl
  ·rw[cf,vS,<- hlen];exact jt
  ·obtain⟨x,y,hx,hy,rfl⟩:=ak0 hv;obtain⟨h1,h2⟩:=abx hx hy;have h3:kO.getD (o+(r*4+c)) Go.undef=y:=by
    have a6:o+(r*4+c)<cur.size:=Ix;simp only[kO,Sort.putCells,Array.getD_eq_getD_getElem?,Array.getElem?_mapIdx,Array.getElem?_eq_getElem a6,gY,Option.getD_some];rw[if_pos ⟨Ix,by rw[Sort.size_flatK];omega⟩,show o+(r*4+c)-o=r*4+c by omega,h1];rfl
   rw[h3];exact .lit _
 have hsw:=hs.write (id:=0) (ob':=.arr 4 (rowsOf aO d'.toList)) rfl Iy ⟨rfl,by rw[cf,cf,vS]⟩ hb Cd mu Ik zu;have DJ:=Fr.write (σ:=⟨λk=>[AV.ref 0 4 0 X.length,.fn 74 []].getD k .undef,[.arr 4 (rowsOf aO X)]⟩) (γ:=γ) (id:=0) (.arr 4 (rowsOf aO d'.toList)) rfl Iy ⟨rfl,by rw[cf,cf,vS]⟩ hb mu Ik rfl rfl rfl (by show γ.w.drawn<=γ.w.drawn+n;omega);have M':¬ γ.Z w1.heap.size:=λh=>Nat.lt_irrefl _ (Nat.lt_of_lt_of_eq (hs.fZ _ h) Ik.symm);have qf:¬ oc [.arr 4 (rowsOf aO d'.toList)] γ.blk w1.heap.size:=by
  rintro⟨i,o2,c2,hl,oF⟩;exact Nat.lt_irrefl _ (hsw.blt hl oF)
 have bd:∀ k,k≠w1.heap.size->k<w1.heap.size->(Sort.grow w1 os).heap[k]?=w1.heap[k]?:=λk _ hk=>by
  show(w1.heap++os)[k]?=_;rw[Array.getElem?_append,if_pos hk]
 have HB:w1.heap.size<=(Sort.grow w1 os).heap.size:=Iy;have EK:=hsw.zL (w':=Sort.grow w1 os) (b:=w1.heap.size) M' qf bd HB;have ak':=DJ.zL (σ:=⟨λk=>[AV.ref 0 4 0 X.length,.fn 74 []].getD k .undef,[.arr 4 (rowsOf aO d'.toList)]⟩) (w':=Sort.grow w1 os) (b:=w1.heap.size) (Nat.le_of_eq Ik.symm) bd HB rfl rfl rfl (bb _);refine⟨.bu [],[.arr 4 (rowsOf aO d'.toList)],.tuple #[],{ γ with w:=Sort.grow w1 os,tmps:=#[.tuple #[]] },⟨rfl,_,ak8,ak9,rfl⟩,rfl,rfl,rfl,⟨λk=>?_,EK.dF,EK.inj,EK.nz,EK.fZ,EK.gl⟩,ak'.put _⟩;rcases k with _|k
 ·exact .bu _ _ rfl (λj x hj=>by simp at hj)
 ·exact .undef _
section
variable {m:ah} {can:List (List Bool)} {gi ai bi mi:Nat} {D E:List (Nat×Nat)} {W:WS} {os:List Ob}
def abC(am:List (List Int×Int))(j:Nat):(mE am)[j]?=(am[j]?).map λp=>(p.1,N0 p.2):=by unfold mE;rw[b9]
def Il(am:List (List Int×Int)):(mE am).length=am.length:=by unfold mE;simp
def ala:sP Tryz.prog 130:=⟨_,_,rfl⟩
def alb(h:WF m can gi ai bi mi D E W os)(hs:mF m W){B:Int}(hB:B<=2305843009213693952)(hW:WB B W)(AE:KN W):
  cQ Tryz.prog 40 [.ptr gi 0 0] os λr ob=>r=.tree 4 (rowsOf aO (uR (ke W.am)))/\WF m can gi ai bi mi D E W ob/\Kp mi D E os ob:=by
 have fv:=h.v;have fm:=h.mp;have kM:=hW.al;refine cQ.aK 32 os.length [.tmp 2] Tryz.func40 ?_;refine afe mi fm ?_;intro b0;have pk:gP vD b0 (.iB mi) b0=some (.iB mi):=rm _ _ _;repeat'(first|(((first|refine mr ?_|refine qu ?_);intro K hK) ;simp(disch:=omega)only[Ac,↓Pc,simprocAttr,fv,Mc])|(with_reducible refine gO ?_;simp(disch:=omega)only[Ac,↓Pc,simprocAttr,fv,Mc])|(refine hK _ _ ?_;clear hK K)|(with_reducible refine gS (λaV=>?_) (λaV=>?_)<;>(have hb:=aV;(try simp only[gN,simprocAttr]at hb);simp(disch:=omega)only[Ac,↓Pc,simprocAttr,fv,Mc,aV];clear aV))|(refine mc (λht=>?_) (λht=>?_)<;>(try simp only[gN,simprocAttr]at ht))|refine oA rfl ?_|(refine pw ?_;intro Qb dC eI fi)|(refine nH ?_;intro Q hn he)|((first|refine hn _ _ ?_|refine he _ _ _ rfl ?_);clear hn he;try clear Q)|((first|refine dC _ _ ?_|refine eI _ _ ?_|refine fi _ _ _ rfl ?_);clear dC eI fi;try clear Qb)|(refine ar _ _ _ rfl ?_;clear ak ar;try clear Ql)|with_reducible refine cK ?_ ?_|omega|with_reducible rfl)
 refine afq (by simp only[Kc,simprocAttr]<;>exact rfl) fm ala pk λr hr=>?_;repeat'(first|(((first|refine mr ?_|refine qu ?_);intro K hK) ;simp(disch:=omega)only[Ac,↓Pc,simprocAttr,Mc])|(with_reducible refine gO ?_;simp(disch:=omega)only[Ac,↓Pc,simprocAttr,Mc])|(refine hK _ _ ?_;clear hK K)|(with_reducible refine gS (λaV=>?_) (λaV=>?_)<;>(have hb:=aV;(try simp only[gN,simprocAttr]at hb);simp(disch:=omega)only[Ac,↓Pc,simprocAttr,Mc,aV];clear aV))|(refine mc (λht=>?_) (λht=>?_)<;>(try simp only[gN,simprocAttr]at ht))|refine oA rfl ?_|(refine pw ?_;intro Qb dC eI fi)|(refine nH ?_;intro Q hn he)|((first|refine hn _ _ ?_|refine he _ _ _ rfl ?_);clear hn he;try clear Q)|((first|refine dC _ _ ?_|refine eI _ _ ?_|refine fi _ _ _ rfl ?_);clear dC eI fi;try clear Qb)|(refine ar _ _ _ rfl ?_;clear ak ar;try clear Ql)|with_reducible refine cK ?_ ?_|omega|with_reducible rfl)
 have mR:xz os.length (lD W.am [])=.lit (.slice none 0 0):=by unfold xz lD;rfl
 refine Gb (λz:List Nat×Nat×List Ob=>(⟨an [(3,xz z.2.1 (lD W.am z.1)),(10,.lit (.pointer (some ⟨r,0,none⟩)))],z.2.2⟩:St))
  (λz m=>(z.1.Nodup/\∀ j∈z.1,j<W.am.length)/\(lD W.am z.1≠[]->z.2.2[z.2.1]?=some (.arr 4 (rowsOf aO (lD W.am z.1))))/\os.length<=z.2.1/\os.length<=z.2.2.length/\(∀ (i:Nat) o,os[i]?=some o->z.2.2[i]?=some o)/\m r=some (.iter b0 W.am.length z.1)/\m b0=some (.iB mi))
  (λz=>C7 z.1 W.am.length) ([],os.length,os) ⟨⟨Iu,Iy⟩,λhx=>absurd rfl hx,bb _,bb _,λ_ _ h=>h,by rw[rm,Il],by rw[px _ _ (λe=>by rw[<- e,pk]at hr;cases hr)];exact pk⟩ (by(refine kP.an _ _ rfl ?_;simp only[Tc,↓reduceIte,Nat.reduceEqDiff,qW,Nat.reduceAdd,mR];try trivial)) ?_
 rintro⟨seen,id,ob⟩m1⟨⟨bU,a6⟩,hX,bO,bI,pJ,j4,gR⟩Ql ak ar;dsimp only at bU a6 hX bO bI pJ j4 gR ⊢;have fm1:=pJ _ _ fm;repeat'(first|(((first|refine mr ?_|refine qu ?_);intro K hK) ;simp(disch:=omega)only[Ac,↓Pc,simprocAttr,Mc])|(with_reducible refine gO ?_;simp(disch:=omega)only[Ac,↓Pc,simprocAttr,Mc])|(refine hK _ _ ?_;clear hK K)|(with_reducible refine gS (λaV=>?_) (λaV=>?_)<;>(have hb:=aV;(try simp only[gN,simprocAttr]at hb);simp(disch:=omega)only[Ac,↓Pc,simprocAttr,Mc,aV];clear aV))|(refine mc (λht=>?_) (λht=>?_)<;>(try simp only[gN,simprocAttr]at ht))|refine oA rfl ?_|(refine pw ?_;intro Qb dC eI fi)|(refine nH ?_;intro Q hn he)|((first|refine hn _ _ ?_|refine he _ _ _ rfl ?_);clear hn he;try clear Q)|((first|refine dC _ _ ?_|refine eI _ _ ?_|refine fi _ _ _ rfl ?_);clear dC eI fi;try clear Qb)|with_reducible refine cK ?_ ?_|omega|with_reducible rfl)
 refine afr (by simp only[Kc,simprocAttr]<;>exact rfl) (by rw[Il];exact j4) fm1 gR (λgf=>?_) (λj q hq hj=>?_)
 ·rw[Il]at gf;repeat'(first|(((first|refine mr ?_|refine qu ?_);intro K hK) ;simp(disch:=omega)only[Ac,↓Pc,simprocAttr,Mc])|(with_reducible refine gO ?_;simp(disch:=omega)only[Ac,↓Pc,simprocAttr,Mc])|(refine hK _ _ ?_;clear hK K)|(with_reducible refine gS (λaV=>?_) (λaV=>?_)<;>(have hb:=aV;(try simp only[gN,simprocAttr]at hb);simp(disch:=omega)only[Ac,↓Pc,simprocAttr,Mc,aV];clear aV))|(refine mc (λht=>?_) (λht=>?_)<;>(try simp only[gN,simprocAttr]at ht))|refine oA rfl ?_|(refine pw ?_;intro Qb dC eI fi)|(refine nH ?_;intro Q hn he)|((first|refine hn _ _ ?_|refine he _ _ _ rfl ?_);clear hn he;try clear Q)|((first|refine dC _ _ ?_|refine eI _ _ ?_|refine fi _ _ _ rfl ?_);clear dC eI fi;try clear Qb)|with_reducible refine cK ?_ ?_|omega|with_reducible rfl)
  refine ar _ _ _ rfl ?_;clear ak ar Ql;repeat(first|((first|refine hn _ _ ?_|refine he _ _ _ rfl ?_);clear hn he;try clear Q)|((first|refine dC _ _ ?_|refine eI _ _ ?_|refine fi _ _ _ rfl ?_);clear dC eI fi;try clear Qb)|(refine ar _ _ _ rfl ?_;clear ak ar;try clear Ql))
  have hP:=aj2 bU a6 gf;have hSo:=λY h1 h2=>alc (Y:=Y) AE hs.ky h1 h2;have k8:seen.length<=W.am.length:=by have:=(aan bU a6 gf).length_eq;simp at this;omega
  have qF:=aam W.am seen;refine U1 ?_;dsimp only;have hWb:=h.pre bI pJ;have hKb:Kp mi D E os ob:=⟨bI,λi o _ _ hi=>pJ i o hi⟩;generalize lD W.am seen=X at *;clear j4 gR gf bU a6;by_cases EL:X=[]
  ·subst EL;refine QI 1 NI _ rfl ?_;intro K hK;simp(disch:=omega)only[Ac,↓Pc,simprocAttr,iv,eC,xz];repeat'(first|with_reducible refine cK ?_ ?_|omega|with_reducible rfl)
   refine⟨rfl,(show jz Tryz.prog 73 [.lit (.slice none 0 0),.fn 74 []] (some 30) _ _ from ?_)⟩;refine yd [] (ak1 (.fn 74 [])) NI trivial ⟨.pure rfl,.pure rfl,trivial⟩ ?_;rintro r tw⟨rfl,rfl⟩;simp(disch:=omega)only[Ac,↓Pc,simprocAttr,eC];refine hK _ ?_;clear hK K;refine cr (aF.J3 3 4 rfl) ?_;((try revert hK K);(repeat'(first|refine Vb X0 ?_|(refine V2 X0 ?_ ?_<;>try with_reducible intro hb)|(refine Xi ?_ ?_<;>try intro ht)|refine VD ?_ ?_|exact Xx|fail))<;>try with_reducible intro K hK)
   unfold eH;simp only[dx,dv];simp(disch:=omega)only[Ac,↓Pc,simprocAttr];exact⟨_,_,⟨by rw[<- hSo [] hP .nil];rfl,hWb,hKb⟩,ed rfl hKb.len rfl⟩
  ·refine QI 1 NI _ rfl ?_;intro K hK;simp(disch:=omega)only[Ac,↓Pc,simprocAttr,iv,eC,xz,EL];repeat'(first|with_reducible refine cK ?_ ?_|omega|with_reducible rfl)
   refine⟨rfl,(show jz Tryz.prog 73 [.ref id 4 0 X.length,.fn 74 []] (some 30) _ _ from ?_)⟩;refine yd [id] (ak2 X EL Ix) Iy ⟨by rw[vr];exact hX EL,trivial⟩ ⟨.eq (by simp[bf,bq]),.pure rfl,trivial⟩ ?_;rintro r tw⟨rfl,Y,hY,hYs,rfl⟩;simp(disch:=omega)only[Ac,↓Pc,simprocAttr,eC];refine hK _ ?_;clear hK K;have EJ:=hY.length_eq;have oM:=lZ (y:=Ob.arr 4 (rowsOf aO Y)) (hX EL);have Mg:=iH h.mp;refine cr (aF.zY 3 id 4 (rows:=rowsOf aO Y) oM (by simp only[Kc,simprocAttr,cf,EJ]) (ig _) (my _)) ?_;have rR:=hWb.other (i:=id) ⟨by have:=iH h.v;omega,by have:=iH h.a;omega,by have:=iH h.b;omega,Ix⟩ (λhm=>by have:=h.lt _ hm;omega) .gone;have dK:Kp mi D E os (ob.set id .gone):=⟨by rw[List.length_set];exact bI,λi o _ _ hi=>e7 (pJ i o hi) (by have:=iH hi;omega)⟩;dsimp only;rw[List.set_set];((try revert hK K);(repeat'(first|refine Vb X0 ?_|(refine V2 X0 ?_ ?_<;>try with_reducible intro hb)|(refine Xi ?_ ?_<;>try intro ht)|refine VD ?_ ?_|exact Xx|fail))<;>try with_reducible intro K hK)
   unfold eH;simp only[dx,dv];simp(disch:=omega)only[Ac,↓Pc,simprocAttr];exact⟨_,_,⟨by rw[<- hSo Y (hY.trans hP) hYs],rR,dK⟩,ed rfl dK.len rfl⟩
 ·rw[abC]at hq;cases he:W.am[j]? with
  |none=>rw[he]at hq;simp at hq
  |some qa =>
   rw[he]at hq;simp only[gY,cm.injEq]at hq;subst hq;have gA:=(aR.1 he).1;obtain⟨kp,ks,ko,Nn⟩:=hs.ky qa (List.mem_of_getElem? he);have BI:W.am.getD j default=qa:=by rw[List.getD_eq_getElem?_getD,he];rfl
   have eO:=aj0 W.am seen j;rw[BI]at eO;have Aq:Ay qa=⟨kp,ks,ko,qa.2⟩:=by unfold Ay;rw[Nn];rfl
   have GX:=QS gA hj;obtain⟨ky,amt⟩:=qa;dsimp only at Nn eO Aq ⊢;subst Nn;repeat'(first|(((first|refine mr ?_|refine qu ?_);intro K hK) ;simp(disch:=omega)only[Ac,↓Pc,simprocAttr,Mc])|(with_reducible refine gO ?_;simp(disch:=omega)only[Ac,↓Pc,simprocAttr,Mc])|(refine hK _ _ ?_;clear hK K)|(with_reducible refine gS (λaV=>?_) (λaV=>?_)<;>(have hb:=aV;(try simp only[gN,simprocAttr]at hb);simp(disch:=omega)only[Ac,↓Pc,simprocAttr,Mc,aV];clear aV))|(refine mc (λht=>?_) (λht=>?_)<;>(try simp only[gN,simprocAttr]at ht))|refine oA rfl ?_|(refine pw ?_;intro Qb dC eI fi)|(refine nH ?_;intro Q hn he)|((first|refine hn _ _ ?_|refine he _ _ _ rfl ?_);clear hn he;try clear Q)|((first|refine dC _ _ ?_|refine eI _ _ ?_|refine fi _ _ _ rfl ?_);clear dC eI fi;try clear Qb)|with_reducible refine cK ?_ ?_|omega|with_reducible rfl)
   refine afs (seen:=seen) (j:=j) (b:=b0) (q:=([kp,ks,ko],N0 amt)) (by simp only[Kc,simprocAttr]<;>exact rfl) (by rw[rm]) fm1 (by rw[px _ _ (λe=>by rw[e]at gR;rw[gR]at j4;cases j4)];exact gR) (by rw[abC,he];rfl) ?_;have hkA:kA 3 [kp,ks,ko]=.agg [N0 kp,N0 ks,N0 ko]:=rfl;rw[hkA];have x8:gP m1 r (.iter b0 W.am.length (seen++[j])) r=_:=rm _ _ _;have hbm:gP m1 r (.iter b0 W.am.length (seen++[j])) b0=some (.iB mi):=by rw[px _ _ (λe=>by rw[e]at gR;rw[gR]at j4;cases j4)];exact gR
   have Ha:(seen++[j]).Nodup:=List.nodup_append.2 ⟨bU,Iy,λa ha b hb=>by simp only[cU]at hb;subst hb;exact λe=>hj (e▸ha)⟩;have abI:∀ i∈seen++[j],i<W.am.length:=λi hi=>by
    rcases List.mem_append.1 hi with hi|hi
    ·exact a6 i hi
    ·simp only[cU]at hi;subst hi;exact gA
   rw[Il];by_cases ha:amt=0
   ·rw[if_neg (by simpa using ha)]at eO;repeat'(first|(((first|refine mr ?_|refine qu ?_);intro K hK) ;simp(disch:=omega)only[Ac,↓Pc,simprocAttr,bE,bC,ha,Mc])|(with_reducible refine gO ?_;simp(disch:=omega)only[Ac,↓Pc,simprocAttr,bE,bC,ha,Mc])|(refine hK _ _ ?_;clear hK K)|(with_reducible refine gS (λaV=>?_) (λaV=>?_)<;>(have hb:=aV;(try simp only[gN,simprocAttr]at hb);simp(disch:=omega)only[Ac,↓Pc,simprocAttr,bE,bC,ha,Mc,aV];clear aV))|(refine mc (λht=>?_) (λht=>?_)<;>(try simp only[gN,simprocAttr]at ht))|refine oA rfl ?_|(refine pw ?_;intro Qb dC eI fi)|(refine nH ?_;intro Q hn he)|((first|refine hn _ _ ?_|refine he _ _ _ rfl ?_);clear hn he;try clear Q)|((first|refine dC _ _ ?_|refine eI _ _ ?_|refine fi _ _ _ rfl ?_);clear dC eI fi;try clear Qb)|with_reducible refine cK ?_ ?_|omega|with_reducible rfl)
    all_goals try(exfalso;omega)
    refine ak _ _ (seen++[j],id,ob++[.var [N0 kp,N0 ks,N0 ko]]) ⟨⟨Ha,abI⟩,by dsimp only;rw[eO];exact λhx=>aL (hX hx) _,bO,NS,λi o hi=>aL (pJ i o hi) _,x8,hbm⟩ GX ?_;dsimp only;rw[eO];(refine kP.an _ _ rfl ?_;simp only[Tc,↓reduceIte,Nat.reduceEqDiff,qW,Nat.reduceAdd];try trivial)
   ·rw[if_pos ha,Aq]at eO;have dM:=aj6 hX;have qF:=aam W.am seen;have k8:seen.length<=W.am.length:=by
     have h1:=(List.Nodup.length_le_of_subset bU (l₂:=List.range W.am.length) (λa ha=>List.mem_range.2 (a6 a ha)));simpa using h1
    have lM:=aj3 id (lD W.am seen) ob;have lN:rowsOf aO (lD W.am seen)++[[N0 kp,N0 ks,N0 ko,N0 amt]]=rowsOf aO (lD W.am seen++[⟨kp,ks,ko,amt⟩]):=by unfold rowsOf;rw[List.map_append];rfl
    have jM:=λq=>aj7 q (lD W.am seen) ⟨kp,ks,ko,amt⟩;have kg:=λ(i:Nat) o (hi:os[i]?=some o)=>aj5 (pJ i o hi) (X:=lD W.am seen) (id:=id) (λ_=>by have:=iH hi;omega);generalize lD W.am seen=X at *;generalize v7 id X ob=xk at *;repeat'(first|(((first|refine mr ?_|refine qu ?_);intro K hK) ;simp(disch:=omega)only[Ac,↓Pc,simprocAttr,bE,bC,Mc])|(with_reducible refine gO ?_;simp(disch:=omega)only[Ac,↓Pc,simprocAttr,bE,bC,Mc])|(refine hK _ _ ?_;clear hK K)|(with_reducible refine gS (λaV=>?_) (λaV=>?_)<;>(have hb:=aV;(try simp only[gN,simprocAttr]at hb);simp(disch:=omega)only[Ac,↓Pc,simprocAttr,bE,bC,Mc,aV];clear aV))|(refine mc (λht=>?_) (λht=>?_)<;>(try simp only[gN,simprocAttr]at ht))|refine oA rfl ?_|(refine pw ?_;intro Qb dC eI fi)|(refine nH ?_;intro Q hn he)|((first|refine hn _ _ ?_|refine he _ _ _ rfl ?_);clear hn he;try clear Q)|((first|refine dC _ _ ?_|refine eI _ _ ?_|refine fi _ _ _ rfl ?_);clear dC eI fi;try clear Qb)|with_reducible refine cK ?_ ?_|omega|with_reducible rfl)
    all_goals try(exfalso;omega)
    refine U1 ?_;dsimp only;repeat'(first|((first|((first|refine rr ?_|refine rq ?_);intro K hK)|with_reducible refine gO ?_);simp(disch:=omega)only[Ac,↓Pc,simprocAttr,bE,bC,↓dM,lM,lN,cf,bF])|(refine hK _ ?_;clear hK K)|(with_reducible refine gS (λaV=>?_) (λaV=>?_)<;>(have hb:=aV;(try simp only[gN,simprocAttr]at hb);simp(disch:=omega)only[Ac,↓Pc,simprocAttr,bE,bC,↓dM,lM,lN,cf,bF,aV];clear aV))|(refine Wc (λht=>?_) (λht=>?_)<;>(try simp only[gN,simprocAttr]at ht))|refine Wz rfl ?_|refine Xz ?_|(simp only[Qc,Kc,simprocAttr])|with_reducible refine cK ?_ ?_|omega|with_reducible rfl)
    refine dC _ _ ?_;refine ak _ _ (seen++[j],ob.length+2,xk++[.var [N0 kp,N0 ks,N0 ko],.arr 4 [[N0 kp,N0 ks,N0 ko,N0 amt]],.arr 4 (rowsOf aO (X++[⟨kp,ks,ko,amt⟩]))]) ⟨⟨Ha,abI⟩,?_,NQ,by dsimp only;rw[bF,lM];omega,λi o hi=>aL (kg i o hi) _,x8,hbm⟩ GX ?_
    ·dsimp only;intro _;rw[eO,yM lM];rfl
    ·dsimp only;rw[eO,<- jM];(refine kP.an _ _ rfl ?_;simp only[Tc,↓reduceIte,Nat.reduceEqDiff,qW,Nat.reduceAdd];try trivial)
end
def abJ(m:ah)(left:List (List Bool))(rounds:Int)(lv:MB m)(lW:BB left)(hr:cS rounds):
  cQ Tryz.prog 15 [.agg (ao m),.tree 1 (rowsOf aA left),N0 rounds] [] λr ob=>ob=[]/\∃ xv:AV,r=.bu [xv,N0 (nK m left rounds)]/\(nK m left rounds≠0->xv=.lit (.slice none 0 0))/\(nK m left rounds=0->xv=.tree 4 (rowsOf aO (nj m left rounds))):=by
 unfold cS at hr;have ni:=KX m left [] lv lW Iy;have kN:Holds Tryz.prog 17 [.agg (ao m),.tree 1 (rowsOf aA left),.lit (.slice none 0 0)] [] (.bu [N0 (bQ m left []).1,N0 (bQ m left []).2]) []:=Holds.Dj (pre:=[.agg (ao m),.tree 1 (rowsOf aA left)]) (post:=[]) ni;have vM:=GR m left;have dU:=@GF m left;unfold nK;generalize abK:bQ m left []=v0 at *;obtain⟨val,e⟩:=v0;dsimp only at kN ni;have he:e=kn m left:=by
  by_cases h:kn m left≠0
  ·rw[if_pos h]at vM;exact congrArg Prod.snd vM
  ·rw[if_neg h]at vM;have:=congrArg Prod.snd vM;dsimp only at this;omega
 subst he;by_cases hs:kn m left=0;rotate_left
 ·rw[if_pos hs];refine cQ.aK 70 0 [.tmp 6,.tmp 7] Tryz.func15 ?_;((try revert hK K);(repeat'(first|refine Vd X0 kN ?_|(refine V2 X0 ?_ ?_<;>try with_reducible intro hb)|(refine Xi ?_ ?_<;>try intro ht)|refine VD ?_ ?_|exact Xx|fail))<;>try with_reducible intro K hK)
  all_goals try(exfalso;omega)
  unfold eH;simp only[dx,dv];simp(disch:=omega)only[Ac,↓Pc,simprocAttr];refine⟨_,_,⟨rfl,.lit (.slice none 0 0),rfl,λ_=>rfl,λh=>absurd h hs⟩,?_⟩;exact Xw true [] X0
 rw[if_neg (by simpa using hs)]at vM ⊢;by_cases gq:rounds<0\/64<rounds
 ·rw[if_pos gq];refine cQ.aK 70 0 [.tmp 6,.tmp 7] Tryz.func15 ?_;((try revert hK K);(repeat'(first|refine Vd X0 kN ?_|(refine V2 X0 ?_ ?_<;>try with_reducible intro hb)|(refine Xi ?_ ?_<;>try intro ht)|refine VD ?_ ?_|exact Xx|fail))<;>try with_reducible intro K hK)
  all_goals try(exfalso;omega)
  all_goals
   unfold eH;simp only[dx,dv];simp(disch:=omega)only[Ac,↓Pc,simprocAttr];refine⟨_,_,⟨rfl,.lit (.slice none 0 0),rfl,rfl⟩,?_⟩;exact Xw true [] X0
 rw[if_neg gq];obtain⟨cB,nG⟩:=dU hs;have am5:(bQ m left []).2=0:=by rw[abK];exact hs
 have alf:(bQ m left []).1=val:=by rw[abK]
 refine cQ.aK 70 0 [.tmp 6,.tmp 7] Tryz.func15 ?_;repeat'(first|((fail_if_success (first|refine ei 7 ?_|refine ej 7 ?_));refine Xq X0 ?_;intro K hK)|refine Xo X0 ?_|refine Xc (kN) ?_|(refine hK _ ?_;clear hK K)|(refine Xg X0 ?_ ?_<;>try intro hb)|(refine Xi ?_ ?_<;>try intro ht)|refine XY ?_|refine Xd ?_ ?_|exact Xx|fail)
 all_goals try(exfalso;omega)
 refine cr (aF.J3 (a:=none) (cap:=0) 10 4 (by simp only[Kc,simprocAttr])) ?_;dsimp only;have M9:=aiv cB nG [.var (ao m)];refine nf 2 NI _ rfl ?_;intro K hK;simp(disch:=omega)only[Ac,↓Pc,simprocAttr,iv,eC];refine⟨rfl,(show jz Tryz.prog 38 [.agg (ao m),.tree 1 (rowsOf aA left)] (some 33) _ _ from ?_)⟩;refine qy M9 ?_;rintro r ob⟨gi,ai,bi,mi,D,E,rfl,hW,hlen,pJ,Mg,gd⟩;refine⟨hlen,?_⟩;simp(disch:=omega)only[Ac,↓Pc,simprocAttr,eC];refine hK _ ?_;clear hK K;repeat(first|refine Xu ?_)
 have f0:=pJ 0 _ rfl;((try revert hK K);(repeat'(first|refine Va X0 ?_|(refine V2 X0 ?_ ?_<;>try with_reducible intro hb)|(refine Xi ?_ ?_<;>try intro ht)|refine VD ?_ ?_|exact Xx|fail))<;>try with_reducible intro K hK)
 obtain⟨n,rfl⟩:∃n:Nat,rounds=n:=⟨rounds.toNat,Ix⟩;have hcf:=aj9 m left;have DW:(rowsOf aO ([]:List Mv))=[]:=rfl;refine aU (λz:Nat×List Mv×WS×List Ob=>(⟨an [(1,.tree 1 (rowsOf aA left)),(3,.ptr 0 0 0),(8,N0 (bQ m left z.2.1).1),(10,.tree 4 (rowsOf aO z.2.1)),(11,.ptr gi 0 0),(34,N0 n),(35,N0 z.1)],z.2.2.2⟩:St))
  (λz=>(KN z.2.2.1/\yT m left (n-z.1) z.1 z.2.1 z.2.2.1=nj m left n)/\z.1<=n/\WF m (dR m left m.cls.length) gi ai bi mi D E z.2.2.1 z.2.2.2/\mF m z.2.2.1/\WB (1099511627776+14843406974976*(z.1:Int)) z.2.2.1/\z.2.2.2[0]?=some (.var (ao m)))
  (λz=>n-z.1) (0,[],W0 m,ob) ⟨⟨Iu,rfl⟩,aT _,hW,alh,(ali cB).mono Ix,f0⟩ (by dsimp only;rw[alf,DW];exact Xv X0) ?_
 clear hW f0 pJ hlen;rintro⟨k,X,V1,ob⟩⟨⟨AE,pO⟩,hk,hW,uI,HR,f0⟩Ql ak ar;dsimp only at AE pO hk hW uI HR f0 ⊢;have fin:∀ (X:List Mv) (ob:List Ob),X=nj m left n->∀ st,aF 0 st ⟨an [(10,.tree 4 (rowsOf aO X))],ob⟩->Ql (.exit 0) st:=λX ob h0 st ht=>by
  refine ar _ _ rfl ?_;clear ak ar;repeat(first|refine Xu ?_)
  refine cr ht ?_;clear ht;((try revert hK K);(repeat'(first|refine Vb X0 ?_|(refine V2 X0 ?_ ?_<;>try with_reducible intro hb)|(refine Xi ?_ ?_<;>try intro ht)|refine VD ?_ ?_|exact Xx|fail))<;>try with_reducible intro K hK)
  unfold eH;simp only[dx,dv];simp(disch:=omega)only[Ac,↓Pc,simprocAttr];refine⟨_,_,⟨rfl,.tree 4 (rowsOf aO X),rfl,by rw[h0]⟩,?_⟩;exact Xw true [] X0
 by_cases ba:k<n
 ·obtain⟨r,jL⟩ :∃r,n-k=r+1:=⟨n-k-1,Ix⟩;have hr3:n-(k+1)=r:=Ix;rw[jL,yT]at pO;by_cases hxF:(bQ m left X).1=1099511627776
  ·rw[if_pos hxF]at pO;((try revert hK K);(repeat'(first|refine Va X0 ?_|(refine V2 X0 ?_ ?_<;>try with_reducible intro hb)|(refine Xi ?_ ?_<;>try intro ht)|refine VD ?_ ?_|exact Xx|fail))<;>try with_reducible intro K hK)
   all_goals try(exfalso;omega)
   exact fin X ob pO _ (Xv X0)
  ·rw[if_neg hxF]at pO;have abM:=alk (m:=m) (can:=dR m left m.cls.length) V1 AE k;have fK:=ah6 cB hcf hW uI (B:=1099511627776+14843406974976*(k:Int)) ⟨Ix,Ix⟩ HR (round:=k) Ix;generalize pL m (dR m left m.cls.length) V1 k=V2 at *;repeat'(first|((fail_if_success (first|refine ei 12 ?_|refine ej 12 ?_));refine Xr X0 ?_;intro K hK)|refine Xo X0 ?_|(refine hK _ ?_;clear hK K)|(refine Xg X0 ?_ ?_<;>try intro hb)|(refine Xi ?_ ?_<;>try intro ht)|refine Xy ?_|refine Xd ?_ ?_|exact Xx|fail)
   all_goals try(exfalso;omega)
   refine nf 2 NI _ rfl ?_;intro K hK;simp(disch:=omega)only[Ac,↓Pc,simprocAttr,iv,eC];refine⟨rfl,(show jz Tryz.prog 39 [.ptr gi 0 0,N0 k] (some 42) _ _ from ?_)⟩;refine qy fK ?_;rintro r' xk⟨rfl,rR,dK,abN,Np⟩;refine⟨dK.len,?_⟩;simp(disch:=omega)only[Ac,↓Pc,simprocAttr,eC];refine hK _ ?_;clear hK K;repeat(first|refine Xu ?_)
   have abO:0≠mi:=by simp only[List.length_cons,List.length_nil]at Mg;omega
   have n0D:0 ∉ (D++E).map (·.1):=λhm=>by have:=gd 0 hm;simp at this
   have f2:=dK.same 0 _ abO n0D f0;have s9:=alb rR abN Ix Np abM;repeat'(first|((fail_if_success (first|refine ei 13 ?_|refine ej 13 ?_));refine Xr X0 ?_;intro K hK)|refine Xo X0 ?_|(refine hK _ ?_;clear hK K)|(refine Xg X0 ?_ ?_<;>try intro hb)|(refine Xi ?_ ?_<;>try intro ht)|refine Xy ?_|refine Xd ?_ ?_|exact Xx|fail)
   refine nf 1 NI _ rfl ?_;intro K hK;simp(disch:=omega)only[Ac,↓Pc,simprocAttr,iv,eC];refine⟨rfl,(show jz Tryz.prog 40 [.ptr gi 0 0] (some 44) _ _ from ?_)⟩;refine qy s9 ?_;rintro r' kd⟨rfl,MF,Eo⟩;have hY:(uR (ke V2.am)).Perm (ke V2.am):=by unfold uR;exact Nq _ _ []
   generalize uR (ke V2.am)=Y at *;refine⟨Eo.len,?_⟩;simp(disch:=omega)only[Ac,↓Pc,simprocAttr,eC];refine hK _ ?_;clear hK K;repeat(first|refine Xu ?_)
   have f3:=Eo.same 0 _ abO n0D f2;have EJ:Y.length<9223372036854775808:=by
    have h1:=hY.length_eq;have h2:=Np.al;have h3:(ke V2.am).length<=V2.am.length:=by unfold ke;rw[fW];exact List.length_filter_le _ _
    omega
   have hvY:=KX m left Y lv lW EJ;repeat'(first|((fail_if_success (first|refine ei 15 ?_|refine ej 15 ?_));refine Xq @f3 ?_;intro K hK)|refine Xo @f3 ?_|refine Xc (hvY) ?_|(refine hK _ ?_;clear hK K)|(refine Xg @f3 ?_ ?_<;>try intro hb)|(refine Xi ?_ ?_<;>try intro ht)|refine Xy ?_|refine Xd ?_ ?_|exact Xx|fail)
   have mq:∀ s X,aF 0 s ⟨an [(1,.tree 1 (rowsOf aA left)),(3,.ptr 0 0 0),(8,N0 (bQ m left X).1),(10,.tree 4 (rowsOf aO X)),(11,.ptr gi 0 0),(34,N0 n),(35,N0 (k+1:Nat))],kd⟩->yT m left r (k+1) X V2=nj m left n->Ql .normal s:=λs X h1 h0 =>
    ak _ (k+1,X,V2,kd) ⟨⟨abM,by dsimp only;rw[hr3];exact h0⟩,NQ,MF,abN,Np.mono (by push_cast;omega),f3⟩ NQ h1
   have kr:=λs=>mq s X;have EH:=λs=>mq s Y;have abQ:=fin X kd;clear ak ar fin mq;generalize (bQ m left Y).1=vy at *;generalize (bQ m left Y).2=ey at *;generalize (bQ m left X).1=vx at *;have am6:((k:Int)+1)=((k+1:Nat):Int):=by push_cast;rfl
   by_cases Nr:ey=0
   ·have xC:(ey != 0)=false:=by simp[Nr]
    by_cases Ns:vx<vy
    ·have d1:decide (vy<=vx)=false:=decide_eq_false Ix;have d2:decide (vy > vx)=true:=decide_eq_true Ns;((try revert hK K);(repeat'(first|refine Va (X3 @xC @d1 @d2) ?_|(refine V2 (X3 @xC @d1 @d2) ?_ ?_<;>try with_reducible intro hb)|(refine Xi ?_ ?_<;>try intro ht)|refine VD ?_ ?_|exact Xx|fail))<;>try with_reducible intro K hK)
     all_goals try(exfalso;omega)
     all_goals exact EH _ (Xv X0) (by rw[if_neg Ix,if_pos Ns]at pO;exact pO)
    ·have d1:decide (vy<=vx)=true:=decide_eq_true Ix;have d2:decide (vy > vx)=false:=decide_eq_false Ix;by_cases am7:k=0
     ·have d3:decide ((k:Int) > 0)=false:=decide_eq_false Ix;((try revert hK K);(repeat'(first|refine Va (X4 @xC @d1 @d2 @d3) ?_|(refine V2 (X4 @xC @d1 @d2 @d3) ?_ ?_<;>try with_reducible intro hb)|(refine Xi ?_ ?_<;>try intro ht)|refine VD ?_ ?_|exact Xx|fail))<;>try with_reducible intro K hK)
      all_goals try(exfalso;omega)
      all_goals exact kr _ (Xv X0) (by rw[if_neg Ix,if_neg Ns]at pO;exact pO)
     ·have d3:decide ((k:Int) > 0)=true:=decide_eq_true Ix;((try revert hK K);(repeat'(first|refine Va (X4 @xC @d1 @d2 @d3) ?_|(refine V2 (X4 @xC @d1 @d2 @d3) ?_ ?_<;>try with_reducible intro hb)|(refine Xi ?_ ?_<;>try intro ht)|refine VD ?_ ?_|exact Xx|fail))<;>try with_reducible intro K hK)
      all_goals try(exfalso;omega)
      all_goals exact abQ (by rw[if_pos Ix]at pO;exact pO) _ (Xv X0)
   ·have xC:(ey != 0)=true:=by simp[Nr]
    ((try revert hK K);(repeat'(first|refine Va @xC ?_|(refine V2 @xC ?_ ?_<;>try with_reducible intro hb)|(refine Xi ?_ ?_<;>try intro ht)|refine VD ?_ ?_|exact Xx|fail))<;>try with_reducible intro K hK)
    all_goals try(exfalso;omega)
    all_goals exact abQ (by rw[if_pos (.inl Nr)]at pO;exact pO) _ (Xv X0)
 ·obtain rfl:k=n:=Ix;((try revert hK K);(repeat'(first|refine Va X0 ?_|(refine V2 X0 ?_ ?_<;>try with_reducible intro hb)|(refine Xi ?_ ?_<;>try intro ht)|refine VD ?_ ?_|exact Xx|fail))<;>try with_reducible intro K hK)
  refine fin X ob (by rw[Nat.sub_self]at pO;exact pO) _ ?_;exact Xv X0
def agj(m:ah)(left:List (List Bool))(rounds:Int)(lv:MB m)(lW:BB left)(hr:cS rounds)(h:nK m left rounds≠0):
  Holds Tryz.prog 15 [.agg (ao m),.tree 1 (rowsOf aA left),N0 rounds] [] (.bu [.lit (.slice none 0 0),N0 (nK m left rounds)]) [] :=
 cQ.one ((abJ m left rounds lv lW hr).mono λr os ⟨h1,xv,h2,h3,h4⟩=>by rw[h2,h3 h];exact⟨rfl,h1⟩)
def XI(m:ah)(left:List (List Bool))(rounds:Int)(lv:MB m)(lW:BB left)(hr:cS rounds)(h:nK m left rounds=0):
  Holds Tryz.prog 15 [.agg (ao m),.tree 1 (rowsOf aA left),N0 rounds] [] (.bu [.tree 4 (rowsOf aO (nj m left rounds)),N0 0]) [] :=
 cQ.one ((abJ m left rounds lv lW hr).mono λr os ⟨h1,xv,h2,h3,h4⟩=>by rw[h2,h4 h,h];exact⟨rfl,h1⟩)
def aln(m:ah)(rounds:Int)(lv:MB m)(hr:cS rounds)(h:nK m (eS m) rounds=0):
  Holds Tryz.prog 25 [.agg (ao m),N0 rounds] [] (.bu [.agg (cJ (oT (nj m (eS m) rounds))),N0 (bQ m (eS m) (nj m (eS m) rounds)).1,N0 0]) []:=by
 have h1:=Ye m lv;have h2:=XI m (eS m) rounds lv (XF lv) hr h;have hv:(bQ m (eS m) []).2=0:=by
  rw[GR];unfold nK at h;split at h
  ·rename_i h0;exact absurd h h0
  ·rename_i h0;rw[if_neg h0]
 have hx:=(KU rounds hv).1;generalize nj m (eS m) rounds=X at *;have h3:=X1 m (oT X) lv (abu (by have:=KW hx;omega));rw[abv hx]at h3;generalize (bQ m (eS m) X).1=n at *;generalize eS m=al at *;refine Holds.aK 36 0 [.cell 4 53,.tmp 5,.tmp 6] Tryz.func25 ?_;repeat'(first|((fail_if_success (first|refine ei 5 ?_|refine ej 5 ?_));refine Xq X0 ?_;intro K hK)|refine Xo X0 ?_|refine Xc (h1) ?_|refine Xc (h2) ?_|(refine hK _ ?_;clear hK K)|(refine Xg X0 ?_ ?_<;>try intro hb)|(refine Xi ?_ ?_<;>try intro ht)|refine XY ?_|refine Xd ?_ ?_|exact Xx|fail)
 refine cr (aF.ae5 2 0 5 (cells':=bz ⟨-1,[],X,[],[]⟩) rfl rfl (by exact⟨.inl rfl,.inr ⟨rfl,_,rfl⟩,.inl rfl,.inr ⟨rfl,_,rfl⟩,.inr ⟨rfl,_,rfl⟩,trivial⟩)) ?_;refine cr (aF.wW 2 3 0 5 (rows:=rowsOf bz (oT X)) rfl rfl rfl (ig _) (my _)) ?_;dsimp only;simp(disch:=omega)only[Ac,↓Pc,simprocAttr];((try revert hK K);(repeat'(first|refine Vd X0 h3 ?_|(refine V2 X0 ?_ ?_<;>try with_reducible intro hb)|(refine Xi ?_ ?_<;>try intro ht)|refine VD ?_ ?_|exact Xx|fail))<;>try with_reducible intro K hK)
 simp(disch:=omega)only[Ac,↓Pc,simprocAttr];exact Xw true [] X0
def oL1:cg:=⟨0,0,0,0,0,[(0,3)]⟩
def oLz:cg:=⟨0,0,0,0,0,[]⟩
def kY:ah:=⟨[[oL1,oLz],[oLz,oL1]],[⟨0,1,0,[0,5,5,0]⟩],[],1⟩
def abT:VM kY:=rA.1 (by decide +kernel)
def alo:nK kY (eS kY) 4=0:=by decide +kernel
def abU:bQ kY (eS kY) (nj kY (eS kY) 4)=(3,0):=by decide +kernel
def XD:Holds Tryz.prog 9 [] [] (.lit (.bool true)) []:=by
 have h1:=aln kY 4 abT.mb (by unfold cS;omega) alo;have ni:(bQ kY (eS kY) (nj kY (eS kY) 4)).2=0:=by rw[abU]
 have h2:=X1 kY (oT (nj kY (eS kY) 4)) abT.mb (abu (by have:=KW ni;omega));rw[abv ni]at h2;rw[abU]at h1 h2;have dD:(oT (nj kY (eS kY) 4)).length=1:=rfl;generalize oT (nj kY (eS kY) 4)=Q at *;dsimp only at h1 h2;refine Holds.aK 53 0 [.tmp 0] Tryz.func9 ?_;repeat'(first|((fail_if_success (first|refine ei 1 ?_|refine ej 1 ?_));refine Xr X0 ?_;intro K hK)|refine Xo X0 ?_|(refine hK _ ?_;clear hK K)|(refine Xg X0 ?_ ?_<;>try intro hb)|(refine Xi ?_ ?_<;>try intro ht)|refine XY ?_|refine Xd ?_ ?_|exact Xx|fail)
 refine Kl 15 NI ?_;intro K K1 hK yG;simp(disch:=omega)only[Ac,↓Pc,simprocAttr,iv];refine yG _ ⟨an [(21,.agg (ao kY))],[]⟩ ?_ ?_
 ·refine aF.aj [] true _ _ NI trivial NI NI ⟨?_,trivial⟩;simp only[Kc,simprocAttr];refine bw.agg _ _ rfl (ju.spec (R:=bw _ _ _ _) (cs:=ao kY) (ds:=[.ref 4 1 0 2,.ref 6 4 0 1,.lit (.slice none 0 0),N0 1]) ⟨.snap _ _ rfl ?_,.snap _ _ rfl ?_,.snap _ _ rfl (.nil 4),.pure rfl,trivial⟩).2
  ·exact cL.mk rfl rfl (kh NI) (ig _) ⟨⟨cL.mk rfl rfl (kh NI) (ig _) ⟨⟨.lit _,.lit _,.lit _,.lit _,.lit _,cL.mk rfl rfl (kh NI) (ig _) ⟨⟨.lit _,.lit _,trivial⟩,trivial⟩,trivial⟩,⟨.lit _,.lit _,.lit _,.lit _,.lit _,.nil 2,trivial⟩,trivial⟩,trivial⟩,
    ⟨cL.mk rfl rfl (kh NI) (ig _) ⟨⟨.lit _,.lit _,.lit _,.lit _,.lit _,.nil 2,trivial⟩,⟨.lit _,.lit _,.lit _,.lit _,.lit _,cL.mk rfl rfl (kh NI) (ig _) ⟨⟨.lit _,.lit _,trivial⟩,trivial⟩,trivial⟩,trivial⟩,trivial⟩,trivial⟩
  ·exact cL.mk rfl rfl (kh NI) (ig _) ⟨⟨.lit _,.lit _,.lit _,cL.mk rfl rfl (kh NI) (tY _) ⟨⟨.lit _,trivial⟩,⟨.lit _,trivial⟩,⟨.lit _,trivial⟩,⟨.lit _,trivial⟩,trivial⟩,trivial⟩,trivial⟩
 clear yG K1;simp(disch:=omega)only[Ac,↓Pc,simprocAttr,eC];refine hK _ ?_;clear hK K;generalize kY=m at *;repeat(first|refine Xu ?_)
 ((try revert hK K);(repeat'(first|refine Vd @cJ.eq_1 (X2 h1 h2) ?_|(refine V2 @cJ.eq_1 ?_ ?_<;>try with_reducible intro hb)|(refine Xi ?_ ?_<;>try intro ht)|refine VD ?_ ?_|exact Xx|fail))<;>try with_reducible intro K hK)
 all_goals exact aS (by rw[dD];rfl) (by rw[dD];rfl)
end T

