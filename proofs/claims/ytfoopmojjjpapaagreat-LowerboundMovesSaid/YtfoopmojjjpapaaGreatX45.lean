import Derived.Test.YtfoopmojjjpapaaGreatX29
import Derived.Test.YtfoopmojjjpapaaGreatX44
import Derived.Shelf.SlSortCmp.NoneTotal
set_option linter.all false
set_option maxHeartbeats 0
set_option maxRecDepth 20000
open List renaming mem_singleton→cU,length_map→fX,mem_map→b8,getElem?_map→b9,getElem?_eq_some_iff→aR,getElem?_eq_getElem→bT,nodup_nil→Is,take→iv,drop→eC,append_assoc→bC,length_append→bE
open Option renaming map_some→gY,some→cj
open Nat renaming zero_le→aT,le_refl→bc,reduceBEq→qV
open Array renaming length_toList→qQ
open And renaming intro→cJ
open Go Go.Am Go.Proofs
namespace T
def oT(X:List Mv):List Nd:=[⟨-1,[],X,[],[]⟩]
def abp{X:List Mv}(h:X.length<9223372036854775808):PB (oT X):=by
 refine⟨by show(1:Nat)<_;decide,λx hx=>?_,λx hx=>?_,λx hx=>?_,λx hx=>?_,λx hx l hl=>?_⟩;all_goals unfold oT at hx;rw[cU]at hx;subst hx
 ·show(0:Nat)<_;decide
 ·exact h
 ·show(0:Nat)<_;decide
 ·show(0:Nat)<_;decide
 ·simp at hl
def XB{m:ah}(hm:MB m):BB (eS m):=by
 unfold eS;split
 ·refine⟨by unfold dO;rw[fX];exact hm.cls,λr hr=>?_⟩;obtain⟨l,hl,rfl⟩:=b8.1 hr;rw[List.length_replicate];exact hm.opt l hl
 ·exact⟨NF,Iw⟩
def akX(m:ah)(left:List (List Bool))(g:Lg):lq m left g<=1099511627776:=by
 unfold lq;split
 ·exact Int.le_refl _
 ·omega
def KT{m:ah}{left:List (List Bool)}{X:List Mv}(h:(bQ m left X).2=0):X.length<=2000:=by
 unfold bQ iO at h;split at h
 ·rename_i h1;exact absurd h h1
 ·split at h
  ·cases h
  ·omega
def Xm{m:ah}{left:List (List Bool)}{X:List Mv}(h:(bQ m left X).2=0):kn m left=0/\bQ m left X=iO m left X/\(bQ m left X).1<=1099511627776:=by
 unfold bQ at h ⊢;split at h
 ·rename_i h1;exact absurd h h1
 ·rename_i h1;rw[if_neg h1];refine⟨Decidable.not_not.1 h1,rfl,?_⟩;unfold iO at h ⊢;split at h
  ·cases h
  ·split at h
   ·cases h
   ·rename_i h2 h3;rw[if_neg h2,if_neg h3];exact akX _ _ _
def abq{m:ah}{X:List Mv}(h:(bQ m (eS m) X).2=0):tg m (oT X)=((bQ m (eS m) X).1,true):=by
 obtain⟨h1,h2,h3⟩:=Xm h;have hv:=(GA h1).1;have ni:jP m=0:=rz.2 hv;have hs:lY m (oT X)=true:=by
  unfold lY oT;simp[mz,rB,uC,jR,jC,List.range_succ]
 have e:rH m (oT X) (jo m (oT X)) 1099511627776=((bQ m (eS m) X).1,true):=by
  unfold rH;rw[if_pos ⟨ni,hs⟩];have ev:vs (oT X) (root m)=[(0,eS m,[])]:=rfl;rw[ev];rw[kT,if_neg Iw];have es:jo m (oT X) 1099511627776 (0,eS m,[])=((bQ m (eS m) X).1,true):=by
   unfold jo;have en:nd (oT X) 0=⟨-1,[],X,[],[]⟩:=rfl;rw[if_neg (by dsimp only;rw[en];simp),if_neg (by dsimp only;rw[en];simp),en];dsimp only;rw[<- h2,h];rw[Int.min_eq_right h3];rfl
  rw[es,if_pos rfl];rfl
 unfold tg;rw[e,if_pos rfl]
def abr:I' Tryz.prog 73:=⟨_,Tryz.func73,NF,rfl⟩
def akY{X:List Mv}{r c:Nat}{v:AV}(h:cellAt (rowsOf aO X) r c=some v):∃x y,X[r]?=some x/\(oQ x)[c]?=some y/\v=.lit y:=by
 unfold cellAt rowsOf at h;rw[b9]at h;cases hx:X[r]? with
 |none=>rw[hx]at h;simp at h
 |some x =>
  rw[hx]at h;simp only[gY,Option.bind_some,aao,b9,Option.map_eq_some_iff]at h;obtain⟨y,hy,rfl⟩:=h;exact⟨x,y,rfl,hy,rfl⟩
def abt{d:Array Mv}{r c:Nat}{x:Mv}{y:Value}(hx:d.toList[r]?=some x)(hy:(oQ x)[c]?=some y):(Sort.flatK oQ 4 d)[r*4+c]! = y/\r*4+c<d.size*4:=by
 have hc:c<4:=(aR.1 hy).1;have hr:r<d.size:=by have:=(aR.1 hx).1;simpa using this
 have a6:r*4+c<d.size*4:=Iv;refine⟨?_,a6⟩;rw[Sort.get_flatK _ _ _ _ a6,show(r*4+c)/4=r by omega,show(r*4+c)%4=c by omega];have e:d[r]! = x:=by
  rw[getElem!_pos d r hr];have:=(aR.1 hx).2;simpa using this
 rw[e,List.getElem!_eq_getElem?_getD,hy];rfl
def akZ(v:AV):cL Tryz.prog 73 [.lit (.slice none 0 0),.fn 74 []] [] (λres a8=>res=.bu []/\a8=[]):=by
 refine⟨abr,λγ aN hs=>?_⟩;obtain⟨v0,v1,hv⟩:∃v0 v1,γ.tmps = #[v0,v1]:=by
  match h:γ.tmps,aN with
  |⟨[a,b]⟩,_=>exact⟨a,b,rfl⟩
 have s0:=hs.an 0;rw[hv]at s0;have e0:v0=.slice none 0 0:=aw.cy s0;subst e0;rw[hv];refine(AnyF.slices_SortFunc_none aam none 0 v1 γ.w).mono ?_;rintro e w'⟨rfl,rfl⟩;refine⟨.bu [],[],.tuple #[],{ γ with tmps:=#[.tuple #[]] },⟨rfl,rfl⟩,rfl,rfl,rfl,⟨λk=>?_,λi o hi=>by simp at hi,hs.inj,hs.nz,hs.gd,hs.gl⟩,(Fr.refl _ _).put _⟩;rcases k with _|k
 ·exact .bu _ _ rfl (λj x hj=>by simp at hj)
 ·exact .undef _
def ak0(X:List Mv)(hX:X≠[])(hXm:X.length<4611686018427387904):cL Tryz.prog 73 [.ref 0 4 0 X.length,.fn 74 []] [.arr 4 (rowsOf aO X)] (λres a8=>res=.bu []/\∃ Y:List Mv,Y.Perm X/\Y.Pairwise (λa b=>Go.Proofs.ltOf tF b a=false)/\a8=[.arr 4 (rowsOf aO Y)]):=by
 have hXl:0<X.length:=List.length_pos_iff.2 hX;refine⟨abr,λγ aN hs=>?_⟩;obtain⟨v0,v1,hv⟩:∃v0 v1,γ.tmps = #[v0,v1]:=by
  match h:γ.tmps,aN with
  |⟨[a,b]⟩,_=>exact⟨a,b,rfl⟩
 have s0:=hs.an 0;have s1:=hs.an 1;rw[hv]at s0 s1 ⊢;obtain⟨Bi,wY,ho⟩:=hs.dF 0 _ rfl;rcases ho with⟨_,hr⟩|⟨b,o,cap,cur,t,hb,iJ,hle,jt,jN,ak3⟩
 ·simp[rowsOf]at hr;exact absurd hr hX
 have hlen:(rowsOf aO X).length=X.length:=cf X;obtain⟨cap',rfl⟩:∃cap',v0=.slice (some⟨b,o,none⟩) X.length cap':=by
  have s0':aw [.arr 4 (rowsOf aO X)] γ.w γ.Z γ.blk (.ref 0 4 0 X.length) v0:=s0;generalize X.length=L at s0' hXl ⊢;cases s0' with
  |cG _ _ h=>cases h
  |kk _ _ _ _ _ h _=>simp at h
  |ref _ _ _ _ b' o' c1 c2 rows h aV h1 h2 h3 =>
   have h':=hb.symm.trans aV;simp only[cj.injEq,Prod.mk.injEq]at h';obtain⟨rfl,rfl,rfl⟩:=h';exact⟨c2,Iw⟩
  |lR _ _ h _=>omega
  |mo _ _ _ _ _ _ _ h _ _=>omega
 obtain rfl:v1=.func (.func 74) #[] #[]:=by
  have s1':aw [.arr 4 (rowsOf aO X)] γ.w γ.Z γ.blk (.fn 74 []) v1:=s1;cases s1' with
  |cG _ _ h=>cases h
  |fn _ _ a7 h _ =>
   have:a7 = #[]:=Array.eq_empty_of_size_eq_zero h;rw[this]
 have aP:∀ j x,(Sort.flatK oQ 4 X.toArray)[j]! = x->j<X.length*4->γ.w.cell? ⟨b,o+j,none⟩=some x:=by
  intro j x hx hj;rw[zf iJ Iv];obtain⟨m,hm⟩:∃m,X[j/4]?=some m:=⟨_,bT Iv⟩;obtain⟨y,hy⟩:∃y,(oQ m)[j%4]?=some y:=⟨_,bT (by show j%4<4;omega)⟩;have h1:=(abt (d:=X.toArray) (by simpa using hm) hy).1;rw[show j/4*4+j%4=j by omega,hx]at h1;have h2:=ak3 (j/4) (j%4) (.lit y) (by
   unfold cellAt rowsOf;rw[b9,hm];simp[aao,hy])
  rw[show j/4*4+j%4=j by omega]at h2;rw[aw.cy h2,h1]
 have hH:Sort.HoldsK oQ 4 γ.w b o X.toArray:=by
  intro j hj;have fe:j<X.length*4:=by simpa using hj
  exact⟨aP j _ rfl fe,by simp[World.frozen?,iJ]⟩
 have hblk:b<γ.w.heap.size:=(Array.getElem?_eq_some_iff.1 iJ).1;have eg:∀ args w,(callFunc 74 args).run Tryz.prog w=.ok (.enter 74 args) w:=enters_of Tryz.func74 (by kernel_rfl) rfl;have vT:=AnyQ.slices_SortFunc aam 4 Tryz.isAgg94 Tryz.sizeOf94 oQ (λ_=>rfl) (λx v hv=>by simp[oQ]at hv;rcases hv with rfl|rfl|rfl|rfl<;>rfl) tF akb 74 #[] b o cap' X.toArray γ.w eg (akc b o X.toArray.size γ.w) hH hblk (by simpa using hXm);rw[show X.toArray.size=X.length by simp]at vT;refine Calls.mono vT ?_;rintro e w'⟨rfl,d',n,os,hp,ak5,rfl⟩;obtain⟨Ee,_,hp3⟩:=hp;have hds:d'.size=X.length:=by simpa using Ee
 have ak6:d'.toList.Perm X:=by
  have e1:d'.extract 0 X.length=d':=by rw[<- hds];exact Array.extract_size
  have e2:X.toArray.extract 0 X.length=X.toArray:=by
   have:=Array.extract_size (xs:=X.toArray);simpa using this
  rw[e1,e2]at hp3;simpa using hp3
 have vQ:d'.toList.length=X.length:=by simpa using hds
 have ak7:d'.toList.Pairwise (λa b=>Go.Proofs.ltOf tF b a=false):=by
  refine List.pairwise_iff_getElem.2 λi j hi hj wg=>?_;have h:=ak5 i j (aT _) wg Iv;rw[getElem!_pos d' i (by rw[qQ]at hi;exact hi),getElem!_pos d' j (by rw[qQ]at hj;exact hj)]at h;simpa using h
 let kO:=Sort.putCells id o (Sort.flatK oQ 4 d') cur
 let w1:=Sort.putRowK oQ 4 (Sort.ahead γ.w n) b o d'
 have Cb:w1.heap[b]?=some (.cells kO t (0,0)):=by
  show(γ.w.heap.modify b _)[b]?=_;rw[Array.getElem?_modify,if_pos rfl,iJ];rfl
 have mu:∀ k,k≠b->w1.heap[k]?=γ.w.heap[k]?:=λk hk=>by
  show(γ.w.heap.modify b _)[k]?=_;rw[Array.getElem?_modify,if_neg (λe=>hk e.symm)]
 have Ii:w1.heap.size=γ.w.heap.size:=by show(γ.w.heap.modify b _).size=_;simp
 have iH:kO.size=cur.size:=by simp[kO,Sort.putCells]
 have zs:sw [.arr 4 (rowsOf aO X)] γ.w γ.Z γ.blk o cap kO (.arr 4 (rowsOf aO d'.toList)):=by
  refine⟨NF,λrow hr=>?_,by rw[iH];exact hle,?_,jN,λr c v hv=>?_⟩
  ·simp only[rowsOf,b8]at hr;obtain⟨x,_,rfl⟩:=hr;rfl
  ·rw[cf,vQ,<- hlen];exact jt
  ·obtain⟨x,y,hx,hy,rfl⟩:=akY hv;obtain⟨h1,h2⟩:=abt hx hy;have h3:kO.getD (o+(r*4+c)) Go.undef=y:=by
    have a6:o+(r*4+c)<cur.size:=Iv;simp only[kO,Sort.putCells,Array.getD_eq_getD_getElem?,Array.getElem?_mapIdx,Array.getElem?_eq_getElem a6,gY,Option.getD_some];rw[if_pos ⟨Iv,by rw[Sort.size_flatK];omega⟩,show o+(r*4+c)-o=r*4+c by omega,h1];rfl
   rw[h3];exact .lit _
 have hsw:=hs.write (id:=0) (ob':=.arr 4 (rowsOf aO d'.toList)) rfl Iw ⟨rfl,by rw[cf,cf,vQ]⟩ hb Cb mu Ii zs;have DG:=Fr.write (σ:=⟨λk=>[AV.ref 0 4 0 X.length,.fn 74 []].getD k .undef,[.arr 4 (rowsOf aO X)]⟩) (γ:=γ) (id:=0) (.arr 4 (rowsOf aO d'.toList)) rfl Iw ⟨rfl,by rw[cf,cf,vQ]⟩ hb mu Ii rfl rfl rfl (by show γ.w.drawn<=γ.w.drawn+n;omega);have M7:¬ γ.Z w1.heap.size:=λh=>Nat.lt_irrefl _ (Nat.lt_of_lt_of_eq (hs.gd _ h) Ii.symm);have qc:¬ oc [.arr 4 (rowsOf aO d'.toList)] γ.blk w1.heap.size:=by
  rintro⟨i,o2,c2,hl,oF⟩;exact Nat.lt_irrefl _ (hsw.blt hl oF)
 have bb:∀ k,k≠w1.heap.size->k<w1.heap.size->(Sort.grow w1 os).heap[k]?=w1.heap[k]?:=λk _ hk=>by
  show(w1.heap++os)[k]?=_;rw[Array.getElem?_append,if_pos hk]
 have Hy:w1.heap.size<=(Sort.grow w1 os).heap.size:=Iw;have EH:=hsw.zJ (w':=Sort.grow w1 os) (b:=w1.heap.size) M7 qc bb Hy;have ak8:=DG.zJ (σ:=⟨λk=>[AV.ref 0 4 0 X.length,.fn 74 []].getD k .undef,[.arr 4 (rowsOf aO d'.toList)]⟩) (w':=Sort.grow w1 os) (b:=w1.heap.size) (Nat.le_of_eq Ii.symm) bb Hy rfl rfl rfl (bc _);refine⟨.bu [],[.arr 4 (rowsOf aO d'.toList)],.tuple #[],{ γ with w:=Sort.grow w1 os,tmps:=#[.tuple #[]] },⟨rfl,_,ak6,ak7,rfl⟩,rfl,rfl,rfl,⟨λk=>?_,EH.dF,EH.inj,EH.nz,EH.gd,EH.gl⟩,ak8.put _⟩;rcases k with _|k
 ·exact .bu _ _ rfl (λj x hj=>by simp at hj)
 ·exact .undef _
section
variable {m:ah} {can:List (List Bool)} {gi ai bi mi:Nat} {D E:List (Nat×Nat)} {W:WS} {os:List Ob}
def aby(am:List (List Int×Int))(j:Nat):(mE am)[j]?=(am[j]?).map λp=>(p.1,NX p.2):=by unfold mE;rw[b9]
def Ij(am:List (List Int×Int)):(mE am).length=am.length:=by unfold mE;simp
def ak9:sN Tryz.prog 130:=⟨_,_,rfl⟩
def ak'(h:WF m can gi ai bi mi D E W os)(hs:mF m W){B:Int}(hB:B<=2305843009213693952)(hW:WB B W)(AA:KN W):
  cL Tryz.prog 40 [.ptr gi 0 0] os λr ob=>r=.tree 4 (rowsOf aO (uR (kf W.am)))/\WF m can gi ai bi mi D E W ob/\Kp mi D E os ob:=by
 have fv:=h.v;have fm:=h.mp;have kM:=hW.al;refine cL.aK 32 os.length [.tmp 2] Tryz.func40 ?_;refine afa mi fm ?_;intro b0;have pk:gP vC b0 (.iB mi) b0=some (.iB mi):=rj _ _ _;repeat'(first|(((first|refine mr ?_|refine qt ?_);intro K hK) ;simp(disch:=omega)only[Ac,↓Pc,simprocAttr,fv,Mc])|(with_reducible refine gO ?_;simp(disch:=omega)only[Ac,↓Pc,simprocAttr,fv,Mc])|(refine hK _ _ ?_;clear hK K)|(with_reducible refine gS (λaV=>?_) (λaV=>?_)<;>(have hb:=aV;(try simp only[gN,simprocAttr]at hb);simp(disch:=omega)only[Ac,↓Pc,simprocAttr,fv,Mc,aV];clear aV))|(refine mc (λht=>?_) (λht=>?_)<;>(try simp only[gN,simprocAttr]at ht))|refine oA rfl ?_|(refine pw ?_;intro Qb dC eI fi)|(refine nH ?_;intro Q hn he)|((first|refine hn _ _ ?_|refine he _ _ _ rfl ?_);clear hn he;try clear Q)|((first|refine dC _ _ ?_|refine eI _ _ ?_|refine fi _ _ _ rfl ?_);clear dC eI fi;try clear Qb)|(refine ar _ _ _ rfl ?_;clear ak ar;try clear Ql)|with_reducible refine cJ ?_ ?_|omega|with_reducible rfl)
 refine afm (by simp only[Kc,simprocAttr]<;>exact rfl) fm ak9 pk λr hr=>?_;repeat'(first|(((first|refine mr ?_|refine qt ?_);intro K hK) ;simp(disch:=omega)only[Ac,↓Pc,simprocAttr,Mc])|(with_reducible refine gO ?_;simp(disch:=omega)only[Ac,↓Pc,simprocAttr,Mc])|(refine hK _ _ ?_;clear hK K)|(with_reducible refine gS (λaV=>?_) (λaV=>?_)<;>(have hb:=aV;(try simp only[gN,simprocAttr]at hb);simp(disch:=omega)only[Ac,↓Pc,simprocAttr,Mc,aV];clear aV))|(refine mc (λht=>?_) (λht=>?_)<;>(try simp only[gN,simprocAttr]at ht))|refine oA rfl ?_|(refine pw ?_;intro Qb dC eI fi)|(refine nH ?_;intro Q hn he)|((first|refine hn _ _ ?_|refine he _ _ _ rfl ?_);clear hn he;try clear Q)|((first|refine dC _ _ ?_|refine eI _ _ ?_|refine fi _ _ _ rfl ?_);clear dC eI fi;try clear Qb)|(refine ar _ _ _ rfl ?_;clear ak ar;try clear Ql)|with_reducible refine cJ ?_ ?_|omega|with_reducible rfl)
 have mR:xq os.length (lD W.am [])=.lit (.slice none 0 0):=by unfold xq lD;rfl
 refine F8 (λz:List Nat×Nat×List Ob=>(⟨an [(3,xq z.2.1 (lD W.am z.1)),(10,.lit (.pointer (some ⟨r,0,none⟩)))],z.2.2⟩:St))
  (λz m=>(z.1.Nodup/\∀ j∈z.1,j<W.am.length)/\(lD W.am z.1≠[]->z.2.2[z.2.1]?=some (.arr 4 (rowsOf aO (lD W.am z.1))))/\os.length<=z.2.1/\os.length<=z.2.2.length/\(∀ (i:Nat) o,os[i]?=some o->z.2.2[i]?=some o)/\m r=some (.iter b0 W.am.length z.1)/\m b0=some (.iB mi))
  (λz=>C5 z.1 W.am.length) ([],os.length,os) ⟨⟨Is,Iw⟩,λhx=>absurd rfl hx,bc _,bc _,λ_ _ h=>h,by rw[rj,Ij],by rw[px _ _ (λe=>by rw[<- e,pk]at hr;cases hr)];exact pk⟩ (by(refine kP.an _ _ rfl ?_;simp only[Tc,↓reduceIte,Nat.reduceEqDiff,qV,Nat.reduceAdd,mR];try trivial)) ?_
 rintro⟨seen,id,ob⟩m1⟨⟨bU,a6⟩,hX,bO,bI,pI,j5,gR⟩Ql ak ar;dsimp only at bU a6 hX bO bI pI j5 gR ⊢;have fm1:=pI _ _ fm;repeat'(first|(((first|refine mr ?_|refine qt ?_);intro K hK) ;simp(disch:=omega)only[Ac,↓Pc,simprocAttr,Mc])|(with_reducible refine gO ?_;simp(disch:=omega)only[Ac,↓Pc,simprocAttr,Mc])|(refine hK _ _ ?_;clear hK K)|(with_reducible refine gS (λaV=>?_) (λaV=>?_)<;>(have hb:=aV;(try simp only[gN,simprocAttr]at hb);simp(disch:=omega)only[Ac,↓Pc,simprocAttr,Mc,aV];clear aV))|(refine mc (λht=>?_) (λht=>?_)<;>(try simp only[gN,simprocAttr]at ht))|refine oA rfl ?_|(refine pw ?_;intro Qb dC eI fi)|(refine nH ?_;intro Q hn he)|((first|refine hn _ _ ?_|refine he _ _ _ rfl ?_);clear hn he;try clear Q)|((first|refine dC _ _ ?_|refine eI _ _ ?_|refine fi _ _ _ rfl ?_);clear dC eI fi;try clear Qb)|with_reducible refine cJ ?_ ?_|omega|with_reducible rfl)
 refine afn (by simp only[Kc,simprocAttr]<;>exact rfl) (by rw[Ij];exact j5) fm1 gR (λgj=>?_) (λj q hq hj=>?_)
 ·rw[Ij]at gj;repeat'(first|(((first|refine mr ?_|refine qt ?_);intro K hK) ;simp(disch:=omega)only[Ac,↓Pc,simprocAttr,Mc])|(with_reducible refine gO ?_;simp(disch:=omega)only[Ac,↓Pc,simprocAttr,Mc])|(refine hK _ _ ?_;clear hK K)|(with_reducible refine gS (λaV=>?_) (λaV=>?_)<;>(have hb:=aV;(try simp only[gN,simprocAttr]at hb);simp(disch:=omega)only[Ac,↓Pc,simprocAttr,Mc,aV];clear aV))|(refine mc (λht=>?_) (λht=>?_)<;>(try simp only[gN,simprocAttr]at ht))|refine oA rfl ?_|(refine pw ?_;intro Qb dC eI fi)|(refine nH ?_;intro Q hn he)|((first|refine hn _ _ ?_|refine he _ _ _ rfl ?_);clear hn he;try clear Q)|((first|refine dC _ _ ?_|refine eI _ _ ?_|refine fi _ _ _ rfl ?_);clear dC eI fi;try clear Qb)|with_reducible refine cJ ?_ ?_|omega|with_reducible rfl)
  refine ar _ _ _ rfl ?_;clear ak ar Ql;repeat(first|((first|refine hn _ _ ?_|refine he _ _ _ rfl ?_);clear hn he;try clear Q)|((first|refine dC _ _ ?_|refine eI _ _ ?_|refine fi _ _ _ rfl ?_);clear dC eI fi;try clear Qb)|(refine ar _ _ _ rfl ?_;clear ak ar;try clear Ql))
  have hP:=ajZ bU a6 gj;have hSo:=λY h1 h2=>ala (Y:=Y) AA hs.ky h1 h2;have k8:seen.length<=W.am.length:=by have:=(aai bU a6 gj).length_eq;simp at this;omega
  have qE:=aah W.am seen;refine UY ?_;dsimp only;have hWb:=h.pre bI pI;have hKb:Kp mi D E os ob:=⟨bI,λi o _ _ hi=>pI i o hi⟩;generalize lD W.am seen=X at *;clear j5 gR gj bU a6;by_cases EI:X=[]
  ·subst EI;refine QF 1 NF _ rfl ?_;intro K hK;simp(disch:=omega)only[Ac,↓Pc,simprocAttr,iv,eC,xq];repeat'(first|with_reducible refine cJ ?_ ?_|omega|with_reducible rfl)
   refine⟨rfl,(show jz Tryz.prog 73 [.lit (.slice none 0 0),.fn 74 []] (some 30) _ _ from ?_)⟩;refine yb [] (akZ (.fn 74 [])) NF trivial ⟨.pure rfl,.pure rfl,trivial⟩ ?_;rintro r tv⟨rfl,rfl⟩;simp(disch:=omega)only[Ac,↓Pc,simprocAttr,eC];refine hK _ ?_;clear hK K;refine cp (aF.J1 3 4 rfl) ?_;((try revert hK K);(repeat'(first|refine Vb X0 ?_|(refine V2 X0 ?_ ?_<;>try with_reducible intro hb)|(refine Xi ?_ ?_<;>try intro ht)|refine VD ?_ ?_|exact Xx|fail))<;>try with_reducible intro K hK)
   unfold eH;simp only[dx,du];simp(disch:=omega)only[Ac,↓Pc,simprocAttr];exact⟨_,_,⟨by rw[<- hSo [] hP .nil];rfl,hWb,hKb⟩,ed rfl hKb.len rfl⟩
  ·refine QF 1 NF _ rfl ?_;intro K hK;simp(disch:=omega)only[Ac,↓Pc,simprocAttr,iv,eC,xq,EI];repeat'(first|with_reducible refine cJ ?_ ?_|omega|with_reducible rfl)
   refine⟨rfl,(show jz Tryz.prog 73 [.ref id 4 0 X.length,.fn 74 []] (some 30) _ _ from ?_)⟩;refine yb [id] (ak0 X EI Iv) Iw ⟨by rw[vq];exact hX EI,trivial⟩ ⟨.eq (by simp[bf,bq]),.pure rfl,trivial⟩ ?_;rintro r tv⟨rfl,Y,hY,hYs,rfl⟩;simp(disch:=omega)only[Ac,↓Pc,simprocAttr,eC];refine hK _ ?_;clear hK K;have EG:=hY.length_eq;have oM:=lZ (y:=Ob.arr 4 (rowsOf aO Y)) (hX EI);have Md:=iG h.mp;refine cp (aF.zW 3 id 4 (rows:=rowsOf aO Y) oM (by simp only[Kc,simprocAttr,cf,EG]) (ig _) (my _)) ?_;have rR:=hWb.other (i:=id) ⟨by have:=iG h.v;omega,by have:=iG h.a;omega,by have:=iG h.b;omega,Iv⟩ (λhm=>by have:=h.lt _ hm;omega) .gone;have dJ:Kp mi D E os (ob.set id .gone):=⟨by rw[List.length_set];exact bI,λi o _ _ hi=>e7 (pI i o hi) (by have:=iG hi;omega)⟩;dsimp only;rw[List.set_set];((try revert hK K);(repeat'(first|refine Vb X0 ?_|(refine V2 X0 ?_ ?_<;>try with_reducible intro hb)|(refine Xi ?_ ?_<;>try intro ht)|refine VD ?_ ?_|exact Xx|fail))<;>try with_reducible intro K hK)
   unfold eH;simp only[dx,du];simp(disch:=omega)only[Ac,↓Pc,simprocAttr];exact⟨_,_,⟨by rw[<- hSo Y (hY.trans hP) hYs],rR,dJ⟩,ed rfl dJ.len rfl⟩
 ·rw[aby]at hq;cases he:W.am[j]? with
  |none=>rw[he]at hq;simp at hq
  |some qa =>
   rw[he]at hq;simp only[gY,cj.injEq]at hq;subst hq;have gA:=(aR.1 he).1;obtain⟨kp,ks,ko,Nj⟩:=hs.ky qa (List.mem_of_getElem? he);have BF:W.am.getD j default=qa:=by rw[List.getD_eq_getElem?_getD,he];rfl
   have eO:=ajX W.am seen j;rw[BF]at eO;have Ao:Aw qa=⟨kp,ks,ko,qa.2⟩:=by unfold Aw;rw[Nj];rfl
   have GU:=QO gA hj;obtain⟨ky,amt⟩:=qa;dsimp only at Nj eO Ao ⊢;subst Nj;repeat'(first|(((first|refine mr ?_|refine qt ?_);intro K hK) ;simp(disch:=omega)only[Ac,↓Pc,simprocAttr,Mc])|(with_reducible refine gO ?_;simp(disch:=omega)only[Ac,↓Pc,simprocAttr,Mc])|(refine hK _ _ ?_;clear hK K)|(with_reducible refine gS (λaV=>?_) (λaV=>?_)<;>(have hb:=aV;(try simp only[gN,simprocAttr]at hb);simp(disch:=omega)only[Ac,↓Pc,simprocAttr,Mc,aV];clear aV))|(refine mc (λht=>?_) (λht=>?_)<;>(try simp only[gN,simprocAttr]at ht))|refine oA rfl ?_|(refine pw ?_;intro Qb dC eI fi)|(refine nH ?_;intro Q hn he)|((first|refine hn _ _ ?_|refine he _ _ _ rfl ?_);clear hn he;try clear Q)|((first|refine dC _ _ ?_|refine eI _ _ ?_|refine fi _ _ _ rfl ?_);clear dC eI fi;try clear Qb)|with_reducible refine cJ ?_ ?_|omega|with_reducible rfl)
   refine afo (seen:=seen) (j:=j) (b:=b0) (q:=([kp,ks,ko],NX amt)) (by simp only[Kc,simprocAttr]<;>exact rfl) (by rw[rj]) fm1 (by rw[px _ _ (λe=>by rw[e]at gR;rw[gR]at j5;cases j5)];exact gR) (by rw[aby,he];rfl) ?_;have hkA:kA 3 [kp,ks,ko]=.agg [NX kp,NX ks,NX ko]:=rfl;rw[hkA];have xZ:gP m1 r (.iter b0 W.am.length (seen++[j])) r=_:=rj _ _ _;have hbm:gP m1 r (.iter b0 W.am.length (seen++[j])) b0=some (.iB mi):=by rw[px _ _ (λe=>by rw[e]at gR;rw[gR]at j5;cases j5)];exact gR
   have G8:(seen++[j]).Nodup:=List.nodup_append.2 ⟨bU,Iw,λa ha b hb=>by simp only[cU]at hb;subst hb;exact λe=>hj (e▸ha)⟩;have abE:∀ i∈seen++[j],i<W.am.length:=λi hi=>by
    rcases List.mem_append.1 hi with hi|hi
    ·exact a6 i hi
    ·simp only[cU]at hi;subst hi;exact gA
   rw[Ij];by_cases ha:amt=0
   ·rw[if_neg (by simpa using ha)]at eO;repeat'(first|(((first|refine mr ?_|refine qt ?_);intro K hK) ;simp(disch:=omega)only[Ac,↓Pc,simprocAttr,bF,bC,ha,Mc])|(with_reducible refine gO ?_;simp(disch:=omega)only[Ac,↓Pc,simprocAttr,bF,bC,ha,Mc])|(refine hK _ _ ?_;clear hK K)|(with_reducible refine gS (λaV=>?_) (λaV=>?_)<;>(have hb:=aV;(try simp only[gN,simprocAttr]at hb);simp(disch:=omega)only[Ac,↓Pc,simprocAttr,bF,bC,ha,Mc,aV];clear aV))|(refine mc (λht=>?_) (λht=>?_)<;>(try simp only[gN,simprocAttr]at ht))|refine oA rfl ?_|(refine pw ?_;intro Qb dC eI fi)|(refine nH ?_;intro Q hn he)|((first|refine hn _ _ ?_|refine he _ _ _ rfl ?_);clear hn he;try clear Q)|((first|refine dC _ _ ?_|refine eI _ _ ?_|refine fi _ _ _ rfl ?_);clear dC eI fi;try clear Qb)|with_reducible refine cJ ?_ ?_|omega|with_reducible rfl)
    all_goals try(exfalso;omega)
    refine ak _ _ (seen++[j],id,ob++[.var [NX kp,NX ks,NX ko]]) ⟨⟨G8,abE⟩,by dsimp only;rw[eO];exact λhx=>aM (hX hx) _,bO,NP,λi o hi=>aM (pI i o hi) _,xZ,hbm⟩ GU ?_;dsimp only;rw[eO];(refine kP.an _ _ rfl ?_;simp only[Tc,↓reduceIte,Nat.reduceEqDiff,qV,Nat.reduceAdd];try trivial)
   ·rw[if_pos ha,Ao]at eO;have dM:=aj3 hX;have qE:=aah W.am seen;have k8:seen.length<=W.am.length:=by
     have h1:=(List.Nodup.length_le_of_subset bU (l₂:=List.range W.am.length) (λa ha=>List.mem_range.2 (a6 a ha)));simpa using h1
    have lM:=aj0 id (lD W.am seen) ob;have lN:rowsOf aO (lD W.am seen)++[[NX kp,NX ks,NX ko,NX amt]]=rowsOf aO (lD W.am seen++[⟨kp,ks,ko,amt⟩]):=by unfold rowsOf;rw[List.map_append];rfl
    have jN:=λq=>aj4 q (lD W.am seen) ⟨kp,ks,ko,amt⟩;have kg:=λ(i:Nat) o (hi:os[i]?=some o)=>aj2 (pI i o hi) (X:=lD W.am seen) (id:=id) (λ_=>by have:=iG hi;omega);generalize lD W.am seen=X at *;generalize vY id X ob=xg at *;repeat'(first|(((first|refine mr ?_|refine qt ?_);intro K hK) ;simp(disch:=omega)only[Ac,↓Pc,simprocAttr,bF,bC,Mc])|(with_reducible refine gO ?_;simp(disch:=omega)only[Ac,↓Pc,simprocAttr,bF,bC,Mc])|(refine hK _ _ ?_;clear hK K)|(with_reducible refine gS (λaV=>?_) (λaV=>?_)<;>(have hb:=aV;(try simp only[gN,simprocAttr]at hb);simp(disch:=omega)only[Ac,↓Pc,simprocAttr,bF,bC,Mc,aV];clear aV))|(refine mc (λht=>?_) (λht=>?_)<;>(try simp only[gN,simprocAttr]at ht))|refine oA rfl ?_|(refine pw ?_;intro Qb dC eI fi)|(refine nH ?_;intro Q hn he)|((first|refine hn _ _ ?_|refine he _ _ _ rfl ?_);clear hn he;try clear Q)|((first|refine dC _ _ ?_|refine eI _ _ ?_|refine fi _ _ _ rfl ?_);clear dC eI fi;try clear Qb)|with_reducible refine cJ ?_ ?_|omega|with_reducible rfl)
    all_goals try(exfalso;omega)
    refine UY ?_;dsimp only;repeat'(first|((first|((first|refine rr ?_|refine rp ?_);intro K hK)|with_reducible refine gO ?_);simp(disch:=omega)only[Ac,↓Pc,simprocAttr,bF,bC,↓dM,lM,lN,cf,bE])|(refine hK _ ?_;clear hK K)|(with_reducible refine gS (λaV=>?_) (λaV=>?_)<;>(have hb:=aV;(try simp only[gN,simprocAttr]at hb);simp(disch:=omega)only[Ac,↓Pc,simprocAttr,bF,bC,↓dM,lM,lN,cf,bE,aV];clear aV))|(refine Wc (λht=>?_) (λht=>?_)<;>(try simp only[gN,simprocAttr]at ht))|refine Wz rfl ?_|refine Xz ?_|(simp only[Qc,Kc,simprocAttr])|with_reducible refine cJ ?_ ?_|omega|with_reducible rfl)
    refine dC _ _ ?_;refine ak _ _ (seen++[j],ob.length+2,xg++[.var [NX kp,NX ks,NX ko],.arr 4 [[NX kp,NX ks,NX ko,NX amt]],.arr 4 (rowsOf aO (X++[⟨kp,ks,ko,amt⟩]))]) ⟨⟨G8,abE⟩,?_,NN,by dsimp only;rw[bE,lM];omega,λi o hi=>aM (kg i o hi) _,xZ,hbm⟩ GU ?_
    ·dsimp only;intro _;rw[eO,yK lM];rfl
    ·dsimp only;rw[eO,<- jN];(refine kP.an _ _ rfl ?_;simp only[Tc,↓reduceIte,Nat.reduceEqDiff,qV,Nat.reduceAdd];try trivial)
end
def abF(m:ah)(left:List (List Bool))(rounds:Int)(lv:MB m)(lW:BB left)(hr:cS rounds):
  cL Tryz.prog 15 [.agg (ao m),.tree 1 (rowsOf aA left),NX rounds] [] λr ob=>ob=[]/\∃ xv:AV,r=.bu [xv,NX (nK m left rounds)]/\(nK m left rounds≠0->xv=.lit (.slice none 0 0))/\(nK m left rounds=0->xv=.tree 4 (rowsOf aO (nj m left rounds))):=by
 unfold cS at hr;have ni:=KU m left [] lv lW Iw;have kN:Holds Tryz.prog 17 [.agg (ao m),.tree 1 (rowsOf aA left),.lit (.slice none 0 0)] [] (.bu [NX (bQ m left []).1,NX (bQ m left []).2]) []:=Holds.Dh (pre:=[.agg (ao m),.tree 1 (rowsOf aA left)]) (post:=[]) ni;have vK:=GO m left;have dU:=@GA m left;unfold nK;generalize abG:bQ m left []=v0 at *;obtain⟨val,e⟩:=v0;dsimp only at kN ni;have he:e=kn m left:=by
  by_cases h:kn m left≠0
  ·rw[if_pos h]at vK;exact congrArg Prod.snd vK
  ·rw[if_neg h]at vK;have:=congrArg Prod.snd vK;dsimp only at this;omega
 subst he;by_cases hs:kn m left=0;rotate_left
 ·rw[if_pos hs];refine cL.aK 70 0 [.tmp 6,.tmp 7] Tryz.func15 ?_;((try revert hK K);(repeat'(first|refine Vd X0 kN ?_|(refine V2 X0 ?_ ?_<;>try with_reducible intro hb)|(refine Xi ?_ ?_<;>try intro ht)|refine VD ?_ ?_|exact Xx|fail))<;>try with_reducible intro K hK)
  all_goals try(exfalso;omega)
  unfold eH;simp only[dx,du];simp(disch:=omega)only[Ac,↓Pc,simprocAttr];refine⟨_,_,⟨rfl,.lit (.slice none 0 0),rfl,λ_=>rfl,λh=>absurd h hs⟩,?_⟩;exact Xw true [] X0
 rw[if_neg (by simpa using hs)]at vK ⊢;by_cases gr:rounds<0\/64<rounds
 ·rw[if_pos gr];refine cL.aK 70 0 [.tmp 6,.tmp 7] Tryz.func15 ?_;((try revert hK K);(repeat'(first|refine Vd X0 kN ?_|(refine V2 X0 ?_ ?_<;>try with_reducible intro hb)|(refine Xi ?_ ?_<;>try intro ht)|refine VD ?_ ?_|exact Xx|fail))<;>try with_reducible intro K hK)
  all_goals try(exfalso;omega)
  all_goals
   unfold eH;simp only[dx,du];simp(disch:=omega)only[Ac,↓Pc,simprocAttr];refine⟨_,_,⟨rfl,.lit (.slice none 0 0),rfl,rfl⟩,?_⟩;exact Xw true [] X0
 rw[if_neg gr];obtain⟨cA,nG⟩:=dU hs;have am2:(bQ m left []).2=0:=by rw[abG];exact hs
 have ald:(bQ m left []).1=val:=by rw[abG]
 refine cL.aK 70 0 [.tmp 6,.tmp 7] Tryz.func15 ?_;repeat'(first|((fail_if_success (first|refine ei 7 ?_|refine ej 7 ?_));refine Xq X0 ?_;intro K hK)|refine Xo X0 ?_|refine Xc (kN) ?_|(refine hK _ ?_;clear hK K)|(refine Xg X0 ?_ ?_<;>try intro hb)|(refine Xi ?_ ?_<;>try intro ht)|refine XY ?_|refine Xd ?_ ?_|exact Xx|fail)
 all_goals try(exfalso;omega)
 refine cp (aF.J1 (a:=none) (cap:=0) 10 4 (by simp only[Kc,simprocAttr])) ?_;dsimp only;have M6:=air cA nG [.var (ao m)];refine nf 2 NF _ rfl ?_;intro K hK;simp(disch:=omega)only[Ac,↓Pc,simprocAttr,iv,eC];refine⟨rfl,(show jz Tryz.prog 38 [.agg (ao m),.tree 1 (rowsOf aA left)] (some 33) _ _ from ?_)⟩;refine qx M6 ?_;rintro r ob⟨gi,ai,bi,mi,D,E,rfl,hW,hlen,pI,Md,gf⟩;refine⟨hlen,?_⟩;simp(disch:=omega)only[Ac,↓Pc,simprocAttr,eC];refine hK _ ?_;clear hK K;repeat(first|refine Xu ?_)
 have f0:=pI 0 _ rfl;((try revert hK K);(repeat'(first|refine Va X0 ?_|(refine V2 X0 ?_ ?_<;>try with_reducible intro hb)|(refine Xi ?_ ?_<;>try intro ht)|refine VD ?_ ?_|exact Xx|fail))<;>try with_reducible intro K hK)
 obtain⟨n,rfl⟩:∃n:Nat,rounds=n:=⟨rounds.toNat,Iv⟩;have hcf:=aj6 m left;have DT:(rowsOf aO ([]:List Mv))=[]:=rfl;refine aU (λz:Nat×List Mv×WS×List Ob=>(⟨an [(1,.tree 1 (rowsOf aA left)),(3,.ptr 0 0 0),(8,NX (bQ m left z.2.1).1),(10,.tree 4 (rowsOf aO z.2.1)),(11,.ptr gi 0 0),(34,NX n),(35,NX z.1)],z.2.2.2⟩:St))
  (λz=>(KN z.2.2.1/\yR m left (n-z.1) z.1 z.2.1 z.2.2.1=nj m left n)/\z.1<=n/\WF m (dP m left m.cls.length) gi ai bi mi D E z.2.2.1 z.2.2.2/\mF m z.2.2.1/\WB (1099511627776+14843406974976*(z.1:Int)) z.2.2.1/\z.2.2.2[0]?=some (.var (ao m)))
  (λz=>n-z.1) (0,[],W0 m,ob) ⟨⟨Is,rfl⟩,aT _,hW,alf,(alg cA).mono Iv,f0⟩ (by dsimp only;rw[ald,DT];exact Xv X0) ?_
 clear hW f0 pI hlen;rintro⟨k,X,V1,ob⟩⟨⟨AA,pN⟩,hk,hW,uI,HO,f0⟩Ql ak ar;dsimp only at AA pN hk hW uI HO f0 ⊢;have fin:∀ (X:List Mv) (ob:List Ob),X=nj m left n->∀ st,aF 0 st ⟨an [(10,.tree 4 (rowsOf aO X))],ob⟩->Ql (.exit 0) st:=λX ob h0 st ht=>by
  refine ar _ _ rfl ?_;clear ak ar;repeat(first|refine Xu ?_)
  refine cp ht ?_;clear ht;((try revert hK K);(repeat'(first|refine Vb X0 ?_|(refine V2 X0 ?_ ?_<;>try with_reducible intro hb)|(refine Xi ?_ ?_<;>try intro ht)|refine VD ?_ ?_|exact Xx|fail))<;>try with_reducible intro K hK)
  unfold eH;simp only[dx,du];simp(disch:=omega)only[Ac,↓Pc,simprocAttr];refine⟨_,_,⟨rfl,.tree 4 (rowsOf aO X),rfl,by rw[h0]⟩,?_⟩;exact Xw true [] X0
 by_cases ba:k<n
 ·obtain⟨r,jM⟩ :∃r,n-k=r+1:=⟨n-k-1,Iv⟩;have hr3:n-(k+1)=r:=Iv;rw[jM,yR]at pN;by_cases hxF:(bQ m left X).1=1099511627776
  ·rw[if_pos hxF]at pN;((try revert hK K);(repeat'(first|refine Va X0 ?_|(refine V2 X0 ?_ ?_<;>try with_reducible intro hb)|(refine Xi ?_ ?_<;>try intro ht)|refine VD ?_ ?_|exact Xx|fail))<;>try with_reducible intro K hK)
   all_goals try(exfalso;omega)
   exact fin X ob pN _ (Xv X0)
  ·rw[if_neg hxF]at pN;have abI:=ali (m:=m) (can:=dP m left m.cls.length) V1 AA k;have fK:=ah2 cA hcf hW uI (B:=1099511627776+14843406974976*(k:Int)) ⟨Iv,Iv⟩ HO (round:=k) Iv;generalize pK m (dP m left m.cls.length) V1 k=V2 at *;repeat'(first|((fail_if_success (first|refine ei 12 ?_|refine ej 12 ?_));refine Xr X0 ?_;intro K hK)|refine Xo X0 ?_|(refine hK _ ?_;clear hK K)|(refine Xg X0 ?_ ?_<;>try intro hb)|(refine Xi ?_ ?_<;>try intro ht)|refine Xy ?_|refine Xd ?_ ?_|exact Xx|fail)
   all_goals try(exfalso;omega)
   refine nf 2 NF _ rfl ?_;intro K hK;simp(disch:=omega)only[Ac,↓Pc,simprocAttr,iv,eC];refine⟨rfl,(show jz Tryz.prog 39 [.ptr gi 0 0,NX k] (some 42) _ _ from ?_)⟩;refine qx fK ?_;rintro r' xg⟨rfl,rR,dJ,abJ,Nk⟩;refine⟨dJ.len,?_⟩;simp(disch:=omega)only[Ac,↓Pc,simprocAttr,eC];refine hK _ ?_;clear hK K;repeat(first|refine Xu ?_)
   have abK:0≠mi:=by simp only[List.length_cons,List.length_nil]at Md;omega
   have n0D:0 ∉ (D++E).map (·.1):=λhm=>by have:=gf 0 hm;simp at this
   have f2:=dJ.same 0 _ abK n0D f0;have s8:=ak' rR abJ Iv Nk abI;repeat'(first|((fail_if_success (first|refine ei 13 ?_|refine ej 13 ?_));refine Xr X0 ?_;intro K hK)|refine Xo X0 ?_|(refine hK _ ?_;clear hK K)|(refine Xg X0 ?_ ?_<;>try intro hb)|(refine Xi ?_ ?_<;>try intro ht)|refine Xy ?_|refine Xd ?_ ?_|exact Xx|fail)
   refine nf 1 NF _ rfl ?_;intro K hK;simp(disch:=omega)only[Ac,↓Pc,simprocAttr,iv,eC];refine⟨rfl,(show jz Tryz.prog 40 [.ptr gi 0 0] (some 44) _ _ from ?_)⟩;refine qx s8 ?_;rintro r' ke⟨rfl,MC,El⟩;have hY:(uR (kf V2.am)).Perm (kf V2.am):=by unfold uR;exact Nl _ _ []
   generalize uR (kf V2.am)=Y at *;refine⟨El.len,?_⟩;simp(disch:=omega)only[Ac,↓Pc,simprocAttr,eC];refine hK _ ?_;clear hK K;repeat(first|refine Xu ?_)
   have f3:=El.same 0 _ abK n0D f2;have EG:Y.length<9223372036854775808:=by
    have h1:=hY.length_eq;have h2:=Nk.al;have h3:(kf V2.am).length<=V2.am.length:=by unfold kf;rw[fX];exact List.length_filter_le _ _
    omega
   have hvY:=KU m left Y lv lW EG;repeat'(first|((fail_if_success (first|refine ei 15 ?_|refine ej 15 ?_));refine Xq @f3 ?_;intro K hK)|refine Xo @f3 ?_|refine Xc (hvY) ?_|(refine hK _ ?_;clear hK K)|(refine Xg @f3 ?_ ?_<;>try intro hb)|(refine Xi ?_ ?_<;>try intro ht)|refine Xy ?_|refine Xd ?_ ?_|exact Xx|fail)
   have mq:∀ s X,aF 0 s ⟨an [(1,.tree 1 (rowsOf aA left)),(3,.ptr 0 0 0),(8,NX (bQ m left X).1),(10,.tree 4 (rowsOf aO X)),(11,.ptr gi 0 0),(34,NX n),(35,NX (k+1:Nat))],ke⟩->yR m left r (k+1) X V2=nj m left n->Ql .normal s:=λs X h1 h0 =>
    ak _ (k+1,X,V2,ke) ⟨⟨abI,by dsimp only;rw[hr3];exact h0⟩,NN,MC,abJ,Nk.mono (by push_cast;omega),f3⟩ NN h1
   have kr:=λs=>mq s X;have EE:=λs=>mq s Y;have abM:=fin X ke;clear ak ar fin mq;generalize (bQ m left Y).1=vy at *;generalize (bQ m left Y).2=ey at *;generalize (bQ m left X).1=vx at *;have am3:((k:Int)+1)=((k+1:Nat):Int):=by push_cast;rfl
   by_cases Nn:ey=0
   ·have xy:(ey != 0)=false:=by simp[Nn]
    by_cases Np:vx<vy
    ·have d1:decide (vy<=vx)=false:=decide_eq_false Iv;have d2:decide (vy > vx)=true:=decide_eq_true Np;((try revert hK K);(repeat'(first|refine Va (X3 @xy @d1 @d2) ?_|(refine V2 (X3 @xy @d1 @d2) ?_ ?_<;>try with_reducible intro hb)|(refine Xi ?_ ?_<;>try intro ht)|refine VD ?_ ?_|exact Xx|fail))<;>try with_reducible intro K hK)
     all_goals try(exfalso;omega)
     all_goals exact EE _ (Xv X0) (by rw[if_neg Iv,if_pos Np]at pN;exact pN)
    ·have d1:decide (vy<=vx)=true:=decide_eq_true Iv;have d2:decide (vy > vx)=false:=decide_eq_false Iv;by_cases am4:k=0
     ·have d3:decide ((k:Int) > 0)=false:=decide_eq_false Iv;((try revert hK K);(repeat'(first|refine Va (X4 @xy @d1 @d2 @d3) ?_|(refine V2 (X4 @xy @d1 @d2 @d3) ?_ ?_<;>try with_reducible intro hb)|(refine Xi ?_ ?_<;>try intro ht)|refine VD ?_ ?_|exact Xx|fail))<;>try with_reducible intro K hK)
      all_goals try(exfalso;omega)
      all_goals exact kr _ (Xv X0) (by rw[if_neg Iv,if_neg Np]at pN;exact pN)
     ·have d3:decide ((k:Int) > 0)=true:=decide_eq_true Iv;((try revert hK K);(repeat'(first|refine Va (X4 @xy @d1 @d2 @d3) ?_|(refine V2 (X4 @xy @d1 @d2 @d3) ?_ ?_<;>try with_reducible intro hb)|(refine Xi ?_ ?_<;>try intro ht)|refine VD ?_ ?_|exact Xx|fail))<;>try with_reducible intro K hK)
      all_goals try(exfalso;omega)
      all_goals exact abM (by rw[if_pos Iv]at pN;exact pN) _ (Xv X0)
   ·have xy:(ey != 0)=true:=by simp[Nn]
    ((try revert hK K);(repeat'(first|refine Va @xy ?_|(refine V2 @xy ?_ ?_<;>try with_reducible intro hb)|(refine Xi ?_ ?_<;>try intro ht)|refine VD ?_ ?_|exact Xx|fail))<;>try with_reducible intro K hK)
    all_goals try(exfalso;omega)
    all_goals exact abM (by rw[if_pos (.inl Nn)]at pN;exact pN) _ (Xv X0)
 ·obtain rfl:k=n:=Iv;((try revert hK K);(repeat'(first|refine Va X0 ?_|(refine V2 X0 ?_ ?_<;>try with_reducible intro hb)|(refine Xi ?_ ?_<;>try intro ht)|refine VD ?_ ?_|exact Xx|fail))<;>try with_reducible intro K hK)
  refine fin X ob (by rw[Nat.sub_self]at pN;exact pN) _ ?_;exact Xv X0
def age(m:ah)(left:List (List Bool))(rounds:Int)(lv:MB m)(lW:BB left)(hr:cS rounds)(h:nK m left rounds≠0):
  Holds Tryz.prog 15 [.agg (ao m),.tree 1 (rowsOf aA left),NX rounds] [] (.bu [.lit (.slice none 0 0),NX (nK m left rounds)]) [] :=
 cL.one ((abF m left rounds lv lW hr).mono λr os ⟨h1,xv,h2,h3,h4⟩=>by rw[h2,h3 h];exact⟨rfl,h1⟩)
def XE(m:ah)(left:List (List Bool))(rounds:Int)(lv:MB m)(lW:BB left)(hr:cS rounds)(h:nK m left rounds=0):
  Holds Tryz.prog 15 [.agg (ao m),.tree 1 (rowsOf aA left),NX rounds] [] (.bu [.tree 4 (rowsOf aO (nj m left rounds)),NX 0]) [] :=
 cL.one ((abF m left rounds lv lW hr).mono λr os ⟨h1,xv,h2,h3,h4⟩=>by rw[h2,h4 h,h];exact⟨rfl,h1⟩)
def alk(m:ah)(rounds:Int)(lv:MB m)(hr:cS rounds)(h:nK m (eS m) rounds=0):
  Holds Tryz.prog 25 [.agg (ao m),NX rounds] [] (.bu [.agg (cI (oT (nj m (eS m) rounds))),NX (bQ m (eS m) (nj m (eS m) rounds)).1,NX 0]) []:=by
 have h1:=Ya m lv;have h2:=XE m (eS m) rounds lv (XB lv) hr h;have hv:(bQ m (eS m) []).2=0:=by
  rw[GO];unfold nK at h;split at h
  ·rename_i h0;exact absurd h h0
  ·rename_i h0;rw[if_neg h0]
 have hx:=(KR rounds hv).1;generalize nj m (eS m) rounds=X at *;have h3:=XV m (oT X) lv (abp (by have:=KT hx;omega));rw[abq hx]at h3;generalize (bQ m (eS m) X).1=n at *;generalize eS m=al at *;refine Holds.aK 36 0 [.cell 4 53,.tmp 5,.tmp 6] Tryz.func25 ?_;repeat'(first|((fail_if_success (first|refine ei 5 ?_|refine ej 5 ?_));refine Xq X0 ?_;intro K hK)|refine Xo X0 ?_|refine Xc (h1) ?_|refine Xc (h2) ?_|(refine hK _ ?_;clear hK K)|(refine Xg X0 ?_ ?_<;>try intro hb)|(refine Xi ?_ ?_<;>try intro ht)|refine XY ?_|refine Xd ?_ ?_|exact Xx|fail)
 refine cp (aF.ae1 2 0 5 (cells':=bz ⟨-1,[],X,[],[]⟩) rfl rfl (by exact⟨.inl rfl,.inr ⟨rfl,_,rfl⟩,.inl rfl,.inr ⟨rfl,_,rfl⟩,.inr ⟨rfl,_,rfl⟩,trivial⟩)) ?_;refine cp (aF.wT 2 3 0 5 (rows:=rowsOf bz (oT X)) rfl rfl rfl (ig _) (my _)) ?_;dsimp only;simp(disch:=omega)only[Ac,↓Pc,simprocAttr];((try revert hK K);(repeat'(first|refine Vd X0 h3 ?_|(refine V2 X0 ?_ ?_<;>try with_reducible intro hb)|(refine Xi ?_ ?_<;>try intro ht)|refine VD ?_ ?_|exact Xx|fail))<;>try with_reducible intro K hK)
 simp(disch:=omega)only[Ac,↓Pc,simprocAttr];exact Xw true [] X0
def oL1:cE:=⟨0,0,0,0,0,[(0,3)]⟩
def oLz:cE:=⟨0,0,0,0,0,[]⟩
def kY:ah:=⟨[[oL1,oLz],[oLz,oL1]],[⟨0,1,0,[0,5,5,0]⟩],[],1⟩
def abP:VM kY:=rz.1 (by decide +kernel)
def alm:nK kY (eS kY) 4=0:=by decide +kernel
def abQ:bQ kY (eS kY) (nj kY (eS kY) 4)=(3,0):=by decide +kernel
def Xt:Holds Tryz.prog 9 [] [] (.lit (.bool true)) []:=by
 have h1:=alk kY 4 abP.mb (by unfold cS;omega) alm;have ni:(bQ kY (eS kY) (nj kY (eS kY) 4)).2=0:=by rw[abQ]
 have h2:=XV kY (oT (nj kY (eS kY) 4)) abP.mb (abp (by have:=KT ni;omega));rw[abq ni]at h2;rw[abQ]at h1 h2;have dD:(oT (nj kY (eS kY) 4)).length=1:=rfl;generalize oT (nj kY (eS kY) 4)=Q at *;dsimp only at h1 h2;refine Holds.aK 53 0 [.tmp 0] Tryz.func9 ?_;repeat'(first|((fail_if_success (first|refine ei 1 ?_|refine ej 1 ?_));refine Xr X0 ?_;intro K hK)|refine Xo X0 ?_|(refine hK _ ?_;clear hK K)|(refine Xg X0 ?_ ?_<;>try intro hb)|(refine Xi ?_ ?_<;>try intro ht)|refine XY ?_|refine Xd ?_ ?_|exact Xx|fail)
 refine Kj 15 NF ?_;intro K K1 hK yE;simp(disch:=omega)only[Ac,↓Pc,simprocAttr,iv];refine yE _ ⟨an [(21,.agg (ao kY))],[]⟩ ?_ ?_
 ·refine aF.aj [] true _ _ NF trivial NF NF ⟨?_,trivial⟩;simp only[Kc,simprocAttr];refine bw.agg _ _ rfl (ju.spec (R:=bw _ _ _ _) (cs:=ao kY) (ds:=[.ref 4 1 0 2,.ref 6 4 0 1,.lit (.slice none 0 0),NX 1]) ⟨.snap _ _ rfl ?_,.snap _ _ rfl ?_,.snap _ _ rfl (.nil 4),.pure rfl,trivial⟩).2
  ·exact cK.mk rfl rfl (kh NF) (ig _) ⟨⟨cK.mk rfl rfl (kh NF) (ig _) ⟨⟨.lit _,.lit _,.lit _,.lit _,.lit _,cK.mk rfl rfl (kh NF) (ig _) ⟨⟨.lit _,.lit _,trivial⟩,trivial⟩,trivial⟩,⟨.lit _,.lit _,.lit _,.lit _,.lit _,.nil 2,trivial⟩,trivial⟩,trivial⟩,
    ⟨cK.mk rfl rfl (kh NF) (ig _) ⟨⟨.lit _,.lit _,.lit _,.lit _,.lit _,.nil 2,trivial⟩,⟨.lit _,.lit _,.lit _,.lit _,.lit _,cK.mk rfl rfl (kh NF) (ig _) ⟨⟨.lit _,.lit _,trivial⟩,trivial⟩,trivial⟩,trivial⟩,trivial⟩,trivial⟩
  ·exact cK.mk rfl rfl (kh NF) (ig _) ⟨⟨.lit _,.lit _,.lit _,cK.mk rfl rfl (kh NF) (tY _) ⟨⟨.lit _,trivial⟩,⟨.lit _,trivial⟩,⟨.lit _,trivial⟩,⟨.lit _,trivial⟩,trivial⟩,trivial⟩,trivial⟩
 clear yE K1;simp(disch:=omega)only[Ac,↓Pc,simprocAttr,eC];refine hK _ ?_;clear hK K;generalize kY=m at *;repeat(first|refine Xu ?_)
 ((try revert hK K);(repeat'(first|refine Vd @cI.eq_1 (X2 h1 h2) ?_|(refine V2 @cI.eq_1 ?_ ?_<;>try with_reducible intro hb)|(refine Xi ?_ ?_<;>try intro ht)|refine VD ?_ ?_|exact Xx|fail))<;>try with_reducible intro K hK)
 all_goals exact aS (by rw[dD];rfl) (by rw[dD];rfl)
end T

