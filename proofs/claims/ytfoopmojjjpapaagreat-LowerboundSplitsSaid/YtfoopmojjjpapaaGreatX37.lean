import Derived.Test.YtfoopmojjjpapaaGreatX35
import Derived.Shelf.SlSortCmp.NoneTotal
set_option linter.all false
set_option maxHeartbeats 0
set_option maxRecDepth 20000
open List renaming getElem?_map→bM,getD_eq_getElem?_getD→ay,getElem?_eq_some_iff→aY,getElem?_eq_getElem→bx
open Option renaming map_eq_some_iff→wT,map_some→fc
open Array renaming getD_eq_getD_getElem?→eU,length_toList→sU
open Bool renaming not_eq_true→vF
open Go Go.Am Go.Proofs
namespace T
def vq(a b:Mv):Int:=sq [kX a.pair b.pair,kX a.side b.side,kX a.opt b.opt]
def aop(a b:Mv):Holds Tryz.prog 74 [.agg (aU a),.agg (aU b)] [] (QM (vq a b)) []:=by
 unfold vq;have h1:=Fo a.pair b.pair;have h2:=Fo a.side b.side;have h3:=Fo a.opt b.opt;generalize kX a.pair b.pair=c1 at *;generalize kX a.side b.side=c2 at *;generalize kX a.opt b.opt=c3 at *;have h4:=Nh [c1,c2,c3] G9;refine Holds.aM 22 0 [.tmp 4] Tryz.func74 ?_;((try revert hK K);(repeat'(first|refine Vd @aU.eq_1 (X3 h1 h2 h3) ?_|(refine V2 @aU.eq_1 ?_ ?_<;>try with_reducible intro hb)|(refine Xi ?_ ?_<;>try intro ht)|refine VD ?_ ?_|exact Xx|fail))<;>try with_reducible intro K hK)
 refine ug [] h4 Hg trivial ⟨a7.cN (rows:=ints [c1,c2,c3]) rfl (uw _) rfl G9 (xn _),trivial⟩ rfl G9 ?_;((try revert hK K);(repeat'(first|refine Vb X0 ?_|(refine V2 X0 ?_ ?_<;>try with_reducible intro hb)|(refine Xi ?_ ?_<;>try intro ht)|refine VD ?_ ?_|exact Xx|fail))<;>try with_reducible intro K hK)
 exact aN rfl rfl
def aeJ(w:World)(Z:Nat->Prop)(blk:gU)(os:List Ob)(l:List Value):aw os w Z blk (.agg (l.map .lit)) (.agg l.toArray) :=
 .agg _ _ G9 λj x hj=>by
  simp only[bM,wT]at hj;obtain⟨v,hv,rfl⟩:=hj;have:l.toArray.getD j Go.undef=v:=by simp[eU,hv]
  rw[this];exact .lit _
def grown{P:Program}{f:FuncId}{args:List AV}{res:Value}(h:Am.Holds P f args [] (.lit res) [])(argv:Array Value)(W:World)(aO:argv.size=args.length)(ha:∀ j x,args[j]?=some x->aw [] W (λ_=>False) (λ_=>none) x (argv.getD j Go.undef)):
  Calls P f argv W (λe w'=>e=.returned res/\∃ q ij,w'=Sort.grow (W.drewN q) ij):=by
 refine(h.2 ⟨W,argv,λ_=>False,λ_=>none⟩ aO ⟨λk=>?_,λi o hi=>by simp at hi,λi j b o c o' c' ⟨x,hx,_⟩=>by simp at hx,λb _ h=>h,λb h=>h.elim,λg=>.undef _⟩).mono ?_
 ·show aw [] W _ _ (args.getD k .undef) _;rcases hk:args[k]? with _|x
  ·rw[ay,hk];exact .undef _
  ·rw[ay,hk];exact ha k x hk
 rintro e w'⟨cv,aC,rfl,rfl,h3,h4,h5⟩;have h6:=h4.ar 0;have h7:aC.tmps.getD 0 Go.undef=cv:=by rw[h3];rfl
 rw[h7]at h6;have:cv=res:=aw.cO h6;subst this;refine⟨rfl,aC.w.drawn-W.drawn,aC.w.heap.extract W.heap.size,?_⟩;have hh:aC.w.heap=W.heap++aC.w.heap.extract W.heap.size:=by
  apply Array.ext_getElem?;intro k;rw[Array.getElem?_append];split
  ·rename_i hk;exact h5.eA k hk (λ⟨i,o,c,⟨x,hx,_⟩,_⟩=>by simp at hx)
  ·rename_i hk;have:=h5.size;simp only[Array.getElem?_extract];by_cases bw:k<aC.w.heap.size
   ·rw[if_pos (by simp at *;omega)];congr 1;simp at *;omega
   ·rw[if_neg (by simp at *;omega)];simp at *;omega
 have e1:=h5.lS;have e2:=h5.tape;have e3:=h5.output;have e4:=h5.drawn;cases hw:aC.w with
 |mk hp tp dr os ou =>
  rw[hw]at hh e1 e2 e3 e4;simp only at hh e1 e2 e3 e4;have e5:dr=W.drawn+(dr-W.drawn):=Ey;show _=World.mk _ _ _ _ _;rw[World.mk.injEq];exact⟨hh,e2,e5,e1,e3⟩
instance:Inhabited Mv:=⟨⟨0,0,0,0⟩⟩
def sR(x y:Mv):Go.Proofs.ltOf vq x y=true↔x.pair<y.pair\/(x.pair=y.pair/\(x.side<y.side\/(x.side=y.side/\x.opt<y.opt))):=by
 unfold Go.Proofs.ltOf vq;rw[decide_eq_true_eq];unfold kX;simp only[sq];repeat' split
 all_goals first|omega|skip
 all_goals simp_all
 all_goals omega
def aoq:Sort.SWO (Go.Proofs.ltOf vq) where
 irrefl x:=by
  rw[<- vF,sR];omega
 trans x y z:=by rw[sR,sR,sR];omega
 ntrans x y z:=by rw[<- vF,<- vF,<- vF,sR,sR,sR];omega
def qC(x:Mv):List Value:=[.int .i64 x.pair,.int .i64 x.side,.int .i64 x.opt,.int .i64 x.amt]
def aeK(x:Mv):aU x=(qC x).map .lit:=rfl
def aor(blk off size:Nat)(w:World):Go.Proofs.CmpLays Tryz.prog 74 #[] qC 4 vq blk off size w:=by
 intro m os dk _ x y;rw[Array.append_empty];refine grown (aop x y) #[.agg (qC x).toArray,.agg (qC y).toArray] _ rfl λj v hj=>?_;rcases j with _|_|j
 ·cases hj;exact aeJ _ _ _ _ (qC x)
 ·cases hj;exact aeJ _ _ _ _ (qC y)
 ·cases hj
def aeL:LB Tryz.prog 73:=⟨_,Tryz.func73,Hg,rfl⟩
def aos{X:List Mv}{r c:Nat}{v:AV}(h:cellAt (rowsOf aU X) r c=some v):∃x y,X[r]?=some x/\(qC x)[c]?=some y/\v=.lit y:=by
 unfold cellAt rowsOf at h;rw[bM]at h;cases hx:X[r]? with
 |none=>rw[hx]at h;simp at h
 |some x =>
  rw[hx]at h;simp only[fc,Option.bind_some,aeK,bM,wT]at h;obtain⟨y,hy,rfl⟩:=h;exact⟨x,y,rfl,hy,rfl⟩
def aeM{d:Array Mv}{r c:Nat}{x:Mv}{y:Value}(hx:d.toList[r]?=some x)(hy:(qC x)[c]?=some y):(Sort.flatK qC 4 d)[r*4+c]! = y/\r*4+c<d.size*4:=by
 have hc:c<4:=(aY.1 hy).1;have hr:r<d.size:=by have:=(aY.1 hx).1;simpa using this
 have aX:r*4+c<d.size*4:=Ey;refine⟨?_,aX⟩;rw[Sort.get_flatK _ _ _ _ aX,show(r*4+c)/4=r by omega,show(r*4+c)%4=c by omega];have e:d[r]! = x:=by
  rw[getElem!_pos d r hr];have:=(aY.1 hx).2;simpa using this
 rw[e,List.getElem!_eq_getElem?_getD,hy];rfl
def amd(v:AV):dv Tryz.prog 73 [.lit (.slice none 0 0),.fn 74 []] [] (λres bh=>res=.bC []/\bh=[]):=by
 refine⟨aeL,λγ aO hs=>?_⟩;obtain⟨v0,v1,hv⟩:∃v0 v1,γ.tmps = #[v0,v1]:=by
  match h:γ.tmps,aO with
  |⟨[a,b]⟩,_=>exact⟨a,b,rfl⟩
 have s0:=hs.ar 0;rw[hv]at s0;have e0:v0=.slice none 0 0:=aw.cO s0;subst e0;rw[hv];refine(AnyF.slices_SortFunc_none aem none 0 v1 γ.w).mono ?_;rintro e w'⟨rfl,rfl⟩;refine⟨.bC [],[],.tuple #[],{ γ with tmps:=#[.tuple #[]] },⟨rfl,rfl⟩,rfl,rfl,rfl,⟨λk=>?_,λi o hi=>by simp at hi,hs.inj,hs.nz,hs.gV,hs.gl⟩,(Fr.refl _ _).put _⟩;rcases k with _|k
 ·exact .bC _ _ rfl (λj x hj=>by simp at hj)
 ·exact .undef _
def amf(X:List Mv)(hX:X≠[])(hXm:X.length<4611686018427387904):dv Tryz.prog 73 [.ref 0 4 0 X.length,.fn 74 []] [.arr 4 (rowsOf aU X)] (λres bh=>res=.bC []/\∃ Y:List Mv,Y.Perm X/\Y.Pairwise (λa b=>Go.Proofs.ltOf vq b a=false)/\bh=[.arr 4 (rowsOf aU Y)]):=by
 have hXl:0<X.length:=List.length_pos_iff.2 hX;refine⟨aeL,λγ aO hs=>?_⟩;obtain⟨v0,v1,hv⟩:∃v0 v1,γ.tmps = #[v0,v1]:=by
  match h:γ.tmps,aO with
  |⟨[a,b]⟩,_=>exact⟨a,b,rfl⟩
 have s0:=hs.ar 0;have s1:=hs.ar 1;rw[hv]at s0 s1 ⊢;obtain⟨Dg,yO,ho⟩:=hs.ec 0 _ rfl;rcases ho with⟨_,hr⟩|⟨b,o,cap,cur,t,hb,jt,hle,j6,jU,Qa⟩
 ·simp[rowsOf]at hr;exact absurd hr hX
 have hlen:(rowsOf aU X).length=X.length:=cF X;obtain⟨cap',rfl⟩:∃cap',v0=.slice (some ⟨b,o,none⟩) X.length cap':=by
  have s0':aw [.arr 4 (rowsOf aU X)] γ.w γ.Z γ.blk (.ref 0 4 0 X.length) v0:=s0;generalize X.length=L at s0' hXl ⊢;cases s0' with
  |cN _ _ h=>cases h
  |lA _ _ _ _ _ h _=>simp at h
  |ref _ _ _ _ b' o' c1 c2 rows h ba h1 h2 h3 =>
   have h':=hb.symm.trans ba;simp only[Option.some.injEq,Prod.mk.injEq]at h';obtain⟨rfl,rfl,rfl⟩:=h';exact⟨c2,G9⟩
  |ng _ _ h _=>omega
  |nJ _ _ _ _ _ _ _ h _ _=>omega
 obtain rfl:v1=.func (.func 74) #[] #[]:=by
  have s1':aw [.arr 4 (rowsOf aU X)] γ.w γ.Z γ.blk (.fn 74 []) v1:=s1;cases s1' with
  |cN _ _ h=>cases h
  |fn _ _ bq h _ =>
   have:bq = #[]:=Array.eq_empty_of_size_eq_zero h;rw[this]
 have aW:∀ j x,(Sort.flatK qC 4 X.toArray)[j]! = x->j<X.length*4->γ.w.cell? ⟨b,o+j,none⟩=some x:=by
  intro j x hx hj;rw[Be jt Ey];obtain⟨m,hm⟩:∃m,X[j/4]?=some m:=⟨_,bx Ey⟩;obtain⟨y,hy⟩:∃y,(qC m)[j%4]?=some y:=⟨_,bx (by show j%4<4;omega)⟩;have h1:=(aeM (d:=X.toArray) (by simpa using hm) hy).1;rw[show j/4*4+j%4=j by omega,hx]at h1;have h2:=Qa (j/4) (j%4) (.lit y) (by
   unfold cellAt rowsOf;rw[bM,hm];simp[aeK,hy])
  rw[show j/4*4+j%4=j by omega]at h2;rw[aw.cO h2,h1]
 have hH:Sort.HoldsK qC 4 γ.w b o X.toArray:=by
  intro j hj;have fI:j<X.length*4:=by simpa using hj
  exact⟨aW j _ rfl fI,by simp[World.frozen?,jt]⟩
 have hblk:b<γ.w.heap.size:=(Array.getElem?_eq_some_iff.1 jt).1;have eg:∀ args w,(callFunc 74 args).run Tryz.prog w=.ok (.enter 74 args) w:=enters_of Tryz.func74 (by kernel_rfl) rfl;have xL:=AnyQ.slices_SortFunc aem 4 Tryz.isAgg94 Tryz.sizeOf94 qC (λ_=>rfl) (λx v hv=>by simp[qC]at hv;rcases hv with rfl|rfl|rfl|rfl<;>rfl) vq aoq 74 #[] b o cap' X.toArray γ.w eg (aor b o X.toArray.size γ.w) hH hblk (by simpa using hXm);rw[show X.toArray.size=X.length by simp]at xL;refine Calls.mono xL ?_;rintro e w'⟨rfl,d',n,os,hp,aow,rfl⟩;obtain⟨zd,_,hp3⟩:=hp;have hds:d'.size=X.length:=by simpa using zd
 have aox:d'.toList.Perm X:=by
  have e1:d'.extract 0 X.length=d':=by rw[<- hds];exact Array.extract_size
  have e2:X.toArray.extract 0 X.length=X.toArray:=by
   have:=Array.extract_size (xs:=X.toArray);simpa using this
  rw[e1,e2]at hp3;simpa using hp3
 have xM:d'.toList.length=X.length:=by simpa using hds
 have aoy:d'.toList.Pairwise (λa b=>Go.Proofs.ltOf vq b a=false):=by
  refine List.pairwise_iff_getElem.2 λi j hi hj uR=>?_;have h:=aow i j (Nat.zero_le _) uR Ey;rw[getElem!_pos d' i (by rw[sU]at hi;exact hi),getElem!_pos d' j (by rw[sU]at hj;exact hj)]at h;simpa using h
 let lW:=Sort.putCells id o (Sort.flatK qC 4 d') cur
 let w1:=Sort.putRowK qC 4 (Sort.ahead γ.w n) b o d'
 have Dv:w1.heap[b]?=some (.cells lW t (0,0)):=by
  show(γ.w.heap.modify b _)[b]?=_;rw[Array.getElem?_modify,if_pos rfl,jt];rfl
 have nL:∀ k,k≠b->w1.heap[k]?=γ.w.heap[k]?:=λk hk=>by
  show(γ.w.heap.modify b _)[k]?=_;rw[Array.getElem?_modify,if_neg (λe=>hk e.symm)]
 have Kx:w1.heap.size=γ.w.heap.size:=by show(γ.w.heap.modify b _).size=_;simp
 have fX:lW.size=cur.size:=by simp[lW,Sort.putCells]
 have Bu:uC [.arr 4 (rowsOf aU X)] γ.w γ.Z γ.blk o cap lW (.arr 4 (rowsOf aU d'.toList)):=by
  refine⟨Hg,λrow hr=>?_,by rw[fX];exact hle,?_,jU,λr c v hv=>?_⟩
  ·simp only[rowsOf,List.mem_map]at hr;obtain⟨x,_,rfl⟩:=hr;rfl
  ·rw[cF,xM,<- hlen];exact j6
  ·obtain⟨x,y,hx,hy,rfl⟩:=aos hv;obtain⟨h1,h2⟩:=aeM hx hy;have h3:lW.getD (o+(r*4+c)) Go.undef=y:=by
    have aX:o+(r*4+c)<cur.size:=Ey;simp only[lW,Sort.putCells,eU,Array.getElem?_mapIdx,Array.getElem?_eq_getElem aX,fc,Option.getD_some];rw[if_pos ⟨Ey,by rw[Sort.size_flatK];omega⟩,show o+(r*4+c)-o=r*4+c by omega,h1];rfl
   rw[h3];exact .lit _
 have Ky:=hs.write (id:=0) (ob':=.arr 4 (rowsOf aU d'.toList)) rfl G9 ⟨rfl,by rw[cF,cF,xM]⟩ hb Dv nL Kx Bu;have Gm:=Fr.write (σ:=⟨λk=>[AV.ref 0 4 0 X.length,.fn 74 []].getD k .undef,[.arr 4 (rowsOf aU X)]⟩) (γ:=γ) (id:=0) (.arr 4 (rowsOf aU d'.toList)) rfl G9 ⟨rfl,by rw[cF,cF,xM]⟩ hb nL Kx rfl rfl rfl (by show γ.w.drawn<=γ.w.drawn+n;omega);have MR:¬ γ.Z w1.heap.size:=λh=>Nat.lt_irrefl _ (Nat.lt_of_lt_of_eq (hs.gV _ h) Kx.symm);have iz:¬ pO [.arr 4 (rowsOf aU d'.toList)] γ.blk w1.heap.size:=by
  rintro⟨i,o2,c2,hl,lG⟩;exact Nat.lt_irrefl _ (Ky.blt hl lG)
 have bw:∀ k,k≠w1.heap.size->k<w1.heap.size->(Sort.grow w1 os).heap[k]?=w1.heap[k]?:=λk _ hk=>by
  show(w1.heap++os)[k]?=_;rw[Array.getElem?_append,if_pos hk]
 have uM:w1.heap.size<=(Sort.grow w1 os).heap.size:=G9;have GZ:=Ky.BM (w':=Sort.grow w1 os) (b:=w1.heap.size) MR iz bw uM;have aoz:=Gm.BM (σ:=⟨λk=>[AV.ref 0 4 0 X.length,.fn 74 []].getD k .undef,[.arr 4 (rowsOf aU d'.toList)]⟩) (w':=Sort.grow w1 os) (b:=w1.heap.size) (Nat.le_of_eq Kx.symm) bw uM rfl rfl rfl (Nat.le_refl _);refine⟨.bC [],[.arr 4 (rowsOf aU d'.toList)],.tuple #[],{ γ with w:=Sort.grow w1 os,tmps:=#[.tuple #[]] },⟨rfl,_,aox,aoy,rfl⟩,rfl,rfl,rfl,⟨λk=>?_,GZ.ec,GZ.inj,GZ.nz,GZ.gV,GZ.gl⟩,aoz.put _⟩;rcases k with _|k
 ·exact .bC _ _ rfl (λj x hj=>by simp at hj)
 ·exact .undef _
end T

