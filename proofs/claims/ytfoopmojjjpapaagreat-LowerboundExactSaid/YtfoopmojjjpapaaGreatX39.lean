import Derived.Test.YtfoopmojjjpapaaGreatX35
import Derived.Test.YtfoopmojjjpapaaGreatX28
set_option linter.all false
set_option maxHeartbeats 0
set_option maxRecDepth 20000
open List renaming mem_singleton→c8,length_map→fF,nodup_nil→E0,take→ja,drop→eV,append_assoc→bz,length_append→bL,length_cons→cX,length_nil→kx
open And renaming intro→cQ
open Nat renaming le_refl→aX,reduceBEq→rh
open Go Go.Am Go.Proofs
namespace T
def oQ(X:List Mv):List Nd:=[⟨-1,[],X,[],[]⟩]
def aaa{X:List Mv}(h:X.length<9223372036854775808):PB (oQ X):=by
 refine⟨by show(1:Nat)<_;decide,λx hx=>?_,λx hx=>?_,λx hx=>?_,λx hx=>?_,λx hx l hl=>?_⟩;all_goals unfold oQ at hx;rw[c8]at hx;subst hx
 ·show(0:Nat)<_;decide
 ·exact h
 ·show(0:Nat)<_;decide
 ·show(0:Nat)<_;decide
 ·simp at hl
def ai'{m:ah}(hm:MB m):BB (cg m):=by
 unfold cg;split
 ·refine⟨by unfold cu;rw[fF];exact hm.cls,λr hr=>?_⟩;obtain⟨l,hl,rfl⟩:=List.mem_map.1 hr;rw[List.length_replicate];exact hm.opt l hl
 ·exact⟨IP,IM⟩
def aab(m:ah)(left:List (List Bool))(g:Lg):kk m left g<=1099511627776:=by
 unfold kk;split
 ·exact Int.le_refl _
 ·omega
def MR{m:ah}{left:List (List Bool)}{X:List Mv}(h:(b6 m left X).2=0):X.length<=2000:=by
 unfold b6 fZ at h;split at h
 ·rename_i h1;exact absurd h h1
 ·split at h
  ·cases h
  ·omega
def MS{m:ah}{left:List (List Bool)}{X:List Mv}(h:(b6 m left X).2=0):jH m left=0/\b6 m left X=fZ m left X/\(b6 m left X).1<=1099511627776:=by
 unfold b6 at h ⊢;split at h
 ·rename_i h1;exact absurd h h1
 ·rename_i h1;rw[if_neg h1];refine⟨Decidable.not_not.1 h1,rfl,?_⟩;unfold fZ at h ⊢;split at h
  ·cases h
  ·split at h
   ·cases h
   ·rename_i h2 h3;rw[if_neg h2,if_neg h3];exact aab _ _ _
def aac{m:ah}{X:List Mv}(h:(b6 m (cg m) X).2=0):oB m (oQ X)=((b6 m (cg m) X).1,true):=by
 obtain⟨h1,h2,h3⟩:=MS h;have hv:=(K4 h1).1;have qX:iB m=0:=jD.2 hv;have hs:km m (oQ X)=true:=by
  unfold km oQ;simp[ln,nf,pF,jT,iQ,List.range_succ]
 have e:rQ m (oQ X) (jr m (oQ X)) 1099511627776=((b6 m (cg m) X).1,true):=by
  unfold rQ;rw[if_pos ⟨qX,hs⟩];have ev:vs (oQ X) (root m)=[(0,cg m,[])]:=rfl;rw[ev];rw[kP,if_neg IM];have es:jr m (oQ X) 1099511627776 (0,cg m,[])=((b6 m (cg m) X).1,true):=by
   unfold jr;have en:nd (oQ X) 0=⟨-1,[],X,[],[]⟩:=rfl;rw[if_neg (by dsimp only;rw[en];simp),if_neg (by dsimp only;rw[en];simp),en];dsimp only;rw[<- h2,h];rw[Int.min_eq_right h3];rfl
  rw[es,if_pos rfl];rfl
 unfold oB;rw[e,if_pos rfl]
section
variable {m:ah} {can:List (List Bool)} {gi ai bi mi:Nat} {D E:List (Nat×Nat)} {W:WS} {os:List Ob}
def aja(h:WF m can gi ai bi mi D E W os)(hs:mB m W){B:Int}(hB:B<=2305843009213693952)(hW:WB B W)(Au:KN W):
  dy Tryz.prog 40 [.ptr gi 0 0] os λr ob=>(∃ id,r=.ref id 4 0 (tF (jX W.am)).length/\ob[id]?=some (.arr 4 (rowsOf aP (tF (jX W.am))))/\os.length<=id)/\WF m can gi ai bi mi D E W ob/\Kp mi D E os ob:=by
 have fv:=h.v;have fm:=h.mp;have j5:=hW.al;refine dy.aN 32 os.length [.tmp 2] Tryz.func40 ?_;refine afO mi fm ?_;intro b0;have pG:gT vH b0 (.iH mi) b0=some (.iH mi):=rN _ _ _;repeat'(first|(((first|refine mr ?_|refine qU ?_);intro K hK) ;simp(disch:=omega)only[Ac,↓Pc,simprocAttr,fv,Mc])|(with_reducible refine gO ?_;simp(disch:=omega)only[Ac,↓Pc,simprocAttr,fv,Mc])|(refine hK _ _ ?_;clear hK K)|(with_reducible refine gS (λaY=>?_) (λaY=>?_)<;>(have hb:=aY;(try simp only[gI,simprocAttr]at hb);simp(disch:=omega)only[Ac,↓Pc,simprocAttr,fv,Mc,aY];clear aY))|(refine mc (λht=>?_) (λht=>?_)<;>(try simp only[gI,simprocAttr]at ht))|refine oK rfl ?_|(refine pK ?_;intro Qb dJ eK e8)|(refine nQ ?_;intro Q hn he)|((first|refine hn _ _ ?_|refine he _ _ _ rfl ?_);clear hn he;try clear Q)|((first|refine dJ _ _ ?_|refine eK _ _ ?_|refine e8 _ _ _ rfl ?_);clear dJ eK e8;try clear Qb)|(refine au _ _ _ rfl ?_;clear ak au;try clear Ql)|with_reducible refine cQ ?_ ?_|omega|with_reducible rfl)
 refine af1 (by simp only[Kc,simprocAttr]<;>exact rfl) fm ajb pG λr hr=>?_;repeat'(first|(((first|refine mr ?_|refine qU ?_);intro K hK) ;simp(disch:=omega)only[Ac,↓Pc,simprocAttr,Mc])|(with_reducible refine gO ?_;simp(disch:=omega)only[Ac,↓Pc,simprocAttr,Mc])|(refine hK _ _ ?_;clear hK K)|(with_reducible refine gS (λaY=>?_) (λaY=>?_)<;>(have hb:=aY;(try simp only[gI,simprocAttr]at hb);simp(disch:=omega)only[Ac,↓Pc,simprocAttr,Mc,aY];clear aY))|(refine mc (λht=>?_) (λht=>?_)<;>(try simp only[gI,simprocAttr]at ht))|refine oK rfl ?_|(refine pK ?_;intro Qb dJ eK e8)|(refine nQ ?_;intro Q hn he)|((first|refine hn _ _ ?_|refine he _ _ _ rfl ?_);clear hn he;try clear Q)|((first|refine dJ _ _ ?_|refine eK _ _ ?_|refine e8 _ _ _ rfl ?_);clear dJ eK e8;try clear Qb)|(refine au _ _ _ rfl ?_;clear ak au;try clear Ql)|with_reducible refine cQ ?_ ?_|omega|with_reducible rfl)
 have mj:xr os.length (lz W.am [])=.lit (.slice none 0 0):=by unfold xr lz;rfl
 refine Ha (λz:List Nat×Nat×List Ob=>(⟨ao [(3,xr z.2.1 (lz W.am z.1)),(10,.lit (.pointer (some ⟨r,0,none⟩)))],z.2.2⟩:St))
  (λz m=>(z.1.Nodup/\∀ j∈z.1,j<W.am.length)/\(lz W.am z.1≠[]->z.2.2[z.2.1]?=some (.arr 4 (rowsOf aP (lz W.am z.1))))/\os.length<=z.2.1/\os.length<=z.2.2.length/\(∀ (i:Nat) o,os[i]?=some o->z.2.2[i]?=some o)/\m r=some (.iter b0 W.am.length z.1)/\m b0=some (.iH mi))
  (λz=>DR z.1 W.am.length) ([],os.length,os) ⟨⟨E0,IM⟩,λhx=>absurd rfl hx,aX _,aX _,λ_ _ h=>h,by rw[rN,H0],by rw[pH _ _ (λe=>by rw[<- e,pG]at hr;cases hr)];exact pG⟩ (by(refine kO.ao _ _ rfl ?_;simp only[Tc,↓reduceIte,Nat.reduceEqDiff,rh,Nat.reduceAdd,mj];try trivial)) ?_
 rintro⟨seen,id,ob⟩m1⟨⟨bx,aS⟩,hX,b9,bI,oN,j7,iu⟩Ql ak au;dsimp only at bx aS hX b9 bI oN j7 iu ⊢;have fm1:=oN _ _ fm;repeat'(first|(((first|refine mr ?_|refine qU ?_);intro K hK) ;simp(disch:=omega)only[Ac,↓Pc,simprocAttr,Mc])|(with_reducible refine gO ?_;simp(disch:=omega)only[Ac,↓Pc,simprocAttr,Mc])|(refine hK _ _ ?_;clear hK K)|(with_reducible refine gS (λaY=>?_) (λaY=>?_)<;>(have hb:=aY;(try simp only[gI,simprocAttr]at hb);simp(disch:=omega)only[Ac,↓Pc,simprocAttr,Mc,aY];clear aY))|(refine mc (λht=>?_) (λht=>?_)<;>(try simp only[gI,simprocAttr]at ht))|refine oK rfl ?_|(refine pK ?_;intro Qb dJ eK e8)|(refine nQ ?_;intro Q hn he)|((first|refine hn _ _ ?_|refine he _ _ _ rfl ?_);clear hn he;try clear Q)|((first|refine dJ _ _ ?_|refine eK _ _ ?_|refine e8 _ _ _ rfl ?_);clear dJ eK e8;try clear Qb)|with_reducible refine cQ ?_ ?_|omega|with_reducible rfl)
 refine af3 (by simp only[Kc,simprocAttr]<;>exact rfl) (by rw[H0];exact j7) fm1 iu (λeT=>?_) (λj q hq hj=>?_)
 ·rw[H0]at eT;repeat'(first|(((first|refine mr ?_|refine qU ?_);intro K hK) ;simp(disch:=omega)only[Ac,↓Pc,simprocAttr,Mc])|(with_reducible refine gO ?_;simp(disch:=omega)only[Ac,↓Pc,simprocAttr,Mc])|(refine hK _ _ ?_;clear hK K)|(with_reducible refine gS (λaY=>?_) (λaY=>?_)<;>(have hb:=aY;(try simp only[gI,simprocAttr]at hb);simp(disch:=omega)only[Ac,↓Pc,simprocAttr,Mc,aY];clear aY))|(refine mc (λht=>?_) (λht=>?_)<;>(try simp only[gI,simprocAttr]at ht))|refine oK rfl ?_|(refine pK ?_;intro Qb dJ eK e8)|(refine nQ ?_;intro Q hn he)|((first|refine hn _ _ ?_|refine he _ _ _ rfl ?_);clear hn he;try clear Q)|((first|refine dJ _ _ ?_|refine eK _ _ ?_|refine e8 _ _ _ rfl ?_);clear dJ eK e8;try clear Qb)|with_reducible refine cQ ?_ ?_|omega|with_reducible rfl)
  refine au _ _ _ rfl ?_;clear ak au Ql;repeat(first|((first|refine hn _ _ ?_|refine he _ _ _ rfl ?_);clear hn he;try clear Q)|((first|refine dJ _ _ ?_|refine eK _ _ ?_|refine e8 _ _ _ rfl ?_);clear dJ eK e8;try clear Qb)|(refine au _ _ _ rfl ?_;clear ak au;try clear Ql))
  have hP:=ajc bx aS eT;have H2:=λY h1 h2=>ajd (Y:=Y) Au hs.ky h1 h2;have iU:seen.length<=W.am.length:=by have:=(aae bx aS eT).length_eq;simp at this;omega
  have uJ:=aaf W.am seen;refine TN ?_;dsimp only;have hWb:=h.pre bI oN;have hKb:Kp mi D E os ob:=⟨bI,λi o _ _ hi=>oN i o hi⟩;generalize lz W.am seen=X at *;clear j7 iu eT bx aS;by_cases Ex:X=[]
  ·subst Ex;refine QW 1 IP _ rfl ?_;intro K hK;simp(disch:=omega)only[Ac,↓Pc,simprocAttr,ja,eV,xr];repeat'(first|with_reducible refine cQ ?_ ?_|omega|with_reducible rfl)
   refine⟨rfl,(show kK Tryz.prog 73 [.lit (.slice none 0 0),.fn 74 []] (some 30) _ _ from ?_)⟩;refine FV [] (ajf (.fn 74 [])) IP trivial ⟨.pure rfl,.pure rfl,trivial⟩ ?_;rintro r tA⟨rfl,rfl⟩;simp(disch:=omega)only[Ac,↓Pc,simprocAttr,eV];refine hK _ ?_;clear hK K;have hWn:=hWb.app [.arr 4 []];have hKn:=hKb.app [.arr 4 []];refine cd (aF.nil 3 4 rfl IP) ?_;((try revert hK K);(repeat'(first|refine Vb X0 ?_|(refine V2 X0 ?_ ?_<;>try with_reducible intro hb)|(refine Xi ?_ ?_<;>try intro ht)|refine VD ?_ ?_|exact Xx|fail))<;>try with_reducible intro K hK)
   unfold kJ;simp only[gm,fW];simp(disch:=omega)only[Ac,↓Pc,simprocAttr];exact⟨_,_,⟨⟨ob.length,by rw[<- H2 [] hP .nil];rfl,by rw[<- H2 [] hP .nil];exact ka ob _ _,bI⟩,hWn,hKn⟩,dX rfl hKn.len rfl⟩
  ·refine QW 1 IP _ rfl ?_;intro K hK;simp(disch:=omega)only[Ac,↓Pc,simprocAttr,ja,eV,xr,Ex];repeat'(first|with_reducible refine cQ ?_ ?_|omega|with_reducible rfl)
   refine⟨rfl,(show kK Tryz.prog 73 [.ref id 4 0 X.length,.fn 74 []] (some 30) _ _ from ?_)⟩;refine FV [id] (ajh X Ex AT) IM ⟨by rw[mW];exact hX Ex,trivial⟩ ⟨.eq (by simp[bj,bC]),.pure rfl,trivial⟩ ?_;rintro r tA⟨rfl,Y,hY,hYs,rfl⟩;simp(disch:=omega)only[Ac,↓Pc,simprocAttr,eV];refine hK _ ?_;clear hK K;have Dm:=hY.length_eq;have oP:=lS (y:=Ob.arr 4 (rowsOf aP Y)) (hX Ex);have H3:=gX h.mp;have pR:=hWb.other (i:=id) ⟨by have:=gX h.v;omega,by have:=gX h.a;omega,by have:=gX h.b;omega,AT⟩ (λhm=>by have:=h.lt _ hm;omega) (.arr 4 (rowsOf aP Y));have dC:Kp mi D E os (ob.set id (.arr 4 (rowsOf aP Y))):=⟨by rw[List.length_set];exact bI,λi o _ _ hi=>eU (oN i o hi) (by have:=gX hi;omega)⟩;((try revert hK K);(repeat'(first|refine Vb X0 ?_|(refine V2 X0 ?_ ?_<;>try with_reducible intro hb)|(refine Xi ?_ ?_<;>try intro ht)|refine VD ?_ ?_|exact Xx|fail))<;>try with_reducible intro K hK)
   unfold kJ;simp only[gm,fW];simp(disch:=omega)only[Ac,↓Pc,simprocAttr];exact⟨_,_,⟨⟨id,by rw[<- H2 Y (hY.trans hP) hYs,Dm],by rw[<- H2 Y (hY.trans hP) hYs];exact oP,b9⟩,pR,dC⟩,dX rfl dC.len rfl⟩
 ·rw[aaj]at hq;cases he:W.am[j]? with
  |none=>rw[he]at hq;simp at hq
  |some qa =>
   rw[he]at hq;simp only[Option.map_some,Option.some.injEq]at hq;subst hq;have gy:=(List.getElem?_eq_some_iff.1 he).1;obtain⟨kp,ks,ko,MT⟩:=hs.ky qa (List.mem_of_getElem? he);have B3:W.am.getD j default=qa:=by rw[List.getD_eq_getElem?_getD,he];rfl
   have er:=aji W.am seen j;rw[B3]at er;have Av:Aw qa=⟨kp,ks,ko,qa.2⟩:=by unfold Aw;rw[MT];rfl
   have Hf:=Tk gy hj;obtain⟨ky,amt⟩:=qa;dsimp only at MT er Av ⊢;subst MT;repeat'(first|(((first|refine mr ?_|refine qU ?_);intro K hK) ;simp(disch:=omega)only[Ac,↓Pc,simprocAttr,Mc])|(with_reducible refine gO ?_;simp(disch:=omega)only[Ac,↓Pc,simprocAttr,Mc])|(refine hK _ _ ?_;clear hK K)|(with_reducible refine gS (λaY=>?_) (λaY=>?_)<;>(have hb:=aY;(try simp only[gI,simprocAttr]at hb);simp(disch:=omega)only[Ac,↓Pc,simprocAttr,Mc,aY];clear aY))|(refine mc (λht=>?_) (λht=>?_)<;>(try simp only[gI,simprocAttr]at ht))|refine oK rfl ?_|(refine pK ?_;intro Qb dJ eK e8)|(refine nQ ?_;intro Q hn he)|((first|refine hn _ _ ?_|refine he _ _ _ rfl ?_);clear hn he;try clear Q)|((first|refine dJ _ _ ?_|refine eK _ _ ?_|refine e8 _ _ _ rfl ?_);clear dJ eK e8;try clear Qb)|with_reducible refine cQ ?_ ?_|omega|with_reducible rfl)
   refine af4 (seen:=seen) (j:=j) (b:=b0) (q:=([kp,ks,ko],Oi amt)) (by simp only[Kc,simprocAttr]<;>exact rfl) (by rw[rN]) fm1 (by rw[pH _ _ (λe=>by rw[e]at iu;rw[iu]at j7;cases j7)];exact iu) (by rw[aaj,he];rfl) ?_;have hkA:kA 3 [kp,ks,ko]=.agg [Oi kp,Oi ks,Oi ko]:=rfl;rw[hkA];have x9:gT m1 r (.iter b0 W.am.length (seen++[j])) r=_:=rN _ _ _;have hbm:gT m1 r (.iter b0 W.am.length (seen++[j])) b0=some (.iH mi):=by rw[pH _ _ (λe=>by rw[e]at iu;rw[iu]at j7;cases j7)];exact iu
   have HJ:(seen++[j]).Nodup:=List.nodup_append.2 ⟨bx,IM,λa ha b hb=>by simp only[c8]at hb;subst hb;exact λe=>hj (e▸ha)⟩;have aal:∀ i∈seen++[j],i<W.am.length:=λi hi=>by
    rcases List.mem_append.1 hi with hi|hi
    ·exact aS i hi
    ·simp only[c8]at hi;subst hi;exact gy
   rw[H0];by_cases ha:amt=0
   ·rw[if_neg (by simpa using ha)]at er;repeat'(first|(((first|refine mr ?_|refine qU ?_);intro K hK) ;simp(disch:=omega)only[Ac,↓Pc,simprocAttr,bH,bz,ha,Mc])|(with_reducible refine gO ?_;simp(disch:=omega)only[Ac,↓Pc,simprocAttr,bH,bz,ha,Mc])|(refine hK _ _ ?_;clear hK K)|(with_reducible refine gS (λaY=>?_) (λaY=>?_)<;>(have hb:=aY;(try simp only[gI,simprocAttr]at hb);simp(disch:=omega)only[Ac,↓Pc,simprocAttr,bH,bz,ha,Mc,aY];clear aY))|(refine mc (λht=>?_) (λht=>?_)<;>(try simp only[gI,simprocAttr]at ht))|refine oK rfl ?_|(refine pK ?_;intro Qb dJ eK e8)|(refine nQ ?_;intro Q hn he)|((first|refine hn _ _ ?_|refine he _ _ _ rfl ?_);clear hn he;try clear Q)|((first|refine dJ _ _ ?_|refine eK _ _ ?_|refine e8 _ _ _ rfl ?_);clear dJ eK e8;try clear Qb)|with_reducible refine cQ ?_ ?_|omega|with_reducible rfl)
    all_goals try(exfalso;omega)
    refine ak _ _ (seen++[j],id,ob++[.var [Oi kp,Oi ks,Oi ko]]) ⟨⟨HJ,aal⟩,by dsimp only;rw[er];exact λhx=>aK (hX hx) _,b9,N0,λi o hi=>aK (oN i o hi) _,x9,hbm⟩ Hf ?_;dsimp only;rw[er];(refine kO.ao _ _ rfl ?_;simp only[Tc,↓reduceIte,Nat.reduceEqDiff,rh,Nat.reduceAdd];try trivial)
   ·rw[if_pos ha,Av]at er;have dM:=ajk hX;have uJ:=aaf W.am seen;have iU:seen.length<=W.am.length:=by
     have h1:=(List.Nodup.length_le_of_subset bx (l₂:=List.range W.am.length) (λa ha=>List.mem_range.2 (aS a ha)));simpa using h1
    have lM:=ajl id (lz W.am seen) ob;have nZ:rowsOf aP (lz W.am seen)++[[Oi kp,Oi ks,Oi ko,Oi amt]]=rowsOf aP (lz W.am seen++[⟨kp,ks,ko,amt⟩]):=by unfold rowsOf;rw[List.map_append];rfl
    have jk:=λq=>ajm q (lz W.am seen) ⟨kp,ks,ko,amt⟩;have kg:=λ(i:Nat) o (hi:os[i]?=some o)=>ajn (oN i o hi) (X:=lz W.am seen) (id:=id) (λ_=>by have:=gX hi;omega);generalize lz W.am seen=X at *;generalize vU id X ob=xj at *;repeat'(first|(((first|refine mr ?_|refine qU ?_);intro K hK) ;simp(disch:=omega)only[Ac,↓Pc,simprocAttr,bH,bz,Mc])|(with_reducible refine gO ?_;simp(disch:=omega)only[Ac,↓Pc,simprocAttr,bH,bz,Mc])|(refine hK _ _ ?_;clear hK K)|(with_reducible refine gS (λaY=>?_) (λaY=>?_)<;>(have hb:=aY;(try simp only[gI,simprocAttr]at hb);simp(disch:=omega)only[Ac,↓Pc,simprocAttr,bH,bz,Mc,aY];clear aY))|(refine mc (λht=>?_) (λht=>?_)<;>(try simp only[gI,simprocAttr]at ht))|refine oK rfl ?_|(refine pK ?_;intro Qb dJ eK e8)|(refine nQ ?_;intro Q hn he)|((first|refine hn _ _ ?_|refine he _ _ _ rfl ?_);clear hn he;try clear Q)|((first|refine dJ _ _ ?_|refine eK _ _ ?_|refine e8 _ _ _ rfl ?_);clear dJ eK e8;try clear Qb)|with_reducible refine cQ ?_ ?_|omega|with_reducible rfl)
    all_goals try(exfalso;omega)
    refine TN ?_;dsimp only;repeat'(first|((first|((first|refine rr ?_|refine rI ?_);intro K hK)|with_reducible refine gO ?_);simp(disch:=omega)only[Ac,↓Pc,simprocAttr,bH,bz,↓dM,lM,nZ,cr,bL])|(refine hK _ ?_;clear hK K)|(with_reducible refine gS (λaY=>?_) (λaY=>?_)<;>(have hb:=aY;(try simp only[gI,simprocAttr]at hb);simp(disch:=omega)only[Ac,↓Pc,simprocAttr,bH,bz,↓dM,lM,nZ,cr,bL,aY];clear aY))|(refine Wc (λht=>?_) (λht=>?_)<;>(try simp only[gI,simprocAttr]at ht))|refine Wz rfl ?_|refine Xz ?_|(simp only[Qc,Kc,simprocAttr])|with_reducible refine cQ ?_ ?_|omega|with_reducible rfl)
    refine dJ _ _ ?_;refine ak _ _ (seen++[j],ob.length+2,xj++[.var [Oi kp,Oi ks,Oi ko],.arr 4 [[Oi kp,Oi ks,Oi ko,Oi amt]],.arr 4 (rowsOf aP (X++[⟨kp,ks,ko,amt⟩]))]) ⟨⟨HJ,aal⟩,?_,NZ,by dsimp only;rw[bL,lM];omega,λi o hi=>aK (kg i o hi) _,x9,hbm⟩ Hf ?_
    ·dsimp only;intro _;rw[er,yP lM];rfl
    ·dsimp only;rw[er,<- jk];(refine kO.ao _ _ rfl ?_;simp only[Tc,↓reduceIte,Nat.reduceEqDiff,rh,Nat.reduceAdd];try trivial)
end
def aam(m:ah)(left:List (List Bool))(rounds:Int)(oz:MB m)(mV:BB left)(hr:fM rounds)(Ax:yQ m left rounds=0):
  Holds Tryz.prog 15 [.agg (aq m),.tree 1 (rowsOf ay left),Oi rounds] [] (.bu [.ref 0 4 0 (jt m left rounds).length,Oi 0]) [.arr 4 (rowsOf aP (jt m left rounds))]:=by
 refine dy.one ?_;unfold fM at hr;have qX:=VC m left [] oz mV IM;have oh:Holds Tryz.prog 17 [.agg (aq m),.tree 1 (rowsOf ay left),.lit (.slice none 0 0)] [] (.bu [Oi (b6 m left []).1,Oi (b6 m left []).2]) []:=Holds.Kr (pre:=[.agg (aq m),.tree 1 (rowsOf ay left)]) (post:=[]) qX;have MU:=Ey m left;have dm:=@K4 m left;unfold yQ at Ax;generalize aan:b6 m left []=v0 at *;obtain⟨val,e⟩:=v0;dsimp only at oh qX;have hs:jH m left=0:=by
  by_cases h:jH m left≠0
  ·rw[if_pos h]at Ax;exact absurd Ax h
  ·omega
 have he:e=0:=by
  rw[if_neg AT]at MU;exact congrArg Prod.snd MU
 subst he;rw[if_neg AT]at Ax MU;have dU:¬ (rounds<0\/64<rounds):=λh=>by rw[if_pos h]at Ax;omega
 obtain⟨bG,nL⟩:=dm hs;have ana:(b6 m left []).2=0:=by rw[aan]
 have ajo:(b6 m left []).1=val:=by rw[aan]
 refine dy.aN 70 0 [.tmp 6,.tmp 7] Tryz.func15 ?_;repeat'(first|((fail_if_success (first|refine eO 7 ?_|refine eP 7 ?_));refine Xq X0 ?_;intro K hK)|refine Xo X0 ?_|refine Xc (oh) ?_|(refine hK _ ?_;clear hK K)|(refine Xg X0 ?_ ?_<;>try intro hb)|(refine Xi ?_ ?_<;>try intro ht)|refine XY ?_|refine Xd ?_ ?_|exact Xx|fail)
 all_goals try(exfalso;omega)
 refine cd (aF.nil 10 4 (by simp only[Kc,simprocAttr]) IP) ?_;dsimp only;have hnw:=ajq bG nL [.var (aq m),.arr 4 []];refine ox 2 IP _ rfl ?_;intro K hK;simp(disch:=omega)only[Ac,↓Pc,simprocAttr,ja,eV];refine⟨rfl,(show kK Tryz.prog 38 [.agg (aq m),.tree 1 (rowsOf ay left)] (some 33) _ _ from ?_)⟩;refine qW hnw ?_;rintro r ob⟨gi,ai,bi,mi,D,E,rfl,hW,hlen,oN,H3,gM⟩;refine⟨hlen,?_⟩;simp(disch:=omega)only[Ac,↓Pc,simprocAttr,eV];refine hK _ ?_;clear hK K;repeat(first|refine Xu ?_)
 have f0:=oN 0 _ rfl;have f1:=oN 1 _ rfl;have aao:1≠mi:=by simp only[cX,kx]at H3;omega
 have n1D:1 ∉ (D++E).map (·.1):=λhm=>by have:=gM 1 hm;simp at this
 ((try revert hK K);(repeat'(first|refine Va X0 ?_|(refine V2 X0 ?_ ?_<;>try with_reducible intro hb)|(refine Xi ?_ ?_<;>try intro ht)|refine VD ?_ ?_|exact Xx|fail))<;>try with_reducible intro K hK)
 obtain⟨n,rfl⟩:∃n:Nat,rounds=n:=⟨rounds.toNat,AT⟩;have hcf:=ajs m left;have Hx:(rowsOf aP ([]:List Mv))=[]:=rfl;refine bb (λz:Nat×List Mv×WS×List Ob×Nat=>(⟨ao [(1,.tree 1 (rowsOf ay left)),(3,.ptr 0 0 0),(8,Oi (b6 m left z.2.1).1),(10,.ref z.2.2.2.2 4 0 z.2.1.length),(11,.ptr gi 0 0),(34,Oi n),(35,Oi z.1)],z.2.2.2.1⟩:St))
  (λz=>(KN z.2.2.1/\yR m left (n-z.1) z.1 z.2.1 z.2.2.1=jt m left n)/\z.1<=n/\WF m (dG m left m.cls.length) gi ai bi mi D E z.2.2.1 z.2.2.2.1/\mB m z.2.2.1/\WB (1099511627776+14843406974976*(z.1:Int)) z.2.2.1/\z.2.2.2.1[0]?=some (.var (aq m))/\z.2.2.2.1[z.2.2.2.2]?=some (.arr 4 (rowsOf aP z.2.1))/\z.2.2.2.2≠mi/\z.2.2.2.2 ∉ (D++E).map (·.1))
  (λz=>n-z.1) (0,[],W0 m,ob,1) ⟨⟨E0,rfl⟩,Nat.zero_le _,hW,ajt,(aju bG).mono AT,f0,f1,aao,n1D⟩ (by dsimp only;rw[ajo];exact Xv X0) ?_
 clear hW f0 f1 aao n1D oN hlen;rintro⟨k,X,V1,ob,bi⟩⟨⟨Au,pS⟩,hk,hW,mo,H4,f0,fb,H5,bD⟩Ql ak au;dsimp only at Au pS hk hW mo H4 f0 fb H5 bD ⊢;have fin:∀ (X:List Mv) (ob:List Ob) (bi:Nat),ob[bi]?=some (.arr 4 (rowsOf aP X))->X=jt m left n->∀ st,aF 0 st ⟨ao [(10,.ref bi 4 0 X.length)],ob⟩->Ql (.exit 0) st:=λX ob bi ep h0 st ht=>by
  refine au _ _ rfl ?_;clear ak au;repeat(first|refine Xu ?_)
  refine cd ht ?_;clear ht;((try revert hK K);(repeat'(first|refine Vb X0 ?_|(refine V2 X0 ?_ ?_<;>try with_reducible intro hb)|(refine Xi ?_ ?_<;>try intro ht)|refine VD ?_ ?_|exact Xx|fail))<;>try with_reducible intro K hK)
  unfold kJ;simp only[gm,fW];simp(disch:=omega)only[Ac,↓Pc,simprocAttr];refine⟨_,_,⟨rfl,rfl⟩,?_⟩;rw[<- h0];refine u9 [bi] false IM ⟨⟨gX ep,.inr (by rw[mW];exact ep)⟩,trivial⟩ IM IM (.eq (by simp[bj,oa,bC]))
 by_cases bf:k<n
 ·obtain⟨r,gz⟩ :∃r,n-k=r+1:=⟨n-k-1,AT⟩;have hr3:n-(k+1)=r:=AT;rw[gz,yR]at pS;by_cases hxF:(b6 m left X).1=1099511627776
  ·rw[if_pos hxF]at pS;((try revert hK K);(repeat'(first|refine Va X0 ?_|(refine V2 X0 ?_ ?_<;>try with_reducible intro hb)|(refine Xi ?_ ?_<;>try intro ht)|refine VD ?_ ?_|exact Xx|fail))<;>try with_reducible intro K hK)
   all_goals try(exfalso;omega)
   exact fin X ob bi fb pS _ (Xv X0)
  ·rw[if_neg hxF]at pS;have aar:=ajw (m:=m) (can:=dG m left m.cls.length) V1 Au k;have fk:=ajx bG hcf hW mo (B:=1099511627776+14843406974976*(k:Int)) ⟨AT,AT⟩ H4 (round:=k) AT;generalize pT m (dG m left m.cls.length) V1 k=V2 at *;repeat'(first|((fail_if_success (first|refine eO 12 ?_|refine eP 12 ?_));refine Xr X0 ?_;intro K hK)|refine Xo X0 ?_|(refine hK _ ?_;clear hK K)|(refine Xg X0 ?_ ?_<;>try intro hb)|(refine Xi ?_ ?_<;>try intro ht)|refine Xy ?_|refine Xd ?_ ?_|exact Xx|fail)
   all_goals try(exfalso;omega)
   refine ox 2 IP _ rfl ?_;intro K hK;simp(disch:=omega)only[Ac,↓Pc,simprocAttr,ja,eV];refine⟨rfl,(show kK Tryz.prog 39 [.ptr gi 0 0,Oi k] (some 42) _ _ from ?_)⟩;refine qW fk ?_;rintro r' xj⟨rfl,pR,dC,aas,MV⟩;refine⟨dC.len,?_⟩;simp(disch:=omega)only[Ac,↓Pc,simprocAttr,eV];refine hK _ ?_;clear hK K;repeat(first|refine Xu ?_)
   have aat:0≠mi:=by simp only[cX,kx]at H3;omega
   have n0D:0 ∉ (D++E).map (·.1):=λhm=>by have:=gM 0 hm;simp at this
   have f2:=dC.same 0 _ aat n0D f0;have f2b:=dC.same bi _ H5 bD fb;have vV:=aja pR aas AT MV aar;repeat'(first|((fail_if_success (first|refine eO 13 ?_|refine eP 13 ?_));refine Xr X0 ?_;intro K hK)|refine Xo X0 ?_|(refine hK _ ?_;clear hK K)|(refine Xg X0 ?_ ?_<;>try intro hb)|(refine Xi ?_ ?_<;>try intro ht)|refine Xy ?_|refine Xd ?_ ?_|exact Xx|fail)
   refine ox 1 IP _ rfl ?_;intro K hK;simp(disch:=omega)only[Ac,↓Pc,simprocAttr,ja,eV];refine⟨rfl,(show kK Tryz.prog 40 [.ptr gi 0 0] (some 44) _ _ from ?_)⟩;refine qW vV ?_;rintro r' jV⟨⟨id,rfl,H6,anb⟩,MW,Cn⟩;have ajz:id≠mi:=by have:=gX pR.mp;omega
   have idD:id ∉ (D++E).map (·.1):=λhm=>by have:=pR.lt _ hm;omega
   have hY:(tF (jX V2.am)).Perm (jX V2.am):=by unfold tF;exact MX _ _ []
   generalize tF (jX V2.am)=Y at *;refine⟨Cn.len,?_⟩;simp(disch:=omega)only[Ac,↓Pc,simprocAttr,eV];refine hK _ ?_;clear hK K;repeat(first|refine Xu ?_)
   have f3:=Cn.same 0 _ aat n0D f2;have f3b:=Cn.same bi _ H5 bD f2b;have Dm:Y.length<9223372036854775808:=by
    have h1:=hY.length_eq;have h2:=MV.al;have h3:(jX V2.am).length<=V2.am.length:=by unfold jX;rw[fF];exact List.length_filter_le _ _
    omega
   have hvY:=VC m left Y oz mV Dm;((try revert hK K);(repeat'(first|refine Va (X2 @f3 @H6) ?_|(refine V2 (X2 @f3 @H6) ?_ ?_<;>try with_reducible intro hb)|(refine Xi ?_ ?_<;>try intro ht)|refine VD ?_ ?_|exact Xx|fail))<;>try with_reducible intro K hK)
   refine rj [] hvY IP trivial ⟨.pure rfl,.pure rfl,bT.cC (rows:=rowsOf aP Y) H6 (kI _) (by rw[cr]) IM (qB _),trivial⟩ rfl IM ?_;simp(disch:=omega)only[Ac,↓Pc,simprocAttr];repeat'(first|((fail_if_success (first|refine eO 15 ?_|refine eP 15 ?_));refine Xr X0 ?_;intro K hK)|refine Xo X0 ?_|(refine hK _ ?_;clear hK K)|(refine Xg X0 ?_ ?_<;>try intro hb)|(refine Xi ?_ ?_<;>try intro ht)|refine Xy ?_|refine Xd ?_ ?_|exact Xx|fail)
   have nI:∀ s X (bi:Nat),jV[bi]?=some (.arr 4 (rowsOf aP X))->bi≠mi->bi ∉ (D++E).map (·.1)->aF 0 s ⟨ao [(1,.tree 1 (rowsOf ay left)),(3,.ptr 0 0 0),(8,Oi (b6 m left X).1),(10,.ref bi 4 0 X.length),(11,.ptr gi 0 0),(34,Oi n),(35,Oi (k+1:Nat))],jV⟩->yR m left r (k+1) X V2=jt m left n->Ql .normal s:=λs X bi b1 b2 b3 h1 h0 =>
    ak _ (k+1,X,V2,jV,bi) ⟨⟨aar,by dsimp only;rw[hr3];exact h0⟩,NZ,MW,aas,MV.mono (by push_cast;omega),f3,b1,b2,b3⟩ NZ h1
   have wU:=λs=>nI s X bi f3b H5 bD;have hny:=λs=>nI s Y id H6 ajz idD;have aaw:=fin X jV bi f3b;clear ak au fin nI;generalize (b6 m left Y).1=vy at *;generalize (b6 m left Y).2=ey at *;generalize (b6 m left X).1=vx at *;have ane:((k:Int)+1)=((k+1:Nat):Int):=by push_cast;rfl
   by_cases MY:ey=0
   ·have xw:(ey != 0)=false:=by simp[MY]
    by_cases MZ:vx<vy
    ·have d1:decide (vy<=vx)=false:=decide_eq_false AT;have d2:decide (vy > vx)=true:=decide_eq_true MZ;((try revert hK K);(repeat'(first|refine Va (X3 @xw @d1 @d2) ?_|(refine V2 (X3 @xw @d1 @d2) ?_ ?_<;>try with_reducible intro hb)|(refine Xi ?_ ?_<;>try intro ht)|refine VD ?_ ?_|exact Xx|fail))<;>try with_reducible intro K hK)
     all_goals try(exfalso;omega)
     all_goals exact hny _ (Xv X0) (by rw[if_neg AT,if_pos MZ]at pS;exact pS)
    ·have d1:decide (vy<=vx)=true:=decide_eq_true AT;have d2:decide (vy > vx)=false:=decide_eq_false AT;by_cases anf:k=0
     ·have d3:decide ((k:Int) > 0)=false:=decide_eq_false AT;((try revert hK K);(repeat'(first|refine Va (X4 @xw @d1 @d2 @d3) ?_|(refine V2 (X4 @xw @d1 @d2 @d3) ?_ ?_<;>try with_reducible intro hb)|(refine Xi ?_ ?_<;>try intro ht)|refine VD ?_ ?_|exact Xx|fail))<;>try with_reducible intro K hK)
      all_goals try(exfalso;omega)
      all_goals exact wU _ (Xv X0) (by rw[if_neg AT,if_neg MZ]at pS;exact pS)
     ·have d3:decide ((k:Int) > 0)=true:=decide_eq_true AT;((try revert hK K);(repeat'(first|refine Va (X4 @xw @d1 @d2 @d3) ?_|(refine V2 (X4 @xw @d1 @d2 @d3) ?_ ?_<;>try with_reducible intro hb)|(refine Xi ?_ ?_<;>try intro ht)|refine VD ?_ ?_|exact Xx|fail))<;>try with_reducible intro K hK)
      all_goals try(exfalso;omega)
      all_goals exact aaw (by rw[if_pos AT]at pS;exact pS) _ (Xv X0)
   ·have xw:(ey != 0)=true:=by simp[MY]
    ((try revert hK K);(repeat'(first|refine Va @xw ?_|(refine V2 @xw ?_ ?_<;>try with_reducible intro hb)|(refine Xi ?_ ?_<;>try intro ht)|refine VD ?_ ?_|exact Xx|fail))<;>try with_reducible intro K hK)
    all_goals try(exfalso;omega)
    all_goals exact aaw (by rw[if_pos (.inl MY)]at pS;exact pS) _ (Xv X0)
 ·obtain rfl:k=n:=AT;((try revert hK K);(repeat'(first|refine Va X0 ?_|(refine V2 X0 ?_ ?_<;>try with_reducible intro hb)|(refine Xi ?_ ?_<;>try intro ht)|refine VD ?_ ?_|exact Xx|fail))<;>try with_reducible intro K hK)
  refine fin X ob bi fb (by rw[Nat.sub_self]at pS;exact pS) _ ?_;exact Xv X0
def ajD(m:ah)(left:List (List Bool))(rounds:Int)(oz:MB m)(mV:BB left)(hr:fM rounds)(h:yQ m left rounds=0):
  Holds Tryz.prog 15 [.agg (aq m),.tree 1 (rowsOf ay left),Oi rounds] [] (.bu [.tree 4 (rowsOf aP (jt m left rounds)),Oi 0]) []:=by
 refine(aam m left rounds oz mV hr h).aic ?_;have e:∀ x:AV,(λk=>[x].getD k AV.undef)=ao [(0,x)]:=λx=>by
  funext k;cases k<;>rfl
 rw[e (.bu [.tree 4 (rowsOf aP (jt m left rounds)),Oi 0])];refine aF.aj [] true _ _ IP trivial IP IP ⟨.bu _ _ rfl λj c d hc hd=>?_,trivial⟩
 match j,hc,hd with
 |0,hc,hd =>
  cases hc;cases hd;exact bT.cC rfl (kI _) (by rw[cr]) (qg IP) (qB _)
 |1,hc,hd=>cases hc;cases hd;exact .pure rfl
def ajE(m:ah)(rounds:Int)(oz:MB m)(hr:fM rounds)(h:yQ m (cg m) rounds=0):
  Holds Tryz.prog 25 [.agg (aq m),Oi rounds] [] (.bu [.agg (cz (oQ (jt m (cg m) rounds))),Oi (b6 m (cg m) (jt m (cg m) rounds)).1,Oi 0]) []:=by
 have h1:=Vl m oz;have h2:=ajD m (cg m) rounds oz (ai' oz) hr h;have hv:(b6 m (cg m) []).2=0:=by
  rw[Ey];unfold yQ at h;split at h
  ·rename_i h0;exact absurd h h0
  ·rename_i h0;rw[if_neg h0]
 have hx:=(aax rounds hv).1;generalize jt m (cg m) rounds=X at *;have h3:=Lt m (oQ X) oz (aaa (by have:=MR hx;omega));rw[aac hx]at h3;generalize (b6 m (cg m) X).1=n at *;generalize cg m=al at *;refine Holds.aN 36 0 [.cell 4 53,.tmp 5,.tmp 6] Tryz.func25 ?_;repeat'(first|((fail_if_success (first|refine eO 5 ?_|refine eP 5 ?_));refine Xq X0 ?_;intro K hK)|refine Xo X0 ?_|refine Xc (h1) ?_|refine Xc (h2) ?_|(refine hK _ ?_;clear hK K)|(refine Xg X0 ?_ ?_<;>try intro hb)|(refine Xi ?_ ?_<;>try intro ht)|refine XY ?_|refine Xd ?_ ?_|exact Xx|fail)
 refine cd (aF.HR 2 0 5 (cells':=aM ⟨-1,[],X,[],[]⟩) rfl rfl (by exact⟨.inl rfl,.inr ⟨rfl,_,rfl⟩,.inl rfl,.inr ⟨rfl,_,rfl⟩,.inr ⟨rfl,_,rfl⟩,trivial⟩)) ?_;refine cd (aF.ye 2 3 0 5 (rows:=rowsOf aM (oQ X)) rfl rfl rfl (kI _) (qB _)) ?_;dsimp only;simp(disch:=omega)only[Ac,↓Pc,simprocAttr];((try revert hK K);(repeat'(first|refine Vd X0 h3 ?_|(refine V2 X0 ?_ ?_<;>try with_reducible intro hb)|(refine Xi ?_ ?_<;>try intro ht)|refine VD ?_ ?_|exact Xx|fail))<;>try with_reducible intro K hK)
 simp(disch:=omega)only[Ac,↓Pc,simprocAttr];exact Xw true [] X0
def oL1:cP:=⟨0,0,0,0,0,[(0,3)]⟩
def oLz:cP:=⟨0,0,0,0,0,[]⟩
def kR:ah:=⟨[[oL1,oLz],[oLz,oL1]],[⟨0,1,0,[0,5,5,0]⟩],[],1⟩
def aaA:VM kR:=jD.1 (by decide +kernel)
def ajF:yQ kR (cg kR) 4=0:=by decide +kernel
def aaB:b6 kR (cg kR) (jt kR (cg kR) 4)=(3,0):=by decide +kernel
def Ri:Holds Tryz.prog 9 [] [] (.lit (.bool true)) []:=by
 have h1:=ajE kR 4 aaA.mb (by unfold fM;omega) ajF;have qX:(b6 kR (cg kR) (jt kR (cg kR) 4)).2=0:=by rw[aaB]
 have h2:=Lt kR (oQ (jt kR (cg kR) 4)) aaA.mb (aaa (by have:=MR qX;omega));rw[aac qX]at h2;rw[aaB]at h1 h2;have eG:(oQ (jt kR (cg kR) 4)).length=1:=rfl;generalize oQ (jt kR (cg kR) 4)=Q at *;dsimp only at h1 h2;refine Holds.aN 53 0 [.tmp 0] Tryz.func9 ?_;repeat'(first|((fail_if_success (first|refine eO 1 ?_|refine eP 1 ?_));refine Xr X0 ?_;intro K hK)|refine Xo X0 ?_|(refine hK _ ?_;clear hK K)|(refine Xg X0 ?_ ?_<;>try intro hb)|(refine Xi ?_ ?_<;>try intro ht)|refine XY ?_|refine Xd ?_ ?_|exact Xx|fail)
 refine Hz 15 IP ?_;intro K K1 hK uL;simp(disch:=omega)only[Ac,↓Pc,simprocAttr,ja];refine uL _ ⟨ao [(21,.agg (aq kR))],[]⟩ ?_ ?_
 ·refine aF.aj [] true _ _ IP trivial IP IP ⟨?_,trivial⟩;simp only[Kc,simprocAttr];refine bT.agg _ _ rfl (mf.spec (R:=bT _ _ _ _) (cs:=aq kR) (ds:=[.ref 4 1 0 2,.ref 6 4 0 1,.lit (.slice none 0 0),Oi 1]) ⟨.snap _ _ rfl ?_,.snap _ _ rfl ?_,.snap _ _ rfl (.nil 4),.pure rfl,trivial⟩).2
  ·exact dF.mk rfl rfl (qg IP) (kI _) ⟨⟨dF.mk rfl rfl (qg IP) (kI _) ⟨⟨.lit _,.lit _,.lit _,.lit _,.lit _,dF.mk rfl rfl (qg IP) (kI _) ⟨⟨.lit _,.lit _,trivial⟩,trivial⟩,trivial⟩,⟨.lit _,.lit _,.lit _,.lit _,.lit _,.nil 2,trivial⟩,trivial⟩,trivial⟩,
    ⟨dF.mk rfl rfl (qg IP) (kI _) ⟨⟨.lit _,.lit _,.lit _,.lit _,.lit _,.nil 2,trivial⟩,⟨.lit _,.lit _,.lit _,.lit _,.lit _,dF.mk rfl rfl (qg IP) (kI _) ⟨⟨.lit _,.lit _,trivial⟩,trivial⟩,trivial⟩,trivial⟩,trivial⟩,trivial⟩
  ·exact dF.mk rfl rfl (qg IP) (kI _) ⟨⟨.lit _,.lit _,.lit _,dF.mk rfl rfl (qg IP) (vd _) ⟨⟨.lit _,trivial⟩,⟨.lit _,trivial⟩,⟨.lit _,trivial⟩,⟨.lit _,trivial⟩,trivial⟩,trivial⟩,trivial⟩
 clear uL K1;simp(disch:=omega)only[Ac,↓Pc,simprocAttr,eV];refine hK _ ?_;clear hK K;generalize kR=m at *;repeat(first|refine Xu ?_)
 ((try revert hK K);(repeat'(first|refine Vd @cz.eq_1 (X2 h1 h2) ?_|(refine V2 @cz.eq_1 ?_ ?_<;>try with_reducible intro hb)|(refine Xi ?_ ?_<;>try intro ht)|refine VD ?_ ?_|exact Xx|fail))<;>try with_reducible intro K hK)
 all_goals exact aU (by rw[eG];rfl) (by rw[eG];rfl)
end T

