import Derived.Test.YtfoopmojjjpapaaGreatX38
import Derived.Test.YtfoopmojjjpapaaGreatX30
set_option linter.all false
set_option maxHeartbeats 0
set_option maxRecDepth 20000
open List renaming mem_singleton→cS,length_map→gD,nodup_nil→Hd,take→jd,drop→eQ,append_assoc→bH,length_append→bN,length_cons→du,length_nil→ln
open And renaming intro→cD
open Nat renaming le_refl→aZ,reduceBEq→s6
open Go Go.Am Go.Proofs
namespace T
def qw(X:List Mv):List Nd:=[⟨-1,[],X,[],[]⟩]
def adg{X:List Mv}(h:X.length<9223372036854775808):PB (qw X):=by
 refine⟨by show(1:Nat)<_;decide,λx hx=>?_,λx hx=>?_,λx hx=>?_,λx hx=>?_,λx hx l hl=>?_⟩;all_goals unfold qw at hx;rw[cS]at hx;subst hx
 ·show(0:Nat)<_;decide
 ·exact h
 ·show(0:Nat)<_;decide
 ·show(0:Nat)<_;decide
 ·simp at hl
def U9{m:ah}(hm:MB m):BB (b9 m):=by
 unfold b9;split
 ·refine⟨by unfold fZ;rw[gD];exact hm.cls,λr hr=>?_⟩;obtain⟨l,hl,rfl⟩:=List.mem_map.1 hr;rw[List.length_replicate];exact hm.opt l hl
 ·exact⟨Hg,G9⟩
def al8(m:ah)(left:List (List Bool))(g:Lg):mL m left g<=1099511627776:=by
 unfold mL;split
 ·exact Int.le_refl _
 ·omega
def O9{m:ah}{left:List (List Bool)}{X:List Mv}(h:(cp m left X).2=0):X.length<=2000:=by
 unfold cp gZ at h;split at h
 ·rename_i h1;exact absurd h h1
 ·split at h
  ·cases h
  ·omega
def O8{m:ah}{left:List (List Bool)}{X:List Mv}(h:(cp m left X).2=0):kj m left=0/\cp m left X=gZ m left X/\(cp m left X).1<=1099511627776:=by
 unfold cp at h ⊢;split at h
 ·rename_i h1;exact absurd h h1
 ·rename_i h1;rw[if_neg h1];refine⟨Decidable.not_not.1 h1,rfl,?_⟩;unfold gZ at h ⊢;split at h
  ·cases h
  ·split at h
   ·cases h
   ·rename_i h2 h3;rw[if_neg h2,if_neg h3];exact al8 _ _ _
def adh{m:ah}{X:List Mv}(h:(cp m (b9 m) X).2=0):mh m (qw X)=((cp m (b9 m) X).1,true):=by
 obtain⟨h1,h2,h3⟩:=O8 h;have hv:=(NJ h1).1;have qU:gv m=0:=kf.2 hv;have hs:jk m (qw X)=true:=by
  unfold jk qw;simp[kY,mJ,lE,jX,fM,List.range_succ]
 have e:qu m (qw X) (gP m (qw X)) 1099511627776=((cp m (b9 m) X).1,true):=by
  unfold qu;rw[if_pos ⟨qU,hs⟩];have ev:vs (qw X) (root m)=[(0,b9 m,[])]:=rfl;rw[ev];rw[j2,if_neg G9];have es:gP m (qw X) 1099511627776 (0,b9 m,[])=((cp m (b9 m) X).1,true):=by
   unfold gP;have en:nd (qw X) 0=⟨-1,[],X,[],[]⟩:=rfl;rw[if_neg (by dsimp only;rw[en];simp),if_neg (by dsimp only;rw[en];simp),en];dsimp only;rw[<- h2,h];rw[Int.min_eq_right h3];rfl
  rw[es,if_pos rfl];rfl
 unfold mh;rw[e,if_pos rfl]
section
variable {m:ah} {can:List (List Bool)} {gi ai bi mi:Nat} {D E:List (Nat×Nat)} {W:WS} {os:List Ob}
def adi(am:List (List Int×Int))(j:Nat):(mE am)[j]?=(am[j]?).map λp=>(p.1,QM p.2):=by unfold mE;rw[List.getElem?_map]
def JV(am:List (List Int×Int)):(mE am).length=am.length:=by unfold mE;simp
def al9:u3 Tryz.prog 130:=⟨_,_,rfl⟩
end
section
variable {m:ah} {can:List (List Bool)} {gi ai bi mi:Nat} {D E:List (Nat×Nat)} {W:WS} {os:List Ob}
def al'(h:WF m can gi ai bi mi D E W os)(hs:nV m W){B:Int}(hB:B<=2305843009213693952)(hW:WB B W)(yg:KN W):
  dv Tryz.prog 40 [.ptr gi 0 0] os λr ob=>(∃ id,r=.ref id 4 0 (vo (kJ W.am)).length/\ob[id]?=some (.arr 4 (rowsOf aU (vo (kJ W.am))))/\os.length<=id)/\WF m can gi ai bi mi D E W ob/\Kp mi D E os ob:=by
 have fv:=h.v;have fm:=h.mp;have nh:=hW.al;refine dv.aM 32 os.length [.tmp 2] Tryz.func40 ?_;refine aiR mi fm ?_;intro b0;have l9:iQ xO b0 (.jl mi) b0=some (.jl mi):=tB _ _ _;repeat'(first|(((first|refine mr ?_|refine sv ?_);intro K hK) ;simp(disch:=omega)only[Ac,↓Pc,simprocAttr,fv,Mc])|(with_reducible refine gO ?_;simp(disch:=omega)only[Ac,↓Pc,simprocAttr,fv,Mc])|(refine hK _ _ ?_;clear hK K)|(with_reducible refine gS (λba=>?_) (λba=>?_)<;>(have hb:=ba;(try simp only[iL,simprocAttr]at hb);simp(disch:=omega)only[Ac,↓Pc,simprocAttr,fv,Mc,ba];clear ba))|(refine mc (λht=>?_) (λht=>?_)<;>(try simp only[iL,simprocAttr]at ht))|refine qg rfl ?_|(refine q6 ?_;intro Qb dR fl gk)|(refine oG ?_;intro Q hn he)|((first|refine hn _ _ ?_|refine he _ _ _ rfl ?_);clear hn he;try clear Q)|((first|refine dR _ _ ?_|refine fl _ _ ?_|refine gk _ _ _ rfl ?_);clear dR fl gk;try clear Qb)|(refine aq _ _ _ rfl ?_;clear ak aq;try clear Ql)|with_reducible refine cD ?_ ?_|omega|with_reducible rfl)
 refine aiH (by simp only[Kc,simprocAttr]<;>exact rfl) fm al9 l9 λr hr=>?_;repeat'(first|(((first|refine mr ?_|refine sv ?_);intro K hK) ;simp(disch:=omega)only[Ac,↓Pc,simprocAttr,Mc])|(with_reducible refine gO ?_;simp(disch:=omega)only[Ac,↓Pc,simprocAttr,Mc])|(refine hK _ _ ?_;clear hK K)|(with_reducible refine gS (λba=>?_) (λba=>?_)<;>(have hb:=ba;(try simp only[iL,simprocAttr]at hb);simp(disch:=omega)only[Ac,↓Pc,simprocAttr,Mc,ba];clear ba))|(refine mc (λht=>?_) (λht=>?_)<;>(try simp only[iL,simprocAttr]at ht))|refine qg rfl ?_|(refine q6 ?_;intro Qb dR fl gk)|(refine oG ?_;intro Q hn he)|((first|refine hn _ _ ?_|refine he _ _ _ rfl ?_);clear hn he;try clear Q)|((first|refine dR _ _ ?_|refine fl _ _ ?_|refine gk _ _ _ rfl ?_);clear dR fl gk;try clear Qb)|(refine aq _ _ _ rfl ?_;clear ak aq;try clear Ql)|with_reducible refine cD ?_ ?_|omega|with_reducible rfl)
 have mD:zi os.length (mQ W.am [])=.lit (.slice none 0 0):=by unfold zi mQ;rfl
 refine IK (λz:List Nat×Nat×List Ob=>(⟨ar [(3,zi z.2.1 (mQ W.am z.1)),(10,.lit (.pointer (some ⟨r,0,none⟩)))],z.2.2⟩:St))
  (λz m=>(z.1.Nodup/\∀ j∈z.1,j<W.am.length)/\(mQ W.am z.1≠[]->z.2.2[z.2.1]?=some (.arr 4 (rowsOf aU (mQ W.am z.1))))/\os.length<=z.2.1/\os.length<=z.2.2.length/\(∀ (i:Nat) o,os[i]?=some o->z.2.2[i]?=some o)/\m r=some (.iter b0 W.am.length z.1)/\m b0=some (.jl mi))
  (λz=>FH z.1 W.am.length) ([],os.length,os) ⟨⟨Hd,G9⟩,λhx=>absurd rfl hx,aZ _,aZ _,λ_ _ h=>h,by rw[tB,JV],by rw[qZ _ _ (λe=>by rw[<- e,l9]at hr;cases hr)];exact l9⟩ (by(refine l8.ar _ _ rfl ?_;simp only[Tc,↓reduceIte,Nat.reduceEqDiff,s6,Nat.reduceAdd,mD];try trivial)) ?_
 rintro⟨seen,id,ob⟩m1⟨⟨bG,aX⟩,hX,bZ,bS,qv,lY,fN⟩Ql ak aq;dsimp only at bG aX hX bZ bS qv lY fN ⊢;have JW:=qv _ _ fm;repeat'(first|(((first|refine mr ?_|refine sv ?_);intro K hK) ;simp(disch:=omega)only[Ac,↓Pc,simprocAttr,Mc])|(with_reducible refine gO ?_;simp(disch:=omega)only[Ac,↓Pc,simprocAttr,Mc])|(refine hK _ _ ?_;clear hK K)|(with_reducible refine gS (λba=>?_) (λba=>?_)<;>(have hb:=ba;(try simp only[iL,simprocAttr]at hb);simp(disch:=omega)only[Ac,↓Pc,simprocAttr,Mc,ba];clear ba))|(refine mc (λht=>?_) (λht=>?_)<;>(try simp only[iL,simprocAttr]at ht))|refine qg rfl ?_|(refine q6 ?_;intro Qb dR fl gk)|(refine oG ?_;intro Q hn he)|((first|refine hn _ _ ?_|refine he _ _ _ rfl ?_);clear hn he;try clear Q)|((first|refine dR _ _ ?_|refine fl _ _ ?_|refine gk _ _ _ rfl ?_);clear dR fl gk;try clear Qb)|with_reducible refine cD ?_ ?_|omega|with_reducible rfl)
 refine aiJ (by simp only[Kc,simprocAttr]<;>exact rfl) (by rw[JV];exact lY) JW fN (λdS=>?_) (λj q hq hj=>?_)
 ·rw[JV]at dS;repeat'(first|(((first|refine mr ?_|refine sv ?_);intro K hK) ;simp(disch:=omega)only[Ac,↓Pc,simprocAttr,Mc])|(with_reducible refine gO ?_;simp(disch:=omega)only[Ac,↓Pc,simprocAttr,Mc])|(refine hK _ _ ?_;clear hK K)|(with_reducible refine gS (λba=>?_) (λba=>?_)<;>(have hb:=ba;(try simp only[iL,simprocAttr]at hb);simp(disch:=omega)only[Ac,↓Pc,simprocAttr,Mc,ba];clear ba))|(refine mc (λht=>?_) (λht=>?_)<;>(try simp only[iL,simprocAttr]at ht))|refine qg rfl ?_|(refine q6 ?_;intro Qb dR fl gk)|(refine oG ?_;intro Q hn he)|((first|refine hn _ _ ?_|refine he _ _ _ rfl ?_);clear hn he;try clear Q)|((first|refine dR _ _ ?_|refine fl _ _ ?_|refine gk _ _ _ rfl ?_);clear dR fl gk;try clear Qb)|with_reducible refine cD ?_ ?_|omega|with_reducible rfl)
  refine aq _ _ _ rfl ?_;clear ak aq Ql;repeat(first|((first|refine hn _ _ ?_|refine he _ _ _ rfl ?_);clear hn he;try clear Q)|((first|refine dR _ _ ?_|refine fl _ _ ?_|refine gk _ _ _ rfl ?_);clear dR fl gk;try clear Qb)|(refine aq _ _ _ rfl ?_;clear ak aq;try clear Ql))
  have hP:=ama bG aX dS;have JX:=λY h1 h2=>amb (Y:=Y) yg hs.ky h1 h2;have jE:seen.length<=W.am.length:=by have:=(adj bG aX dS).length_eq;simp at this;omega
  have uP:=adk W.am seen;refine Nr ?_;dsimp only;have hWb:=h.pre bS qv;have hKb:Kp mi D E os ob:=⟨bS,λi o _ _ hi=>qv i o hi⟩;generalize mQ W.am seen=X at *;clear lY fN dS bG aX;by_cases GF:X=[]
  ·subst GF;refine Tu 1 Hg _ rfl ?_;intro K hK;simp(disch:=omega)only[Ac,↓Pc,simprocAttr,jd,eQ,zi];repeat'(first|with_reducible refine cD ?_ ?_|omega|with_reducible rfl)
   refine⟨rfl,(show kd Tryz.prog 73 [.lit (.slice none 0 0),.fn 74 []] (some 30) _ _ from ?_)⟩;refine zU [] (amd (.fn 74 [])) Hg trivial ⟨.pure rfl,.pure rfl,trivial⟩ ?_;rintro r lI⟨rfl,rfl⟩;simp(disch:=omega)only[Ac,↓Pc,simprocAttr,eQ];refine hK _ ?_;clear hK K;have hWn:=hWb.app [.arr 4 []];have hKn:=hKb.app [.arr 4 []];refine bP (aD.nil 3 4 rfl Hg) ?_;((try revert hK K);(repeat'(first|refine Vb X0 ?_|(refine V2 X0 ?_ ?_<;>try with_reducible intro hb)|(refine Xi ?_ ?_<;>try intro ht)|refine VD ?_ ?_|exact Xx|fail))<;>try with_reducible intro K hK)
   unfold fU;simp only[dV,dP];simp(disch:=omega)only[Ac,↓Pc,simprocAttr];exact⟨_,_,⟨⟨ob.length,by rw[<- JX [] hP .nil];rfl,by rw[<- JX [] hP .nil];exact kF ob _ _,bS⟩,hWn,hKn⟩,eN rfl hKn.len rfl⟩
  ·refine Tu 1 Hg _ rfl ?_;intro K hK;simp(disch:=omega)only[Ac,↓Pc,simprocAttr,jd,eQ,zi,GF];repeat'(first|with_reducible refine cD ?_ ?_|omega|with_reducible rfl)
   refine⟨rfl,(show kd Tryz.prog 73 [.ref id 4 0 X.length,.fn 74 []] (some 30) _ _ from ?_)⟩;refine zU [id] (amf X GF Ey) G9 ⟨by rw[oz];exact hX GF,trivial⟩ ⟨.eq (by simp[br,bE]),.pure rfl,trivial⟩ ?_;rintro r lI⟨rfl,Y,hY,Pa,rfl⟩;simp(disch:=omega)only[Ac,↓Pc,simprocAttr,eQ];refine hK _ ?_;clear hK K;have Cm:=hY.length_eq;have ql:=nr (y:=Ob.arr 4 (rowsOf aU Y)) (hX GF);have JY:=iS h.mp;have rn:=hWb.other (i:=id) ⟨by have:=iS h.v;omega,by have:=iS h.a;omega,by have:=iS h.b;omega,Ey⟩ (λhm=>by have:=h.lt _ hm;omega) (.arr 4 (rowsOf aU Y));have ed:Kp mi D E os (ob.set id (.arr 4 (rowsOf aU Y))):=⟨by rw[List.length_set];exact bS,λi o _ _ hi=>fW (qv i o hi) (by have:=iS hi;omega)⟩;((try revert hK K);(repeat'(first|refine Vb X0 ?_|(refine V2 X0 ?_ ?_<;>try with_reducible intro hb)|(refine Xi ?_ ?_<;>try intro ht)|refine VD ?_ ?_|exact Xx|fail))<;>try with_reducible intro K hK)
   unfold fU;simp only[dV,dP];simp(disch:=omega)only[Ac,↓Pc,simprocAttr];exact⟨_,_,⟨⟨id,by rw[<- JX Y (hY.trans hP) Pa,Cm],by rw[<- JX Y (hY.trans hP) Pa];exact ql,bZ⟩,rn,ed⟩,eN rfl ed.len rfl⟩
 ·rw[adi]at hq;cases he:W.am[j]? with
  |none=>rw[he]at hq;simp at hq
  |some qa =>
   rw[he]at hq;simp only[Option.map_some,Option.some.injEq]at hq;subst hq;have iw:=(List.getElem?_eq_some_iff.1 he).1;obtain⟨kp,ks,ko,Pb⟩:=hs.ky qa (List.mem_of_getElem? he);have DN:W.am.getD j default=qa:=by rw[List.getD_eq_getElem?_getD,he];rfl
   have eX:=amg W.am seen j;rw[DN]at eX;have Cn:Co qa=⟨kp,ks,ko,qa.2⟩:=by unfold Co;rw[Pb];rfl
   have wM:=aah iw hj;obtain⟨ky,amt⟩:=qa;dsimp only at Pb eX Cn ⊢;subst Pb;repeat'(first|(((first|refine mr ?_|refine sv ?_);intro K hK) ;simp(disch:=omega)only[Ac,↓Pc,simprocAttr,Mc])|(with_reducible refine gO ?_;simp(disch:=omega)only[Ac,↓Pc,simprocAttr,Mc])|(refine hK _ _ ?_;clear hK K)|(with_reducible refine gS (λba=>?_) (λba=>?_)<;>(have hb:=ba;(try simp only[iL,simprocAttr]at hb);simp(disch:=omega)only[Ac,↓Pc,simprocAttr,Mc,ba];clear ba))|(refine mc (λht=>?_) (λht=>?_)<;>(try simp only[iL,simprocAttr]at ht))|refine qg rfl ?_|(refine q6 ?_;intro Qb dR fl gk)|(refine oG ?_;intro Q hn he)|((first|refine hn _ _ ?_|refine he _ _ _ rfl ?_);clear hn he;try clear Q)|((first|refine dR _ _ ?_|refine fl _ _ ?_|refine gk _ _ _ rfl ?_);clear dR fl gk;try clear Qb)|with_reducible refine cD ?_ ?_|omega|with_reducible rfl)
   refine aiK (seen:=seen) (j:=j) (b:=b0) (q:=([kp,ks,ko],QM amt)) (by simp only[Kc,simprocAttr]<;>exact rfl) (by rw[tB]) JW (by rw[qZ _ _ (λe=>by rw[e]at fN;rw[fN]at lY;cases lY)];exact fN) (by rw[adi,he];rfl) ?_;have hkA:kA 3 [kp,ks,ko]=.agg [QM kp,QM ks,QM ko]:=rfl;rw[hkA];have zP:iQ m1 r (.iter b0 W.am.length (seen++[j])) r=_:=tB _ _ _;have hbm:iQ m1 r (.iter b0 W.am.length (seen++[j])) b0=some (.jl mi):=by rw[qZ _ _ (λe=>by rw[e]at fN;rw[fN]at lY;cases lY)];exact fN
   have Jg:(seen++[j]).Nodup:=List.nodup_append.2 ⟨bG,G9,λa ha b hb=>by simp only[cS]at hb;subst hb;exact λe=>hj (e▸ha)⟩;have ado:∀ i∈seen++[j],i<W.am.length:=λi hi=>by
    rcases List.mem_append.1 hi with hi|hi
    ·exact aX i hi
    ·simp only[cS]at hi;subst hi;exact iw
   rw[JV];by_cases ha:amt=0
   ·rw[if_neg (by simpa using ha)]at eX;repeat'(first|(((first|refine mr ?_|refine sv ?_);intro K hK) ;simp(disch:=omega)only[Ac,↓Pc,simprocAttr,bT,bH,ha,Mc])|(with_reducible refine gO ?_;simp(disch:=omega)only[Ac,↓Pc,simprocAttr,bT,bH,ha,Mc])|(refine hK _ _ ?_;clear hK K)|(with_reducible refine gS (λba=>?_) (λba=>?_)<;>(have hb:=ba;(try simp only[iL,simprocAttr]at hb);simp(disch:=omega)only[Ac,↓Pc,simprocAttr,bT,bH,ha,Mc,ba];clear ba))|(refine mc (λht=>?_) (λht=>?_)<;>(try simp only[iL,simprocAttr]at ht))|refine qg rfl ?_|(refine q6 ?_;intro Qb dR fl gk)|(refine oG ?_;intro Q hn he)|((first|refine hn _ _ ?_|refine he _ _ _ rfl ?_);clear hn he;try clear Q)|((first|refine dR _ _ ?_|refine fl _ _ ?_|refine gk _ _ _ rfl ?_);clear dR fl gk;try clear Qb)|with_reducible refine cD ?_ ?_|omega|with_reducible rfl)
    all_goals try(exfalso;omega)
    refine ak _ _ (seen++[j],id,ob++[.var [QM kp,QM ks,QM ko]]) ⟨⟨Jg,ado⟩,by dsimp only;rw[eX];exact λhx=>aR (hX hx) _,bZ,Hj,λi o hi=>aR (qv i o hi) _,zP,hbm⟩ wM ?_;dsimp only;rw[eX];(refine l8.ar _ _ rfl ?_;simp only[Tc,↓reduceIte,Nat.reduceEqDiff,s6,Nat.reduceAdd];try trivial)
   ·rw[if_pos ha,Cn]at eX;have dM:=ami hX;have uP:=adk W.am seen;have jE:seen.length<=W.am.length:=by
     have h1:=(List.Nodup.length_le_of_subset bG (l₂:=List.range W.am.length) (λa ha=>List.mem_range.2 (aX a ha)));simpa using h1
    have lM:=amj id (mQ W.am seen) ob;have lz:rowsOf aU (mQ W.am seen)++[[QM kp,QM ks,QM ko,QM amt]]=rowsOf aU (mQ W.am seen++[⟨kp,ks,ko,amt⟩]):=by unfold rowsOf;rw[List.map_append];rfl
    have jU:=λq=>amk q (mQ W.am seen) ⟨kp,ks,ko,amt⟩;have kg:=λ(i:Nat) o (hi:os[i]?=some o)=>aml (qv i o hi) (X:=mQ W.am seen) (id:=id) (λ_=>by have:=iS hi;omega);generalize mQ W.am seen=X at *;generalize yh id X ob=yY at *;repeat'(first|(((first|refine mr ?_|refine sv ?_);intro K hK) ;simp(disch:=omega)only[Ac,↓Pc,simprocAttr,bT,bH,Mc])|(with_reducible refine gO ?_;simp(disch:=omega)only[Ac,↓Pc,simprocAttr,bT,bH,Mc])|(refine hK _ _ ?_;clear hK K)|(with_reducible refine gS (λba=>?_) (λba=>?_)<;>(have hb:=ba;(try simp only[iL,simprocAttr]at hb);simp(disch:=omega)only[Ac,↓Pc,simprocAttr,bT,bH,Mc,ba];clear ba))|(refine mc (λht=>?_) (λht=>?_)<;>(try simp only[iL,simprocAttr]at ht))|refine qg rfl ?_|(refine q6 ?_;intro Qb dR fl gk)|(refine oG ?_;intro Q hn he)|((first|refine hn _ _ ?_|refine he _ _ _ rfl ?_);clear hn he;try clear Q)|((first|refine dR _ _ ?_|refine fl _ _ ?_|refine gk _ _ _ rfl ?_);clear dR fl gk;try clear Qb)|with_reducible refine cD ?_ ?_|omega|with_reducible rfl)
    all_goals try(exfalso;omega)
    refine Nr ?_;dsimp only;repeat'(first|((first|((first|refine rr ?_|refine wv ?_);intro K hK)|with_reducible refine gO ?_);simp(disch:=omega)only[Ac,↓Pc,simprocAttr,bT,bH,↓dM,lM,lz,cF,bN])|(refine hK _ ?_;clear hK K)|(with_reducible refine gS (λba=>?_) (λba=>?_)<;>(have hb:=ba;(try simp only[iL,simprocAttr]at hb);simp(disch:=omega)only[Ac,↓Pc,simprocAttr,bT,bH,↓dM,lM,lz,cF,bN,ba];clear ba))|(refine Wc (λht=>?_) (λht=>?_)<;>(try simp only[iL,simprocAttr]at ht))|refine Wz rfl ?_|refine Xz ?_|(simp only[Qc,Kc,simprocAttr])|with_reducible refine cD ?_ ?_|omega|with_reducible rfl)
    refine dR _ _ ?_;refine ak _ _ (seen++[j],ob.length+2,yY++[.var [QM kp,QM ks,QM ko],.arr 4 [[QM kp,QM ks,QM ko,QM amt]],.arr 4 (rowsOf aU (X++[⟨kp,ks,ko,amt⟩]))]) ⟨⟨Jg,ado⟩,?_,Hi,by dsimp only;rw[bN,lM];omega,λi o hi=>aR (kg i o hi) _,zP,hbm⟩ wM ?_
    ·dsimp only;intro _;rw[eX,Az lM];rfl
    ·dsimp only;rw[eX,<- jU];(refine l8.ar _ _ rfl ?_;simp only[Tc,↓reduceIte,Nat.reduceEqDiff,s6,Nat.reduceAdd];try trivial)
end
def adb(m:ah)(left:List (List Bool))(rounds:Int)(mG:MB m)(lX:BB left)(hr:cY rounds)(Cl:Ax m left rounds=0):
  Holds Tryz.prog 15 [.agg (ao m),.tree 1 (rowsOf aA left),QM rounds] [] (.bC [.ref 0 4 0 (jJ m left rounds).length,QM 0]) [.arr 4 (rowsOf aU (jJ m left rounds))]:=by
 refine dv.one ?_;unfold cY at hr;have qU:=aaT m left [] mG lX G9;have pf:Holds Tryz.prog 17 [.agg (ao m),.tree 1 (rowsOf aA left),.lit (.slice none 0 0)] [] (.bC [QM (cp m left []).1,QM (cp m left []).2]) []:=Holds.MH (pre:=[.agg (ao m),.tree 1 (rowsOf aA left)]) (post:=[]) qU;have Pd:=GC m left;have dF:=@NJ m left;unfold Ax at Cl;generalize adp:cp m left []=v0 at *;obtain⟨val,e⟩:=v0;dsimp only at pf qU;have hs:kj m left=0:=by
  by_cases h:kj m left≠0
  ·rw[if_pos h]at Cl;exact absurd Cl h
  ·omega
 have he:e=0:=by
  rw[if_neg Ey]at Pd;exact congrArg Prod.snd Pd
 subst he;rw[if_neg Ey]at Cl Pd;have eV:¬ (rounds<0\/64<rounds):=λh=>by rw[if_pos h]at Cl;omega
 obtain⟨b8,lB⟩:=dF hs;have aqL:(cp m left []).2=0:=by rw[adp]
 have amm:(cp m left []).1=val:=by rw[adp]
 refine dv.aM 70 0 [.tmp 6,.tmp 7] Tryz.func15 ?_;repeat'(first|((fail_if_success (first|refine dW 7 ?_|refine dX 7 ?_));refine Xq X0 ?_;intro K hK)|refine Xo X0 ?_|refine Xc (pf) ?_|(refine hK _ ?_;clear hK K)|(refine Xg X0 ?_ ?_<;>try intro hb)|(refine Xi ?_ ?_<;>try intro ht)|refine XY ?_|refine Xd ?_ ?_|exact Xx|fail)
 all_goals try(exfalso;omega)
 refine bP (aD.nil 10 4 (by simp only[Kc,simprocAttr]) Hg) ?_;dsimp only;have MQ:=amn b8 lB [.var (ao m),.arr 4 []];refine oC 2 Hg _ rfl ?_;intro K hK;simp(disch:=omega)only[Ac,↓Pc,simprocAttr,jd,eQ];refine⟨rfl,(show kd Tryz.prog 38 [.agg (ao m),.tree 1 (rowsOf aA left)] (some 33) _ _ from ?_)⟩;refine sw MQ ?_;rintro r ob⟨gi,ai,bi,mi,D,E,rfl,hW,hlen,qv,JY,iy⟩;refine⟨hlen,?_⟩;simp(disch:=omega)only[Ac,↓Pc,simprocAttr,eQ];refine hK _ ?_;clear hK K;repeat(first|refine Xu ?_)
 have f0:=qv 0 _ rfl;have f1:=qv 1 _ rfl;have adq:1≠mi:=by simp only[du,ln]at JY;omega
 have n1D:1 ∉ (D++E).map (·.1):=λhm=>by have:=iy 1 hm;simp at this
 ((try revert hK K);(repeat'(first|refine Va X0 ?_|(refine V2 X0 ?_ ?_<;>try with_reducible intro hb)|(refine Xi ?_ ?_<;>try intro ht)|refine VD ?_ ?_|exact Xx|fail))<;>try with_reducible intro K hK)
 obtain⟨n,rfl⟩:∃n:Nat,rounds=n:=⟨rounds.toNat,Ey⟩;have hcf:=amp m left;have Dw:(rowsOf aU ([]:List Mv))=[]:=rfl;refine aQ (λz:Nat×List Mv×WS×List Ob×Nat=>(⟨ar [(1,.tree 1 (rowsOf aA left)),(3,.ptr 0 0 0),(8,QM (cp m left z.2.1).1),(10,.ref z.2.2.2.2 4 0 z.2.1.length),(11,.ptr gi 0 0),(34,QM n),(35,QM z.1)],z.2.2.2.1⟩:St))
  (λz=>(KN z.2.2.1/\AA m left (n-z.1) z.1 z.2.1 z.2.2.1=jJ m left n)/\z.1<=n/\WF m (er m left m.cls.length) gi ai bi mi D E z.2.2.1 z.2.2.2.1/\nV m z.2.2.1/\WB (1099511627776+14843406974976*(z.1:Int)) z.2.2.1/\z.2.2.2.1[0]?=some (.var (ao m))/\z.2.2.2.1[z.2.2.2.2]?=some (.arr 4 (rowsOf aU z.2.1))/\z.2.2.2.2≠mi/\z.2.2.2.2 ∉ (D++E).map (·.1))
  (λz=>n-z.1) (0,[],W0 m,ob,1) ⟨⟨Hd,rfl⟩,Nat.zero_le _,hW,amq,(amr b8).mono Ey,f0,f1,adq,n1D⟩ (by dsimp only;rw[amm];exact Xv X0) ?_
 clear hW f0 f1 adq n1D qv hlen;rintro⟨k,X,V1,ob,bi⟩⟨⟨yg,rp⟩,hk,hW,oD,JZ,f0,fb,J0,bD⟩Ql ak aq;dsimp only at yg rp hk hW oD JZ f0 fb J0 bD ⊢;have fin:∀ (X:List Mv) (ob:List Ob) (bi:Nat),ob[bi]?=some (.arr 4 (rowsOf aU X))->X=jJ m left n->∀ st,aD 0 st ⟨ar [(10,.ref bi 4 0 X.length)],ob⟩->Ql (.exit 0) st:=λX ob bi eW h0 st ht=>by
  refine aq _ _ rfl ?_;clear ak aq;repeat(first|refine Xu ?_)
  refine bP ht ?_;clear ht;((try revert hK K);(repeat'(first|refine Vb X0 ?_|(refine V2 X0 ?_ ?_<;>try with_reducible intro hb)|(refine Xi ?_ ?_<;>try intro ht)|refine VD ?_ ?_|exact Xx|fail))<;>try with_reducible intro K hK)
  unfold fU;simp only[dV,dP];simp(disch:=omega)only[Ac,↓Pc,simprocAttr];refine⟨_,_,⟨rfl,rfl⟩,?_⟩;rw[<- h0];refine iJ [bi] false G9 ⟨⟨iS eW,.inr (by rw[oz];exact eW)⟩,trivial⟩ G9 G9 (.eq (by simp[br,pL,bE]))
 by_cases bj:k<n
 ·obtain⟨r,eR⟩ :∃r,n-k=r+1:=⟨n-k-1,Ey⟩;have hr3:n-(k+1)=r:=Ey;rw[eR,AA]at rp;by_cases hxF:(cp m left X).1=1099511627776
  ·rw[if_pos hxF]at rp;((try revert hK K);(repeat'(first|refine Va X0 ?_|(refine V2 X0 ?_ ?_<;>try with_reducible intro hb)|(refine Xi ?_ ?_<;>try intro ht)|refine VD ?_ ?_|exact Xx|fail))<;>try with_reducible intro K hK)
   all_goals try(exfalso;omega)
   exact fin X ob bi fb rp _ (Xv X0)
  ·rw[if_neg hxF]at rp;have adt:=amu (m:=m) (can:=er m left m.cls.length) V1 yg k;have hJ:=amv b8 hcf hW oD (B:=1099511627776+14843406974976*(k:Int)) ⟨Ey,Ey⟩ JZ (round:=k) Ey;generalize rq m (er m left m.cls.length) V1 k=V2 at *;repeat'(first|((fail_if_success (first|refine dW 12 ?_|refine dX 12 ?_));refine Xr X0 ?_;intro K hK)|refine Xo X0 ?_|(refine hK _ ?_;clear hK K)|(refine Xg X0 ?_ ?_<;>try intro hb)|(refine Xi ?_ ?_<;>try intro ht)|refine Xy ?_|refine Xd ?_ ?_|exact Xx|fail)
   all_goals try(exfalso;omega)
   refine oC 2 Hg _ rfl ?_;intro K hK;simp(disch:=omega)only[Ac,↓Pc,simprocAttr,jd,eQ];refine⟨rfl,(show kd Tryz.prog 39 [.ptr gi 0 0,QM k] (some 42) _ _ from ?_)⟩;refine sw hJ ?_;rintro r' yY⟨rfl,rn,ed,adu,Pe⟩;refine⟨ed.len,?_⟩;simp(disch:=omega)only[Ac,↓Pc,simprocAttr,eQ];refine hK _ ?_;clear hK K;repeat(first|refine Xu ?_)
   have adv:0≠mi:=by simp only[du,ln]at JY;omega
   have n0D:0 ∉ (D++E).map (·.1):=λhm=>by have:=iy 0 hm;simp at this
   have f2:=ed.same 0 _ adv n0D f0;have f2b:=ed.same bi _ J0 bD fb;have uL:=al' rn adu Ey Pe adt;repeat'(first|((fail_if_success (first|refine dW 13 ?_|refine dX 13 ?_));refine Xr X0 ?_;intro K hK)|refine Xo X0 ?_|(refine hK _ ?_;clear hK K)|(refine Xg X0 ?_ ?_<;>try intro hb)|(refine Xi ?_ ?_<;>try intro ht)|refine Xy ?_|refine Xd ?_ ?_|exact Xx|fail)
   refine oC 1 Hg _ rfl ?_;intro K hK;simp(disch:=omega)only[Ac,↓Pc,simprocAttr,jd,eQ];refine⟨rfl,(show kd Tryz.prog 40 [.ptr gi 0 0] (some 44) _ _ from ?_)⟩;refine sw uL ?_;rintro r' kG⟨⟨id,rfl,J1,aqM⟩,Pf,Ea⟩;have amx:id≠mi:=by have:=iS rn.mp;omega
   have idD:id ∉ (D++E).map (·.1):=λhm=>by have:=rn.lt _ hm;omega
   have hY:(vo (kJ V2.am)).Perm (kJ V2.am):=by unfold vo;exact Pg _ _ []
   generalize vo (kJ V2.am)=Y at *;refine⟨Ea.len,?_⟩;simp(disch:=omega)only[Ac,↓Pc,simprocAttr,eQ];refine hK _ ?_;clear hK K;repeat(first|refine Xu ?_)
   have f3:=Ea.same 0 _ adv n0D f2;have f3b:=Ea.same bi _ J0 bD f2b;have Cm:Y.length<9223372036854775808:=by
    have h1:=hY.length_eq;have h2:=Pe.al;have h3:(kJ V2.am).length<=V2.am.length:=by unfold kJ;rw[gD];exact List.length_filter_le _ _
    omega
   have hvY:=aaT m left Y mG lX Cm;((try revert hK K);(repeat'(first|refine Va (X2 @f3 @J1) ?_|(refine V2 (X2 @f3 @J1) ?_ ?_<;>try with_reducible intro hb)|(refine Xi ?_ ?_<;>try intro ht)|refine VD ?_ ?_|exact Xx|fail))<;>try with_reducible intro K hK)
   refine ug [] hvY Hg trivial ⟨.pure rfl,.pure rfl,a7.cN (rows:=rowsOf aU Y) J1 (iA _) (by rw[cF]) G9 (mF _),trivial⟩ rfl G9 ?_;simp(disch:=omega)only[Ac,↓Pc,simprocAttr];repeat'(first|((fail_if_success (first|refine dW 15 ?_|refine dX 15 ?_));refine Xr X0 ?_;intro K hK)|refine Xo X0 ?_|(refine hK _ ?_;clear hK K)|(refine Xg X0 ?_ ?_<;>try intro hb)|(refine Xi ?_ ?_<;>try intro ht)|refine Xy ?_|refine Xd ?_ ?_|exact Xx|fail)
   have pd:∀ s X (bi:Nat),kG[bi]?=some (.arr 4 (rowsOf aU X))->bi≠mi->bi ∉ (D++E).map (·.1)->aD 0 s ⟨ar [(1,.tree 1 (rowsOf aA left)),(3,.ptr 0 0 0),(8,QM (cp m left X).1),(10,.ref bi 4 0 X.length),(11,.ptr gi 0 0),(34,QM n),(35,QM (k+1:Nat))],kG⟩->AA m left r (k+1) X V2=jJ m left n->Ql .normal s:=λs X bi b1 b2 b3 h1 h0 =>
    ak _ (k+1,X,V2,kG,bi) ⟨⟨adt,by dsimp only;rw[hr3];exact h0⟩,Hi,Pf,adu,Pe.mono (by push_cast;omega),f3,b1,b2,b3⟩ Hi h1
   have kB:=λs=>pd s X bi f3b J0 bD;have Fh:=λs=>pd s Y id J1 amx idD;have ady:=fin X kG bi f3b;clear ak aq fin pd;generalize (cp m left Y).1=vy at *;generalize (cp m left Y).2=ey at *;generalize (cp m left X).1=vx at *;have aqN:((k:Int)+1)=((k+1:Nat):Int):=by push_cast;rfl
   by_cases Ph:ey=0
   ·have zj:(ey != 0)=false:=by simp[Ph]
    by_cases Pj:vx<vy
    ·have d1:decide (vy<=vx)=false:=decide_eq_false Ey;have d2:decide (vy > vx)=true:=decide_eq_true Pj;((try revert hK K);(repeat'(first|refine Va (X3 @zj @d1 @d2) ?_|(refine V2 (X3 @zj @d1 @d2) ?_ ?_<;>try with_reducible intro hb)|(refine Xi ?_ ?_<;>try intro ht)|refine VD ?_ ?_|exact Xx|fail))<;>try with_reducible intro K hK)
     all_goals try(exfalso;omega)
     all_goals exact Fh _ (Xv X0) (by rw[if_neg Ey,if_pos Pj]at rp;exact rp)
    ·have d1:decide (vy<=vx)=true:=decide_eq_true Ey;have d2:decide (vy > vx)=false:=decide_eq_false Ey;by_cases aqO:k=0
     ·have d3:decide ((k:Int) > 0)=false:=decide_eq_false Ey;((try revert hK K);(repeat'(first|refine Va (X4 @zj @d1 @d2 @d3) ?_|(refine V2 (X4 @zj @d1 @d2 @d3) ?_ ?_<;>try with_reducible intro hb)|(refine Xi ?_ ?_<;>try intro ht)|refine VD ?_ ?_|exact Xx|fail))<;>try with_reducible intro K hK)
      all_goals try(exfalso;omega)
      all_goals exact kB _ (Xv X0) (by rw[if_neg Ey,if_neg Pj]at rp;exact rp)
     ·have d3:decide ((k:Int) > 0)=true:=decide_eq_true Ey;((try revert hK K);(repeat'(first|refine Va (X4 @zj @d1 @d2 @d3) ?_|(refine V2 (X4 @zj @d1 @d2 @d3) ?_ ?_<;>try with_reducible intro hb)|(refine Xi ?_ ?_<;>try intro ht)|refine VD ?_ ?_|exact Xx|fail))<;>try with_reducible intro K hK)
      all_goals try(exfalso;omega)
      all_goals exact ady (by rw[if_pos Ey]at rp;exact rp) _ (Xv X0)
   ·have zj:(ey != 0)=true:=by simp[Ph]
    ((try revert hK K);(repeat'(first|refine Va @zj ?_|(refine V2 @zj ?_ ?_<;>try with_reducible intro hb)|(refine Xi ?_ ?_<;>try intro ht)|refine VD ?_ ?_|exact Xx|fail))<;>try with_reducible intro K hK)
    all_goals try(exfalso;omega)
    all_goals exact ady (by rw[if_pos (.inl Ph)]at rp;exact rp) _ (Xv X0)
 ·obtain rfl:k=n:=Ey;((try revert hK K);(repeat'(first|refine Va X0 ?_|(refine V2 X0 ?_ ?_<;>try with_reducible intro hb)|(refine Xi ?_ ?_<;>try intro ht)|refine VD ?_ ?_|exact Xx|fail))<;>try with_reducible intro K hK)
  refine fin X ob bi fb (by rw[Nat.sub_self]at rp;exact rp) _ ?_;exact Xv X0
def amA(m:ah)(left:List (List Bool))(rounds:Int)(mG:MB m)(lX:BB left)(hr:cY rounds)(h:Ax m left rounds=0):
  Holds Tryz.prog 15 [.agg (ao m),.tree 1 (rowsOf aA left),QM rounds] [] (.bC [.tree 4 (rowsOf aU (jJ m left rounds)),QM 0]) []:=by
 refine(adb m left rounds mG lX hr h).aix ?_;have e:∀ x:AV,(λk=>[x].getD k AV.undef)=ar [(0,x)]:=λx=>by
  funext k;cases k<;>rfl
 rw[e (.bC [.tree 4 (rowsOf aU (jJ m left rounds)),QM 0])];refine aD.aj [] true _ _ Hg trivial Hg Hg ⟨.bC _ _ rfl λj c d hc hd=>?_,trivial⟩
 match j,hc,hd with
 |0,hc,hd =>
  cases hc;cases hd;exact a7.cN rfl (iA _) (by rw[cF]) (j7 Hg) (mF _)
 |1,hc,hd=>cases hc;cases hd;exact .pure rfl
def amB(m:ah)(rounds:Int)(mG:MB m)(hr:cY rounds)(h:Ax m (b9 m) rounds=0):
  Holds Tryz.prog 25 [.agg (ao m),QM rounds] [] (.bC [.agg (aJ (qw (jJ m (b9 m) rounds))),QM (cp m (b9 m) (jJ m (b9 m) rounds)).1,QM 0]) []:=by
 have h1:=aaX m mG;have h2:=amA m (b9 m) rounds mG (U9 mG) hr h;have hv:(cp m (b9 m) []).2=0:=by
  rw[GC];unfold Ax at h;split at h
  ·rename_i h0;exact absurd h h0
  ·rename_i h0;rw[if_neg h0]
 have hx:=(ac7 rounds hv).1;generalize jJ m (b9 m) rounds=X at *;have h3:=O6 m (qw X) mG (adg (by have:=O9 hx;omega));rw[adh hx]at h3;generalize (cp m (b9 m) X).1=n at *;generalize b9 m=al at *;refine Holds.aM 36 0 [.cell 4 53,.tmp 5,.tmp 6] Tryz.func25 ?_;repeat'(first|((fail_if_success (first|refine dW 5 ?_|refine dX 5 ?_));refine Xq X0 ?_;intro K hK)|refine Xo X0 ?_|refine Xc (h1) ?_|refine Xc (h2) ?_|(refine hK _ ?_;clear hK K)|(refine Xg X0 ?_ ?_<;>try intro hb)|(refine Xi ?_ ?_<;>try intro ht)|refine XY ?_|refine Xd ?_ ?_|exact Xx|fail)
 refine bP (aD.IJ 2 0 5 (cells':=ax ⟨-1,[],X,[],[]⟩) rfl rfl (by exact⟨.inl rfl,.inr ⟨rfl,_,rfl⟩,.inl rfl,.inr ⟨rfl,_,rfl⟩,.inr ⟨rfl,_,rfl⟩,trivial⟩)) ?_;refine bP (aD.v7 2 3 0 5 (rows:=rowsOf ax (qw X)) rfl rfl rfl (iA _) (mF _)) ?_;dsimp only;simp(disch:=omega)only[Ac,↓Pc,simprocAttr];((try revert hK K);(repeat'(first|refine Vd X0 h3 ?_|(refine V2 X0 ?_ ?_<;>try with_reducible intro hb)|(refine Xi ?_ ?_<;>try intro ht)|refine VD ?_ ?_|exact Xx|fail))<;>try with_reducible intro K hK)
 simp(disch:=omega)only[Ac,↓Pc,simprocAttr];exact Xw true [] X0
def oL1:cP:=⟨0,0,0,0,0,[(0,3)]⟩
def oLz:cP:=⟨0,0,0,0,0,[]⟩
def mn:ah:=⟨[[oL1,oLz],[oLz,oL1]],[⟨0,1,0,[0,5,5,0]⟩],[],1⟩
def adB:VM mn:=kf.1 (by decide +kernel)
def amC:Ax mn (b9 mn) 4=0:=by decide +kernel
def adC:cp mn (b9 mn) (jJ mn (b9 mn) 4)=(3,0):=by decide +kernel
def UY:Holds Tryz.prog 9 [] [] (.lit (.bool true)) []:=by
 have h1:=amB mn 4 adB.mb (by unfold cY;omega) amC;have qU:(cp mn (b9 mn) (jJ mn (b9 mn) 4)).2=0:=by rw[adC]
 have h2:=O6 mn (qw (jJ mn (b9 mn) 4)) adB.mb (adg (by have:=O9 qU;omega));rw[adh qU]at h2;rw[adC]at h1 h2;have dG:(qw (jJ mn (b9 mn) 4)).length=1:=rfl;generalize qw (jJ mn (b9 mn) 4)=Q at *;dsimp only at h1 h2;refine Holds.aM 53 0 [.tmp 0] Tryz.func9 ?_;repeat'(first|((fail_if_success (first|refine dW 1 ?_|refine dX 1 ?_));refine Xr X0 ?_;intro K hK)|refine Xo X0 ?_|(refine hK _ ?_;clear hK K)|(refine Xg X0 ?_ ?_<;>try intro hb)|(refine Xi ?_ ?_<;>try intro ht)|refine XY ?_|refine Xd ?_ ?_|exact Xx|fail)
 refine IG 15 Hg ?_;intro K K1 hK wG;simp(disch:=omega)only[Ac,↓Pc,simprocAttr,jd];refine wG _ ⟨ar [(21,.agg (ao mn))],[]⟩ ?_ ?_
 ·refine aD.aj [] true _ _ Hg trivial Hg Hg ⟨?_,trivial⟩;simp only[Kc,simprocAttr];refine a7.agg _ _ rfl (jN.spec (R:=a7 _ _ _ _) (cs:=ao mn) (ds:=[.ref 4 1 0 2,.ref 6 4 0 1,.lit (.slice none 0 0),QM 1]) ⟨.snap _ _ rfl ?_,.snap _ _ rfl ?_,.snap _ _ rfl (.nil 4),.pure rfl,trivial⟩).2
  ·exact cX.mk rfl rfl (j7 Hg) (iA _) ⟨⟨cX.mk rfl rfl (j7 Hg) (iA _) ⟨⟨.lit _,.lit _,.lit _,.lit _,.lit _,cX.mk rfl rfl (j7 Hg) (iA _) ⟨⟨.lit _,.lit _,trivial⟩,trivial⟩,trivial⟩,⟨.lit _,.lit _,.lit _,.lit _,.lit _,.nil 2,trivial⟩,trivial⟩,trivial⟩,
    ⟨cX.mk rfl rfl (j7 Hg) (iA _) ⟨⟨.lit _,.lit _,.lit _,.lit _,.lit _,.nil 2,trivial⟩,⟨.lit _,.lit _,.lit _,.lit _,.lit _,cX.mk rfl rfl (j7 Hg) (iA _) ⟨⟨.lit _,.lit _,trivial⟩,trivial⟩,trivial⟩,trivial⟩,trivial⟩,trivial⟩
  ·exact cX.mk rfl rfl (j7 Hg) (iA _) ⟨⟨.lit _,.lit _,.lit _,cX.mk rfl rfl (j7 Hg) (uw _) ⟨⟨.lit _,trivial⟩,⟨.lit _,trivial⟩,⟨.lit _,trivial⟩,⟨.lit _,trivial⟩,trivial⟩,trivial⟩,trivial⟩
 clear wG K1;simp(disch:=omega)only[Ac,↓Pc,simprocAttr,eQ];refine hK _ ?_;clear hK K;generalize mn=m at *;repeat(first|refine Xu ?_)
 ((try revert hK K);(repeat'(first|refine Vd @aJ.eq_1 (X2 h1 h2) ?_|(refine V2 @aJ.eq_1 ?_ ?_<;>try with_reducible intro hb)|(refine Xi ?_ ?_<;>try intro ht)|refine VD ?_ ?_|exact Xx|fail))<;>try with_reducible intro K hK)
 all_goals exact aN (by rw[dG];rfl) (by rw[dG];rfl)
end T

