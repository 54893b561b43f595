import Derived.Test.YtfoopmojjjpapaaGreatX19
set_option linter.all false
set_option maxHeartbeats 0
set_option maxRecDepth 20000
open List renaming getD_eq_getElem?_getD→az,append_assoc→bE,take→ja,drop→eR
open And renaming intro→c6
open Nat renaming eq_zero_or_pos→oH,zero_le→aS
open Go Go.Am Go.Proofs
namespace T
section
variable {m:ah} {can:List (List Bool)} {gi ai bi mi:Nat} {D E:List (Nat×Nat)} {W:WS} {os:List Ob}
def OC{X:List (List Bool)}{c:Nat}(hc:c<X.length):(rowsOf aC X)[c]?=some [.tree 1 (a8 (X.getD c default))]:=by
 unfold rowsOf;rw[List.getElem?_map,az,List.getElem?_eq_getElem hc];rfl
def alJ(hm:VM m)(hf:dh m can)(h:WF m can gi ai bi mi D E W os)(hs:nG m W){B:Int}(hB:0<=B/\B<=1152921504606846976)(hW:WB B W){p s:Nat}(hp:p<m.ae.length)(jr:s<=1):
  cX Tryz.prog 72 [.ptr gi 0 0,Qf p,Qf s] os λr ob=>r=.bD []/\WF m can gi ai bi mi D E (Bs m can W p s) ob/\Kp mi D E os ob:=by
 obtain⟨dO,q1,q2,q3,q4,q5⟩:=Ae hm hp;have pT:=hm.ae;have rT:=hm.cls;have bK:∀ s,s<=1->aE m p s<m.cls.length:=λs hs=>by
  rcases(show s=0\/s=1 by omega) with rfl|rfl
  ·exact q1
  ·exact q2
 have vz:=Ga hm h hp;have jY:=Ga hm (h.app [.gone,.gone,.gone,.gone]) hp;have e0:(cS m p).fst=((aE m p 0:Nat):Int):=by show _=((cS m p).fst.toNat:Int);omega
 have e1:(cS m p).snd=((aE m p 1:Nat):Int):=by show _=((cS m p).snd.toNat:Int);omega
 rw[e0,e1]at vz jY;refine cX.aM 155 os.length [] Tryz.func72 ?_;refine Xk ?_;refine vW ?_;intro Q hn he;refine ph ⟨ao [(0,.ptr gi 0 0),(1,Qf p),(2,Qf s),(6,Qf (aE m p s:Nat)),(7,Qf (aE m p (1-s):Nat))],os++[.gone,.gone,.gone,.gone,.gone,.gone,.gone,.gone]⟩ hn ?_ (λkey=>?_);rotate_left
 ·refine pw [] (.take 0 (.take 1 (.take 2 (.take 3 (.take 8 (.take 9 (.take 11 (.take 12 (.both 4 (.both 5 (.both 6 (.both 7 (.take 10 (.take 13 (.take 14 (.take 15 (.take 16 (.take 17 (.take 18 .nil))))))) 10 (.take 7 (.take 13 (.take 14 (.take 15 (.take 16 (.take 17 (.take 18 .nil)))))))) 10 (.take 6 (.take 7 (.take 13 (.take 14 (.take 15 (.take 16 (.take 17 (.take 18 .nil))))))))) 10 (.take 5 (.take 6 (.take 7 (.take 13 (.take 14 (.take 15 (.take 16 (.take 17 (.take 18 .nil)))))))))) 10 (.take 4 (.take 5 (.take 6 (.take 7 (.take 13 (.take 14 (.take 15 (.take 16 (.take 17 (.take 18 .nil))))))))))))))))))) rfl GS (by decide +kernel) ?_;simp(disch:=omega)only[Ac,↓Pc,simprocAttr,vT,vS,vR,vQ,uJ,q7,nU,mJ,mI,cj,↓Lq];repeat'(first|with_reducible refine c6 ?_ ?_|omega|with_reducible rfl)
  all_goals
   refine fZ vz GM ?_;rcases(show s=0\/s=1 by omega) with rfl|rfl;all_goals
    simp(disch:=omega)only[Ac,↓Pc,simprocAttr,vT,vS,vR,vQ,uJ,q7,nU,mJ,mI,cj,↓Lq,bE];repeat'(first|with_reducible refine c6 ?_ ?_|omega|with_reducible rfl)
   all_goals
    refine fZ jY GM ?_;simp(disch:=omega)only[Ac,↓Pc,simprocAttr,vT,vS,vR,vQ,uJ,q7,nU,mJ,mI,cj,↓Lq,bE];repeat'(first|with_reducible refine c6 ?_ ?_|omega|with_reducible rfl)
   all_goals
    refine key _ ?_;exact Xv X0
 (try clear hn;try clear he)
 try(try clear Q)
 have tB:=h.app [.gone,.gone,.gone,.gone,.gone,.gone,.gone,.gone];have fP:Kp mi D E os (os++[.gone,.gone,.gone,.gone,.gone,.gone,.gone,.gone]):=(Kp.refl mi D E os).app _;clear vz jY h;generalize os++[Ob.gone,Ob.gone,Ob.gone,Ob.gone,Ob.gone,Ob.gone,Ob.gone,Ob.gone]=ly at *;have hc:=bK s jr;have fY:=bK (1-s) GK;have xC:1-(1-s)=s:=GK;have hsi:((1:Int)-(s:Int))=((1-s:Nat):Int):=GK;have hD:D.length=m.cls.length:=tB.rD.len.trans hs.ol;have z1:=BO hm (aE m p s);have z2:=BO hm (aE m p (1-s));have CL:=hf.1;have hfc:_=cN m (aE m p s):=hf.2 (aE m p s) GK;have Gb:_=cN m (aE m p (1-s)):=hf.2 (aE m p (1-s)) GK;have yP:=OC (X:=can) (c:=aE m p s) GK;have Gc:=OC (X:=can) (c:=aE m p (1-s)) GK;have hwp:Bs m can W p s=jS m can (lN m can W p s (cN m (aE m p s))) p s (cN m (aE m p (1-s))):=rfl;have OK:=λi=>JC (can:=can) hs p s i;have bA:=λi=>OL (can:=can) hm hB.1 hW p s i;have sA:∀ i,lN m can W p s (i+1)=_:=λi=>lN.eq_2 ..;have s0:lN m can W p s 0=W:=rfl;have fv:=tB.v;have fa:=tB.a;have JD:(D.getD (aE m p s) default).2=cN m (aE m p s):=((tB.rD.row _ GK).1).symm.trans (hs.or _ hc);have JE:(D.getD (aE m p (1-s)) default).2=cN m (aE m p (1-s)):=((tB.rD.row _ GK).1).symm.trans (hs.or _ fY);refine Xk ?_;refine Xk ?_;refine vW ?_;intro Q hn he;refine ph ⟨ao [(0,.ptr gi 0 0),(1,Qf p),(2,Qf s),(6,Qf (aE m p s:Nat)),(7,Qf (aE m p (1-s):Nat)),(37,Qf (cN m (aE m p s):Nat)),(38,Qf 0)],ly⟩ hn ?_ (λkey=>?_);rotate_left
 ·(try clear hn;try clear he)
  have fr:=(tB.rD.row _ (show aE m p s<D.length by omega)).2;rcases oH (D.getD (aE m p s) default).2 with h0|h0
  ·have e:=ON h0;rw[JD]at h0;rw[h0]at key;((try revert hK K);(repeat'(first|refine Va (X3 @fv @fa @e) ?_|(refine V2 (X3 @fv @fa @e) ?_ ?_<;>try with_reducible intro hb)|(refine Xi ?_ ?_<;>try intro ht)|refine VD ?_ ?_|exact Xx|fail))<;>try with_reducible intro K hK)
   refine key _ ?_;exact Xv X0
  ·have e:=BQ h0;have fr:=fr h0;rw[JD]at e;((try revert hK K);(repeat'(first|refine Va (X4 @fv @fa @e @fr) ?_|(refine V2 (X4 @fv @fa @e @fr) ?_ ?_<;>try with_reducible intro hb)|(refine Xi ?_ ?_<;>try intro ht)|refine VD ?_ ?_|exact Xx|fail))<;>try with_reducible intro K hK)
   refine key _ ?_;exact Xv X0
 (try clear hn;try clear he)
 try(try clear Q)
 clear fv fa;((try revert hK K);(repeat'(first|refine Va X0 ?_|(refine V2 X0 ?_ ?_<;>try with_reducible intro hb)|(refine Xi ?_ ?_<;>try intro ht)|refine VD ?_ ?_|exact Xx|fail))<;>try with_reducible intro K hK)
 refine aR (λz:Nat×List Ob=>(⟨ao [(0,.ptr gi 0 0),(1,Qf p),(2,Qf s),(6,Qf (aE m p s:Nat)),(7,Qf (aE m p (1-s):Nat)),(37,Qf (cN m (aE m p s):Nat)),(38,Qf z.1)],z.2⟩:St))
  (λz=>z.1<=cN m (aE m p s)/\WF m can gi ai bi mi D E (lN m can W p s z.1) z.2/\Kp mi D E os z.2)
  (λz=>cN m (aE m p s)-z.1) (0,ly) ⟨aS _,tB,fP⟩ (Xv X0) ?_
 clear tB fP ly;rintro⟨i,ok⟩⟨hi,hM,bf⟩Ql ak aq;dsimp only at hi hM bf ⊢;have fv:=hM.v;have fa:=hM.a;obtain⟨rl,rr⟩:=hM.rD.row (aE m p s) GK;by_cases ar:i<cN m (aE m p s)
 ·have rr:=rr GK;have eD:=BQ (q:=D.getD (aE m p s) default) GK;have gF:=(bA i).ob (aE m p s) i;have rH:=ab3 hm hM (OK i) (B:=B+12884901888*i) GK (bA i) hp jr ar (amt:=-oW (lN m can W p s i) (aE m p s) i) GK;have JF:=sA i;have BI:((lN m can W p s i).own.getD (aE m p s) default).getD i 0=oW (lN m can W p s i) (aE m p s) i:=rfl;generalize uR:lN m can W p s (i+1)=W1 at *;have Mq:i<24:=GK;by_cases fj:yv can (aE m p s) i=true
  ·rw[if_pos fj]at JF;have aT:(can.getD (aE m p s) default).getD i false=true:=fj;generalize oW (lN m can W p s i) (aE m p s) i=ow at *;generalize (lN m can W p s i).own.getD (aE m p s) default=row at *;repeat'(first|((fail_if_success (first|refine eM 5 ?_|refine eN 5 ?_));refine Xr (X4 @fv @yP @aT @aC.eq_1) ?_;intro K hK)|refine Xo (X4 @fv @yP @aT @aC.eq_1) ?_|(refine hK _ ?_;clear hK K)|(refine Xg (X4 @fv @yP @aT @aC.eq_1) ?_ ?_<;>try intro hb)|(refine Xi ?_ ?_<;>try intro ht)|refine Xy ?_|refine Xd ?_ ?_|exact Xx|fail)
   refine oa 15 GS _ rfl ?_;intro K hK;simp(disch:=omega)only[Ac,↓Pc,simprocAttr,ja,eR,fv,fa,eD,rr,BI];repeat'(first|with_reducible refine c6 ?_ ?_|omega|with_reducible rfl)
   refine⟨rfl,(show j1 Tryz.prog 103 [.ptr gi 0 0,Qf p,Qf s,Qf i,Qf (-ow)] (some 66) _ _ from ?_)⟩;refine rS rH ?_;rintro r kT⟨rfl,yQ,gx⟩;refine⟨gx.len,?_⟩;simp(disch:=omega)only[Ac,↓Pc,simprocAttr,eR];refine hK _ ?_;clear hK K;repeat(first|refine Xu ?_)
   ((try revert hK K);(repeat'(first|refine Va X0 ?_|(refine V2 X0 ?_ ?_<;>try with_reducible intro hb)|(refine Xi ?_ ?_<;>try intro ht)|refine VD ?_ ?_|exact Xx|fail))<;>try with_reducible intro K hK)
   exact ak _ (i+1,kT) ⟨PW,by dsimp only;rw[uR,JF];exact yQ,bf.trans gx⟩ PW (Xv X0)
  ·rw[if_neg fj]at JF;have aT:(can.getD (aE m p s) default).getD i false=false:=by simpa [yv] using fj
   ((try revert hK K);(repeat'(first|refine Va (X4 @fv @yP @aT @aC.eq_1) ?_|(refine V2 (X4 @fv @yP @aT @aC.eq_1) ?_ ?_<;>try with_reducible intro hb)|(refine Xi ?_ ?_<;>try intro ht)|refine VD ?_ ?_|exact Xx|fail))<;>try with_reducible intro K hK)
   exact ak _ (i+1,ok) ⟨PW,by dsimp only;rw[uR,JF];exact hM,bf⟩ PW (Xv X0)
 ·obtain rfl:i=cN m (aE m p s):=GK;((try revert hK K);(repeat'(first|refine Va X0 ?_|(refine V2 X0 ?_ ?_<;>try with_reducible intro hb)|(refine Xi ?_ ?_<;>try intro ht)|refine VD ?_ ?_|exact Xx|fail))<;>try with_reducible intro K hK)
  refine aq _ _ rfl ?_;clear ak aq Ql;repeat(first|refine Xu ?_)
  clear fv fa rl rr;have alK:=OK (cN m (aE m p s));have alL:=(bA (cN m (aE m p s))).mono (C:=B+309237645312) GK;rw[hwp];clear sA s0 hwp OK bA hs hW;generalize lN m can W p s (cN m (aE m p s))=WA at *;have shB:=λi=>JG (can:=can) alK p s i;have bB:=λi=>OO (can:=can) hm GK alL p s i;have sB:∀ i,jS m can WA p s (i+1)=_:=λi=>jS.eq_2 ..;have fv:=hM.v;have fa:=hM.a;refine Xk ?_;refine vW ?_;intro Q hn he;refine ph ⟨ao [(0,.ptr gi 0 0),(1,Qf p),(2,Qf s),(6,Qf (aE m p s:Nat)),(7,Qf (aE m p (1-s):Nat)),(75,Qf (cN m (aE m p (1-s)):Nat)),(76,Qf 0)],ok⟩ hn ?_ (λkey=>?_);rotate_left
  ·(try clear hn;try clear he)
   have fr:=(hM.rD.row _ (show aE m p (1-s)<D.length by omega)).2;rcases oH (D.getD (aE m p (1-s)) default).2 with h0|h0
   ·have e:=ON h0;rw[JE]at h0;rw[h0]at key;((try revert hK K);(repeat'(first|refine Va (X3 @fv @fa @e) ?_|(refine V2 (X3 @fv @fa @e) ?_ ?_<;>try with_reducible intro hb)|(refine Xi ?_ ?_<;>try intro ht)|refine VD ?_ ?_|exact Xx|fail))<;>try with_reducible intro K hK)
    refine key _ ?_;exact Xv X0
   ·have e:=BQ h0;have fr:=fr h0;rw[JE]at e;((try revert hK K);(repeat'(first|refine Va (X4 @fv @fa @e @fr) ?_|(refine V2 (X4 @fv @fa @e @fr) ?_ ?_<;>try with_reducible intro hb)|(refine Xi ?_ ?_<;>try intro ht)|refine VD ?_ ?_|exact Xx|fail))<;>try with_reducible intro K hK)
    refine key _ ?_;exact Xv X0
  (try clear hn;try clear he)
  try(try clear Q)
  clear fv fa;((try revert hK K);(repeat'(first|refine Va X0 ?_|(refine V2 X0 ?_ ?_<;>try with_reducible intro hb)|(refine Xi ?_ ?_<;>try intro ht)|refine VD ?_ ?_|exact Xx|fail))<;>try with_reducible intro K hK)
  refine aR (λz:Nat×List Ob=>(⟨ao [(0,.ptr gi 0 0),(1,Qf p),(2,Qf s),(6,Qf (aE m p s:Nat)),(7,Qf (aE m p (1-s):Nat)),(75,Qf (cN m (aE m p (1-s)):Nat)),(76,Qf z.1)],z.2⟩:St))
   (λz=>z.1<=cN m (aE m p (1-s))/\WF m can gi ai bi mi D E (jS m can WA p s z.1) z.2/\Kp mi D E os z.2)
   (λz=>cN m (aE m p (1-s))-z.1) (0,ok) ⟨aS _,hM,bf⟩ (Xv X0) ?_
  clear hM bf ok;rintro⟨k,ok⟩⟨hk,hM,bf⟩Ql ak aq;dsimp only at hk hM bf ⊢;by_cases bg:k<cN m (aE m p (1-s))
  ·have Mq:k<24:=GK;have JH:=sB k;have OP:=λi=>ab5 (can:=can) (m:=m) GK (bB k) p s k i;have rH:=ab3 hm hM (shB k) (B:=B+309237645312+12884901888*k) GK (bB k) hp (s:=1-s) GK bg (amt:=Dh (pM m can (jS m can WA p s k) p s k (cN m (aE m p s)))) (by have:=OP (cN m (aE m p s));unfold Dh;split<;>omega);have hsk:=shB k;generalize uR:jS m can WA p s (k+1)=W1 at *;have fv:=hM.v;have fa:=hM.a;by_cases fj:yv can (aE m p (1-s)) k=true
   ·rw[if_pos fj]at JH;have aT:(can.getD (aE m p (1-s)) default).getD k false=true:=fj;repeat'(first|((fail_if_success (first|refine eM 12 ?_|refine eN 12 ?_));refine Xr (X4 @fv @Gc @aT @aC.eq_1) ?_;intro K hK)|refine Xo (X4 @fv @Gc @aT @aC.eq_1) ?_|(refine hK _ ?_;clear hK K)|(refine Xg (X4 @fv @Gc @aT @aC.eq_1) ?_ ?_<;>try intro hb)|(refine Xi ?_ ?_<;>try intro ht)|refine Xy ?_|refine Xd ?_ ?_|exact Xx|fail)
    refine vW ?_;intro Q hn he;refine ph ⟨ao [(0,.ptr gi 0 0),(1,Qf p),(2,Qf s),(6,Qf (aE m p s:Nat)),(7,Qf (aE m p (1-s):Nat)),(9,Qf k),(10,Qf 1099511627776),(75,Qf (cN m (aE m p (1-s)):Nat)),(76,Qf k),(97,Qf (cN m (aE m p s):Nat)),(98,Qf 0)],ok⟩ hn ?_ (λkey=>?_);rotate_left
    ·(try clear hn;try clear he)
     have fr:=(hM.rD.row _ (show aE m p s<D.length by omega)).2;rcases oH (D.getD (aE m p s) default).2 with h0|h0
     ·have e:=ON h0;rw[JD]at h0;rw[h0]at key;((try revert hK K);(repeat'(first|refine Va (X3 @fv @fa @e) ?_|(refine V2 (X3 @fv @fa @e) ?_ ?_<;>try with_reducible intro hb)|(refine Xi ?_ ?_<;>try intro ht)|refine VD ?_ ?_|exact Xx|fail))<;>try with_reducible intro K hK)
      refine key _ ?_;exact Xv X0
     ·have e:=BQ h0;have fr:=fr h0;rw[JD]at e;((try revert hK K);(repeat'(first|refine Va (X4 @fv @fa @e @fr) ?_|(refine V2 (X4 @fv @fa @e @fr) ?_ ?_<;>try with_reducible intro hb)|(refine Xi ?_ ?_<;>try intro ht)|refine VD ?_ ?_|exact Xx|fail))<;>try with_reducible intro K hK)
      refine key _ ?_;exact Xv X0
    (try clear hn;try clear he)
    try(try clear Q)
    ((try revert hK K);(repeat'(first|refine Va X0 ?_|(refine V2 X0 ?_ ?_<;>try with_reducible intro hb)|(refine Xi ?_ ?_<;>try intro ht)|refine VD ?_ ?_|exact Xx|fail))<;>try with_reducible intro K hK)
    have hl0:pM m can (jS m can WA p s k) p s k 0=1099511627776:=rfl;have xG:∀ i,pM m can (jS m can WA p s k) p s k (i+1)=_:=λi=>pM.eq_2 ..;have ot:∀ i,i<cN m (aE m p s)->km m p s i k<(cS m p).ay.length:=λi hi=>ab7 hm hp jr hi bg;have hE:E.length=m.ae.length:=hM.rE.len.trans hsk.tl;obtain⟨tl,tr⟩:=hM.rE.row p GK;have oz:=hsk.tr p hp;have FK:=(bB k).tb p;have fR:m.ae.getD p default=cS m p:=rfl;have v7:∀ j,((jS m can WA p s k).ay.getD p default).getD j 0=Br (jS m can WA p s k) p j:=λj=>rfl;have fb:=hM.b;refine aR (λi:Nat=>(⟨ao [(0,.ptr gi 0 0),(1,Qf p),(2,Qf s),(6,Qf (aE m p s:Nat)),(7,Qf (aE m p (1-s):Nat)),(9,Qf k),(10,Qf (pM m can (jS m can WA p s k) p s k i)),(75,Qf (cN m (aE m p (1-s)):Nat)),(76,Qf k),(97,Qf (cN m (aE m p s):Nat)),(98,Qf i)],ok⟩:St))
     (λi=>i<=cN m (aE m p s)) (λi=>cN m (aE m p s)-i) 0 (aS _) (by rw[hl0];exact Xv X0) ?_
    rintro i qq cJ bj br;have apt:=OP i;by_cases hi3:i<cN m (aE m p s)
    ·have hA:=ab8 hm hM hp (s:=s) (o:=i) (k:=k) GK Mq;have A9:=ot i hi3;have lZ:=xG i;have tr:=tr GK;have eE:=BQ (q:=E.getD p default) GK;have htj:=FK (km m p s i k);have JI:=v7 (km m p s i k);generalize vH:pM m can (jS m can WA p s k) p s k (i+1)=l1 at *;generalize pM m can (jS m can WA p s k) p s k i=l0 at *;generalize Br (jS m can WA p s k) p (km m p s i k)=tj at *;generalize (jS m can WA p s k).ay.getD p default=apv at *;generalize km m p s i k=av at *;generalize cS m p=pp at *;generalize wP:pp.ay.getD av 0=pe at *;have JJ:(can.getD (aE m p s) default).getD i false=yv can (aE m p s) i:=rfl;generalize yv can (aE m p s) i=cb at *;by_cases hq:cb=true/\pe≠1099511627776
     ·rw[if_pos hq]at lZ;obtain⟨rfl,I'⟩:=hq;((try revert hK K);(repeat'(first|refine Va X0 ?_|(refine V2 X0 ?_ ?_<;>try with_reducible intro hb)|(refine Xi ?_ ?_<;>try intro ht)|refine VD ?_ ?_|exact Xx|fail))<;>try with_reducible intro K hK)
      refine fZ hA GM ?_;((try revert hK K);(repeat'(first|refine Va (X5 @fv @fb @eE @tr (X5 @fR @aI.eq_1 @wP @JI (X3 @yP @JJ @aC.eq_1))) ?_|(refine V2 (X5 @fv @fb @eE @tr (X5 @fR @aI.eq_1 @wP @JI (X3 @yP @JJ @aC.eq_1))) ?_ ?_<;>try with_reducible intro hb)|(refine Xi ?_ ?_<;>try intro ht)|refine VD ?_ ?_|exact Xx|fail))<;>try with_reducible intro K hK)
      all_goals try(exfalso;omega)
      all_goals exact bj _ (i+1) GK GK (by rw[vH,lZ];exact Xv X0)
     ·rw[if_neg hq]at lZ;((try revert hK K);(repeat'(first|refine Va X0 ?_|(refine V2 X0 ?_ ?_<;>try with_reducible intro hb)|(refine Xi ?_ ?_<;>try intro ht)|refine VD ?_ ?_|exact Xx|fail))<;>try with_reducible intro K hK)
      refine fZ hA GM ?_;((try revert hK K);(repeat'(first|refine Va (X5 @fv @fb @eE @tr (X5 @fR @aI.eq_1 @wP @JI (X3 @yP @JJ @aC.eq_1))) ?_|(refine V2 (X5 @fv @fb @eE @tr (X5 @fR @aI.eq_1 @wP @JI (X3 @yP @JJ @aC.eq_1))) ?_ ?_<;>try with_reducible intro hb)|(refine Xi ?_ ?_<;>try intro ht)|refine VD ?_ ?_|exact Xx|fail))<;>try with_reducible intro K hK)
      all_goals first
       |exact bj _ (i+1) GK GK (by rw[vH,lZ];exact Xv X0)
       |exact absurd ⟨by assumption,by assumption⟩ hq
    ·obtain rfl:i=cN m (aE m p s):=GK;((try revert hK K);(repeat'(first|refine Va X0 ?_|(refine V2 X0 ?_ ?_<;>try with_reducible intro hb)|(refine Xi ?_ ?_<;>try intro ht)|refine VD ?_ ?_|exact Xx|fail))<;>try with_reducible intro K hK)
     refine br _ _ rfl ?_;clear bj br cJ;repeat(first|refine Xu ?_)
     clear OP hl0 xG ot FK v7 fv fa fb tl tr;have jL:Dh (pM m can (jS m can WA p s k) p s k (cN m (aE m p s)))=_:=Dh.eq_1 _;generalize pM m can (jS m can WA p s k) p s k (cN m (aE m p s))=L at *;generalize Dh L=amt at *;by_cases hL:L=1099511627776;all_goals
      first|rw[if_pos hL]at jL|rw[if_neg hL]at jL
      repeat'(first|((fail_if_success (first|refine eM 21 ?_|refine eN 21 ?_));refine Xr @hL ?_;intro K hK)|refine Xo @hL ?_|(refine hK _ ?_;clear hK K)|(refine Xg @hL ?_ ?_<;>try intro hb)|(refine Xi ?_ ?_<;>try intro ht)|refine Xy ?_|refine Xd ?_ ?_|exact Xx|fail)
      all_goals try(exfalso;omega)
      refine oa 6 GS _ rfl ?_;intro K hK;simp(disch:=omega)only[Ac,↓Pc,simprocAttr,ja,eR,hsi];repeat'(first|with_reducible refine c6 ?_ ?_|omega|with_reducible rfl)
      rw[<- jL];refine⟨rfl,(show j1 Tryz.prog 103 [.ptr gi 0 0,Qf p,Qf (1-s:Nat),Qf k,Qf amt] (some 153) _ _ from ?_)⟩;refine rS rH ?_;rintro r kT⟨rfl,yQ,gx⟩;refine⟨gx.len,?_⟩;simp(disch:=omega)only[Ac,↓Pc,simprocAttr,eR];refine hK _ ?_;clear hK K;repeat(first|refine Xu ?_)
      ((try revert hK K);(repeat'(first|refine Va X0 ?_|(refine V2 X0 ?_ ?_<;>try with_reducible intro hb)|(refine Xi ?_ ?_<;>try intro ht)|refine VD ?_ ?_|exact Xx|fail))<;>try with_reducible intro K hK)
      exact ak _ (k+1,kT) ⟨PW,by dsimp only;rw[uR,JH];exact yQ,bf.trans gx⟩ PW (Xv X0)
   ·rw[if_neg fj]at JH;have aT:(can.getD (aE m p (1-s)) default).getD k false=false:=by simpa [yv] using fj
    ((try revert hK K);(repeat'(first|refine Va (X4 @fv @Gc @aT @aC.eq_1) ?_|(refine V2 (X4 @fv @Gc @aT @aC.eq_1) ?_ ?_<;>try with_reducible intro hb)|(refine Xi ?_ ?_<;>try intro ht)|refine VD ?_ ?_|exact Xx|fail))<;>try with_reducible intro K hK)
    exact ak _ (k+1,ok) ⟨PW,by dsimp only;rw[uR,JH];exact hM,bf⟩ PW (Xv X0)
  ·obtain rfl:k=cN m (aE m p (1-s)):=GK;((try revert hK K);(repeat'(first|refine Va X0 ?_|(refine V2 X0 ?_ ?_<;>try with_reducible intro hb)|(refine Xi ?_ ?_<;>try intro ht)|refine VD ?_ ?_|exact Xx|fail))<;>try with_reducible intro K hK)
   refine aq _ _ rfl ?_;clear ak aq Ql;repeat(first|refine Xu ?_)
   ((try revert hK K);(repeat'(first|refine Vb X0 ?_|(refine V2 X0 ?_ ?_<;>try with_reducible intro hb)|(refine Xi ?_ ?_<;>try intro ht)|refine VD ?_ ?_|exact Xx|fail))<;>try with_reducible intro K hK)
   unfold eU;simp only[dI,dE];exact⟨.bD [],_,⟨rfl,hM,bf⟩,eF rfl bf.len rfl⟩
end
def F3:ty Tryz.prog 88 = { kind:=9,size:=1,bytes:=8,elem:=0,len:=0,zero:=some [.nilFunc],aQ:=[] }:=by kernel_rfl
section
variable {m:ah} {can:List (List Bool)} {gi ai bi mi:Nat} {D E:List (Nat×Nat)} {si sa kv wi kx:Nat} {cT:List (List Int)}
def ak3(hm:VM m)(hf:dh m can)(Gd:UN gi ai bi mi D E si sa kv wi kx)(yH:cT.length=m.cls.length)(qo:∀ c,c<m.cls.length->(cT.getD c default).length<9223372036854775808/\∀ x∈cT.getD c default,0<=x/\x<m.ae.length):
  ∀ (f:Nat) (st:WS×List Bool) (c:Nat) (os:List Ob) (B:Int),m.cls.length-nT st.2<=f->c<m.cls.length->st.2.getD c false=false->st.2.length=m.cls.length->WF m can gi ai bi mi D E st.1 os->UF 70 gi si sa kv wi kx cT st.2 os->nG m st.1 ->
   0<=B+618475290624*(nT st.2:Nat)->B<=576460752303423488->WB (B+618475290624*(nT st.2:Nat)) st.1 ->
   cX Tryz.prog 70 [Qf c,.ptr si 0 0,.ptr kv 0 0,.ptr wi 0 0,.ptr kx 0 0] os λr ob=>r=.bD []/\WF m can gi ai bi mi D E (jm m can cT f st c).1 ob/\UF 70 gi si sa kv wi kx cT (jm m can cT f st c).2 ob/\Kp mi ((sa,0)::D) E os ob/\UO m B 1 st (jm m can cT f st c):=by
 intro f
 induction f with
 |zero =>
  intro st c os B h0 hc hs hl;have:=alN GK hs;omega
 |succ f ih =>
  intro st c os B h0 hc hs hl hW hU rG hB oC JK;have oT:=hm.cls;have pT:=hm.ae;have fs:=hU.s;have fa:=hU.a;have hnt:=alP GK hs;have ab9:=OB (st.2.set c true);rw[List.length_set,hl]at ab9;obtain⟨n1,n2,n3,n4,n5,n6,n7⟩:=Gd.sa;have uR:=hW.other ⟨n1,n2,n3,(Gd.out sa GM).1⟩ (Gd.out sa GM).2 (.arr 1 (a8 (st.2.set c true)));have OQ:=hU.set Gd (s2:=st.2.set c true) GM;have fP:Kp mi ((sa,0)::D) E os (os.set sa (.arr 1 (a8 (st.2.set c true)))):=(Kp.refl mi _ E os).put _;have hO1:UO m B 1 st (st.1,st.2.set c true):=⟨by simpa using hl,rG,JK.mono PW,PW,λj hj=>by
   dsimp only;by_cases e:c=j
   ·subst e;simp[az,List.getElem?_set,hl,hc]
   ·rw[az,List.getElem?_set_ne e,<- az];exact hj⟩
  rw[alQ];obtain⟨fN,qw⟩:=qo c hc;have hbc:(fM cT)[c]?=some [.tree 1 (ints (cT.getD c default))]:=KS cT c GK;generalize kH:cT.getD c default=l at *;have aca:cT.getD c []=l:=kH;have OR:=OQ.b;refine cX.aM 49 os.length [] Tryz.func70 ?_;((try revert hK K);(repeat'(first|refine Va (X4 @fs @fa @OR @aca) ?_|(refine V2 (X4 @fs @fa @OR @aca) ?_ ?_<;>try with_reducible intro hb)|(refine Xi ?_ ?_<;>try intro ht)|refine VD ?_ ?_|exact Xx|fail))<;>try with_reducible intro K hK)
  have xp:xI m can (jm m can cT f) (st.1,st.2.set c true) (l.take 0)=(st.1,st.2.set c true):=rfl;refine aR (λz:Nat×List Ob=>(⟨ao [(1,.ptr si 0 0),(2,.ptr kv 0 0),(3,.ptr wi 0 0),(4,.ptr kx 0 0),(17,.tree 1 (ints l)),(18,Qf l.length),(19,Qf z.1)],z.2⟩:St))
   (λz=>z.1<=l.length/\WF m can gi ai bi mi D E (xI m can (jm m can cT f) (st.1,st.2.set c true) (l.take z.1)).1 z.2/\UF 70 gi si sa kv wi kx cT (xI m can (jm m can cT f) (st.1,st.2.set c true) (l.take z.1)).2 z.2/\Kp mi ((sa,0)::D) E os z.2/\UO m B 1 st (xI m can (jm m can cT f) (st.1,st.2.set c true) (l.take z.1)))
   (λz=>l.length-z.1) (0,os.set sa (.arr 1 (a8 (st.2.set c true)))) ⟨aS _,by dsimp only;rw[xp];exact uR,by dsimp only;rw[xp];exact OQ,fP,by dsimp only;rw[xp];exact hO1⟩ (Xv X0) ?_
  clear uR OQ fP hO1 xp fs fa OR hnt ab9 hW hU;rintro⟨j,ob⟩⟨hj,hW,hU,bf,hO⟩Ql ak aq;dsimp only at hj hW hU bf hO ⊢;by_cases fe:j<l.length
  ·have fc:=alR m can (jm m can cT f) (st.1,st.2.set c true) fe;obtain⟨hx0,C2⟩:=qw (l.getD j default) (aF fe);generalize hx3:l.getD j default=x at *;have AR:l.getD j 0=x:=hx3;generalize uR:xI m can (jm m can cT f) (st.1,st.2.set c true) (l.take (j+1))=r1 at *;generalize xI m can (jm m can cT f) (st.1,st.2.set c true) (l.take j)=sj at *;obtain⟨p,rfl⟩:∃p:Nat,x=p:=⟨x.toNat,GK⟩;rw[Int.toNat_natCast]at fc;have hp:p<m.ae.length:=GK;obtain⟨dO,q1,q2,q3,q4,q5⟩:=Ae hm hp;have he:=Ga hm hW hp;have fw:=hU.w;have tD:=hW.app [.gone,.gone,.gone,.gone];have hU2:=hU.app [.gone,.gone,.gone,.gone];have acd:=bf.app [.gone,.gone,.gone,.gone];have e0:(cS m p).fst=((aE m p 0:Nat):Int):=by show _=((cS m p).fst.toNat:Int);omega
   have e1:(cS m p).snd=((aE m p 1:Nat):Int):=by show _=((cS m p).snd.toNat:Int);omega
   rw[e0,e1]at he;have hEq:∀ s,s<2->([[.tree 1 (ints [((aE m p 0:Nat):Int)])],[.tree 1 (ints [((aE m p 1:Nat):Int)])]]:List (List AV))[s]?=some [.tree 1 (ints [((aE m p s:Nat):Int)])]:=λs hs=>by
    rcases(show s=0\/s=1 by omega) with rfl|rfl<;>rfl
   have Ab:([[.tree 1 (ints [((aE m p 0:Nat):Int)])],[.tree 1 (ints [((aE m p 1:Nat):Int)])]]:List (List AV)).length=2:=rfl;generalize ([[.tree 1 (ints [((aE m p 0:Nat):Int)])],[.tree 1 (ints [((aE m p 1:Nat):Int)])]]:List (List AV))=EN at *;have bK:∀ s,s<2->aE m p s<m.cls.length:=λs hs=>by
    rcases(show s=0\/s=1 by omega) with rfl|rfl
    ·exact q1
    ·exact q2
   repeat'(first|((fail_if_success (first|refine eM 4 ?_|refine eN 4 ?_));refine Xr @AR ?_;intro K hK)|refine Xo @AR ?_|(refine hK _ ?_;clear hK K)|(refine Xg @AR ?_ ?_<;>try intro hb)|(refine Xi ?_ ?_<;>try intro ht)|refine Xy ?_|refine Xd ?_ ?_|exact Xx|fail)
   ((try revert hK K);(repeat'(first|refine Va @fw ?_|(refine V2 @fw ?_ ?_<;>try with_reducible intro hb)|(refine Xi ?_ ?_<;>try intro ht)|refine VD ?_ ?_|exact Xx|fail))<;>try with_reducible intro K hK)
   refine fZ he GM ?_;((try revert hK K);(repeat'(first|refine Va @Ab ?_|(refine V2 @Ab ?_ ?_<;>try with_reducible intro hb)|(refine Xi ?_ ?_<;>try intro ht)|refine VD ?_ ?_|exact Xx|fail))<;>try with_reducible intro K hK)
   have yo:wa m can (jm m can cT f) sj p 0=sj:=rfl;have xC:∀ s,wa m can (jm m can cT f) sj p (s+1)=Bt m can (jm m can cT f) (wa m can (jm m can cT f) sj p s) p s:=λs=>rfl;refine aR (λz:Nat×List Ob=>(⟨ao [(1,.ptr si 0 0),(2,.ptr kv 0 0),(3,.ptr wi 0 0),(4,.ptr kx 0 0),(7,Qf p),(17,.tree 1 (ints l)),(18,Qf l.length),(19,Qf j),(25,.tree 1 EN),(26,Qf 2),(27,Qf z.1)],z.2⟩:St))
    (λz=>z.1<=2/\WF m can gi ai bi mi D E (wa m can (jm m can cT f) sj p z.1).1 z.2/\UF 70 gi si sa kv wi kx cT (wa m can (jm m can cT f) sj p z.1).2 z.2/\Kp mi ((sa,0)::D) E os z.2/\UO m B 1 st (wa m can (jm m can cT f) sj p z.1))
    (λz=>2-z.1) (0,ob++[.gone,.gone,.gone,.gone]) ⟨PW,by dsimp only;rw[yo];exact tD,by dsimp only;rw[yo];exact hU2,acd,by dsimp only;rw[yo];exact hO⟩ (Xv X0) ?_
   (try clear he;clear tD hU2 acd hO hW hU bf fw yo)
   rintro⟨s,ob⟩⟨kC,hW,hU,bf,hO⟩cJ bj br;dsimp only at kC hW hU bf hO ⊢;by_cases iO:s<2
   ·have Ge:EN.getD s []=[.tree 1 (ints [((aE m p s:Nat):Int)])]:=by rw[az,hEq s iO];rfl
    have tv:=bK s iO;have oP:=xC s;unfold Bt at oP;generalize tD:wa m can (jm m can cT f) sj p (s+1)=r2 at *;generalize wa m can (jm m can cT f) sj p s=sk at *;have fs:=hU.s;have fa:=hU.a;have fw:=hU.w;have fu:=hU.u;have eG:=hO.len;generalize iK:aE m p s=kc at *;by_cases xF:sk.2.getD kc false=true
    ·rw[if_pos xF]at oP;((try revert hK K);(repeat'(first|refine Va (X5 @Ge @Ab @fs @fa @xF) ?_|(refine V2 (X5 @Ge @Ab @fs @fa @xF) ?_ ?_<;>try with_reducible intro hb)|(refine Xi ?_ ?_<;>try intro ht)|refine VD ?_ ?_|exact Xx|fail))<;>try with_reducible intro K hK)
     exact bj _ (s+1,ob) ⟨PW,by dsimp only;rw[tD,oP];exact hW,by dsimp only;rw[tD,oP];exact hU,bf,by dsimp only;rw[tD,oP];exact hO⟩ PW (Xv X0)
    ·rw[if_neg xF]at oP;have JL:sk.2.getD kc false=false:=by simpa using xF
     repeat'(first|((fail_if_success (first|refine eM 9 ?_|refine eN 9 ?_));refine Xr (X5 @Ge @Ab @fs @fa @JL) ?_;intro K hK)|refine Xo (X5 @Ge @Ab @fs @fa @JL) ?_|(refine hK _ ?_;clear hK K)|(refine Xg (X5 @Ge @Ab @fs @fa @JL) ?_ ?_<;>try intro hb)|(refine Xi ?_ ?_<;>try intro ht)|refine Xy ?_|refine Xd ?_ ?_|exact Xx|fail)
     have hih:=ih sk kc ob (B-618475290624) (by have:=hO.up;omega) tv JL eG hW hU hO.sh (by have:=hO.up;omega) GK (hO.wb.mono GK);generalize jm m can cT f sk kc=s3 at *;refine oa 2 GS _ rfl ?_;intro K hK;simp(disch:=omega)only[Ac,↓Pc,simprocAttr,ja,eR,fu,F3];repeat'(first|with_reducible refine c6 ?_ ?_|omega|with_reducible rfl)
     refine⟨rfl,(show j1 Tryz.prog 70 [Qf kc,.ptr si 0 0,.ptr kv 0 0,.ptr wi 0 0,.ptr kx 0 0] (some 42) _ _ from ?_)⟩;refine rS hih ?_;rintro r kT⟨rfl,OS,hU3,gx,Ah⟩;refine⟨gx.len,?_⟩;simp(disch:=omega)only[Ac,↓Pc,simprocAttr,eR];refine hK _ ?_;clear hK K;repeat(first|refine Xu ?_)
     have hO4:=hO.up;have hO5:=Ah.up;have hO6:=OB s3.2;rw[Ah.len]at hO6;have gk:=alJ hm hf OS Ah.sh (B:=B-618475290624+618475290624*(nT s3.2:Nat)-618475290624) ⟨GK,GK⟩ (Ah.wb.mono GK) hp (s:=s) GK;have fw3:=hU3.w;refine oa 3 GS _ rfl ?_;intro K hK;simp(disch:=omega)only[Ac,↓Pc,simprocAttr,ja,eR,fw3];repeat'(first|with_reducible refine c6 ?_ ?_|omega|with_reducible rfl)
     refine⟨rfl,(show j1 Tryz.prog 72 [.ptr gi 0 0,Qf p,Qf s] (some 46) _ _ from ?_)⟩;refine rS gk ?_;rintro r ob4⟨rfl,hW4,uN⟩;refine⟨uN.len,?_⟩;simp(disch:=omega)only[Ac,↓Pc,simprocAttr,eR];refine hK _ ?_;clear hK K;repeat(first|refine Xu ?_)
     ((try revert hK K);(repeat'(first|refine Va X0 ?_|(refine V2 X0 ?_ ?_<;>try with_reducible intro hb)|(refine Xi ?_ ?_<;>try intro ht)|refine VD ?_ ?_|exact Xx|fail))<;>try with_reducible intro K hK)
     have hU4:=hU3.kp Gd uN;have hO7:UO m B 1 st (Bs m can s3.1 p s,s3.2):=⟨Ah.len,al1 Ah.sh p s,(al2 (can:=can) hm GK Ah.wb p s).mono PW,PW,λj hj=>Ah.mono j (hO.mono j hj)⟩;exact bj _ (s+1,ob4) ⟨PW,by dsimp only;rw[tD,oP];exact hW4,by dsimp only;rw[tD,oP];exact hU4,(bf.trans gx).trans (uN.wide _),by dsimp only;rw[tD,oP];exact hO7⟩ PW (Xv X0)
   ·obtain rfl:s=2:=GK;((try revert hK K);(repeat'(first|refine Va X0 ?_|(refine V2 X0 ?_ ?_<;>try with_reducible intro hb)|(refine Xi ?_ ?_<;>try intro ht)|refine VD ?_ ?_|exact Xx|fail))<;>try with_reducible intro K hK)
    refine br _ _ rfl ?_;clear bj br cJ;repeat(first|refine Xu ?_)
    ((try revert hK K);(repeat'(first|refine Va X0 ?_|(refine V2 X0 ?_ ?_<;>try with_reducible intro hb)|(refine Xi ?_ ?_<;>try intro ht)|refine VD ?_ ?_|exact Xx|fail))<;>try with_reducible intro K hK)
    rw[<- fc]at hW hU hO;exact ak _ (j+1,ob) ⟨PW,by dsimp only;rw[uR];exact hW,by dsimp only;rw[uR];exact hU,bf,by dsimp only;rw[uR];exact hO⟩ PW (Xv X0)
  ·obtain rfl:j=l.length:=GK;((try revert hK K);(repeat'(first|refine Va X0 ?_|(refine V2 X0 ?_ ?_<;>try with_reducible intro hb)|(refine Xi ?_ ?_<;>try intro ht)|refine VD ?_ ?_|exact Xx|fail))<;>try with_reducible intro K hK)
   refine aq _ _ rfl ?_;clear ak aq Ql;repeat(first|refine Xu ?_)
   ((try revert hK K);(repeat'(first|refine Vb X0 ?_|(refine V2 X0 ?_ ?_<;>try with_reducible intro hb)|(refine Xi ?_ ?_<;>try intro ht)|refine VD ?_ ?_|exact Xx|fail))<;>try with_reducible intro K hK)
   unfold eU;simp only[dI,dE];rw[List.take_length]at hW hU hO;exact⟨.bD [],_,⟨rfl,hW,hU,bf,hO⟩,eF rfl bf.len rfl⟩
end
end T

