import Derived.Test.YtfoopmojjjpapaaGreatX25
import Derived.Test.YtfoopmojjjpapaaGreatX26
set_option linter.all false
set_option maxHeartbeats 0
set_option maxRecDepth 20000
open Nat renaming mul_le_mul→xE,le_refl→bc,lt_of_lt_of_le→Cn,mul_le_mul_right→mJ,zero_le→aT,eq_zero_or_pos→qU
open Int renaming mul_nonneg→rY
open List renaming append_assoc→bC,length_set→bK,getD_eq_getElem?_getD→aB,take→iv,drop→eC
open And renaming intro→cJ
open Go Go.Am Go.Proofs
namespace T
section
variable {m:ah} {can:List (List Bool)} {gi ai bi mi:Nat} {D E:List (Nat×Nat)} {W:WS} {os:List Ob}
def yJ(hm:VM m){p:Nat}(hp:p<m.ae.length):gB m (cN m p)=true/\(cN m p).fst.toNat<m.cls.length/\(cN m p).snd.toNat<m.cls.length/\0<=(cN m p).fst/\0<=(cN m p).snd/\(cN m p).fst<(cN m p).snd:=by
 have dN:=jQ hm.pr _ (aG (l:=m.ae) (i:=p) (d:=default) hp);obtain⟨_,h1,h2,h3,_⟩:=qz dN;exact⟨dN,by unfold cN;omega,by unfold cN;omega,h1,by unfold cN;omega,h2⟩
def Zn(hm:VM m)(h:WF m can gi ai bi mi D E W os){p s o k:Nat}(hp:p<m.ae.length)(ho:o<24)(hk:k<24):
  Holds Tryz.prog 104 [.ptr gi 0 0,NX p,NX s,NX o,NX k] os (NX (jU m p s o k:Nat)) os:=by
 obtain⟨dN,q1,q2,q3,q4,q5⟩:=yJ hm hp;have fv:=h.v;have oL:=hm.ae;have qG:=hm.cls;have hS:=hm.opt _ (aG (l:=m.cls) (i:=(cN m p).snd.toNat) (d:=default) q2);have gu:m.ae.getD p default=cN m p:=rfl;have e1:(if s=1 then k*(m.cls.getD (cN m p).snd.toNat default).length+o else o*(m.cls.getD (cN m p).snd.toNat default).length+k)=jU m p s o k:=rfl;generalize jU m p s o k=r at *;generalize mq:(m.cls.getD (cN m p).snd.toNat default).length=n2 at *;generalize cN m p=pp at *;have b1:(k:Int)*n2<=24*24:=by
  have:=xE (Nat.le_of_lt hk) hS
  exact_mod_cast this
 have b2:(o:Int)*n2<=24*24:=by
  have:=xE (Nat.le_of_lt ho) hS
  exact_mod_cast this
 have b3:(0:Int)<=(k:Int)*n2:=rY Iv Iv;have b4:(0:Int)<=(o:Int)*n2:=rY Iv Iv;refine Holds.aK 36 os.length [.tmp 10] Tryz.func104 ?_;((try revert hK K);(repeat'(first|refine Vb (X5 @fv @ao.eq_1 @aH.eq_1 @gu @mq) ?_|(refine V2 (X5 @fv @ao.eq_1 @aH.eq_1 @gu @mq) ?_ ?_<;>try with_reducible intro hb)|(refine Xi ?_ ?_<;>try intro ht)|refine VD ?_ ?_|exact Xx|fail))<;>try with_reducible intro K hK)
 all_goals try omega
 ·have e:(k:Int)*n2+o=(r:Nat):=by rw[<- e1,if_pos Iv];push_cast;rfl
  rw[e];exact ed rfl (bc _) rfl
 ·have e:(o:Int)*n2+k=(r:Nat):=by rw[<- e1,if_neg Iv];push_cast;rfl
  rw[e];exact ed rfl (bc _) rfl
def Ek(hm:VM m)(h:WF m can gi ai bi mi D E W os){p:Nat}(hp:p<m.ae.length):
  Holds Tryz.prog 71 [.ptr gi 0 0,NX p] os (.tree 1 [[.tree 1 (ints [(cN m p).fst])],[.tree 1 (ints [(cN m p).snd])]]) (os++[.gone,.gone,.gone,.gone]):=by
 obtain⟨dN,q1,q2,q3,q4,q5⟩:=yJ hm hp;have fv:=h.v;have eg:=aM fv;have oL:=hm.ae;have qG:=hm.cls;have gu:m.ae.getD p default=cN m p:=rfl;generalize cN m p=pp at *;refine Holds.aK 21 os.length [.tmp 4] Tryz.func71 ?_;repeat'(first|((fail_if_success (first|refine ei 2 ?_|refine ej 2 ?_));refine Xr (X5 @fv @ao.eq_1 @aH.eq_1 @gu (X2 @bF @bC.{0})) ?_;intro K hK)|refine Xo (X5 @fv @ao.eq_1 @aH.eq_1 @gu (X2 @bF @bC.{0})) ?_|(refine hK _ ?_;clear hK K)|(refine Xg (X5 @fv @ao.eq_1 @aH.eq_1 @gu (X2 @bF @bC.{0})) ?_ ?_<;>try intro hb)|(refine Xi ?_ ?_<;>try intro ht)|refine Xy ?_|refine Xd ?_ ?_|exact Xx|fail)
 all_goals try(exfalso;omega)
 refine Kj 7 NF ?_;intro K K1 hK yE;simp(disch:=omega)only[Ac,↓Pc,simprocAttr,bF,bC,aH];repeat'(first|with_reducible refine cJ ?_ ?_|omega|with_reducible rfl)
 refine yE _ ⟨an [(20,.tree 1 [[.tree 1 (ints [pp.fst])],[.tree 1 (ints [pp.snd])]])],os++[.gone,.gone,.gone,.gone]⟩ ?_ ?_
 ·refine aF.trans (σ1:=⟨an [(20,.ref (os.length+3) 1 0 2)],os++[.var (aH pp),.arr 1 [[NX pp.fst]],.arr 1 [[NX pp.snd]],.arr 1 [[.ref (os.length+1) 1 0 1],[.ref (os.length+2) 1 0 1]]]⟩) (Xv @aH.eq_1) ?_;refine aF.trans (aF.aje 20 (λi=>i<os.length) (v:=.tree 1 [[.tree 1 (ints [pp.fst])],[.tree 1 (ints [pp.snd])]]) (os2:=os++[.gone,.gone,.gone,.gone]) Iw (λi o hi=>?_) ?_) (Xv X0)
  ·dsimp only at hi;by_cases a6:i<os.length
   ·left;rw[List.getElem?_append_left a6]at hi ⊢;exact⟨a6,hi⟩
   ·right;have h4:=(List.getElem?_eq_some_iff.1 hi).1;simp only[List.length_append,List.length_cons,List.length_nil]at h4;refine⟨a6,?_⟩;rw[List.getElem?_append_right Iv];rcases(by omega:i-os.length=0\/i-os.length=1\/i-os.length=2\/i-os.length=3) with e|e|e|e<;>rw[e]<;>rfl
  ·refine cK.mk (rows:=[[.ref (os.length+1) 1 0 1],[.ref (os.length+2) 1 0 1]]) (by rw[kS];rfl) rfl Iv Iw ?_;exact⟨⟨cK.mk (rows:=[[NX pp.fst]]) (by rw[kS];rfl) rfl Iv (by simp[ints]) ⟨⟨.lit _,trivial⟩,trivial⟩,trivial⟩,⟨cK.mk (rows:=[[NX pp.snd]]) (by rw[kS];rfl) rfl Iv (by simp[ints]) ⟨⟨.lit _,trivial⟩,trivial⟩,trivial⟩,trivial⟩
 clear yE K1;simp(disch:=omega)only[Ac,↓Pc,simprocAttr];refine hK _ ?_;repeat(first|refine Xu ?_)
 ((try revert hK K);(repeat'(first|refine Vb X0 ?_|(refine V2 X0 ?_ ?_<;>try with_reducible intro hb)|(refine Xi ?_ ?_<;>try intro ht)|refine VD ?_ ?_|exact Xx|fail))<;>try with_reducible intro K hK)
 exact ed rfl Iw rfl
end
section
variable {m:ah} {can:List (List Bool)} {gi ai bi mi:Nat} {D E:List (Nat×Nat)} {W:WS} {os:List Ob}
def Zo(hm:VM m){p s o k:Nat}(hp:p<m.ae.length)(hs:s<=1)(ho:o<cF m (aD m p s))(hk:k<cF m (aD m p (1-s))):jU m p s o k<(cN m p).ax.length:=by
 obtain⟨dN,_⟩:=yJ hm hp;obtain⟨_,_,_,_,hl⟩:=qz dN;have jK:((cN m p).ax.length:Int)=(cF m (aD m p 0):Nat)*(cF m (aD m p 1):Nat):=hl;have q8:(cN m p).ax.length=cF m (aD m p 0)*cF m (aD m p 1):=by exact_mod_cast jK
 rw[q8];rcases(show s=0\/s=1 by omega) with rfl|rfl
 ·show o*cF m (aD m p 1)+k<_;exact Cn (Nat.add_lt_add_left hk _) (by rw[<- Nat.succ_mul];exact mJ _ ho)
 ·show k*cF m (aD m p 1)+o<_;exact Cn (Nat.add_lt_add_left ho _) (by rw[<- Nat.succ_mul];exact mJ _ hk)
def Zp(hm:VM m)(h:WF m can gi ai bi mi D E W os)(hs:mF m W){B:Int}(hB:0<=B/\B<=2305843009213693952)(hW:WB B W){p s o:Nat}(hp:p<m.ae.length)(jI:s<=1)(ho:o<cF m (aD m p s)){amt:Int}(ham : -2305843009213693952<=amt/\amt<=2305843009213693952):
  cL Tryz.prog 103 [.ptr gi 0 0,NX p,NX s,NX o,NX amt] os λr ob=>r=.bu []/\WF m can gi ai bi mi D E (pM m W p s o amt) ob/\Kp mi D E os ob:=by
 obtain⟨dN,q1,q2,q3,q4,q5⟩:=yJ hm hp;have fv:=h.v;have ev:=aM fv;have fm:=h.mp;have em:=aM fm;have oL:=hm.ae;have qG:=hm.cls;have eP:=Zq W p s o amt;have iY:=hW.ab (np p s o);have iU:(mn [(p:Int),(s:Int),(o:Int)] (mE W.am)).getD (NX 0)=NX (lB (np p s o) W.am):=ajf _ _;have zs:min (max (lB (np p s o) W.am+amt) (-268435456)) 268435456=tD W p s o amt:=rfl;have iK:Am.eT [(p:Int),(s:Int),(o:Int)] (NX (tD W p s o amt)) (mE W.am)=mE (jG (np p s o) (tD W p s o amt) W.am):=ajg _ _ _;have hM:=h.Mp (jG (np p s o) (tD W p s o amt) W.am);have sm:=iN fm;refine cL.aK 119 os.length [] Tryz.func103 ?_;refine Xk ?_;refine Kf ?_;intro K hK;simp(disch:=omega)only[Ac,↓Pc,simprocAttr,bF];repeat'(first|with_reducible refine cJ ?_ ?_|omega|with_reducible rfl)
 refine hK _ ?_;clear hK K;refine hn _ ?_;(try clear hn;try clear he)
 refine cp (aF.Bs 10 os.length (cells:=[NX p,NX s,NX o]) (by rw[kq]) (by simp only[Kc,simprocAttr]) Iw) ?_;refine cp (σ':=⟨an [(0,.ptr gi 0 0),(1,NX p),(2,NX s),(3,NX o),(4,NX amt),(10,.cd [NX p,NX s,NX o])],os++[.gone]⟩) (by rw[Du];exact Xv X0) ?_;generalize Mq:lB (np p s o) W.am=a at *;generalize Fs:tD W p s o amt=n at *;refine Xk ?_;refine ur ?_;intro Q hn he;refine pY ⟨an [(0,.ptr gi 0 0),(1,NX p),(2,NX s),(3,NX o),(4,NX amt),(10,.cd [NX p,NX s,NX o]),(11,NX n)],os++[.gone]⟩ hn ?_ (λkey=>?_);rotate_left
 ·refine nY [] (.take 0 (.take 1 (.take 2 (.take 3 (.take 4 (.take 5 (.take 6 (.take 7 (.take 8 (.take 9 (.take 10 .nil))))))))))) rfl NF (by decide +kernel) ?_;simp(disch:=omega)only[Ac,↓Pc,simprocAttr,uy,ux,uw,uv,sS,p8,mO,lQ,lP,bZ,↓Lq,fv,ev,fm,em,ao,iU,zs,bF];repeat'(first|with_reducible refine cJ ?_ ?_|omega|with_reducible rfl)
  all_goals
   refine key _ ?_;exact Xv X0
 (try clear hn;try clear he)
 try(try clear Q)
 refine Xk ?_;refine ur ?_;intro Q hn he;refine pY ⟨an [(0,.ptr gi 0 0),(1,NX p),(2,NX s),(3,NX o),(4,NX (n-a)),(10,.cd [NX p,NX s,NX o]),(11,NX n)],os++[.gone]⟩ hn ?_ (λkey=>?_);rotate_left
 ·refine nY [] (.take 0 (.take 1 (.take 2 (.take 3 (.take 4 (.take 5 (.take 6 (.take 7 (.take 8 .nil))))))))) rfl NF (by decide +kernel) ?_;simp(disch:=omega)only[Ac,↓Pc,simprocAttr,uy,ux,uw,uv,sS,p8,mO,lQ,lP,bZ,↓Lq,fv,ev,fm,em,ao,iU,zs,bF];repeat'(first|with_reducible refine cJ ?_ ?_|omega|with_reducible rfl)
  all_goals
   refine key _ ?_;exact Xv X0
 (try clear hn;try clear he)
 try(try clear Q)
 refine Xk ?_;refine ur ?_;intro Q hn he;refine pY ⟨an [(0,.ptr gi 0 0),(1,NX p),(2,NX s),(3,NX o),(4,NX (n-a))],os.set mi (.mp 3 (mE (jG (np p s o) n W.am)))++[.gone]⟩ hn ?_ (λkey=>?_);rotate_left
 ·refine nY [] (.take 0 (.take 1 (.take 2 (.take 3 (.take 4 (.take 5 (.take 6 .nil))))))) rfl NF (by decide +kernel) ?_;simp(disch:=omega)only[Ac,↓Pc,simprocAttr,uy,ux,uw,uv,sS,p8,mO,lQ,lP,bZ,↓Lq,fv,ev,fm,em,ao,iU,zs,bF,iK,sm];repeat'(first|with_reducible refine cJ ?_ ?_|omega|with_reducible rfl)
  all_goals
   refine key _ ?_;exact Xv X0
 (try clear hn;try clear he)
 try(try clear Q)
 have rQ:=hM.app [.gone];have eJ:Kp mi D E os (os.set mi (.mp 3 (mE (jG (np p s o) n W.am)))++[Ob.gone]):=((Kp.refl mi D E os).Mp _).app _;have Zr:pM m W p s o amt=⟨W.own.set (aD m p s) ((W.own.getD (aD m p s) default).set o (nP W (aD m p s) o+(n-a))),W.ax.set p (jV m p s o (n-a) (cF m (aD m p (1-s))) (W.ax.getD p default)),jG (np p s o) n W.am⟩:=by unfold pM;rw[Fs,Mq]
 rw[Zr];clear hM fv ev fm em sm iU iK Zr;generalize os.set mi (.mp 3 (mE (jG (np p s o) n W.am)))++[Ob.gone]=tv at *;have uh:=Ek hm rQ hp;have kl:=Ek hm (rQ.app [.gone,.gone,.gone,.gone]) hp;have e0:(cN m p).fst=((aD m p 0:Nat):Int):=by show _=((cN m p).fst.toNat:Int);omega
 have e1:(cN m p).snd=((aD m p 1:Nat):Int):=by show _=((cN m p).snd.toNat:Int);omega
 rw[e0,e1]at uh kl;refine Xk ?_;refine ur ?_;intro Q hn he;refine pY ⟨an [(0,.ptr gi 0 0),(1,NX p),(2,NX s),(3,NX o),(4,NX (n-a)),(12,NX (aD m p s:Nat)),(13,NX (aD m p (1-s):Nat))],tv++[.gone,.gone,.gone,.gone,.gone,.gone,.gone,.gone]⟩ hn ?_ (λkey=>?_);rotate_left
 ·refine nY [] (.take 0 (.take 1 (.take 2 (.take 3 (.take 8 (.take 9 (.take 11 (.take 12 (.both 4 (.both 5 (.both 6 (.both 7 (.take 10 (.take 13 (.take 14 (.take 15 (.take 16 (.take 17 (.take 18 .nil))))))) 10 (.take 7 (.take 13 (.take 14 (.take 15 (.take 16 (.take 17 (.take 18 .nil)))))))) 10 (.take 6 (.take 7 (.take 13 (.take 14 (.take 15 (.take 16 (.take 17 (.take 18 .nil))))))))) 10 (.take 5 (.take 6 (.take 7 (.take 13 (.take 14 (.take 15 (.take 16 (.take 17 (.take 18 .nil)))))))))) 10 (.take 4 (.take 5 (.take 6 (.take 7 (.take 13 (.take 14 (.take 15 (.take 16 (.take 17 (.take 18 .nil))))))))))))))))))) rfl NF (by decide +kernel) ?_;simp(disch:=omega)only[Ac,↓Pc,simprocAttr,uy,ux,uw,uv,sS,p8,mO,lQ,lP,bZ,↓Lq];repeat'(first|with_reducible refine cJ ?_ ?_|omega|with_reducible rfl)
  all_goals
   refine fF uh Iw ?_;rcases(show s=0\/s=1 by omega) with rfl|rfl;all_goals
    simp(disch:=omega)only[Ac,↓Pc,simprocAttr,uy,ux,uw,uv,sS,p8,mO,lQ,lP,bZ,↓Lq,bC];repeat'(first|with_reducible refine cJ ?_ ?_|omega|with_reducible rfl)
   all_goals
    refine fF kl Iw ?_;simp(disch:=omega)only[Ac,↓Pc,simprocAttr,uy,ux,uw,uv,sS,p8,mO,lQ,lP,bZ,↓Lq,bC];repeat'(first|with_reducible refine cJ ?_ ?_|omega|with_reducible rfl)
   all_goals
    refine key _ ?_;exact Xv X0
 (try clear hn;try clear he)
 try(try clear Q)
 have Al:=rQ.app [.gone,.gone,.gone,.gone,.gone,.gone,.gone,.gone];have dJ:Kp mi D E os (tv++[.gone,.gone,.gone,.gone,.gone,.gone,.gone,.gone]):=eJ.app _;clear rQ eJ uh kl h;generalize tv++[Ob.gone,Ob.gone,Ob.gone,Ob.gone,Ob.gone,Ob.gone,Ob.gone,Ob.gone]=os2 at *;have bG:∀ s,s<=1->aD m p s<m.cls.length:=λs hs=>by
  rcases(show s=0\/s=1 by omega) with rfl|rfl
  ·exact q1
  ·exact q2
 have hc:=bG s jI;have nh:∀ k,k<cF m (aD m p (1-s))->jU m p s o k<(cN m p).ax.length:=λk hk=>Zo hm hp jI ho hk;have fD:=bG (1-s) Iv;have hD:D.length=m.cls.length:=Al.rD.len.trans hs.ol;have hE:E.length=m.ae.length:=Al.rE.len.trans hs.tl;obtain⟨rl,ro⟩:=Al.rD.row (aD m p s) Iv;dsimp only at rl ro;have mV:=hs.or _ hc;have ro:=ro Iv;have eD:=An (q:=D.getD (aD m p s) default) Iv;have fv:=Al.v;have fa:=Al.a;have bI:=hW.ob (aD m p s) o;have xm:=Al.zR (j:=aD m p s) Iv Iv (r:=(W.own.getD (aD m p s) default).set o (nP W (aD m p s) o+(n-a))) Iw;have El:=dJ.zR (j:=aD m p s) Iv (.arr 1 (ints ((W.own.getD (aD m p s) default).set o (nP W (aD m p s) o+(n-a)))));have Aa:(W.own.getD (aD m p s) default).getD o 0=nP W (aD m p s) o:=rfl;have sD:=lZ (y:=Ob.arr 1 (ints ((W.own.getD (aD m p s) default).set o (nP W (aD m p s) o+(n-a))))) ro;generalize amB:W.own.getD (aD m p s) default=row at *;generalize nP W (aD m p s) o=ow at *;generalize aD m p s=c at *;have HE:=xm.v;repeat'(first|((fail_if_success (first|refine ei 6 ?_|refine ej 6 ?_));refine Xr (X5 @fv @fa @eD @ro (X2 @Aa @HE)) ?_;intro K hK)|refine Xo (X5 @fv @fa @eD @ro (X2 @Aa @HE)) ?_|(refine hK _ ?_;clear hK K)|(refine Xg (X5 @fv @fa @eD @ro (X2 @Aa @HE)) ?_ ?_<;>try intro hb)|(refine Xi ?_ ?_<;>try intro ht)|refine Xy ?_|refine Xd ?_ ?_|exact Xx|fail)
 refine cp (σ':=⟨an [(0,.ptr gi 0 0),(1,NX p),(2,NX s),(3,NX o),(4,NX (n-a)),(13,NX (aD m p (1-s):Nat))],os2.set (D.getD c default).1 (.arr 1 (ints (row.set o (ow+(n-a)))))⟩) (Xv X0) ?_;clear Al dJ fv fa sD ro rl HE;dsimp only at xm;generalize os2.set (D.getD c default).1 (.arr 1 (ints (row.set o (ow+(n-a)))))=os3 at *;generalize W.own.set c (row.set o (ow+(n-a)))=aji at *;have gu:m.ae.getD p default=cN m p:=rfl;have aN:(m.cls.getD (aD m p (1-s)) default).length=cF m (aD m p (1-s)):=rfl;have amC:cF m (aD m p (1-s))<=24:=hm.opt _ (aG fD);have pk:=λk=>Mr (m:=m) (p:=p) (s:=s) (o:=o) (d:=n-a) hB.1 Iv k (W.ax.getD p default) (λj=>hW.tb p j);have BI:=hs.tr p hp;have iK:W.ax.set p (W.ax.getD p default)=W.ax:=zS W.ax p;have ov:=λk=>HF (m:=m) p s o (n-a) k (W.ax.getD p default);have Fg:∀ k,jV m p s o (n-a) (k+1) (W.ax.getD p default)=_:=λk=>jV.eq_2 ..;have BV:jV m p s o (n-a) 0 (W.ax.getD p default)=W.ax.getD p default:=rfl;have Hb:o<24:=Cn ho (Aj hm c);generalize W.ax.getD p default=ax at *;generalize Zs:cF m (aD m p (1-s))=sz at *;generalize cr:cN m p=pp at *;have fv:=xm.v;((try revert hK K);(repeat'(first|refine Va (X3 @fv @aN @Zs) ?_|(refine V2 (X3 @fv @aN @Zs) ?_ ?_<;>try with_reducible intro hb)|(refine Xi ?_ ?_<;>try intro ht)|refine VD ?_ ?_|exact Xx|fail))<;>try with_reducible intro K hK)
 refine aU (λz:Nat×List Ob=>(⟨an [(0,.ptr gi 0 0),(1,NX p),(2,NX s),(3,NX o),(4,NX (n-a)),(82,NX sz),(83,NX z.1)],z.2⟩:St))
  (λz=>z.1<=sz/\WF m can gi ai bi mi D E { own:=aji,ax:=W.ax.set p (jV m p s o (n-a) z.1 ax),am:=jG (np p s o) n W.am } z.2/\Kp mi D E os z.2)
  (λz=>sz-z.1) (0,os3) ⟨aT _,by dsimp only;rw[BV,iK];exact xm,El⟩ (Xv X0) ?_
 clear xm El fv;rintro⟨k,ok⟩⟨hk,hM,aX⟩Ql ak ar;dsimp only at hk hM aX ⊢;have fv:=hM.v;have fb:=hM.b;by_cases ba:k<sz
 ·have hA:=Zn hm hM hp (s:=s) Hb (show k<24 by omega);obtain⟨tl,tr⟩:=hM.rE.row p Iv;have oO:p<W.ax.length:=by have:=hs.tl;omega
  have pH:(W.ax.set p (jV m p s o (n-a) k ax)).getD p default=jV m p s o (n-a) k ax:=uE _ _ _ oO;dsimp only at tl tr;rw[pH]at tl tr;have zz:=nh k ba;have jL:=ov k;have tr:=tr Iv;have eE:=An (q:=E.getD p default) Iv;have HG:=hM.yr (j:=p) Iv Iv (r:=(jV m p s o (n-a) k ax).set (jU m p s o k) ((jV m p s o (n-a) k ax).getD (jU m p s o k) 0-(n-a))) (by rw[pH,bK]);have hK4:=aX.yr (j:=p) Iv (.arr 1 (ints ((jV m p s o (n-a) k ax).set (jU m p s o k) ((jV m p s o (n-a) k ax).getD (jU m p s o k) 0-(n-a)))));have fR:=pk k (jU m p s o k);have Ao:=Fg k;dsimp only at HG;rw[List.set_set]at HG;have sE:=lZ (y:=Ob.arr 1 (ints ((jV m p s o (n-a) k ax).set (jU m p s o k) ((jV m p s o (n-a) k ax).getD (jU m p s o k) 0-(n-a))))) tr;have Zt:=HG.v;generalize Zu:jV m p s o (n-a) (k+1) ax=tk1 at *;generalize jV m p s o (n-a) k ax=tk at *;generalize oz:jU m p s o k=av at *;generalize vn:pp.ax.getD av 0=pe at *;((try revert hK K);(repeat'(first|refine Va @fv ?_|(refine V2 @fv ?_ ?_<;>try with_reducible intro hb)|(refine Xi ?_ ?_<;>try intro ht)|refine VD ?_ ?_|exact Xx|fail))<;>try with_reducible intro K hK)
  refine fF hA Iw ?_;((try revert hK K);(repeat'(first|refine Va (X5 @fv @fb @eE @tr (X4 @gu @aH.eq_1 @vn @Zt)) ?_|(refine V2 (X5 @fv @fb @eE @tr (X4 @gu @aH.eq_1 @vn @Zt)) ?_ ?_<;>try with_reducible intro hb)|(refine Xi ?_ ?_<;>try intro ht)|refine VD ?_ ?_|exact Xx|fail))<;>try with_reducible intro K hK)
  ·rw[if_pos (by assumption)]at Ao;exact ak _ (k+1,_) ⟨NN,by dsimp only;rw[Zu,Ao];exact HG,hK4⟩ NN (Xv X0)
  ·rw[if_neg (by simpa using ‹pe=_›)]at Ao;exact ak _ (k+1,_) ⟨NN,by dsimp only;rw[Zu,Ao];exact hM,aX⟩ NN (Xv X0)
 ·obtain rfl:k=sz:=Iv;((try revert hK K);(repeat'(first|refine Va X0 ?_|(refine V2 X0 ?_ ?_<;>try with_reducible intro hb)|(refine Xi ?_ ?_<;>try intro ht)|refine VD ?_ ?_|exact Xx|fail))<;>try with_reducible intro K hK)
  refine ar _ _ rfl ?_;clear ak ar Ql;repeat(first|refine Xu ?_)
  ((try revert hK K);(repeat'(first|refine Vb X0 ?_|(refine V2 X0 ?_ ?_<;>try with_reducible intro hb)|(refine Xi ?_ ?_<;>try intro ht)|refine VD ?_ ?_|exact Xx|fail))<;>try with_reducible intro K hK)
  unfold eH;simp only[dx,du];exact⟨.bu [],_,⟨rfl,hM,aX⟩,ed rfl aX.len rfl⟩
end
section
variable {m:ah} {can:List (List Bool)} {gi ai bi mi:Nat} {D E:List (Nat×Nat)} {W:WS} {os:List Ob}
def Mg{X:List (List Bool)}{c:Nat}(hc:c<X.length):(rowsOf aA X)[c]?=some [.tree 1 (bm (X.getD c default))]:=by
 unfold rowsOf;rw[List.getElem?_map,aB,List.getElem?_eq_getElem hc];rfl
def ajk(hm:VM m)(hf:df m can)(h:WF m can gi ai bi mi D E W os)(hs:mF m W){B:Int}(hB:0<=B/\B<=1152921504606846976)(hW:WB B W){p s:Nat}(hp:p<m.ae.length)(jI:s<=1):
  cL Tryz.prog 72 [.ptr gi 0 0,NX p,NX s] os λr ob=>r=.bu []/\WF m can gi ai bi mi D E (Ap m can W p s) ob/\Kp mi D E os ob:=by
 obtain⟨dN,q1,q2,q3,q4,q5⟩:=yJ hm hp;have oL:=hm.ae;have qG:=hm.cls;have bG:∀ s,s<=1->aD m p s<m.cls.length:=λs hs=>by
  rcases(show s=0\/s=1 by omega) with rfl|rfl
  ·exact q1
  ·exact q2
 have uh:=Ek hm h hp;have kl:=Ek hm (h.app [.gone,.gone,.gone,.gone]) hp;have e0:(cN m p).fst=((aD m p 0:Nat):Int):=by show _=((cN m p).fst.toNat:Int);omega
 have e1:(cN m p).snd=((aD m p 1:Nat):Int):=by show _=((cN m p).snd.toNat:Int);omega
 rw[e0,e1]at uh kl;refine cL.aK 155 os.length [] Tryz.func72 ?_;refine Xk ?_;refine ur ?_;intro Q hn he;refine pY ⟨an [(0,.ptr gi 0 0),(1,NX p),(2,NX s),(6,NX (aD m p s:Nat)),(7,NX (aD m p (1-s):Nat))],os++[.gone,.gone,.gone,.gone,.gone,.gone,.gone,.gone]⟩ hn ?_ (λkey=>?_);rotate_left
 ·refine nY [] (.take 0 (.take 1 (.take 2 (.take 3 (.take 8 (.take 9 (.take 11 (.take 12 (.both 4 (.both 5 (.both 6 (.both 7 (.take 10 (.take 13 (.take 14 (.take 15 (.take 16 (.take 17 (.take 18 .nil))))))) 10 (.take 7 (.take 13 (.take 14 (.take 15 (.take 16 (.take 17 (.take 18 .nil)))))))) 10 (.take 6 (.take 7 (.take 13 (.take 14 (.take 15 (.take 16 (.take 17 (.take 18 .nil))))))))) 10 (.take 5 (.take 6 (.take 7 (.take 13 (.take 14 (.take 15 (.take 16 (.take 17 (.take 18 .nil)))))))))) 10 (.take 4 (.take 5 (.take 6 (.take 7 (.take 13 (.take 14 (.take 15 (.take 16 (.take 17 (.take 18 .nil))))))))))))))))))) rfl NF (by decide +kernel) ?_;simp(disch:=omega)only[Ac,↓Pc,simprocAttr,uy,ux,uw,uv,sS,p8,mO,lQ,lP,bZ,↓Lq];repeat'(first|with_reducible refine cJ ?_ ?_|omega|with_reducible rfl)
  all_goals
   refine fF uh Iw ?_;rcases(show s=0\/s=1 by omega) with rfl|rfl;all_goals
    simp(disch:=omega)only[Ac,↓Pc,simprocAttr,uy,ux,uw,uv,sS,p8,mO,lQ,lP,bZ,↓Lq,bC];repeat'(first|with_reducible refine cJ ?_ ?_|omega|with_reducible rfl)
   all_goals
    refine fF kl Iw ?_;simp(disch:=omega)only[Ac,↓Pc,simprocAttr,uy,ux,uw,uv,sS,p8,mO,lQ,lP,bZ,↓Lq,bC];repeat'(first|with_reducible refine cJ ?_ ?_|omega|with_reducible rfl)
   all_goals
    refine key _ ?_;exact Xv X0
 (try clear hn;try clear he)
 try(try clear Q)
 have rQ:=h.app [.gone,.gone,.gone,.gone,.gone,.gone,.gone,.gone];have eJ:Kp mi D E os (os++[.gone,.gone,.gone,.gone,.gone,.gone,.gone,.gone]):=(Kp.refl mi D E os).app _;clear uh kl h;generalize os++[Ob.gone,Ob.gone,Ob.gone,Ob.gone,Ob.gone,Ob.gone,Ob.gone,Ob.gone]=tv at *;have hc:=bG s jI;have fD:=bG (1-s) Iv;have vN:1-(1-s)=s:=Iv;have QN:((1:Int)-(s:Int))=((1-s:Nat):Int):=Iv;have hD:D.length=m.cls.length:=rQ.rD.len.trans hs.ol;have z1:=Aj hm (aD m p s);have z2:=Aj hm (aD m p (1-s));have hf1:=hf.1;have hfc:_=cF m (aD m p s):=hf.2 (aD m p s) Iv;have hfk:_=cF m (aD m p (1-s)):=hf.2 (aD m p (1-s)) Iv;have xn:=Mg (X:=can) (c:=aD m p s) Iv;have Em:=Mg (X:=can) (c:=aD m p (1-s)) Iv;have Zv:Ap m can W p s=jq m can (kX m can W p s (cF m (aD m p s))) p s (cF m (aD m p (1-s))):=rfl;have Ms:=λi=>HH (can:=can) hs p s i;have bA:=λi=>Mt (can:=can) hm hB.1 hW p s i;have sA:∀ i,kX m can W p s (i+1)=_:=λi=>kX.eq_2 ..;have s0:kX m can W p s 0=W:=rfl;have fv:=rQ.v;have fa:=rQ.a;have HI:(D.getD (aD m p s) default).2=cF m (aD m p s):=((rQ.rD.row _ Iv).1).symm.trans (hs.or _ hc);have Zw:(D.getD (aD m p (1-s)) default).2=cF m (aD m p (1-s)):=((rQ.rD.row _ Iv).1).symm.trans (hs.or _ fD);refine Xk ?_;refine Xk ?_;refine ur ?_;intro Q hn he;refine pY ⟨an [(0,.ptr gi 0 0),(1,NX p),(2,NX s),(6,NX (aD m p s:Nat)),(7,NX (aD m p (1-s):Nat)),(37,NX (cF m (aD m p s):Nat)),(38,NX 0)],tv⟩ hn ?_ (λkey=>?_);rotate_left
 ·(try clear hn;try clear he)
  have fr:=(rQ.rD.row _ (show aD m p s<D.length by omega)).2;rcases qU (D.getD (aD m p s) default).2 with h0|h0
  ·have e:=Mu h0;rw[HI]at h0;rw[h0]at key;((try revert hK K);(repeat'(first|refine Va (X3 @fv @fa @e) ?_|(refine V2 (X3 @fv @fa @e) ?_ ?_<;>try with_reducible intro hb)|(refine Xi ?_ ?_<;>try intro ht)|refine VD ?_ ?_|exact Xx|fail))<;>try with_reducible intro K hK)
   refine key _ ?_;exact Xv X0
  ·have e:=An h0;have fr:=fr h0;rw[HI]at e;((try revert hK K);(repeat'(first|refine Va (X4 @fv @fa @e @fr) ?_|(refine V2 (X4 @fv @fa @e @fr) ?_ ?_<;>try with_reducible intro hb)|(refine Xi ?_ ?_<;>try intro ht)|refine VD ?_ ?_|exact Xx|fail))<;>try with_reducible intro K hK)
   refine key _ ?_;exact Xv X0
 (try clear hn;try clear he)
 try(try clear Q)
 clear fv fa;((try revert hK K);(repeat'(first|refine Va X0 ?_|(refine V2 X0 ?_ ?_<;>try with_reducible intro hb)|(refine Xi ?_ ?_<;>try intro ht)|refine VD ?_ ?_|exact Xx|fail))<;>try with_reducible intro K hK)
 refine aU (λz:Nat×List Ob=>(⟨an [(0,.ptr gi 0 0),(1,NX p),(2,NX s),(6,NX (aD m p s:Nat)),(7,NX (aD m p (1-s):Nat)),(37,NX (cF m (aD m p s):Nat)),(38,NX z.1)],z.2⟩:St))
  (λz=>z.1<=cF m (aD m p s)/\WF m can gi ai bi mi D E (kX m can W p s z.1) z.2/\Kp mi D E os z.2)
  (λz=>cF m (aD m p s)-z.1) (0,tv) ⟨aT _,rQ,eJ⟩ (Xv X0) ?_
 clear rQ eJ tv;rintro⟨i,ok⟩⟨hi,hM,aX⟩Ql ak ar;dsimp only at hi hM aX ⊢;have fv:=hM.v;have fa:=hM.a;obtain⟨rl,rr⟩:=hM.rD.row (aD m p s) Iv;by_cases aq:i<cF m (aD m p s)
 ·have rr:=rr Iv;have eD:=An (q:=D.getD (aD m p s) default) Iv;have fZ:=(bA i).ob (aD m p s) i;have qF:=Zp hm hM (Ms i) (B:=B+12884901888*i) Iv (bA i) hp jI aq (amt:=-nP (kX m can W p s i) (aD m p s) i) Iv;have HJ:=sA i;have Aa:((kX m can W p s i).own.getD (aD m p s) default).getD i 0=nP (kX m can W p s i) (aD m p s) i:=rfl;generalize tE:kX m can W p s (i+1)=W1 at *;have Mw:i<24:=Iv;by_cases iP:xo can (aD m p s) i=true
  ·rw[if_pos iP]at HJ;have aP:(can.getD (aD m p s) default).getD i false=true:=iP;generalize nP (kX m can W p s i) (aD m p s) i=ow at *;generalize (kX m can W p s i).own.getD (aD m p s) default=row at *;repeat'(first|((fail_if_success (first|refine ei 5 ?_|refine ej 5 ?_));refine Xr (X4 @fv @xn @aP @aA.eq_1) ?_;intro K hK)|refine Xo (X4 @fv @xn @aP @aA.eq_1) ?_|(refine hK _ ?_;clear hK K)|(refine Xg (X4 @fv @xn @aP @aA.eq_1) ?_ ?_<;>try intro hb)|(refine Xi ?_ ?_<;>try intro ht)|refine Xy ?_|refine Xd ?_ ?_|exact Xx|fail)
   refine nf 15 NF _ rfl ?_;intro K hK;simp(disch:=omega)only[Ac,↓Pc,simprocAttr,iv,eC,fv,fa,eD,rr,Aa];repeat'(first|with_reducible refine cJ ?_ ?_|omega|with_reducible rfl)
   refine⟨rfl,(show jz Tryz.prog 103 [.ptr gi 0 0,NX p,NX s,NX i,NX (-ow)] (some 66) _ _ from ?_)⟩;refine qx qF ?_;rintro r ke⟨rfl,xm,fU⟩;refine⟨fU.len,?_⟩;simp(disch:=omega)only[Ac,↓Pc,simprocAttr,eC];refine hK _ ?_;clear hK K;repeat(first|refine Xu ?_)
   ((try revert hK K);(repeat'(first|refine Va X0 ?_|(refine V2 X0 ?_ ?_<;>try with_reducible intro hb)|(refine Xi ?_ ?_<;>try intro ht)|refine VD ?_ ?_|exact Xx|fail))<;>try with_reducible intro K hK)
   exact ak _ (i+1,ke) ⟨NN,by dsimp only;rw[tE,HJ];exact xm,aX.trans fU⟩ NN (Xv X0)
  ·rw[if_neg iP]at HJ;have aP:(can.getD (aD m p s) default).getD i false=false:=by simpa [xo] using iP
   ((try revert hK K);(repeat'(first|refine Va (X4 @fv @xn @aP @aA.eq_1) ?_|(refine V2 (X4 @fv @xn @aP @aA.eq_1) ?_ ?_<;>try with_reducible intro hb)|(refine Xi ?_ ?_<;>try intro ht)|refine VD ?_ ?_|exact Xx|fail))<;>try with_reducible intro K hK)
   exact ak _ (i+1,ok) ⟨NN,by dsimp only;rw[tE,HJ];exact hM,aX⟩ NN (Xv X0)
 ·obtain rfl:i=cF m (aD m p s):=Iv;((try revert hK K);(repeat'(first|refine Va X0 ?_|(refine V2 X0 ?_ ?_<;>try with_reducible intro hb)|(refine Xi ?_ ?_<;>try intro ht)|refine VD ?_ ?_|exact Xx|fail))<;>try with_reducible intro K hK)
  refine ar _ _ rfl ?_;clear ak ar Ql;repeat(first|refine Xu ?_)
  clear fv fa rl rr;have ajl:=Ms (cF m (aD m p s));have ajm:=(bA (cF m (aD m p s))).mono (C:=B+309237645312) Iv;rw[Zv];clear sA s0 Zv Ms bA hs hW;generalize kX m can W p s (cF m (aD m p s))=WA at *;have Zx:=λi=>HK (can:=can) ajl p s i;have bB:=λi=>Mx (can:=can) hm Iv ajm p s i;have sB:∀ i,jq m can WA p s (i+1)=_:=λi=>jq.eq_2 ..;have fv:=hM.v;have fa:=hM.a;refine Xk ?_;refine ur ?_;intro Q hn he;refine pY ⟨an [(0,.ptr gi 0 0),(1,NX p),(2,NX s),(6,NX (aD m p s:Nat)),(7,NX (aD m p (1-s):Nat)),(75,NX (cF m (aD m p (1-s)):Nat)),(76,NX 0)],ok⟩ hn ?_ (λkey=>?_);rotate_left
  ·(try clear hn;try clear he)
   have fr:=(hM.rD.row _ (show aD m p (1-s)<D.length by omega)).2;rcases qU (D.getD (aD m p (1-s)) default).2 with h0|h0
   ·have e:=Mu h0;rw[Zw]at h0;rw[h0]at key;((try revert hK K);(repeat'(first|refine Va (X3 @fv @fa @e) ?_|(refine V2 (X3 @fv @fa @e) ?_ ?_<;>try with_reducible intro hb)|(refine Xi ?_ ?_<;>try intro ht)|refine VD ?_ ?_|exact Xx|fail))<;>try with_reducible intro K hK)
    refine key _ ?_;exact Xv X0
   ·have e:=An h0;have fr:=fr h0;rw[Zw]at e;((try revert hK K);(repeat'(first|refine Va (X4 @fv @fa @e @fr) ?_|(refine V2 (X4 @fv @fa @e @fr) ?_ ?_<;>try with_reducible intro hb)|(refine Xi ?_ ?_<;>try intro ht)|refine VD ?_ ?_|exact Xx|fail))<;>try with_reducible intro K hK)
    refine key _ ?_;exact Xv X0
  (try clear hn;try clear he)
  try(try clear Q)
  clear fv fa;((try revert hK K);(repeat'(first|refine Va X0 ?_|(refine V2 X0 ?_ ?_<;>try with_reducible intro hb)|(refine Xi ?_ ?_<;>try intro ht)|refine VD ?_ ?_|exact Xx|fail))<;>try with_reducible intro K hK)
  refine aU (λz:Nat×List Ob=>(⟨an [(0,.ptr gi 0 0),(1,NX p),(2,NX s),(6,NX (aD m p s:Nat)),(7,NX (aD m p (1-s):Nat)),(75,NX (cF m (aD m p (1-s)):Nat)),(76,NX z.1)],z.2⟩:St))
   (λz=>z.1<=cF m (aD m p (1-s))/\WF m can gi ai bi mi D E (jq m can WA p s z.1) z.2/\Kp mi D E os z.2)
   (λz=>cF m (aD m p (1-s))-z.1) (0,ok) ⟨aT _,hM,aX⟩ (Xv X0) ?_
  clear hM aX ok;rintro⟨k,ok⟩⟨hk,hM,aX⟩Ql ak ar;dsimp only at hk hM aX ⊢;by_cases ba:k<cF m (aD m p (1-s))
  ·have Mw:k<24:=Iv;have HL:=sB k;have My:=λi=>Zy (can:=can) (m:=m) Iv (bB k) p s k i;have qF:=Zp hm hM (Zx k) (B:=B+309237645312+12884901888*k) Iv (bB k) hp (s:=1-s) Iv ba (amt:=B8 (oP m can (jq m can WA p s k) p s k (cF m (aD m p s)))) (by have:=My (cF m (aD m p s));unfold B8;split<;>omega);have Zz:=Zx k;generalize tE:jq m can WA p s (k+1)=W1 at *;have fv:=hM.v;have fa:=hM.a;by_cases iP:xo can (aD m p (1-s)) k=true
   ·rw[if_pos iP]at HL;have aP:(can.getD (aD m p (1-s)) default).getD k false=true:=iP;repeat'(first|((fail_if_success (first|refine ei 12 ?_|refine ej 12 ?_));refine Xr (X4 @fv @Em @aP @aA.eq_1) ?_;intro K hK)|refine Xo (X4 @fv @Em @aP @aA.eq_1) ?_|(refine hK _ ?_;clear hK K)|(refine Xg (X4 @fv @Em @aP @aA.eq_1) ?_ ?_<;>try intro hb)|(refine Xi ?_ ?_<;>try intro ht)|refine Xy ?_|refine Xd ?_ ?_|exact Xx|fail)
    refine ur ?_;intro Q hn he;refine pY ⟨an [(0,.ptr gi 0 0),(1,NX p),(2,NX s),(6,NX (aD m p s:Nat)),(7,NX (aD m p (1-s):Nat)),(9,NX k),(10,NX 1099511627776),(75,NX (cF m (aD m p (1-s)):Nat)),(76,NX k),(97,NX (cF m (aD m p s):Nat)),(98,NX 0)],ok⟩ hn ?_ (λkey=>?_);rotate_left
    ·(try clear hn;try clear he)
     have fr:=(hM.rD.row _ (show aD m p s<D.length by omega)).2;rcases qU (D.getD (aD m p s) default).2 with h0|h0
     ·have e:=Mu h0;rw[HI]at h0;rw[h0]at key;((try revert hK K);(repeat'(first|refine Va (X3 @fv @fa @e) ?_|(refine V2 (X3 @fv @fa @e) ?_ ?_<;>try with_reducible intro hb)|(refine Xi ?_ ?_<;>try intro ht)|refine VD ?_ ?_|exact Xx|fail))<;>try with_reducible intro K hK)
      refine key _ ?_;exact Xv X0
     ·have e:=An h0;have fr:=fr h0;rw[HI]at e;((try revert hK K);(repeat'(first|refine Va (X4 @fv @fa @e @fr) ?_|(refine V2 (X4 @fv @fa @e @fr) ?_ ?_<;>try with_reducible intro hb)|(refine Xi ?_ ?_<;>try intro ht)|refine VD ?_ ?_|exact Xx|fail))<;>try with_reducible intro K hK)
      refine key _ ?_;exact Xv X0
    (try clear hn;try clear he)
    try(try clear Q)
    ((try revert hK K);(repeat'(first|refine Va X0 ?_|(refine V2 X0 ?_ ?_<;>try with_reducible intro hb)|(refine Xi ?_ ?_<;>try intro ht)|refine VD ?_ ?_|exact Xx|fail))<;>try with_reducible intro K hK)
    have hl0:oP m can (jq m can WA p s k) p s k 0=1099511627776:=rfl;have s8:∀ i,oP m can (jq m can WA p s k) p s k (i+1)=_:=λi=>oP.eq_2 ..;have nh:∀ i,i<cF m (aD m p s)->jU m p s i k<(cN m p).ax.length:=λi hi=>Zo hm hp jI hi ba;have hE:E.length=m.ae.length:=hM.rE.len.trans Zz.tl;obtain⟨tl,tr⟩:=hM.rE.row p Iv;have nk:=Zz.tr p hp;have D3:=(bB k).tb p;have gu:m.ae.getD p default=cN m p:=rfl;have uM:∀ j,((jq m can WA p s k).ax.getD p default).getD j 0=Aq (jq m can WA p s k) p j:=λj=>rfl;have fb:=hM.b;refine aU (λi:Nat=>(⟨an [(0,.ptr gi 0 0),(1,NX p),(2,NX s),(6,NX (aD m p s:Nat)),(7,NX (aD m p (1-s):Nat)),(9,NX k),(10,NX (oP m can (jq m can WA p s k) p s k i)),(75,NX (cF m (aD m p (1-s)):Nat)),(76,NX k),(97,NX (cF m (aD m p s):Nat)),(98,NX i)],ok⟩:St))
     (λi=>i<=cF m (aD m p s)) (λi=>cF m (aD m p s)-i) 0 (aT _) (by rw[hl0];exact Xv X0) ?_
    rintro i ph c7 br bx;have amG:=My i;by_cases hi3:i<cF m (aD m p s)
    ·have hA:=Zn hm hM hp (s:=s) (o:=i) (k:=k) Iv Mw;have zz:=nh i hi3;have lg:=s8 i;have tr:=tr Iv;have eE:=An (q:=E.getD p default) Iv;have htj:=D3 (jU m p s i k);have HM:=uM (jU m p s i k);generalize hl1:oP m can (jq m can WA p s k) p s k (i+1)=l1 at *;generalize oP m can (jq m can WA p s k) p s k i=l0 at *;generalize Aq (jq m can WA p s k) p (jU m p s i k)=tj at *;generalize (jq m can WA p s k).ax.getD p default=amI at *;generalize jU m p s i k=av at *;generalize cN m p=pp at *;generalize vn:pp.ax.getD av 0=pe at *;have HN:(can.getD (aD m p s) default).getD i false=xo can (aD m p s) i:=rfl;generalize xo can (aD m p s) i=cb at *;by_cases hq:cb=true/\pe≠1099511627776
     ·rw[if_pos hq]at lg;obtain⟨rfl,Hi⟩:=hq;((try revert hK K);(repeat'(first|refine Va X0 ?_|(refine V2 X0 ?_ ?_<;>try with_reducible intro hb)|(refine Xi ?_ ?_<;>try intro ht)|refine VD ?_ ?_|exact Xx|fail))<;>try with_reducible intro K hK)
      refine fF hA Iw ?_;((try revert hK K);(repeat'(first|refine Va (X5 @fv @fb @eE @tr (X5 @gu @aH.eq_1 @vn @HM (X3 @xn @HN @aA.eq_1))) ?_|(refine V2 (X5 @fv @fb @eE @tr (X5 @gu @aH.eq_1 @vn @HM (X3 @xn @HN @aA.eq_1))) ?_ ?_<;>try with_reducible intro hb)|(refine Xi ?_ ?_<;>try intro ht)|refine VD ?_ ?_|exact Xx|fail))<;>try with_reducible intro K hK)
      all_goals try(exfalso;omega)
      all_goals exact br _ (i+1) Iv Iv (by rw[hl1,lg];exact Xv X0)
     ·rw[if_neg hq]at lg;((try revert hK K);(repeat'(first|refine Va X0 ?_|(refine V2 X0 ?_ ?_<;>try with_reducible intro hb)|(refine Xi ?_ ?_<;>try intro ht)|refine VD ?_ ?_|exact Xx|fail))<;>try with_reducible intro K hK)
      refine fF hA Iw ?_;((try revert hK K);(repeat'(first|refine Va (X5 @fv @fb @eE @tr (X5 @gu @aH.eq_1 @vn @HM (X3 @xn @HN @aA.eq_1))) ?_|(refine V2 (X5 @fv @fb @eE @tr (X5 @gu @aH.eq_1 @vn @HM (X3 @xn @HN @aA.eq_1))) ?_ ?_<;>try with_reducible intro hb)|(refine Xi ?_ ?_<;>try intro ht)|refine VD ?_ ?_|exact Xx|fail))<;>try with_reducible intro K hK)
      all_goals first
       |exact br _ (i+1) Iv Iv (by rw[hl1,lg];exact Xv X0)
       |exact absurd ⟨by assumption,by assumption⟩ hq
    ·obtain rfl:i=cF m (aD m p s):=Iv;((try revert hK K);(repeat'(first|refine Va X0 ?_|(refine V2 X0 ?_ ?_<;>try with_reducible intro hb)|(refine Xi ?_ ?_<;>try intro ht)|refine VD ?_ ?_|exact Xx|fail))<;>try with_reducible intro K hK)
     refine bx _ _ rfl ?_;clear br bx c7;repeat(first|refine Xu ?_)
     clear My hl0 s8 nh D3 uM fv fa fb tl tr;have jh:B8 (oP m can (jq m can WA p s k) p s k (cF m (aD m p s)))=_:=B8.eq_1 _;generalize oP m can (jq m can WA p s k) p s k (cF m (aD m p s))=L at *;generalize B8 L=amt at *;by_cases hL:L=1099511627776;all_goals
      first|rw[if_pos hL]at jh|rw[if_neg hL]at jh
      repeat'(first|((fail_if_success (first|refine ei 21 ?_|refine ej 21 ?_));refine Xr @hL ?_;intro K hK)|refine Xo @hL ?_|(refine hK _ ?_;clear hK K)|(refine Xg @hL ?_ ?_<;>try intro hb)|(refine Xi ?_ ?_<;>try intro ht)|refine Xy ?_|refine Xd ?_ ?_|exact Xx|fail)
      all_goals try(exfalso;omega)
      refine nf 6 NF _ rfl ?_;intro K hK;simp(disch:=omega)only[Ac,↓Pc,simprocAttr,iv,eC,QN];repeat'(first|with_reducible refine cJ ?_ ?_|omega|with_reducible rfl)
      rw[<- jh];refine⟨rfl,(show jz Tryz.prog 103 [.ptr gi 0 0,NX p,NX (1-s:Nat),NX k,NX amt] (some 153) _ _ from ?_)⟩;refine qx qF ?_;rintro r ke⟨rfl,xm,fU⟩;refine⟨fU.len,?_⟩;simp(disch:=omega)only[Ac,↓Pc,simprocAttr,eC];refine hK _ ?_;clear hK K;repeat(first|refine Xu ?_)
      ((try revert hK K);(repeat'(first|refine Va X0 ?_|(refine V2 X0 ?_ ?_<;>try with_reducible intro hb)|(refine Xi ?_ ?_<;>try intro ht)|refine VD ?_ ?_|exact Xx|fail))<;>try with_reducible intro K hK)
      exact ak _ (k+1,ke) ⟨NN,by dsimp only;rw[tE,HL];exact xm,aX.trans fU⟩ NN (Xv X0)
   ·rw[if_neg iP]at HL;have aP:(can.getD (aD m p (1-s)) default).getD k false=false:=by simpa [xo] using iP
    ((try revert hK K);(repeat'(first|refine Va (X4 @fv @Em @aP @aA.eq_1) ?_|(refine V2 (X4 @fv @Em @aP @aA.eq_1) ?_ ?_<;>try with_reducible intro hb)|(refine Xi ?_ ?_<;>try intro ht)|refine VD ?_ ?_|exact Xx|fail))<;>try with_reducible intro K hK)
    exact ak _ (k+1,ok) ⟨NN,by dsimp only;rw[tE,HL];exact hM,aX⟩ NN (Xv X0)
  ·obtain rfl:k=cF m (aD m p (1-s)):=Iv;((try revert hK K);(repeat'(first|refine Va X0 ?_|(refine V2 X0 ?_ ?_<;>try with_reducible intro hb)|(refine Xi ?_ ?_<;>try intro ht)|refine VD ?_ ?_|exact Xx|fail))<;>try with_reducible intro K hK)
   refine ar _ _ rfl ?_;clear ak ar Ql;repeat(first|refine Xu ?_)
   ((try revert hK K);(repeat'(first|refine Vb X0 ?_|(refine V2 X0 ?_ ?_<;>try with_reducible intro hb)|(refine Xi ?_ ?_<;>try intro ht)|refine VD ?_ ?_|exact Xx|fail))<;>try with_reducible intro K hK)
   unfold eH;simp only[dx,du];exact⟨.bu [],_,⟨rfl,hM,aX⟩,ed rfl aX.len rfl⟩
end
def Ea:ty Tryz.prog 88 = { kind:=9,size:=1,bytes:=8,elem:=0,len:=0,zero:=some [.nilFunc],aL:=[] }:=by kernel_rfl
section
variable {m:ah} {can:List (List Bool)} {gi ai bi mi:Nat} {D E:List (Nat×Nat)} {si sa jW wi jX:Nat} {cO:List (List Int)}
def aiq(hm:VM m)(hf:df m can)(En:UN gi ai bi mi D E si sa jW wi jX)(pJ:cO.length=m.cls.length)(pg:∀ c,c<m.cls.length->(cO.getD c default).length<9223372036854775808/\∀ x∈cO.getD c default,0<=x/\x<m.ae.length):
  ∀ (f:Nat) (st:WS×List Bool) (c:Nat) (os:List Ob) (B:Int),m.cls.length-nT st.2<=f->c<m.cls.length->st.2.getD c false=false->st.2.length=m.cls.length->WF m can gi ai bi mi D E st.1 os->UF 70 gi si sa jW wi jX cO st.2 os->mF m st.1 ->
   0<=B+618475290624*(nT st.2:Nat)->B<=576460752303423488->WB (B+618475290624*(nT st.2:Nat)) st.1 ->
   cL Tryz.prog 70 [NX c,.ptr si 0 0,.ptr jW 0 0,.ptr wi 0 0,.ptr jX 0 0] os λr ob=>r=.bu []/\WF m can gi ai bi mi D E (iQ m can cO f st c).1 ob/\UF 70 gi si sa jW wi jX cO (iQ m can cO f st c).2 ob/\Kp mi ((sa,0)::D) E os ob/\UO m B 1 st (iQ m can cO f st c):=by
 intro f
 induction f with
 |zero =>
  intro st c os B h0 hc hs hl;have:=ajo Iv hs;omega
 |succ f ih =>
  intro st c os B h0 hc hs hl hW hU uI hB ZA HO;have qD:=hm.cls;have oL:=hm.ae;have fs:=hU.s;have fa:=hU.a;have hnt:=ajq Iv hs;have ZB:=Mf (st.2.set c true);rw[bK,hl]at ZB;obtain⟨n1,n2,n3,n4,n5,n6,n7⟩:=En.sa;have tE:=hW.other ⟨n1,n2,n3,(En.out sa Iw).1⟩ (En.out sa Iw).2 (.arr 1 (bm (st.2.set c true)));have Mz:=hU.set En (s2:=st.2.set c true) Iw;have eJ:Kp mi ((sa,0)::D) E os (os.set sa (.arr 1 (bm (st.2.set c true)))):=(Kp.refl mi _ E os).put _;have ZC:UO m B 1 st (st.1,st.2.set c true):=⟨by simpa using hl,uI,HO.mono NN,NN,λj hj=>by
   dsimp only;by_cases e:c=j
   ·subst e;simp[aB,List.getElem?_set,hl,hc]
   ·rw[aB,List.getElem?_set_ne e,<- aB];exact hj⟩
  rw[ajr];obtain⟨gR,oF⟩:=pg c hc;have hbc:(fc cO)[c]?=some [.tree 1 (ints (cO.getD c default))]:=I5 cO c Iv;generalize lW:cO.getD c default=l at *;have ZD:cO.getD c []=l:=lW;have MA:=Mz.b;refine cL.aK 49 os.length [] Tryz.func70 ?_;((try revert hK K);(repeat'(first|refine Va (X4 @fs @fa @MA @ZD) ?_|(refine V2 (X4 @fs @fa @MA @ZD) ?_ ?_<;>try with_reducible intro hb)|(refine Xi ?_ ?_<;>try intro ht)|refine VD ?_ ?_|exact Xx|fail))<;>try with_reducible intro K hK)
  have z7:vU m can (iQ m can cO f) (st.1,st.2.set c true) (l.take 0)=(st.1,st.2.set c true):=rfl;refine aU (λz:Nat×List Ob=>(⟨an [(1,.ptr si 0 0),(2,.ptr jW 0 0),(3,.ptr wi 0 0),(4,.ptr jX 0 0),(17,.tree 1 (ints l)),(18,NX l.length),(19,NX z.1)],z.2⟩:St))
   (λz=>z.1<=l.length/\WF m can gi ai bi mi D E (vU m can (iQ m can cO f) (st.1,st.2.set c true) (l.take z.1)).1 z.2/\UF 70 gi si sa jW wi jX cO (vU m can (iQ m can cO f) (st.1,st.2.set c true) (l.take z.1)).2 z.2/\Kp mi ((sa,0)::D) E os z.2/\UO m B 1 st (vU m can (iQ m can cO f) (st.1,st.2.set c true) (l.take z.1)))
   (λz=>l.length-z.1) (0,os.set sa (.arr 1 (bm (st.2.set c true)))) ⟨aT _,by dsimp only;rw[z7];exact tE,by dsimp only;rw[z7];exact Mz,eJ,by dsimp only;rw[z7];exact ZC⟩ (Xv X0) ?_
  clear tE Mz eJ ZC z7 fs fa MA hnt ZB hW hU;rintro⟨j,ob⟩⟨hj,hW,hU,aX,hO⟩Ql ak ar;dsimp only at hj hW hU aX hO ⊢;by_cases fe:j<l.length
  ·have eO:=ajs m can (iQ m can cO f) (st.1,st.2.set c true) fe;obtain⟨hx0,hx1⟩:=oF (l.getD j default) (aG fe);generalize hx3:l.getD j default=x at *;have zh:l.getD j 0=x:=hx3;generalize tE:vU m can (iQ m can cO f) (st.1,st.2.set c true) (l.take (j+1))=r1 at *;generalize vU m can (iQ m can cO f) (st.1,st.2.set c true) (l.take j)=sj at *;obtain⟨p,rfl⟩:∃p:Nat,x=p:=⟨x.toNat,Iv⟩;rw[Int.toNat_natCast]at eO;have hp:p<m.ae.length:=Iv;obtain⟨dN,q1,q2,q3,q4,q5⟩:=yJ hm hp;have he:=Ek hm hW hp;have fw:=hU.w;have rR:=hW.app [.gone,.gone,.gone,.gone];have ZE:=hU.app [.gone,.gone,.gone,.gone];have ZF:=aX.app [.gone,.gone,.gone,.gone];have e0:(cN m p).fst=((aD m p 0:Nat):Int):=by show _=((cN m p).fst.toNat:Int);omega
   have e1:(cN m p).snd=((aD m p 1:Nat):Int):=by show _=((cN m p).snd.toNat:Int);omega
   rw[e0,e1]at he;have hEq:∀ s,s<2->([[.tree 1 (ints [((aD m p 0:Nat):Int)])],[.tree 1 (ints [((aD m p 1:Nat):Int)])]]:List (List AV))[s]?=some [.tree 1 (ints [((aD m p s:Nat):Int)])]:=λs hs=>by
    rcases(show s=0\/s=1 by omega) with rfl|rfl<;>rfl
   have yF:([[.tree 1 (ints [((aD m p 0:Nat):Int)])],[.tree 1 (ints [((aD m p 1:Nat):Int)])]]:List (List AV)).length=2:=rfl;generalize ([[.tree 1 (ints [((aD m p 0:Nat):Int)])],[.tree 1 (ints [((aD m p 1:Nat):Int)])]]:List (List AV))=EN at *;have bG:∀ s,s<2->aD m p s<m.cls.length:=λs hs=>by
    rcases(show s=0\/s=1 by omega) with rfl|rfl
    ·exact q1
    ·exact q2
   repeat'(first|((fail_if_success (first|refine ei 4 ?_|refine ej 4 ?_));refine Xr @zh ?_;intro K hK)|refine Xo @zh ?_|(refine hK _ ?_;clear hK K)|(refine Xg @zh ?_ ?_<;>try intro hb)|(refine Xi ?_ ?_<;>try intro ht)|refine Xy ?_|refine Xd ?_ ?_|exact Xx|fail)
   ((try revert hK K);(repeat'(first|refine Va @fw ?_|(refine V2 @fw ?_ ?_<;>try with_reducible intro hb)|(refine Xi ?_ ?_<;>try intro ht)|refine VD ?_ ?_|exact Xx|fail))<;>try with_reducible intro K hK)
   refine fF he Iw ?_;((try revert hK K);(repeat'(first|refine Va @yF ?_|(refine V2 @yF ?_ ?_<;>try with_reducible intro hb)|(refine Xi ?_ ?_<;>try intro ht)|refine VD ?_ ?_|exact Xx|fail))<;>try with_reducible intro K hK)
   have w0:uP m can (iQ m can cO f) sj p 0=sj:=rfl;have vN:∀ s,uP m can (iQ m can cO f) sj p (s+1)=Ar m can (iQ m can cO f) (uP m can (iQ m can cO f) sj p s) p s:=λs=>rfl;refine aU (λz:Nat×List Ob=>(⟨an [(1,.ptr si 0 0),(2,.ptr jW 0 0),(3,.ptr wi 0 0),(4,.ptr jX 0 0),(7,NX p),(17,.tree 1 (ints l)),(18,NX l.length),(19,NX j),(25,.tree 1 EN),(26,NX 2),(27,NX z.1)],z.2⟩:St))
    (λz=>z.1<=2/\WF m can gi ai bi mi D E (uP m can (iQ m can cO f) sj p z.1).1 z.2/\UF 70 gi si sa jW wi jX cO (uP m can (iQ m can cO f) sj p z.1).2 z.2/\Kp mi ((sa,0)::D) E os z.2/\UO m B 1 st (uP m can (iQ m can cO f) sj p z.1))
    (λz=>2-z.1) (0,ob++[.gone,.gone,.gone,.gone]) ⟨NN,by dsimp only;rw[w0];exact rR,by dsimp only;rw[w0];exact ZE,ZF,by dsimp only;rw[w0];exact hO⟩ (Xv X0) ?_
   (try clear he;clear rR ZE ZF hO hW hU aX fw w0)
   rintro⟨s,ob⟩⟨kZ,hW,hU,aX,hO⟩c7 br bx;dsimp only at kZ hW hU aX hO ⊢;by_cases iw:s<2
   ·have Eo:EN.getD s []=[.tree 1 (ints [((aD m p s:Nat):Int)])]:=by rw[aB,hEq s iw];rfl
    have xi:=bG s iw;have nB:=vN s;unfold Ar at nB;generalize rR:uP m can (iQ m can cO f) sj p (s+1)=r2 at *;generalize uP m can (iQ m can cO f) sj p s=sk at *;have fs:=hU.s;have fa:=hU.a;have fw:=hU.w;have fu:=hU.u;have eW:=hO.len;generalize kx:aD m p s=kc at *;by_cases vR:sk.2.getD kc false=true
    ·rw[if_pos vR]at nB;((try revert hK K);(repeat'(first|refine Va (X5 @Eo @yF @fs @fa @vR) ?_|(refine V2 (X5 @Eo @yF @fs @fa @vR) ?_ ?_<;>try with_reducible intro hb)|(refine Xi ?_ ?_<;>try intro ht)|refine VD ?_ ?_|exact Xx|fail))<;>try with_reducible intro K hK)
     exact br _ (s+1,ob) ⟨NN,by dsimp only;rw[rR,nB];exact hW,by dsimp only;rw[rR,nB];exact hU,aX,by dsimp only;rw[rR,nB];exact hO⟩ NN (Xv X0)
    ·rw[if_neg vR]at nB;have HP:sk.2.getD kc false=false:=by simpa using vR
     repeat'(first|((fail_if_success (first|refine ei 9 ?_|refine ej 9 ?_));refine Xr (X5 @Eo @yF @fs @fa @HP) ?_;intro K hK)|refine Xo (X5 @Eo @yF @fs @fa @HP) ?_|(refine hK _ ?_;clear hK K)|(refine Xg (X5 @Eo @yF @fs @fa @HP) ?_ ?_<;>try intro hb)|(refine Xi ?_ ?_<;>try intro ht)|refine Xy ?_|refine Xd ?_ ?_|exact Xx|fail)
     have hih:=ih sk kc ob (B-618475290624) (by have:=hO.up;omega) xi HP eW hW hU hO.sh (by have:=hO.up;omega) Iv (hO.wb.mono Iv);generalize iQ m can cO f sk kc=s3 at *;refine nf 2 NF _ rfl ?_;intro K hK;simp(disch:=omega)only[Ac,↓Pc,simprocAttr,iv,eC,fu,Ea];repeat'(first|with_reducible refine cJ ?_ ?_|omega|with_reducible rfl)
     refine⟨rfl,(show jz Tryz.prog 70 [NX kc,.ptr si 0 0,.ptr jW 0 0,.ptr wi 0 0,.ptr jX 0 0] (some 42) _ _ from ?_)⟩;refine qx hih ?_;rintro r ke⟨rfl,MC,ZG,fU,yN⟩;refine⟨fU.len,?_⟩;simp(disch:=omega)only[Ac,↓Pc,simprocAttr,eC];refine hK _ ?_;clear hK K;repeat(first|refine Xu ?_)
     have hO4:=hO.up;have hO5:=yN.up;have hO6:=Mf s3.2;rw[yN.len]at hO6;have fK:=ajk hm hf MC yN.sh (B:=B-618475290624+618475290624*(nT s3.2:Nat)-618475290624) ⟨Iv,Iv⟩ (yN.wb.mono Iv) hp (s:=s) Iv;have fw3:=ZG.w;refine nf 3 NF _ rfl ?_;intro K hK;simp(disch:=omega)only[Ac,↓Pc,simprocAttr,iv,eC,fw3];repeat'(first|with_reducible refine cJ ?_ ?_|omega|with_reducible rfl)
     refine⟨rfl,(show jz Tryz.prog 72 [.ptr gi 0 0,NX p,NX s] (some 46) _ _ from ?_)⟩;refine qx fK ?_;rintro r ob4⟨rfl,hW4,tq⟩;refine⟨tq.len,?_⟩;simp(disch:=omega)only[Ac,↓Pc,simprocAttr,eC];refine hK _ ?_;clear hK K;repeat(first|refine Xu ?_)
     ((try revert hK K);(repeat'(first|refine Va X0 ?_|(refine V2 X0 ?_ ?_<;>try with_reducible intro hb)|(refine Xi ?_ ?_<;>try intro ht)|refine VD ?_ ?_|exact Xx|fail))<;>try with_reducible intro K hK)
     have hU4:=ZG.kp En tq;have hO7:UO m B 1 st (Ap m can s3.1 p s,s3.2):=⟨yN.len,ajC yN.sh p s,(ajD (can:=can) hm Iv yN.wb p s).mono NN,NN,λj hj=>yN.mono j (hO.mono j hj)⟩;exact br _ (s+1,ob4) ⟨NN,by dsimp only;rw[rR,nB];exact hW4,by dsimp only;rw[rR,nB];exact hU4,(aX.trans fU).trans (tq.wide _),by dsimp only;rw[rR,nB];exact hO7⟩ NN (Xv X0)
   ·obtain rfl:s=2:=Iv;((try revert hK K);(repeat'(first|refine Va X0 ?_|(refine V2 X0 ?_ ?_<;>try with_reducible intro hb)|(refine Xi ?_ ?_<;>try intro ht)|refine VD ?_ ?_|exact Xx|fail))<;>try with_reducible intro K hK)
    refine bx _ _ rfl ?_;clear br bx c7;repeat(first|refine Xu ?_)
    ((try revert hK K);(repeat'(first|refine Va X0 ?_|(refine V2 X0 ?_ ?_<;>try with_reducible intro hb)|(refine Xi ?_ ?_<;>try intro ht)|refine VD ?_ ?_|exact Xx|fail))<;>try with_reducible intro K hK)
    rw[<- eO]at hW hU hO;exact ak _ (j+1,ob) ⟨NN,by dsimp only;rw[tE];exact hW,by dsimp only;rw[tE];exact hU,aX,by dsimp only;rw[tE];exact hO⟩ NN (Xv X0)
  ·obtain rfl:j=l.length:=Iv;((try revert hK K);(repeat'(first|refine Va X0 ?_|(refine V2 X0 ?_ ?_<;>try with_reducible intro hb)|(refine Xi ?_ ?_<;>try intro ht)|refine VD ?_ ?_|exact Xx|fail))<;>try with_reducible intro K hK)
   refine ar _ _ rfl ?_;clear ak ar Ql;repeat(first|refine Xu ?_)
   ((try revert hK K);(repeat'(first|refine Vb X0 ?_|(refine V2 X0 ?_ ?_<;>try with_reducible intro hb)|(refine Xi ?_ ?_<;>try intro ht)|refine VD ?_ ?_|exact Xx|fail))<;>try with_reducible intro K hK)
   unfold eH;simp only[dx,du];rw[List.take_length]at hW hU hO;exact⟨.bu [],_,⟨rfl,hW,hU,aX,hO⟩,ed rfl aX.len rfl⟩
end
end T

