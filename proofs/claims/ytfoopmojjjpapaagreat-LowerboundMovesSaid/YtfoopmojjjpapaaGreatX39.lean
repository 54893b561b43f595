import Derived.Test.YtfoopmojjjpapaaGreatX25
import Derived.Test.YtfoopmojjjpapaaGreatX26
set_option linter.all false
set_option maxHeartbeats 0
set_option maxRecDepth 20000
open Nat renaming mul_le_mul→u6,le_refl→bb,lt_of_lt_of_le→Cp,mul_le_mul_right→mJ,zero_le→aT,eq_zero_or_pos→qV
open Int renaming mul_nonneg→rZ
open List renaming append_assoc→bC,length_set→bK,getD_eq_getElem?_getD→aB,take→iv,drop→eC
open And renaming intro→cK
open Go Go.Am Go.Proofs
namespace T
section
variable {m:ah} {can:List (List Bool)} {gi ai bi mi:Nat} {D E:List (Nat×Nat)} {W:WS} {os:List Ob}
def yL(hm:VM m){p:Nat}(hp:p<m.ae.length):gB m (cN m p)=true/\(cN m p).fst.toNat<m.cls.length/\(cN m p).snd.toNat<m.cls.length/\0<=(cN m p).fst/\0<=(cN m p).snd/\(cN m p).fst<(cN m p).snd:=by
 have dO:=jP hm.pr _ (aG (l:=m.ae) (i:=p) (d:=default) hp);obtain⟨_,h1,h2,h3,_⟩:=qA dO;exact⟨dO,by unfold cN;omega,by unfold cN;omega,h1,by unfold cN;omega,h2⟩
def Zs(hm:VM m)(h:WF m can gi ai bi mi D E W os){p s o k:Nat}(hp:p<m.ae.length)(ho:o<24)(hk:k<24):
  Holds Tryz.prog 104 [.ptr gi 0 0,N0 p,N0 s,N0 o,N0 k] os (N0 (jT m p s o k:Nat)) os:=by
 obtain⟨dO,q1,q2,q3,q4,q5⟩:=yL hm hp;have fv:=h.v;have oL:=hm.ae;have qH:=hm.cls;have hS:=hm.opt _ (aG (l:=m.cls) (i:=(cN m p).snd.toNat) (d:=default) q2);have gr:m.ae.getD p default=cN m p:=rfl;have e1:(if s=1 then k*(m.cls.getD (cN m p).snd.toNat default).length+o else o*(m.cls.getD (cN m p).snd.toNat default).length+k)=jT m p s o k:=rfl;generalize jT m p s o k=r at *;generalize mq:(m.cls.getD (cN m p).snd.toNat default).length=n2 at *;generalize cN m p=pp at *;have b1:(k:Int)*n2<=24*24:=by
  have:=u6 (Nat.le_of_lt hk) hS
  exact_mod_cast this
 have b2:(o:Int)*n2<=24*24:=by
  have:=u6 (Nat.le_of_lt ho) hS
  exact_mod_cast this
 have b3:(0:Int)<=(k:Int)*n2:=rZ Ix Ix;have b4:(0:Int)<=(o:Int)*n2:=rZ Ix Ix;refine Holds.aK 36 os.length [.tmp 10] Tryz.func104 ?_;((try revert hK K);(repeat'(first|refine Vb (X5 @fv @ao.eq_1 @aH.eq_1 @gr @mq) ?_|(refine V2 (X5 @fv @ao.eq_1 @aH.eq_1 @gr @mq) ?_ ?_<;>try with_reducible intro hb)|(refine Xi ?_ ?_<;>try intro ht)|refine VD ?_ ?_|exact Xx|fail))<;>try with_reducible intro K hK)
 all_goals try omega
 ·have e:(k:Int)*n2+o=(r:Nat):=by rw[<- e1,if_pos Ix];push_cast;rfl
  rw[e];exact ed rfl (bb _) rfl
 ·have e:(o:Int)*n2+k=(r:Nat):=by rw[<- e1,if_neg Ix];push_cast;rfl
  rw[e];exact ed rfl (bb _) rfl
def En(hm:VM m)(h:WF m can gi ai bi mi D E W os){p:Nat}(hp:p<m.ae.length):
  Holds Tryz.prog 71 [.ptr gi 0 0,N0 p] os (.tree 1 [[.tree 1 (ints [(cN m p).fst])],[.tree 1 (ints [(cN m p).snd])]]) (os++[.gone,.gone,.gone,.gone]):=by
 obtain⟨dO,q1,q2,q3,q4,q5⟩:=yL hm hp;have fv:=h.v;have eg:=aL fv;have oL:=hm.ae;have qH:=hm.cls;have gr:m.ae.getD p default=cN m p:=rfl;generalize cN m p=pp at *;refine Holds.aK 21 os.length [.tmp 4] Tryz.func71 ?_;repeat'(first|((fail_if_success (first|refine ei 2 ?_|refine ej 2 ?_));refine Xr (X5 @fv @ao.eq_1 @aH.eq_1 @gr (X2 @bE @bC.{0})) ?_;intro K hK)|refine Xo (X5 @fv @ao.eq_1 @aH.eq_1 @gr (X2 @bE @bC.{0})) ?_|(refine hK _ ?_;clear hK K)|(refine Xg (X5 @fv @ao.eq_1 @aH.eq_1 @gr (X2 @bE @bC.{0})) ?_ ?_<;>try intro hb)|(refine Xi ?_ ?_<;>try intro ht)|refine Xy ?_|refine Xd ?_ ?_|exact Xx|fail)
 all_goals try(exfalso;omega)
 refine Kl 7 NI ?_;intro K K1 hK yG;simp(disch:=omega)only[Ac,↓Pc,simprocAttr,bE,bC,aH];repeat'(first|with_reducible refine cK ?_ ?_|omega|with_reducible rfl)
 refine yG _ ⟨an [(20,.tree 1 [[.tree 1 (ints [pp.fst])],[.tree 1 (ints [pp.snd])]])],os++[.gone,.gone,.gone,.gone]⟩ ?_ ?_
 ·refine aF.trans (σ1:=⟨an [(20,.ref (os.length+3) 1 0 2)],os++[.var (aH pp),.arr 1 [[N0 pp.fst]],.arr 1 [[N0 pp.snd]],.arr 1 [[.ref (os.length+1) 1 0 1],[.ref (os.length+2) 1 0 1]]]⟩) (Xv @aH.eq_1) ?_;refine aF.trans (aF.ajh 20 (λi=>i<os.length) (v:=.tree 1 [[.tree 1 (ints [pp.fst])],[.tree 1 (ints [pp.snd])]]) (os2:=os++[.gone,.gone,.gone,.gone]) Iy (λi o hi=>?_) ?_) (Xv X0)
  ·dsimp only at hi;by_cases a6:i<os.length
   ·left;rw[List.getElem?_append_left a6]at hi ⊢;exact⟨a6,hi⟩
   ·right;have h4:=(List.getElem?_eq_some_iff.1 hi).1;simp only[List.length_append,List.length_cons,List.length_nil]at h4;refine⟨a6,?_⟩;rw[List.getElem?_append_right Ix];rcases(by omega:i-os.length=0\/i-os.length=1\/i-os.length=2\/i-os.length=3) with e|e|e|e<;>rw[e]<;>rfl
  ·refine cL.mk (rows:=[[.ref (os.length+1) 1 0 1],[.ref (os.length+2) 1 0 1]]) (by rw[kS];rfl) rfl Ix Iy ?_;exact⟨⟨cL.mk (rows:=[[N0 pp.fst]]) (by rw[kS];rfl) rfl Ix (by simp[ints]) ⟨⟨.lit _,trivial⟩,trivial⟩,trivial⟩,⟨cL.mk (rows:=[[N0 pp.snd]]) (by rw[kS];rfl) rfl Ix (by simp[ints]) ⟨⟨.lit _,trivial⟩,trivial⟩,trivial⟩,trivial⟩
 clear yG K1;simp(disch:=omega)only[Ac,↓Pc,simprocAttr];refine hK _ ?_;repeat(first|refine Xu ?_)
 ((try revert hK K);(repeat'(first|refine Vb X0 ?_|(refine V2 X0 ?_ ?_<;>try with_reducible intro hb)|(refine Xi ?_ ?_<;>try intro ht)|refine VD ?_ ?_|exact Xx|fail))<;>try with_reducible intro K hK)
 exact ed rfl Iy rfl
end
section
variable {m:ah} {can:List (List Bool)} {gi ai bi mi:Nat} {D E:List (Nat×Nat)} {W:WS} {os:List Ob}
def Zt(hm:VM m){p s o k:Nat}(hp:p<m.ae.length)(hs:s<=1)(ho:o<cF m (aD m p s))(hk:k<cF m (aD m p (1-s))):jT m p s o k<(cN m p).ax.length:=by
 obtain⟨dO,_⟩:=yL hm hp;obtain⟨_,_,_,_,hl⟩:=qA dO;have jJ:((cN m p).ax.length:Int)=(cF m (aD m p 0):Nat)*(cF m (aD m p 1):Nat):=hl;have q9:(cN m p).ax.length=cF m (aD m p 0)*cF m (aD m p 1):=by exact_mod_cast jJ
 rw[q9];rcases(show s=0\/s=1 by omega) with rfl|rfl
 ·show o*cF m (aD m p 1)+k<_;exact Cp (Nat.add_lt_add_left hk _) (by rw[<- Nat.succ_mul];exact mJ _ ho)
 ·show k*cF m (aD m p 1)+o<_;exact Cp (Nat.add_lt_add_left ho _) (by rw[<- Nat.succ_mul];exact mJ _ hk)
def Zu(hm:VM m)(h:WF m can gi ai bi mi D E W os)(hs:mF m W){B:Int}(hB:0<=B/\B<=2305843009213693952)(hW:WB B W){p s o:Nat}(hp:p<m.ae.length)(jH:s<=1)(ho:o<cF m (aD m p s)){amt:Int}(ham : -2305843009213693952<=amt/\amt<=2305843009213693952):
  cQ Tryz.prog 103 [.ptr gi 0 0,N0 p,N0 s,N0 o,N0 amt] os λr ob=>r=.bu []/\WF m can gi ai bi mi D E (pN m W p s o amt) ob/\Kp mi D E os ob:=by
 obtain⟨dO,q1,q2,q3,q4,q5⟩:=yL hm hp;have fv:=h.v;have ev:=aL fv;have fm:=h.mp;have em:=aL fm;have oL:=hm.ae;have qH:=hm.cls;have eP:=Zv W p s o amt;have iY:=hW.ab (np p s o);have iU:(mn [(p:Int),(s:Int),(o:Int)] (mE W.am)).getD (N0 0)=N0 (lB (np p s o) W.am):=aji _ _;have zu:min (max (lB (np p s o) W.am+amt) (-268435456)) 268435456=tE W p s o amt:=rfl;have iL:Am.eT [(p:Int),(s:Int),(o:Int)] (N0 (tE W p s o amt)) (mE W.am)=mE (jF (np p s o) (tE W p s o amt) W.am):=ajj _ _ _;have hM:=h.Ms (jF (np p s o) (tE W p s o amt) W.am);have sm:=iD fm;refine cQ.aK 119 os.length [] Tryz.func103 ?_;refine Xk ?_;refine Kh ?_;intro K hK;simp(disch:=omega)only[Ac,↓Pc,simprocAttr,bE];repeat'(first|with_reducible refine cK ?_ ?_|omega|with_reducible rfl)
 refine hK _ ?_;clear hK K;refine hn _ ?_;(try clear hn;try clear he)
 refine cr (aF.Bv 10 os.length (cells:=[N0 p,N0 s,N0 o]) (by rw[kq]) (by simp only[Kc,simprocAttr]) Iy) ?_;refine cr (σ':=⟨an [(0,.ptr gi 0 0),(1,N0 p),(2,N0 s),(3,N0 o),(4,N0 amt),(10,.cd [N0 p,N0 s,N0 o])],os++[.gone]⟩) (by rw[Dw];exact Xv X0) ?_;generalize Mt:lB (np p s o) W.am=a at *;generalize Fv:tE W p s o amt=n at *;refine Xk ?_;refine ur ?_;intro Q hn he;refine pZ ⟨an [(0,.ptr gi 0 0),(1,N0 p),(2,N0 s),(3,N0 o),(4,N0 amt),(10,.cd [N0 p,N0 s,N0 o]),(11,N0 n)],os++[.gone]⟩ hn ?_ (λkey=>?_);rotate_left
 ·refine nY [] (.take 0 (.take 1 (.take 2 (.take 3 (.take 4 (.take 5 (.take 6 (.take 7 (.take 8 (.take 9 (.take 10 .nil))))))))))) rfl NI (by decide +kernel) ?_;simp(disch:=omega)only[Ac,↓Pc,simprocAttr,uy,ux,uw,uv,sU,p9,mO,lQ,lP,bZ,↓Lq,fv,ev,fm,em,ao,iU,zu,bE];repeat'(first|with_reducible refine cK ?_ ?_|omega|with_reducible rfl)
  all_goals
   refine key _ ?_;exact Xv X0
 (try clear hn;try clear he)
 try(try clear Q)
 refine Xk ?_;refine ur ?_;intro Q hn he;refine pZ ⟨an [(0,.ptr gi 0 0),(1,N0 p),(2,N0 s),(3,N0 o),(4,N0 (n-a)),(10,.cd [N0 p,N0 s,N0 o]),(11,N0 n)],os++[.gone]⟩ hn ?_ (λkey=>?_);rotate_left
 ·refine nY [] (.take 0 (.take 1 (.take 2 (.take 3 (.take 4 (.take 5 (.take 6 (.take 7 (.take 8 .nil))))))))) rfl NI (by decide +kernel) ?_;simp(disch:=omega)only[Ac,↓Pc,simprocAttr,uy,ux,uw,uv,sU,p9,mO,lQ,lP,bZ,↓Lq,fv,ev,fm,em,ao,iU,zu,bE];repeat'(first|with_reducible refine cK ?_ ?_|omega|with_reducible rfl)
  all_goals
   refine key _ ?_;exact Xv X0
 (try clear hn;try clear he)
 try(try clear Q)
 refine Xk ?_;refine ur ?_;intro Q hn he;refine pZ ⟨an [(0,.ptr gi 0 0),(1,N0 p),(2,N0 s),(3,N0 o),(4,N0 (n-a))],os.set mi (.mp 3 (mE (jF (np p s o) n W.am)))++[.gone]⟩ hn ?_ (λkey=>?_);rotate_left
 ·refine nY [] (.take 0 (.take 1 (.take 2 (.take 3 (.take 4 (.take 5 (.take 6 .nil))))))) rfl NI (by decide +kernel) ?_;simp(disch:=omega)only[Ac,↓Pc,simprocAttr,uy,ux,uw,uv,sU,p9,mO,lQ,lP,bZ,↓Lq,fv,ev,fm,em,ao,iU,zu,bE,iL,sm];repeat'(first|with_reducible refine cK ?_ ?_|omega|with_reducible rfl)
  all_goals
   refine key _ ?_;exact Xv X0
 (try clear hn;try clear he)
 try(try clear Q)
 have rQ:=hM.app [.gone];have eJ:Kp mi D E os (os.set mi (.mp 3 (mE (jF (np p s o) n W.am)))++[Ob.gone]):=((Kp.refl mi D E os).Ms _).app _;have Zw:pN m W p s o amt=⟨W.own.set (aD m p s) ((W.own.getD (aD m p s) default).set o (nP W (aD m p s) o+(n-a))),W.ax.set p (jU m p s o (n-a) (cF m (aD m p (1-s))) (W.ax.getD p default)),jF (np p s o) n W.am⟩:=by unfold pN;rw[Fv,Mt]
 rw[Zw];clear hM fv ev fm em sm iU iL Zw;generalize os.set mi (.mp 3 (mE (jF (np p s o) n W.am)))++[Ob.gone]=tw at *;have uh:=En hm rQ hp;have kl:=En hm (rQ.app [.gone,.gone,.gone,.gone]) hp;have e0:(cN m p).fst=((aD m p 0:Nat):Int):=by show _=((cN m p).fst.toNat:Int);omega
 have e1:(cN m p).snd=((aD m p 1:Nat):Int):=by show _=((cN m p).snd.toNat:Int);omega
 rw[e0,e1]at uh kl;refine Xk ?_;refine ur ?_;intro Q hn he;refine pZ ⟨an [(0,.ptr gi 0 0),(1,N0 p),(2,N0 s),(3,N0 o),(4,N0 (n-a)),(12,N0 (aD m p s:Nat)),(13,N0 (aD m p (1-s):Nat))],tw++[.gone,.gone,.gone,.gone,.gone,.gone,.gone,.gone]⟩ hn ?_ (λkey=>?_);rotate_left
 ·refine nY [] (.take 0 (.take 1 (.take 2 (.take 3 (.take 8 (.take 9 (.take 11 (.take 12 (.both 4 (.both 5 (.both 6 (.both 7 (.take 10 (.take 13 (.take 14 (.take 15 (.take 16 (.take 17 (.take 18 .nil))))))) 10 (.take 7 (.take 13 (.take 14 (.take 15 (.take 16 (.take 17 (.take 18 .nil)))))))) 10 (.take 6 (.take 7 (.take 13 (.take 14 (.take 15 (.take 16 (.take 17 (.take 18 .nil))))))))) 10 (.take 5 (.take 6 (.take 7 (.take 13 (.take 14 (.take 15 (.take 16 (.take 17 (.take 18 .nil)))))))))) 10 (.take 4 (.take 5 (.take 6 (.take 7 (.take 13 (.take 14 (.take 15 (.take 16 (.take 17 (.take 18 .nil))))))))))))))))))) rfl NI (by decide +kernel) ?_;simp(disch:=omega)only[Ac,↓Pc,simprocAttr,uy,ux,uw,uv,sU,p9,mO,lQ,lP,bZ,↓Lq];repeat'(first|with_reducible refine cK ?_ ?_|omega|with_reducible rfl)
  all_goals
   refine fF uh Iy ?_;rcases(show s=0\/s=1 by omega) with rfl|rfl;all_goals
    simp(disch:=omega)only[Ac,↓Pc,simprocAttr,uy,ux,uw,uv,sU,p9,mO,lQ,lP,bZ,↓Lq,bC];repeat'(first|with_reducible refine cK ?_ ?_|omega|with_reducible rfl)
   all_goals
    refine fF kl Iy ?_;simp(disch:=omega)only[Ac,↓Pc,simprocAttr,uy,ux,uw,uv,sU,p9,mO,lQ,lP,bZ,↓Lq,bC];repeat'(first|with_reducible refine cK ?_ ?_|omega|with_reducible rfl)
   all_goals
    refine key _ ?_;exact Xv X0
 (try clear hn;try clear he)
 try(try clear Q)
 have Ao:=rQ.app [.gone,.gone,.gone,.gone,.gone,.gone,.gone,.gone];have dK:Kp mi D E os (tw++[.gone,.gone,.gone,.gone,.gone,.gone,.gone,.gone]):=eJ.app _;clear rQ eJ uh kl h;generalize tw++[Ob.gone,Ob.gone,Ob.gone,Ob.gone,Ob.gone,Ob.gone,Ob.gone,Ob.gone]=os2 at *;have bG:∀ s,s<=1->aD m p s<m.cls.length:=λs hs=>by
  rcases(show s=0\/s=1 by omega) with rfl|rfl
  ·exact q1
  ·exact q2
 have hc:=bG s jH;have nh:∀ k,k<cF m (aD m p (1-s))->jT m p s o k<(cN m p).ax.length:=λk hk=>Zt hm hp jH ho hk;have fD:=bG (1-s) Ix;have hD:D.length=m.cls.length:=Ao.rD.len.trans hs.ol;have hE:E.length=m.ae.length:=Ao.rE.len.trans hs.tl;obtain⟨rl,ro⟩:=Ao.rD.row (aD m p s) Ix;dsimp only at rl ro;have mV:=hs.or _ hc;have ro:=ro Ix;have eD:=Ap (q:=D.getD (aD m p s) default) Ix;have fv:=Ao.v;have fa:=Ao.a;have bI:=hW.ob (aD m p s) o;have xq:=Ao.zT (j:=aD m p s) Ix Ix (r:=(W.own.getD (aD m p s) default).set o (nP W (aD m p s) o+(n-a))) Iy;have Eo:=dK.zT (j:=aD m p s) Ix (.arr 1 (ints ((W.own.getD (aD m p s) default).set o (nP W (aD m p s) o+(n-a)))));have Ad:(W.own.getD (aD m p s) default).getD o 0=nP W (aD m p s) o:=rfl;have sD:=lZ (y:=Ob.arr 1 (ints ((W.own.getD (aD m p s) default).set o (nP W (aD m p s) o+(n-a))))) ro;generalize amD:W.own.getD (aD m p s) default=row at *;generalize nP W (aD m p s) o=ow at *;generalize aD m p s=c at *;have HH:=xq.v;repeat'(first|((fail_if_success (first|refine ei 6 ?_|refine ej 6 ?_));refine Xr (X5 @fv @fa @eD @ro (X2 @Ad @HH)) ?_;intro K hK)|refine Xo (X5 @fv @fa @eD @ro (X2 @Ad @HH)) ?_|(refine hK _ ?_;clear hK K)|(refine Xg (X5 @fv @fa @eD @ro (X2 @Ad @HH)) ?_ ?_<;>try intro hb)|(refine Xi ?_ ?_<;>try intro ht)|refine Xy ?_|refine Xd ?_ ?_|exact Xx|fail)
 refine cr (σ':=⟨an [(0,.ptr gi 0 0),(1,N0 p),(2,N0 s),(3,N0 o),(4,N0 (n-a)),(13,N0 (aD m p (1-s):Nat))],os2.set (D.getD c default).1 (.arr 1 (ints (row.set o (ow+(n-a)))))⟩) (Xv X0) ?_;clear Ao dK fv fa sD ro rl HH;dsimp only at xq;generalize os2.set (D.getD c default).1 (.arr 1 (ints (row.set o (ow+(n-a)))))=os3 at *;generalize W.own.set c (row.set o (ow+(n-a)))=ajl at *;have gr:m.ae.getD p default=cN m p:=rfl;have aN:(m.cls.getD (aD m p (1-s)) default).length=cF m (aD m p (1-s)):=rfl;have amE:cF m (aD m p (1-s))<=24:=hm.opt _ (aG fD);have pk:=λk=>Mu (m:=m) (p:=p) (s:=s) (o:=o) (d:=n-a) hB.1 Ix k (W.ax.getD p default) (λj=>hW.tb p j);have BL:=hs.tr p hp;have iL:W.ax.set p (W.ax.getD p default)=W.ax:=zU W.ax p;have ov:=λk=>HI (m:=m) p s o (n-a) k (W.ax.getD p default);have Fj:∀ k,jU m p s o (n-a) (k+1) (W.ax.getD p default)=_:=λk=>jU.eq_2 ..;have xf:jU m p s o (n-a) 0 (W.ax.getD p default)=W.ax.getD p default:=rfl;have Hf:o<24:=Cp ho (Al hm c);generalize W.ax.getD p default=ax at *;generalize Zx:cF m (aD m p (1-s))=sz at *;generalize cu:cN m p=pp at *;have fv:=xq.v;((try revert hK K);(repeat'(first|refine Va (X3 @fv @aN @Zx) ?_|(refine V2 (X3 @fv @aN @Zx) ?_ ?_<;>try with_reducible intro hb)|(refine Xi ?_ ?_<;>try intro ht)|refine VD ?_ ?_|exact Xx|fail))<;>try with_reducible intro K hK)
 refine aU (λz:Nat×List Ob=>(⟨an [(0,.ptr gi 0 0),(1,N0 p),(2,N0 s),(3,N0 o),(4,N0 (n-a)),(82,N0 sz),(83,N0 z.1)],z.2⟩:St))
  (λz=>z.1<=sz/\WF m can gi ai bi mi D E { own:=ajl,ax:=W.ax.set p (jU m p s o (n-a) z.1 ax),am:=jF (np p s o) n W.am } z.2/\Kp mi D E os z.2)
  (λz=>sz-z.1) (0,os3) ⟨aT _,by dsimp only;rw[xf,iL];exact xq,Eo⟩ (Xv X0) ?_
 clear xq Eo fv;rintro⟨k,ok⟩⟨hk,hM,aX⟩Ql ak ar;dsimp only at hk hM aX ⊢;have fv:=hM.v;have fb:=hM.b;by_cases ba:k<sz
 ·have hA:=Zs hm hM hp (s:=s) Hf (show k<24 by omega);obtain⟨tl,tr⟩:=hM.rE.row p Ix;have oO:p<W.ax.length:=by have:=hs.tl;omega
  have pI:(W.ax.set p (jU m p s o (n-a) k ax)).getD p default=jU m p s o (n-a) k ax:=uE _ _ _ oO;dsimp only at tl tr;rw[pI]at tl tr;have zB:=nh k ba;have jK:=ov k;have tr:=tr Ix;have eE:=Ap (q:=E.getD p default) Ix;have HJ:=hM.yv (j:=p) Ix Ix (r:=(jU m p s o (n-a) k ax).set (jT m p s o k) ((jU m p s o (n-a) k ax).getD (jT m p s o k) 0-(n-a))) (by rw[pI,bK]);have hK4:=aX.yv (j:=p) Ix (.arr 1 (ints ((jU m p s o (n-a) k ax).set (jT m p s o k) ((jU m p s o (n-a) k ax).getD (jT m p s o k) 0-(n-a)))));have fR:=pk k (jT m p s o k);have Aq:=Fj k;dsimp only at HJ;rw[List.set_set]at HJ;have sE:=lZ (y:=Ob.arr 1 (ints ((jU m p s o (n-a) k ax).set (jT m p s o k) ((jU m p s o (n-a) k ax).getD (jT m p s o k) 0-(n-a))))) tr;have Zy:=HJ.v;generalize Zz:jU m p s o (n-a) (k+1) ax=tk1 at *;generalize jU m p s o (n-a) k ax=tk at *;generalize oz:jT m p s o k=av at *;generalize vo:pp.ax.getD av 0=pe at *;((try revert hK K);(repeat'(first|refine Va @fv ?_|(refine V2 @fv ?_ ?_<;>try with_reducible intro hb)|(refine Xi ?_ ?_<;>try intro ht)|refine VD ?_ ?_|exact Xx|fail))<;>try with_reducible intro K hK)
  refine fF hA Iy ?_;((try revert hK K);(repeat'(first|refine Va (X5 @fv @fb @eE @tr (X4 @gr @aH.eq_1 @vo @Zy)) ?_|(refine V2 (X5 @fv @fb @eE @tr (X4 @gr @aH.eq_1 @vo @Zy)) ?_ ?_<;>try with_reducible intro hb)|(refine Xi ?_ ?_<;>try intro ht)|refine VD ?_ ?_|exact Xx|fail))<;>try with_reducible intro K hK)
  ·rw[if_pos (by assumption)]at Aq;exact ak _ (k+1,_) ⟨NQ,by dsimp only;rw[Zz,Aq];exact HJ,hK4⟩ NQ (Xv X0)
  ·rw[if_neg (by simpa using ‹pe=_›)]at Aq;exact ak _ (k+1,_) ⟨NQ,by dsimp only;rw[Zz,Aq];exact hM,aX⟩ NQ (Xv X0)
 ·obtain rfl:k=sz:=Ix;((try revert hK K);(repeat'(first|refine Va X0 ?_|(refine V2 X0 ?_ ?_<;>try with_reducible intro hb)|(refine Xi ?_ ?_<;>try intro ht)|refine VD ?_ ?_|exact Xx|fail))<;>try with_reducible intro K hK)
  refine ar _ _ rfl ?_;clear ak ar Ql;repeat(first|refine Xu ?_)
  ((try revert hK K);(repeat'(first|refine Vb X0 ?_|(refine V2 X0 ?_ ?_<;>try with_reducible intro hb)|(refine Xi ?_ ?_<;>try intro ht)|refine VD ?_ ?_|exact Xx|fail))<;>try with_reducible intro K hK)
  unfold eH;simp only[dx,dv];exact⟨.bu [],_,⟨rfl,hM,aX⟩,ed rfl aX.len rfl⟩
end
section
variable {m:ah} {can:List (List Bool)} {gi ai bi mi:Nat} {D E:List (Nat×Nat)} {W:WS} {os:List Ob}
def Mj{X:List (List Bool)}{c:Nat}(hc:c<X.length):(rowsOf aA X)[c]?=some [.tree 1 (bm (X.getD c default))]:=by
 unfold rowsOf;rw[List.getElem?_map,aB,List.getElem?_eq_getElem hc];rfl
def ajn(hm:VM m)(hf:df m can)(h:WF m can gi ai bi mi D E W os)(hs:mF m W){B:Int}(hB:0<=B/\B<=1152921504606846976)(hW:WB B W){p s:Nat}(hp:p<m.ae.length)(jH:s<=1):
  cQ Tryz.prog 72 [.ptr gi 0 0,N0 p,N0 s] os λr ob=>r=.bu []/\WF m can gi ai bi mi D E (Ar m can W p s) ob/\Kp mi D E os ob:=by
 obtain⟨dO,q1,q2,q3,q4,q5⟩:=yL hm hp;have oL:=hm.ae;have qH:=hm.cls;have bG:∀ s,s<=1->aD m p s<m.cls.length:=λs hs=>by
  rcases(show s=0\/s=1 by omega) with rfl|rfl
  ·exact q1
  ·exact q2
 have uh:=En hm h hp;have kl:=En hm (h.app [.gone,.gone,.gone,.gone]) hp;have e0:(cN m p).fst=((aD m p 0:Nat):Int):=by show _=((cN m p).fst.toNat:Int);omega
 have e1:(cN m p).snd=((aD m p 1:Nat):Int):=by show _=((cN m p).snd.toNat:Int);omega
 rw[e0,e1]at uh kl;refine cQ.aK 155 os.length [] Tryz.func72 ?_;refine Xk ?_;refine ur ?_;intro Q hn he;refine pZ ⟨an [(0,.ptr gi 0 0),(1,N0 p),(2,N0 s),(6,N0 (aD m p s:Nat)),(7,N0 (aD m p (1-s):Nat))],os++[.gone,.gone,.gone,.gone,.gone,.gone,.gone,.gone]⟩ hn ?_ (λkey=>?_);rotate_left
 ·refine nY [] (.take 0 (.take 1 (.take 2 (.take 3 (.take 8 (.take 9 (.take 11 (.take 12 (.both 4 (.both 5 (.both 6 (.both 7 (.take 10 (.take 13 (.take 14 (.take 15 (.take 16 (.take 17 (.take 18 .nil))))))) 10 (.take 7 (.take 13 (.take 14 (.take 15 (.take 16 (.take 17 (.take 18 .nil)))))))) 10 (.take 6 (.take 7 (.take 13 (.take 14 (.take 15 (.take 16 (.take 17 (.take 18 .nil))))))))) 10 (.take 5 (.take 6 (.take 7 (.take 13 (.take 14 (.take 15 (.take 16 (.take 17 (.take 18 .nil)))))))))) 10 (.take 4 (.take 5 (.take 6 (.take 7 (.take 13 (.take 14 (.take 15 (.take 16 (.take 17 (.take 18 .nil))))))))))))))))))) rfl NI (by decide +kernel) ?_;simp(disch:=omega)only[Ac,↓Pc,simprocAttr,uy,ux,uw,uv,sU,p9,mO,lQ,lP,bZ,↓Lq];repeat'(first|with_reducible refine cK ?_ ?_|omega|with_reducible rfl)
  all_goals
   refine fF uh Iy ?_;rcases(show s=0\/s=1 by omega) with rfl|rfl;all_goals
    simp(disch:=omega)only[Ac,↓Pc,simprocAttr,uy,ux,uw,uv,sU,p9,mO,lQ,lP,bZ,↓Lq,bC];repeat'(first|with_reducible refine cK ?_ ?_|omega|with_reducible rfl)
   all_goals
    refine fF kl Iy ?_;simp(disch:=omega)only[Ac,↓Pc,simprocAttr,uy,ux,uw,uv,sU,p9,mO,lQ,lP,bZ,↓Lq,bC];repeat'(first|with_reducible refine cK ?_ ?_|omega|with_reducible rfl)
   all_goals
    refine key _ ?_;exact Xv X0
 (try clear hn;try clear he)
 try(try clear Q)
 have rQ:=h.app [.gone,.gone,.gone,.gone,.gone,.gone,.gone,.gone];have eJ:Kp mi D E os (os++[.gone,.gone,.gone,.gone,.gone,.gone,.gone,.gone]):=(Kp.refl mi D E os).app _;clear uh kl h;generalize os++[Ob.gone,Ob.gone,Ob.gone,Ob.gone,Ob.gone,Ob.gone,Ob.gone,Ob.gone]=tw at *;have hc:=bG s jH;have fD:=bG (1-s) Ix;have vP:1-(1-s)=s:=Ix;have QR:((1:Int)-(s:Int))=((1-s:Nat):Int):=Ix;have hD:D.length=m.cls.length:=rQ.rD.len.trans hs.ol;have z1:=Al hm (aD m p s);have z2:=Al hm (aD m p (1-s));have hf1:=hf.1;have hfc:_=cF m (aD m p s):=hf.2 (aD m p s) Ix;have hfk:_=cF m (aD m p (1-s)):=hf.2 (aD m p (1-s)) Ix;have xr:=Mj (X:=can) (c:=aD m p s) Ix;have Ep:=Mj (X:=can) (c:=aD m p (1-s)) Ix;have ZA:Ar m can W p s=jq m can (kX m can W p s (cF m (aD m p s))) p s (cF m (aD m p (1-s))):=rfl;have Mw:=λi=>HK (can:=can) hs p s i;have bA:=λi=>Mx (can:=can) hm hB.1 hW p s i;have sA:∀ i,kX m can W p s (i+1)=_:=λi=>kX.eq_2 ..;have s0:kX m can W p s 0=W:=rfl;have fv:=rQ.v;have fa:=rQ.a;have HL:(D.getD (aD m p s) default).2=cF m (aD m p s):=((rQ.rD.row _ Ix).1).symm.trans (hs.or _ hc);have ZB:(D.getD (aD m p (1-s)) default).2=cF m (aD m p (1-s)):=((rQ.rD.row _ Ix).1).symm.trans (hs.or _ fD);refine Xk ?_;refine Xk ?_;refine ur ?_;intro Q hn he;refine pZ ⟨an [(0,.ptr gi 0 0),(1,N0 p),(2,N0 s),(6,N0 (aD m p s:Nat)),(7,N0 (aD m p (1-s):Nat)),(37,N0 (cF m (aD m p s):Nat)),(38,N0 0)],tw⟩ hn ?_ (λkey=>?_);rotate_left
 ·(try clear hn;try clear he)
  have fr:=(rQ.rD.row _ (show aD m p s<D.length by omega)).2;rcases qV (D.getD (aD m p s) default).2 with h0|h0
  ·have e:=My h0;rw[HL]at h0;rw[h0]at key;((try revert hK K);(repeat'(first|refine Va (X3 @fv @fa @e) ?_|(refine V2 (X3 @fv @fa @e) ?_ ?_<;>try with_reducible intro hb)|(refine Xi ?_ ?_<;>try intro ht)|refine VD ?_ ?_|exact Xx|fail))<;>try with_reducible intro K hK)
   refine key _ ?_;exact Xv X0
  ·have e:=Ap h0;have fr:=fr h0;rw[HL]at e;((try revert hK K);(repeat'(first|refine Va (X4 @fv @fa @e @fr) ?_|(refine V2 (X4 @fv @fa @e @fr) ?_ ?_<;>try with_reducible intro hb)|(refine Xi ?_ ?_<;>try intro ht)|refine VD ?_ ?_|exact Xx|fail))<;>try with_reducible intro K hK)
   refine key _ ?_;exact Xv X0
 (try clear hn;try clear he)
 try(try clear Q)
 clear fv fa;((try revert hK K);(repeat'(first|refine Va X0 ?_|(refine V2 X0 ?_ ?_<;>try with_reducible intro hb)|(refine Xi ?_ ?_<;>try intro ht)|refine VD ?_ ?_|exact Xx|fail))<;>try with_reducible intro K hK)
 refine aU (λz:Nat×List Ob=>(⟨an [(0,.ptr gi 0 0),(1,N0 p),(2,N0 s),(6,N0 (aD m p s:Nat)),(7,N0 (aD m p (1-s):Nat)),(37,N0 (cF m (aD m p s):Nat)),(38,N0 z.1)],z.2⟩:St))
  (λz=>z.1<=cF m (aD m p s)/\WF m can gi ai bi mi D E (kX m can W p s z.1) z.2/\Kp mi D E os z.2)
  (λz=>cF m (aD m p s)-z.1) (0,tw) ⟨aT _,rQ,eJ⟩ (Xv X0) ?_
 clear rQ eJ tw;rintro⟨i,ok⟩⟨hi,hM,aX⟩Ql ak ar;dsimp only at hi hM aX ⊢;have fv:=hM.v;have fa:=hM.a;obtain⟨rl,rr⟩:=hM.rD.row (aD m p s) Ix;by_cases aq:i<cF m (aD m p s)
 ·have rr:=rr Ix;have eD:=Ap (q:=D.getD (aD m p s) default) Ix;have fY:=(bA i).ob (aD m p s) i;have qG:=Zu hm hM (Mw i) (B:=B+12884901888*i) Ix (bA i) hp jH aq (amt:=-nP (kX m can W p s i) (aD m p s) i) Ix;have HM:=sA i;have Ad:((kX m can W p s i).own.getD (aD m p s) default).getD i 0=nP (kX m can W p s i) (aD m p s) i:=rfl;generalize tF:kX m can W p s (i+1)=W1 at *;have Mz:i<24:=Ix;by_cases iP:xw can (aD m p s) i=true
  ·rw[if_pos iP]at HM;have aP:(can.getD (aD m p s) default).getD i false=true:=iP;generalize nP (kX m can W p s i) (aD m p s) i=ow at *;generalize (kX m can W p s i).own.getD (aD m p s) default=row at *;repeat'(first|((fail_if_success (first|refine ei 5 ?_|refine ej 5 ?_));refine Xr (X4 @fv @xr @aP @aA.eq_1) ?_;intro K hK)|refine Xo (X4 @fv @xr @aP @aA.eq_1) ?_|(refine hK _ ?_;clear hK K)|(refine Xg (X4 @fv @xr @aP @aA.eq_1) ?_ ?_<;>try intro hb)|(refine Xi ?_ ?_<;>try intro ht)|refine Xy ?_|refine Xd ?_ ?_|exact Xx|fail)
   refine nf 15 NI _ rfl ?_;intro K hK;simp(disch:=omega)only[Ac,↓Pc,simprocAttr,iv,eC,fv,fa,eD,rr,Ad];repeat'(first|with_reducible refine cK ?_ ?_|omega|with_reducible rfl)
   refine⟨rfl,(show jz Tryz.prog 103 [.ptr gi 0 0,N0 p,N0 s,N0 i,N0 (-ow)] (some 66) _ _ from ?_)⟩;refine qy qG ?_;rintro r kd⟨rfl,xq,fU⟩;refine⟨fU.len,?_⟩;simp(disch:=omega)only[Ac,↓Pc,simprocAttr,eC];refine hK _ ?_;clear hK K;repeat(first|refine Xu ?_)
   ((try revert hK K);(repeat'(first|refine Va X0 ?_|(refine V2 X0 ?_ ?_<;>try with_reducible intro hb)|(refine Xi ?_ ?_<;>try intro ht)|refine VD ?_ ?_|exact Xx|fail))<;>try with_reducible intro K hK)
   exact ak _ (i+1,kd) ⟨NQ,by dsimp only;rw[tF,HM];exact xq,aX.trans fU⟩ NQ (Xv X0)
  ·rw[if_neg iP]at HM;have aP:(can.getD (aD m p s) default).getD i false=false:=by simpa [xw] using iP
   ((try revert hK K);(repeat'(first|refine Va (X4 @fv @xr @aP @aA.eq_1) ?_|(refine V2 (X4 @fv @xr @aP @aA.eq_1) ?_ ?_<;>try with_reducible intro hb)|(refine Xi ?_ ?_<;>try intro ht)|refine VD ?_ ?_|exact Xx|fail))<;>try with_reducible intro K hK)
   exact ak _ (i+1,ok) ⟨NQ,by dsimp only;rw[tF,HM];exact hM,aX⟩ NQ (Xv X0)
 ·obtain rfl:i=cF m (aD m p s):=Ix;((try revert hK K);(repeat'(first|refine Va X0 ?_|(refine V2 X0 ?_ ?_<;>try with_reducible intro hb)|(refine Xi ?_ ?_<;>try intro ht)|refine VD ?_ ?_|exact Xx|fail))<;>try with_reducible intro K hK)
  refine ar _ _ rfl ?_;clear ak ar Ql;repeat(first|refine Xu ?_)
  clear fv fa rl rr;have ajo:=Mw (cF m (aD m p s));have ajp:=(bA (cF m (aD m p s))).mono (C:=B+309237645312) Ix;rw[ZA];clear sA s0 ZA Mw bA hs hW;generalize kX m can W p s (cF m (aD m p s))=WA at *;have ZC:=λi=>HN (can:=can) ajo p s i;have bB:=λi=>MA (can:=can) hm Ix ajp p s i;have sB:∀ i,jq m can WA p s (i+1)=_:=λi=>jq.eq_2 ..;have fv:=hM.v;have fa:=hM.a;refine Xk ?_;refine ur ?_;intro Q hn he;refine pZ ⟨an [(0,.ptr gi 0 0),(1,N0 p),(2,N0 s),(6,N0 (aD m p s:Nat)),(7,N0 (aD m p (1-s):Nat)),(75,N0 (cF m (aD m p (1-s)):Nat)),(76,N0 0)],ok⟩ hn ?_ (λkey=>?_);rotate_left
  ·(try clear hn;try clear he)
   have fr:=(hM.rD.row _ (show aD m p (1-s)<D.length by omega)).2;rcases qV (D.getD (aD m p (1-s)) default).2 with h0|h0
   ·have e:=My h0;rw[ZB]at h0;rw[h0]at key;((try revert hK K);(repeat'(first|refine Va (X3 @fv @fa @e) ?_|(refine V2 (X3 @fv @fa @e) ?_ ?_<;>try with_reducible intro hb)|(refine Xi ?_ ?_<;>try intro ht)|refine VD ?_ ?_|exact Xx|fail))<;>try with_reducible intro K hK)
    refine key _ ?_;exact Xv X0
   ·have e:=Ap h0;have fr:=fr h0;rw[ZB]at e;((try revert hK K);(repeat'(first|refine Va (X4 @fv @fa @e @fr) ?_|(refine V2 (X4 @fv @fa @e @fr) ?_ ?_<;>try with_reducible intro hb)|(refine Xi ?_ ?_<;>try intro ht)|refine VD ?_ ?_|exact Xx|fail))<;>try with_reducible intro K hK)
    refine key _ ?_;exact Xv X0
  (try clear hn;try clear he)
  try(try clear Q)
  clear fv fa;((try revert hK K);(repeat'(first|refine Va X0 ?_|(refine V2 X0 ?_ ?_<;>try with_reducible intro hb)|(refine Xi ?_ ?_<;>try intro ht)|refine VD ?_ ?_|exact Xx|fail))<;>try with_reducible intro K hK)
  refine aU (λz:Nat×List Ob=>(⟨an [(0,.ptr gi 0 0),(1,N0 p),(2,N0 s),(6,N0 (aD m p s:Nat)),(7,N0 (aD m p (1-s):Nat)),(75,N0 (cF m (aD m p (1-s)):Nat)),(76,N0 z.1)],z.2⟩:St))
   (λz=>z.1<=cF m (aD m p (1-s))/\WF m can gi ai bi mi D E (jq m can WA p s z.1) z.2/\Kp mi D E os z.2)
   (λz=>cF m (aD m p (1-s))-z.1) (0,ok) ⟨aT _,hM,aX⟩ (Xv X0) ?_
  clear hM aX ok;rintro⟨k,ok⟩⟨hk,hM,aX⟩Ql ak ar;dsimp only at hk hM aX ⊢;by_cases ba:k<cF m (aD m p (1-s))
  ·have Mz:k<24:=Ix;have HO:=sB k;have MC:=λi=>ZD (can:=can) (m:=m) Ix (bB k) p s k i;have qG:=Zu hm hM (ZC k) (B:=B+309237645312+12884901888*k) Ix (bB k) hp (s:=1-s) Ix ba (amt:=Ca (oP m can (jq m can WA p s k) p s k (cF m (aD m p s)))) (by have:=MC (cF m (aD m p s));unfold Ca;split<;>omega);have ZE:=ZC k;generalize tF:jq m can WA p s (k+1)=W1 at *;have fv:=hM.v;have fa:=hM.a;by_cases iP:xw can (aD m p (1-s)) k=true
   ·rw[if_pos iP]at HO;have aP:(can.getD (aD m p (1-s)) default).getD k false=true:=iP;repeat'(first|((fail_if_success (first|refine ei 12 ?_|refine ej 12 ?_));refine Xr (X4 @fv @Ep @aP @aA.eq_1) ?_;intro K hK)|refine Xo (X4 @fv @Ep @aP @aA.eq_1) ?_|(refine hK _ ?_;clear hK K)|(refine Xg (X4 @fv @Ep @aP @aA.eq_1) ?_ ?_<;>try intro hb)|(refine Xi ?_ ?_<;>try intro ht)|refine Xy ?_|refine Xd ?_ ?_|exact Xx|fail)
    refine ur ?_;intro Q hn he;refine pZ ⟨an [(0,.ptr gi 0 0),(1,N0 p),(2,N0 s),(6,N0 (aD m p s:Nat)),(7,N0 (aD m p (1-s):Nat)),(9,N0 k),(10,N0 1099511627776),(75,N0 (cF m (aD m p (1-s)):Nat)),(76,N0 k),(97,N0 (cF m (aD m p s):Nat)),(98,N0 0)],ok⟩ hn ?_ (λkey=>?_);rotate_left
    ·(try clear hn;try clear he)
     have fr:=(hM.rD.row _ (show aD m p s<D.length by omega)).2;rcases qV (D.getD (aD m p s) default).2 with h0|h0
     ·have e:=My h0;rw[HL]at h0;rw[h0]at key;((try revert hK K);(repeat'(first|refine Va (X3 @fv @fa @e) ?_|(refine V2 (X3 @fv @fa @e) ?_ ?_<;>try with_reducible intro hb)|(refine Xi ?_ ?_<;>try intro ht)|refine VD ?_ ?_|exact Xx|fail))<;>try with_reducible intro K hK)
      refine key _ ?_;exact Xv X0
     ·have e:=Ap h0;have fr:=fr h0;rw[HL]at e;((try revert hK K);(repeat'(first|refine Va (X4 @fv @fa @e @fr) ?_|(refine V2 (X4 @fv @fa @e @fr) ?_ ?_<;>try with_reducible intro hb)|(refine Xi ?_ ?_<;>try intro ht)|refine VD ?_ ?_|exact Xx|fail))<;>try with_reducible intro K hK)
      refine key _ ?_;exact Xv X0
    (try clear hn;try clear he)
    try(try clear Q)
    ((try revert hK K);(repeat'(first|refine Va X0 ?_|(refine V2 X0 ?_ ?_<;>try with_reducible intro hb)|(refine Xi ?_ ?_<;>try intro ht)|refine VD ?_ ?_|exact Xx|fail))<;>try with_reducible intro K hK)
    have hl0:oP m can (jq m can WA p s k) p s k 0=1099511627776:=rfl;have s9:∀ i,oP m can (jq m can WA p s k) p s k (i+1)=_:=λi=>oP.eq_2 ..;have nh:∀ i,i<cF m (aD m p s)->jT m p s i k<(cN m p).ax.length:=λi hi=>Zt hm hp jH hi ba;have hE:E.length=m.ae.length:=hM.rE.len.trans ZE.tl;obtain⟨tl,tr⟩:=hM.rE.row p Ix;have nk:=ZE.tr p hp;have D6:=(bB k).tb p;have gr:m.ae.getD p default=cN m p:=rfl;have uM:∀ j,((jq m can WA p s k).ax.getD p default).getD j 0=As (jq m can WA p s k) p j:=λj=>rfl;have fb:=hM.b;refine aU (λi:Nat=>(⟨an [(0,.ptr gi 0 0),(1,N0 p),(2,N0 s),(6,N0 (aD m p s:Nat)),(7,N0 (aD m p (1-s):Nat)),(9,N0 k),(10,N0 (oP m can (jq m can WA p s k) p s k i)),(75,N0 (cF m (aD m p (1-s)):Nat)),(76,N0 k),(97,N0 (cF m (aD m p s):Nat)),(98,N0 i)],ok⟩:St))
     (λi=>i<=cF m (aD m p s)) (λi=>cF m (aD m p s)-i) 0 (aT _) (by rw[hl0];exact Xv X0) ?_
    rintro i ph c7 br bx;have amI:=MC i;by_cases hi3:i<cF m (aD m p s)
    ·have hA:=Zs hm hM hp (s:=s) (o:=i) (k:=k) Ix Mz;have zB:=nh i hi3;have lg:=s9 i;have tr:=tr Ix;have eE:=Ap (q:=E.getD p default) Ix;have htj:=D6 (jT m p s i k);have HP:=uM (jT m p s i k);generalize hl1:oP m can (jq m can WA p s k) p s k (i+1)=l1 at *;generalize oP m can (jq m can WA p s k) p s k i=l0 at *;generalize As (jq m can WA p s k) p (jT m p s i k)=tj at *;generalize (jq m can WA p s k).ax.getD p default=amK at *;generalize jT m p s i k=av at *;generalize cN m p=pp at *;generalize vo:pp.ax.getD av 0=pe at *;have HQ:(can.getD (aD m p s) default).getD i false=xw can (aD m p s) i:=rfl;generalize xw can (aD m p s) i=cb at *;by_cases hq:cb=true/\pe≠1099511627776
     ·rw[if_pos hq]at lg;obtain⟨rfl,Hl⟩:=hq;((try revert hK K);(repeat'(first|refine Va X0 ?_|(refine V2 X0 ?_ ?_<;>try with_reducible intro hb)|(refine Xi ?_ ?_<;>try intro ht)|refine VD ?_ ?_|exact Xx|fail))<;>try with_reducible intro K hK)
      refine fF hA Iy ?_;((try revert hK K);(repeat'(first|refine Va (X5 @fv @fb @eE @tr (X5 @gr @aH.eq_1 @vo @HP (X3 @xr @HQ @aA.eq_1))) ?_|(refine V2 (X5 @fv @fb @eE @tr (X5 @gr @aH.eq_1 @vo @HP (X3 @xr @HQ @aA.eq_1))) ?_ ?_<;>try with_reducible intro hb)|(refine Xi ?_ ?_<;>try intro ht)|refine VD ?_ ?_|exact Xx|fail))<;>try with_reducible intro K hK)
      all_goals try(exfalso;omega)
      all_goals exact br _ (i+1) Ix Ix (by rw[hl1,lg];exact Xv X0)
     ·rw[if_neg hq]at lg;((try revert hK K);(repeat'(first|refine Va X0 ?_|(refine V2 X0 ?_ ?_<;>try with_reducible intro hb)|(refine Xi ?_ ?_<;>try intro ht)|refine VD ?_ ?_|exact Xx|fail))<;>try with_reducible intro K hK)
      refine fF hA Iy ?_;((try revert hK K);(repeat'(first|refine Va (X5 @fv @fb @eE @tr (X5 @gr @aH.eq_1 @vo @HP (X3 @xr @HQ @aA.eq_1))) ?_|(refine V2 (X5 @fv @fb @eE @tr (X5 @gr @aH.eq_1 @vo @HP (X3 @xr @HQ @aA.eq_1))) ?_ ?_<;>try with_reducible intro hb)|(refine Xi ?_ ?_<;>try intro ht)|refine VD ?_ ?_|exact Xx|fail))<;>try with_reducible intro K hK)
      all_goals first
       |exact br _ (i+1) Ix Ix (by rw[hl1,lg];exact Xv X0)
       |exact absurd ⟨by assumption,by assumption⟩ hq
    ·obtain rfl:i=cF m (aD m p s):=Ix;((try revert hK K);(repeat'(first|refine Va X0 ?_|(refine V2 X0 ?_ ?_<;>try with_reducible intro hb)|(refine Xi ?_ ?_<;>try intro ht)|refine VD ?_ ?_|exact Xx|fail))<;>try with_reducible intro K hK)
     refine bx _ _ rfl ?_;clear br bx c7;repeat(first|refine Xu ?_)
     clear MC hl0 s9 nh D6 uM fv fa fb tl tr;have jh:Ca (oP m can (jq m can WA p s k) p s k (cF m (aD m p s)))=_:=Ca.eq_1 _;generalize oP m can (jq m can WA p s k) p s k (cF m (aD m p s))=L at *;generalize Ca L=amt at *;by_cases hL:L=1099511627776;all_goals
      first|rw[if_pos hL]at jh|rw[if_neg hL]at jh
      repeat'(first|((fail_if_success (first|refine ei 21 ?_|refine ej 21 ?_));refine Xr @hL ?_;intro K hK)|refine Xo @hL ?_|(refine hK _ ?_;clear hK K)|(refine Xg @hL ?_ ?_<;>try intro hb)|(refine Xi ?_ ?_<;>try intro ht)|refine Xy ?_|refine Xd ?_ ?_|exact Xx|fail)
      all_goals try(exfalso;omega)
      refine nf 6 NI _ rfl ?_;intro K hK;simp(disch:=omega)only[Ac,↓Pc,simprocAttr,iv,eC,QR];repeat'(first|with_reducible refine cK ?_ ?_|omega|with_reducible rfl)
      rw[<- jh];refine⟨rfl,(show jz Tryz.prog 103 [.ptr gi 0 0,N0 p,N0 (1-s:Nat),N0 k,N0 amt] (some 153) _ _ from ?_)⟩;refine qy qG ?_;rintro r kd⟨rfl,xq,fU⟩;refine⟨fU.len,?_⟩;simp(disch:=omega)only[Ac,↓Pc,simprocAttr,eC];refine hK _ ?_;clear hK K;repeat(first|refine Xu ?_)
      ((try revert hK K);(repeat'(first|refine Va X0 ?_|(refine V2 X0 ?_ ?_<;>try with_reducible intro hb)|(refine Xi ?_ ?_<;>try intro ht)|refine VD ?_ ?_|exact Xx|fail))<;>try with_reducible intro K hK)
      exact ak _ (k+1,kd) ⟨NQ,by dsimp only;rw[tF,HO];exact xq,aX.trans fU⟩ NQ (Xv X0)
   ·rw[if_neg iP]at HO;have aP:(can.getD (aD m p (1-s)) default).getD k false=false:=by simpa [xw] using iP
    ((try revert hK K);(repeat'(first|refine Va (X4 @fv @Ep @aP @aA.eq_1) ?_|(refine V2 (X4 @fv @Ep @aP @aA.eq_1) ?_ ?_<;>try with_reducible intro hb)|(refine Xi ?_ ?_<;>try intro ht)|refine VD ?_ ?_|exact Xx|fail))<;>try with_reducible intro K hK)
    exact ak _ (k+1,ok) ⟨NQ,by dsimp only;rw[tF,HO];exact hM,aX⟩ NQ (Xv X0)
  ·obtain rfl:k=cF m (aD m p (1-s)):=Ix;((try revert hK K);(repeat'(first|refine Va X0 ?_|(refine V2 X0 ?_ ?_<;>try with_reducible intro hb)|(refine Xi ?_ ?_<;>try intro ht)|refine VD ?_ ?_|exact Xx|fail))<;>try with_reducible intro K hK)
   refine ar _ _ rfl ?_;clear ak ar Ql;repeat(first|refine Xu ?_)
   ((try revert hK K);(repeat'(first|refine Vb X0 ?_|(refine V2 X0 ?_ ?_<;>try with_reducible intro hb)|(refine Xi ?_ ?_<;>try intro ht)|refine VD ?_ ?_|exact Xx|fail))<;>try with_reducible intro K hK)
   unfold eH;simp only[dx,dv];exact⟨.bu [],_,⟨rfl,hM,aX⟩,ed rfl aX.len rfl⟩
end
def Ed:ty Tryz.prog 88 = { kind:=9,size:=1,bytes:=8,elem:=0,len:=0,zero:=some [.nilFunc],aM:=[] }:=by kernel_rfl
section
variable {m:ah} {can:List (List Bool)} {gi ai bi mi:Nat} {D E:List (Nat×Nat)} {si sa jV wi jW:Nat} {cO:List (List Int)}
def aiu(hm:VM m)(hf:df m can)(Er:UN gi ai bi mi D E si sa jV wi jW)(pK:cO.length=m.cls.length)(pg:∀ c,c<m.cls.length->(cO.getD c default).length<9223372036854775808/\∀ x∈cO.getD c default,0<=x/\x<m.ae.length):
  ∀ (f:Nat) (st:WS×List Bool) (c:Nat) (os:List Ob) (B:Int),m.cls.length-nT st.2<=f->c<m.cls.length->st.2.getD c false=false->st.2.length=m.cls.length->WF m can gi ai bi mi D E st.1 os->UF 70 gi si sa jV wi jW cO st.2 os->mF m st.1 ->
   0<=B+618475290624*(nT st.2:Nat)->B<=576460752303423488->WB (B+618475290624*(nT st.2:Nat)) st.1 ->
   cQ Tryz.prog 70 [N0 c,.ptr si 0 0,.ptr jV 0 0,.ptr wi 0 0,.ptr jW 0 0] os λr ob=>r=.bu []/\WF m can gi ai bi mi D E (iQ m can cO f st c).1 ob/\UF 70 gi si sa jV wi jW cO (iQ m can cO f st c).2 ob/\Kp mi ((sa,0)::D) E os ob/\UO m B 1 st (iQ m can cO f st c):=by
 intro f
 induction f with
 |zero =>
  intro st c os B h0 hc hs hl;have:=ajr Ix hs;omega
 |succ f ih =>
  intro st c os B h0 hc hs hl hW hU uI hB ZF HR;have qE:=hm.cls;have oL:=hm.ae;have fs:=hU.s;have fa:=hU.a;have hnt:=ajt Ix hs;have ZG:=Mi (st.2.set c true);rw[bK,hl]at ZG;obtain⟨n1,n2,n3,n4,n5,n6,n7⟩:=Er.sa;have tF:=hW.other ⟨n1,n2,n3,(Er.out sa Iy).1⟩ (Er.out sa Iy).2 (.arr 1 (bm (st.2.set c true)));have MD:=hU.set Er (s2:=st.2.set c true) Iy;have eJ:Kp mi ((sa,0)::D) E os (os.set sa (.arr 1 (bm (st.2.set c true)))):=(Kp.refl mi _ E os).put _;have ZH:UO m B 1 st (st.1,st.2.set c true):=⟨by simpa using hl,uI,HR.mono NQ,NQ,λj hj=>by
   dsimp only;by_cases e:c=j
   ·subst e;simp[aB,List.getElem?_set,hl,hc]
   ·rw[aB,List.getElem?_set_ne e,<- aB];exact hj⟩
  rw[aju];obtain⟨gR,oF⟩:=pg c hc;have hbc:(fc cO)[c]?=some [.tree 1 (ints (cO.getD c default))]:=I7 cO c Ix;generalize lW:cO.getD c default=l at *;have ZI:cO.getD c []=l:=lW;have ME:=MD.b;refine cQ.aK 49 os.length [] Tryz.func70 ?_;((try revert hK K);(repeat'(first|refine Va (X4 @fs @fa @ME @ZI) ?_|(refine V2 (X4 @fs @fa @ME @ZI) ?_ ?_<;>try with_reducible intro hb)|(refine Xi ?_ ?_<;>try intro ht)|refine VD ?_ ?_|exact Xx|fail))<;>try with_reducible intro K hK)
  have z':vW m can (iQ m can cO f) (st.1,st.2.set c true) (l.take 0)=(st.1,st.2.set c true):=rfl;refine aU (λz:Nat×List Ob=>(⟨an [(1,.ptr si 0 0),(2,.ptr jV 0 0),(3,.ptr wi 0 0),(4,.ptr jW 0 0),(17,.tree 1 (ints l)),(18,N0 l.length),(19,N0 z.1)],z.2⟩:St))
   (λz=>z.1<=l.length/\WF m can gi ai bi mi D E (vW m can (iQ m can cO f) (st.1,st.2.set c true) (l.take z.1)).1 z.2/\UF 70 gi si sa jV wi jW cO (vW m can (iQ m can cO f) (st.1,st.2.set c true) (l.take z.1)).2 z.2/\Kp mi ((sa,0)::D) E os z.2/\UO m B 1 st (vW m can (iQ m can cO f) (st.1,st.2.set c true) (l.take z.1)))
   (λz=>l.length-z.1) (0,os.set sa (.arr 1 (bm (st.2.set c true)))) ⟨aT _,by dsimp only;rw[z'];exact tF,by dsimp only;rw[z'];exact MD,eJ,by dsimp only;rw[z'];exact ZH⟩ (Xv X0) ?_
  clear tF MD eJ ZH z' fs fa ME hnt ZG hW hU;rintro⟨j,ob⟩⟨hj,hW,hU,aX,hO⟩Ql ak ar;dsimp only at hj hW hU aX hO ⊢;by_cases fe:j<l.length
  ·have eO:=ajv m can (iQ m can cO f) (st.1,st.2.set c true) fe;obtain⟨hx0,hx1⟩:=oF (l.getD j default) (aG fe);generalize hx3:l.getD j default=x at *;have zj:l.getD j 0=x:=hx3;generalize tF:vW m can (iQ m can cO f) (st.1,st.2.set c true) (l.take (j+1))=r1 at *;generalize vW m can (iQ m can cO f) (st.1,st.2.set c true) (l.take j)=sj at *;obtain⟨p,rfl⟩:∃p:Nat,x=p:=⟨x.toNat,Ix⟩;rw[Int.toNat_natCast]at eO;have hp:p<m.ae.length:=Ix;obtain⟨dO,q1,q2,q3,q4,q5⟩:=yL hm hp;have he:=En hm hW hp;have fw:=hU.w;have rR:=hW.app [.gone,.gone,.gone,.gone];have ZJ:=hU.app [.gone,.gone,.gone,.gone];have ZK:=aX.app [.gone,.gone,.gone,.gone];have e0:(cN m p).fst=((aD m p 0:Nat):Int):=by show _=((cN m p).fst.toNat:Int);omega
   have e1:(cN m p).snd=((aD m p 1:Nat):Int):=by show _=((cN m p).snd.toNat:Int);omega
   rw[e0,e1]at he;have hEq:∀ s,s<2->([[.tree 1 (ints [((aD m p 0:Nat):Int)])],[.tree 1 (ints [((aD m p 1:Nat):Int)])]]:List (List AV))[s]?=some [.tree 1 (ints [((aD m p s:Nat):Int)])]:=λs hs=>by
    rcases(show s=0\/s=1 by omega) with rfl|rfl<;>rfl
   have yH:([[.tree 1 (ints [((aD m p 0:Nat):Int)])],[.tree 1 (ints [((aD m p 1:Nat):Int)])]]:List (List AV)).length=2:=rfl;generalize ([[.tree 1 (ints [((aD m p 0:Nat):Int)])],[.tree 1 (ints [((aD m p 1:Nat):Int)])]]:List (List AV))=EN at *;have bG:∀ s,s<2->aD m p s<m.cls.length:=λs hs=>by
    rcases(show s=0\/s=1 by omega) with rfl|rfl
    ·exact q1
    ·exact q2
   repeat'(first|((fail_if_success (first|refine ei 4 ?_|refine ej 4 ?_));refine Xr @zj ?_;intro K hK)|refine Xo @zj ?_|(refine hK _ ?_;clear hK K)|(refine Xg @zj ?_ ?_<;>try intro hb)|(refine Xi ?_ ?_<;>try intro ht)|refine Xy ?_|refine Xd ?_ ?_|exact Xx|fail)
   ((try revert hK K);(repeat'(first|refine Va @fw ?_|(refine V2 @fw ?_ ?_<;>try with_reducible intro hb)|(refine Xi ?_ ?_<;>try intro ht)|refine VD ?_ ?_|exact Xx|fail))<;>try with_reducible intro K hK)
   refine fF he Iy ?_;((try revert hK K);(repeat'(first|refine Va @yH ?_|(refine V2 @yH ?_ ?_<;>try with_reducible intro hb)|(refine Xi ?_ ?_<;>try intro ht)|refine VD ?_ ?_|exact Xx|fail))<;>try with_reducible intro K hK)
   have w7:uP m can (iQ m can cO f) sj p 0=sj:=rfl;have vP:∀ s,uP m can (iQ m can cO f) sj p (s+1)=Au m can (iQ m can cO f) (uP m can (iQ m can cO f) sj p s) p s:=λs=>rfl;refine aU (λz:Nat×List Ob=>(⟨an [(1,.ptr si 0 0),(2,.ptr jV 0 0),(3,.ptr wi 0 0),(4,.ptr jW 0 0),(7,N0 p),(17,.tree 1 (ints l)),(18,N0 l.length),(19,N0 j),(25,.tree 1 EN),(26,N0 2),(27,N0 z.1)],z.2⟩:St))
    (λz=>z.1<=2/\WF m can gi ai bi mi D E (uP m can (iQ m can cO f) sj p z.1).1 z.2/\UF 70 gi si sa jV wi jW cO (uP m can (iQ m can cO f) sj p z.1).2 z.2/\Kp mi ((sa,0)::D) E os z.2/\UO m B 1 st (uP m can (iQ m can cO f) sj p z.1))
    (λz=>2-z.1) (0,ob++[.gone,.gone,.gone,.gone]) ⟨NQ,by dsimp only;rw[w7];exact rR,by dsimp only;rw[w7];exact ZJ,ZK,by dsimp only;rw[w7];exact hO⟩ (Xv X0) ?_
   (try clear he;clear rR ZJ ZK hO hW hU aX fw w7)
   rintro⟨s,ob⟩⟨kZ,hW,hU,aX,hO⟩c7 br bx;dsimp only at kZ hW hU aX hO ⊢;by_cases iw:s<2
   ·have Es:EN.getD s []=[.tree 1 (ints [((aD m p s:Nat):Int)])]:=by rw[aB,hEq s iw];rfl
    have xm:=bG s iw;have nB:=vP s;unfold Au at nB;generalize rR:uP m can (iQ m can cO f) sj p (s+1)=r2 at *;generalize uP m can (iQ m can cO f) sj p s=sk at *;have fs:=hU.s;have fa:=hU.a;have fw:=hU.w;have fu:=hU.u;have eW:=hO.len;generalize kx:aD m p s=kc at *;by_cases vT:sk.2.getD kc false=true
    ·rw[if_pos vT]at nB;((try revert hK K);(repeat'(first|refine Va (X5 @Es @yH @fs @fa @vT) ?_|(refine V2 (X5 @Es @yH @fs @fa @vT) ?_ ?_<;>try with_reducible intro hb)|(refine Xi ?_ ?_<;>try intro ht)|refine VD ?_ ?_|exact Xx|fail))<;>try with_reducible intro K hK)
     exact br _ (s+1,ob) ⟨NQ,by dsimp only;rw[rR,nB];exact hW,by dsimp only;rw[rR,nB];exact hU,aX,by dsimp only;rw[rR,nB];exact hO⟩ NQ (Xv X0)
    ·rw[if_neg vT]at nB;have HS:sk.2.getD kc false=false:=by simpa using vT
     repeat'(first|((fail_if_success (first|refine ei 9 ?_|refine ej 9 ?_));refine Xr (X5 @Es @yH @fs @fa @HS) ?_;intro K hK)|refine Xo (X5 @Es @yH @fs @fa @HS) ?_|(refine hK _ ?_;clear hK K)|(refine Xg (X5 @Es @yH @fs @fa @HS) ?_ ?_<;>try intro hb)|(refine Xi ?_ ?_<;>try intro ht)|refine Xy ?_|refine Xd ?_ ?_|exact Xx|fail)
     have hih:=ih sk kc ob (B-618475290624) (by have:=hO.up;omega) xm HS eW hW hU hO.sh (by have:=hO.up;omega) Ix (hO.wb.mono Ix);generalize iQ m can cO f sk kc=s3 at *;refine nf 2 NI _ rfl ?_;intro K hK;simp(disch:=omega)only[Ac,↓Pc,simprocAttr,iv,eC,fu,Ed];repeat'(first|with_reducible refine cK ?_ ?_|omega|with_reducible rfl)
     refine⟨rfl,(show jz Tryz.prog 70 [N0 kc,.ptr si 0 0,.ptr jV 0 0,.ptr wi 0 0,.ptr jW 0 0] (some 42) _ _ from ?_)⟩;refine qy hih ?_;rintro r kd⟨rfl,MF,ZL,fU,yP⟩;refine⟨fU.len,?_⟩;simp(disch:=omega)only[Ac,↓Pc,simprocAttr,eC];refine hK _ ?_;clear hK K;repeat(first|refine Xu ?_)
     have hO4:=hO.up;have hO5:=yP.up;have hO6:=Mi s3.2;rw[yP.len]at hO6;have fK:=ajn hm hf MF yP.sh (B:=B-618475290624+618475290624*(nT s3.2:Nat)-618475290624) ⟨Ix,Ix⟩ (yP.wb.mono Ix) hp (s:=s) Ix;have fw3:=ZL.w;refine nf 3 NI _ rfl ?_;intro K hK;simp(disch:=omega)only[Ac,↓Pc,simprocAttr,iv,eC,fw3];repeat'(first|with_reducible refine cK ?_ ?_|omega|with_reducible rfl)
     refine⟨rfl,(show jz Tryz.prog 72 [.ptr gi 0 0,N0 p,N0 s] (some 46) _ _ from ?_)⟩;refine qy fK ?_;rintro r ob4⟨rfl,hW4,tu⟩;refine⟨tu.len,?_⟩;simp(disch:=omega)only[Ac,↓Pc,simprocAttr,eC];refine hK _ ?_;clear hK K;repeat(first|refine Xu ?_)
     ((try revert hK K);(repeat'(first|refine Va X0 ?_|(refine V2 X0 ?_ ?_<;>try with_reducible intro hb)|(refine Xi ?_ ?_<;>try intro ht)|refine VD ?_ ?_|exact Xx|fail))<;>try with_reducible intro K hK)
     have hU4:=ZL.kp Er tu;have hO7:UO m B 1 st (Ar m can s3.1 p s,s3.2):=⟨yP.len,ajF yP.sh p s,(ajG (can:=can) hm Ix yP.wb p s).mono NQ,NQ,λj hj=>yP.mono j (hO.mono j hj)⟩;exact br _ (s+1,ob4) ⟨NQ,by dsimp only;rw[rR,nB];exact hW4,by dsimp only;rw[rR,nB];exact hU4,(aX.trans fU).trans (tu.wide _),by dsimp only;rw[rR,nB];exact hO7⟩ NQ (Xv X0)
   ·obtain rfl:s=2:=Ix;((try revert hK K);(repeat'(first|refine Va X0 ?_|(refine V2 X0 ?_ ?_<;>try with_reducible intro hb)|(refine Xi ?_ ?_<;>try intro ht)|refine VD ?_ ?_|exact Xx|fail))<;>try with_reducible intro K hK)
    refine bx _ _ rfl ?_;clear br bx c7;repeat(first|refine Xu ?_)
    ((try revert hK K);(repeat'(first|refine Va X0 ?_|(refine V2 X0 ?_ ?_<;>try with_reducible intro hb)|(refine Xi ?_ ?_<;>try intro ht)|refine VD ?_ ?_|exact Xx|fail))<;>try with_reducible intro K hK)
    rw[<- eO]at hW hU hO;exact ak _ (j+1,ob) ⟨NQ,by dsimp only;rw[tF];exact hW,by dsimp only;rw[tF];exact hU,aX,by dsimp only;rw[tF];exact hO⟩ NQ (Xv X0)
  ·obtain rfl:j=l.length:=Ix;((try revert hK K);(repeat'(first|refine Va X0 ?_|(refine V2 X0 ?_ ?_<;>try with_reducible intro hb)|(refine Xi ?_ ?_<;>try intro ht)|refine VD ?_ ?_|exact Xx|fail))<;>try with_reducible intro K hK)
   refine ar _ _ rfl ?_;clear ak ar Ql;repeat(first|refine Xu ?_)
   ((try revert hK K);(repeat'(first|refine Vb X0 ?_|(refine V2 X0 ?_ ?_<;>try with_reducible intro hb)|(refine Xi ?_ ?_<;>try intro ht)|refine VD ?_ ?_|exact Xx|fail))<;>try with_reducible intro K hK)
   unfold eH;simp only[dx,dv];rw[List.take_length]at hW hU hO;exact⟨.bu [],_,⟨rfl,hW,hU,aX,hO⟩,ed rfl aX.len rfl⟩
end
end T

