import Derived.Test.YtfoopmojjjpapaaGreatX18
set_option linter.all false
set_option maxHeartbeats 0
set_option maxRecDepth 20000
open List renaming getD_eq_getElem?_getD→az,getElem?_eq_getElem→bS,length_set→bH,cons_append→e9,map_cons→fF,append_assoc→bw,take→jO,drop→fH
open Nat renaming lt_of_lt_of_le→CW,mul_le_mul_right→lh,zero_le→aS,eq_zero_or_pos→pU
open And renaming intro→c6
open Go Go.Am Go.Proofs
namespace T
def nT(l:List Bool):Nat:=l.count true
def LH(l:List Bool):nT l<=l.length:=List.count_le_length
def ahK{l:List Bool}{c:Nat}(hc:c<l.length)(h:l.getD c false=false):nT l<l.length:=by
 rcases Nat.lt_or_ge (nT l) l.length with h1|h1
 ·exact h1
 ·exfalso;have h2:l.count true=l.length:=Nat.le_antisymm List.count_le_length h1;have h3:=List.count_eq_length.1 h2 (l.getD c false) (aF hc);rw[h]at h3;cases h3
def ahL{l:List Bool}{c:Nat}(hc:c<l.length)(h:l.getD c false=false):nT (l.set c true)=nT l+1:=by
 unfold nT;rw[List.count_set hc];have h2:l[c]=false:=by rw[az,bS hc,Option.getD_some]at h;exact h
 simp[h2]
structure UO(m:aj)(B:Int)(n:Nat)(st BQ:WS×List Bool):Prop where
 len:BQ.2.length=m.cls.length
 sh:jx m BQ.1
 wb:WB (B+618475290624*(nT BQ.2:Nat)-618475290624*(n:Nat)) BQ.1
 up:nT st.2+n<=nT BQ.2
 mono:∀ j,st.2.getD j false=true->BQ.2.getD j false=true
structure UF(F gi si sa jZ wi j4:Nat)(bJ:List (List Int))(seen:List Bool)(os:List Ob):Prop where
 s:os[si]?=some (.var [.ref sa 1 0 seen.length])
 a:os[sa]?=some (.arr 1 (br seen))
 b:os[jZ]?=some (.var [.tree 1 (fe bJ)])
 w:os[wi]?=some (.var [.ptr gi 0 0])
 u:os[j4]?=some (.var [.fn F [.ptr si 0 0,.ptr jZ 0 0,.ptr wi 0 0,.ptr j4 0 0]])
structure UN(gi ai bi mi:Nat)(D E:List (Nat×Nat))(si sa jZ wi j4:Nat):Prop where
 out:∀ i,i=si\/i=sa\/i=jZ\/i=wi\/i=j4->i≠mi/\i ∉ (D++E).map (·.1)
 sa:sa≠gi/\sa≠ai/\sa≠bi/\sa≠si/\sa≠jZ/\sa≠wi/\sa≠j4
section
variable {m:aj} {can:List (List Bool)} {gi ai bi mi:Nat} {D E:List (Nat×Nat)} {W:WS} {os ob:List Ob} {F si sa jZ wi j4:Nat} {bJ:List (List Int)} {seen:List Bool}
def WF.other(h:WF m can gi ai bi mi D E W os){i:Nat}(h1:i≠gi/\i≠ai/\i≠bi/\i≠mi)(h2:i ∉ (D++E).map (·.1))(y:Ob):WF m can gi ai bi mi D E W (os.set i y):=by
 rw[List.map_append,List.mem_append,not_or]at h2;exact⟨eY h.v h1.1,eY h.a h1.2.1,eY h.b h1.2.2.1,eY h.mp h1.2.2.2,h.rD.other h2.1,h.rE.other h2.2,h.nd,λi hi=>by rw[bH];exact h.lt i hi⟩
def UF.kp(h:UF F gi si sa jZ wi j4 bJ seen os)(hn:UN gi ai bi mi D E si sa jZ wi j4)(hk:Kp mi D E os ob):UF F gi si sa jZ wi j4 bJ seen ob:=by
 have k:∀ i,i=si\/i=sa\/i=jZ\/i=wi\/i=j4->∀ o,os[i]?=some o->ob[i]?=some o:=λi hi o ho=>hk.same i o (hn.out i hi).1 (hn.out i hi).2 ho;exact⟨k _ Fl _ h.s,k _ Fl _ h.a,k _ Fl _ h.b,k _ Fl _ h.w,k _ Fl _ h.u⟩
def UF.app(h:UF F gi si sa jZ wi j4 bJ seen os)(l:List Ob):UF F gi si sa jZ wi j4 bJ seen (os++l):=⟨aM h.s l,aM h.a l,aM h.b l,aM h.w l,aM h.u l⟩
def UF.set(h:UF F gi si sa jZ wi j4 bJ seen os)(hn:UN gi ai bi mi D E si sa jZ wi j4){s2:List Bool}(hl:s2.length=seen.length):UF F gi si sa jZ wi j4 bJ s2 (os.set sa (.arr 1 (br s2))):=by
 obtain⟨_,_,_,h4,h5,h6,h7⟩:=hn.sa;exact⟨by rw[hl];exact eY h.s h4,lS h.a,eY h.b h5,eY h.w h6,eY h.u h7⟩
def Kp.wide{mi:Nat}{D E:List (Nat×Nat)}{os ob:List Ob}(h:Kp mi D E os ob)(q:Nat×Nat):Kp mi (q::D) E os ob :=
 ⟨h.len,λi o h1 h2 h3=>h.same i o h1 (λhh=>h2 (by rw[e9,fF];exact List.mem_cons_of_mem _ hh)) h3⟩
def Kp.put{mi:Nat}{D E:List (Nat×Nat)}{os o1:List Ob}(h:Kp mi ((sa,0)::D) E os o1)(y:Ob):Kp mi ((sa,0)::D) E os (o1.set sa y) :=
 ⟨by rw[bH];exact h.len,λi o h1 h2 h3=>eY (h.same i o h1 h2 h3) (λe=>h2 (by rw[e9,fF];exact e▸List.mem_cons_self ..))⟩
end
def uD(m:aj)(can:List (List Bool))(up:WS×List Bool->Nat->WS×List Bool)(st:WS×List Bool)(p:Nat):Nat->WS×List Bool
 |0=>st
 |s+1=>uA m can up (uD m can up st p s) p s
def vO(m:aj)(can:List (List Bool))(up:WS×List Bool->Nat->WS×List Bool)(st:WS×List Bool)(l:List Int):WS×List Bool:=l.foldl (λst p=>uD m can up st p.toNat 2) st
def ahM(m:aj)(can:List (List Bool))(up:WS×List Bool->Nat->WS×List Bool)(st:WS×List Bool){l:List Int}{k:Nat}(h:k<l.length):vO m can up st (l.take (k+1))=uD m can up (vO m can up st (l.take k)) (l.getD k default).toNat 2:=by
 rw[eQ h];unfold vO;rw[List.foldl_append];rfl
def ahN(m:aj)(can:List (List Bool))(bJ:List (List Int))(f:Nat)(st:WS×List Bool)(c:Nat):gI m can bJ (f+1) st c=vO m can (gI m can bJ f) (st.1,st.2.set c true) (bJ.getD c default):=rfl
section
variable {m:aj} {can:List (List Bool)} {gi ai bi mi:Nat} {D E:List (Nat×Nat)} {W:WS} {os:List Ob}
def U0(hm:VM m){p s o k:Nat}(hp:p<m.ae.length)(hs:s<=1)(ho:o<aD m (ah m p s))(hk:k<aD m (ah m p (1-s))):gJ m p s o k<(bN m p).aC.length:=by
 obtain⟨dj,_⟩:=yo hm hp;obtain⟨_,_,_,_,hl⟩:=qI dj;have jR:((bN m p).aC.length:Int)=(aD m (ah m p 0):Nat)*(aD m (ah m p 1):Nat):=hl;have re:(bN m p).aC.length=aD m (ah m p 0)*aD m (ah m p 1):=by exact_mod_cast jR
 rw[re];rcases(show s=0\/s=1 by omega) with rfl|rfl
 ·show o*aD m (ah m p 1)+k<_;exact CW (Nat.add_lt_add_left hk _) (by rw[<- Nat.succ_mul];exact lh _ ho)
 ·show k*aD m (ah m p 1)+o<_;exact CW (Nat.add_lt_add_left ho _) (by rw[<- Nat.succ_mul];exact lh _ hk)
def U1(hm:VM m)(h:WF m can gi ai bi mi D E W os)(hs:jx m W){B:Int}(hB:0<=B/\B<=2305843009213693952)(hW:WB B W){p s o:Nat}(hp:p<m.ae.length)(ka:s<=1)(ho:o<aD m (ah m p s)){amt:Int}(Hm : -2305843009213693952<=amt/\amt<=2305843009213693952):
  dZ Tryz.prog 103 [.ptr gi 0 0,OJ p,OJ s,OJ o,OJ amt] os λr ob=>r=.bx []/\WF m can gi ai bi mi D E (jI m W p s o amt) ob/\Kp mi D E os ob:=by
 obtain⟨dj,q1,q2,q3,q4,q5⟩:=yo hm hp;have fv:=h.v;have ev:=aM fv;have fm:=h.mp;have em:=aM fm;have pD:=hm.ae;have qE:=hm.cls;have dP:=LV W p s o amt;have eX:=hW.ab (ef p s o);have gw:(mn [(p:Int),(s:Int),(o:Int)] (mE W.am)).getD (OJ 0)=OJ (eZ (ef p s o) W.am):=ahO _ _;have zE:min (max (eZ (ef p s o) W.am+amt) (-268435456)) 268435456=oI W p s o amt:=rfl;have iT:Am.eU [(p:Int),(s:Int),(o:Int)] (OJ (oI W p s o amt)) (mE W.am)=mE (fW (ef p s o) (oI W p s o amt) W.am):=ahP _ _ _;have hM:=h.LW (fW (ef p s o) (oI W p s o amt) W.am);have sm:=gZ fm;refine dZ.aQ 119 os.length [] Tryz.func103 ?_;refine Xk ?_;refine KZ ?_;intro K hK;simp(disch:=omega)only[Ac,↓Pc,simprocAttr,bF];repeat'(first|with_reducible refine c6 ?_ ?_|omega|with_reducible rfl)
 refine hK _ ?_;clear hK K;refine hn _ ?_;(try clear hn;try clear he)
 refine df (aH.Bz 10 os.length (cells:=[OJ p,OJ s,OJ o]) (by rw[jX]) (by simp only[Kc,simprocAttr]) Fl) ?_;refine df (σ':=⟨ar [(0,.ptr gi 0 0),(1,OJ p),(2,OJ s),(3,OJ o),(4,OJ amt),(10,.cj [OJ p,OJ s,OJ o])],os++[.gone]⟩) (by rw[D7];exact Xv X0) ?_;generalize LX:eZ (ef p s o) W.am=a at *;generalize Q5:oI W p s o amt=n at *;refine Xk ?_;refine vP ?_;intro Q hn he;refine tV ⟨ar [(0,.ptr gi 0 0),(1,OJ p),(2,OJ s),(3,OJ o),(4,OJ amt),(10,.cj [OJ p,OJ s,OJ o]),(11,OJ n)],os++[.gone]⟩ hn ?_ (λkey=>?_);rotate_left
 ·refine q7 [] (.take 0 (.take 1 (.take 2 (.take 3 (.take 4 (.take 5 (.take 6 (.take 7 (.take 8 (.take 9 (.take 10 .nil))))))))))) rfl Fs (by decide +kernel) ?_;simp(disch:=omega)only[Ac,↓Pc,simprocAttr,ux,uw,uv,uu,sQ,p8,p9,nU,nV,cp,↓Lq,fv,ev,fm,em,ay,gw,zE,bF];repeat'(first|with_reducible refine c6 ?_ ?_|omega|with_reducible rfl)
  all_goals
   refine key _ ?_;exact Xv X0
 (try clear hn;try clear he)
 try(try clear Q)
 refine Xk ?_;refine vP ?_;intro Q hn he;refine tV ⟨ar [(0,.ptr gi 0 0),(1,OJ p),(2,OJ s),(3,OJ o),(4,OJ (n-a)),(10,.cj [OJ p,OJ s,OJ o]),(11,OJ n)],os++[.gone]⟩ hn ?_ (λkey=>?_);rotate_left
 ·refine q7 [] (.take 0 (.take 1 (.take 2 (.take 3 (.take 4 (.take 5 (.take 6 (.take 7 (.take 8 .nil))))))))) rfl Fs (by decide +kernel) ?_;simp(disch:=omega)only[Ac,↓Pc,simprocAttr,ux,uw,uv,uu,sQ,p8,p9,nU,nV,cp,↓Lq,fv,ev,fm,em,ay,gw,zE,bF];repeat'(first|with_reducible refine c6 ?_ ?_|omega|with_reducible rfl)
  all_goals
   refine key _ ?_;exact Xv X0
 (try clear hn;try clear he)
 try(try clear Q)
 refine Xk ?_;refine vP ?_;intro Q hn he;refine tV ⟨ar [(0,.ptr gi 0 0),(1,OJ p),(2,OJ s),(3,OJ o),(4,OJ (n-a))],os.set mi (.mp 3 (mE (fW (ef p s o) n W.am)))++[.gone]⟩ hn ?_ (λkey=>?_);rotate_left
 ·refine q7 [] (.take 0 (.take 1 (.take 2 (.take 3 (.take 4 (.take 5 (.take 6 .nil))))))) rfl Fs (by decide +kernel) ?_;simp(disch:=omega)only[Ac,↓Pc,simprocAttr,ux,uw,uv,uu,sQ,p8,p9,nU,nV,cp,↓Lq,fv,ev,fm,em,ay,gw,zE,bF,iT,sm];repeat'(first|with_reducible refine c6 ?_ ?_|omega|with_reducible rfl)
  all_goals
   refine key _ ?_;exact Xv X0
 (try clear hn;try clear he)
 try(try clear Q)
 have rB:=hM.app [.gone];have eJ:Kp mi D E os (os.set mi (.mp 3 (mE (fW (ef p s o) n W.am)))++[Ob.gone]):=((Kp.refl mi D E os).LW _).app _;have U2:jI m W p s o amt=⟨W.own.set (ah m p s) ((W.own.getD (ah m p s) default).set o (dv W (ah m p s) o+(n-a))),W.aC.set p (iC m p s o (n-a) (aD m (ah m p (1-s))) (W.aC.getD p default)),fW (ef p s o) n W.am⟩:=by unfold jI;rw[Q5,LX]
 rw[U2];clear hM fv ev fm em sm gw iT U2;generalize os.set mi (.mp 3 (mE (fW (ef p s o) n W.am)))++[Ob.gone]=lR at *;have vv:=D8 hm rB hp;have qt:=D8 hm (rB.app [.gone,.gone,.gone,.gone]) hp;have e0:(bN m p).fst=((ah m p 0:Nat):Int):=by show _=((bN m p).fst.toNat:Int);omega
 have e1:(bN m p).snd=((ah m p 1:Nat):Int):=by show _=((bN m p).snd.toNat:Int);omega
 rw[e0,e1]at vv qt;refine Xk ?_;refine vP ?_;intro Q hn he;refine tV ⟨ar [(0,.ptr gi 0 0),(1,OJ p),(2,OJ s),(3,OJ o),(4,OJ (n-a)),(12,OJ (ah m p s:Nat)),(13,OJ (ah m p (1-s):Nat))],lR++[.gone,.gone,.gone,.gone,.gone,.gone,.gone,.gone]⟩ hn ?_ (λkey=>?_);rotate_left
 ·refine q7 [] (.take 0 (.take 1 (.take 2 (.take 3 (.take 8 (.take 9 (.take 11 (.take 12 (.both 4 (.both 5 (.both 6 (.both 7 (.take 10 (.take 13 (.take 14 (.take 15 (.take 16 (.take 17 (.take 18 .nil))))))) 10 (.take 7 (.take 13 (.take 14 (.take 15 (.take 16 (.take 17 (.take 18 .nil)))))))) 10 (.take 6 (.take 7 (.take 13 (.take 14 (.take 15 (.take 16 (.take 17 (.take 18 .nil))))))))) 10 (.take 5 (.take 6 (.take 7 (.take 13 (.take 14 (.take 15 (.take 16 (.take 17 (.take 18 .nil)))))))))) 10 (.take 4 (.take 5 (.take 6 (.take 7 (.take 13 (.take 14 (.take 15 (.take 16 (.take 17 (.take 18 .nil))))))))))))))))))) rfl Fs (by decide +kernel) ?_;simp(disch:=omega)only[Ac,↓Pc,simprocAttr,ux,uw,uv,uu,sQ,p8,p9,nU,nV,cp,↓Lq];repeat'(first|with_reducible refine c6 ?_ ?_|omega|with_reducible rfl)
  all_goals
   refine gj vv Fl ?_;rcases(show s=0\/s=1 by omega) with rfl|rfl;all_goals
    simp(disch:=omega)only[Ac,↓Pc,simprocAttr,ux,uw,uv,uu,sQ,p8,p9,nU,nV,cp,↓Lq,bw];repeat'(first|with_reducible refine c6 ?_ ?_|omega|with_reducible rfl)
   all_goals
    refine gj qt Fl ?_;simp(disch:=omega)only[Ac,↓Pc,simprocAttr,ux,uw,uv,uu,sQ,p8,p9,nU,nV,cp,↓Lq,bw];repeat'(first|with_reducible refine c6 ?_ ?_|omega|with_reducible rfl)
   all_goals
    refine key _ ?_;exact Xv X0
 (try clear hn;try clear he)
 try(try clear Q)
 have z8:=rB.app [.gone,.gone,.gone,.gone,.gone,.gone,.gone,.gone];have dD:Kp mi D E os (lR++[.gone,.gone,.gone,.gone,.gone,.gone,.gone,.gone]):=eJ.app _;clear rB eJ vv qt h;generalize lR++[Ob.gone,Ob.gone,Ob.gone,Ob.gone,Ob.gone,Ob.gone,Ob.gone,Ob.gone]=os2 at *;have bz:∀ s,s<=1->ah m p s<m.cls.length:=λs hs=>by
  rcases(show s=0\/s=1 by omega) with rfl|rfl
  ·exact q1
  ·exact q2
 have hc:=bz s ka;have ng:∀ k,k<aD m (ah m p (1-s))->gJ m p s o k<(bN m p).aC.length:=λk hk=>U0 hm hp ka ho hk;have fI:=bz (1-s) CZ;have hD:D.length=m.cls.length:=z8.rD.len.trans hs.ol;have hE:E.length=m.ae.length:=z8.rE.len.trans hs.tl;obtain⟨rl,ro⟩:=z8.rD.row (ah m p s) CZ;dsimp only at rl ro;have nE:=hs.or _ hc;have ro:=ro CZ;have eD:=z' (q:=D.getD (ah m p s) default) CZ;have fv:=z8.v;have fa:=z8.a;have bK:=hW.ob (ah m p s) o;have xg:=z8.Aa (j:=ah m p s) CZ CZ (r:=(W.own.getD (ah m p s) default).set o (dv W (ah m p s) o+(n-a))) Fl;have BF:=dD.Aa (j:=ah m p s) CZ (.arr 1 (ints ((W.own.getD (ah m p s) default).set o (dv W (ah m p s) o+(n-a)))));have Ab:(W.own.getD (ah m p s) default).getD o 0=dv W (ah m p s) o:=rfl;have sD:=lS (y:=Ob.arr 1 (ints ((W.own.getD (ah m p s) default).set o (dv W (ah m p s) o+(n-a))))) ro;generalize anI:W.own.getD (ah m p s) default=row at *;generalize dv W (ah m p s) o=ow at *;generalize ah m p s=c at *;have Hn:=xg.v;repeat'(first|((fail_if_success (first|refine eH 6 ?_|refine eI 6 ?_));refine Xr (X5 @fv @fa @eD @ro (X2 @Ab @Hn)) ?_;intro K hK)|refine Xo (X5 @fv @fa @eD @ro (X2 @Ab @Hn)) ?_|(refine hK _ ?_;clear hK K)|(refine Xg (X5 @fv @fa @eD @ro (X2 @Ab @Hn)) ?_ ?_<;>try intro hb)|(refine Xi ?_ ?_<;>try intro ht)|refine Xy ?_|refine Xd ?_ ?_|exact Xx|fail)
 refine df (σ':=⟨ar [(0,.ptr gi 0 0),(1,OJ p),(2,OJ s),(3,OJ o),(4,OJ (n-a)),(13,OJ (ah m p (1-s):Nat))],os2.set (D.getD c default).1 (.arr 1 (ints (row.set o (ow+(n-a)))))⟩) (Xv X0) ?_;clear z8 dD fv fa sD ro rl Hn;dsimp only at xg;generalize os2.set (D.getD c default).1 (.arr 1 (ints (row.set o (ow+(n-a)))))=os3 at *;generalize W.own.set c (row.set o (ow+(n-a)))=ahR at *;have eK:m.ae.getD p default=bN m p:=rfl;have aO:(m.cls.getD (ah m p (1-s)) default).length=aD m (ah m p (1-s)):=rfl;have anJ:aD m (ah m p (1-s))<=24:=hm.opt _ (aF fI);have pA:=λk=>LY (m:=m) (p:=p) (s:=s) (o:=o) (d:=n-a) hB.1 CZ k (W.aC.getD p default) (λj=>hW.tb p j);have LZ:=hs.tr p hp;have iT:W.aC.set p (W.aC.getD p default)=W.aC:=Ad W.aC p;have lq:=λk=>BS (m:=m) p s o (n-a) k (W.aC.getD p default);have FT:∀ k,iC m p s o (n-a) (k+1) (W.aC.getD p default)=_:=λk=>iC.eq_2 ..;have BT:iC m p s o (n-a) 0 (W.aC.getD p default)=W.aC.getD p default:=rfl;have Ho:o<24:=CW ho (z7 hm c);generalize W.aC.getD p default=aC at *;generalize U3:aD m (ah m p (1-s))=sz at *;generalize cg:bN m p=pp at *;have fv:=xg.v;((try revert hK K);(repeat'(first|refine Va (X3 @fv @aO @U3) ?_|(refine V2 (X3 @fv @aO @U3) ?_ ?_<;>try with_reducible intro hb)|(refine Xi ?_ ?_<;>try intro ht)|refine VD ?_ ?_|exact Xx|fail))<;>try with_reducible intro K hK)
 refine bd (λz:Nat×List Ob=>(⟨ar [(0,.ptr gi 0 0),(1,OJ p),(2,OJ s),(3,OJ o),(4,OJ (n-a)),(82,OJ sz),(83,OJ z.1)],z.2⟩:St))
  (λz=>z.1<=sz/\WF m can gi ai bi mi D E { own:=ahR,aC:=W.aC.set p (iC m p s o (n-a) z.1 aC),am:=fW (ef p s o) n W.am } z.2/\Kp mi D E os z.2)
  (λz=>sz-z.1) (0,os3) ⟨aS _,by dsimp only;rw[BT,iT];exact xg,BF⟩ (Xv X0) ?_
 clear xg BF fv;rintro⟨k,ok⟩⟨hk,hM,aZ⟩Ql ao ax;dsimp only at hk hM aZ ⊢;have fv:=hM.v;have fb:=hM.b;by_cases bc:k<sz
 ·have hA:=U4 hm hM hp (s:=s) Ho (show k<24 by omega);obtain⟨tl,tr⟩:=hM.rE.row p CZ;have lX:p<W.aC.length:=by have:=hs.tl;omega
  have pF:(W.aC.set p (iC m p s o (n-a) k aC)).getD p default=iC m p s o (n-a) k aC:=uE _ _ _ lX;dsimp only at tl tr;rw[pF]at tl tr;have zJ:=ng k bc;have jS:=lq k;have tr:=tr CZ;have eE:=z' (q:=E.getD p default) CZ;have Hp:=hM.yu (j:=p) CZ CZ (r:=(iC m p s o (n-a) k aC).set (gJ m p s o k) ((iC m p s o (n-a) k aC).getD (gJ m p s o k) 0-(n-a))) (by rw[pF,bH]);have hK4:=aZ.yu (j:=p) CZ (.arr 1 (ints ((iC m p s o (n-a) k aC).set (gJ m p s o k) ((iC m p s o (n-a) k aC).getD (gJ m p s o k) 0-(n-a)))));have fS:=pA k (gJ m p s o k);have zU:=FT k;dsimp only at Hp;rw[List.set_set]at Hp;have sE:=lS (y:=Ob.arr 1 (ints ((iC m p s o (n-a) k aC).set (gJ m p s o k) ((iC m p s o (n-a) k aC).getD (gJ m p s o k) 0-(n-a))))) tr;have U5:=Hp.v;generalize U6:iC m p s o (n-a) (k+1) aC=tk1 at *;generalize iC m p s o (n-a) k aC=tk at *;generalize ox:gJ m p s o k=av at *;generalize vr:pp.aC.getD av 0=pe at *;((try revert hK K);(repeat'(first|refine Va @fv ?_|(refine V2 @fv ?_ ?_<;>try with_reducible intro hb)|(refine Xi ?_ ?_<;>try intro ht)|refine VD ?_ ?_|exact Xx|fail))<;>try with_reducible intro K hK)
  refine gj hA Fl ?_;((try revert hK K);(repeat'(first|refine Va (X5 @fv @fb @eE @tr (X4 @eK @aL.eq_1 @vr @U5)) ?_|(refine V2 (X5 @fv @fb @eE @tr (X4 @eK @aL.eq_1 @vr @U5)) ?_ ?_<;>try with_reducible intro hb)|(refine Xi ?_ ?_<;>try intro ht)|refine VD ?_ ?_|exact Xx|fail))<;>try with_reducible intro K hK)
  ·rw[if_pos (by assumption)]at zU;exact ao _ (k+1,_) ⟨Ji,by dsimp only;rw[U6,zU];exact Hp,hK4⟩ Ji (Xv X0)
  ·rw[if_neg (by simpa using ‹pe=_›)]at zU;exact ao _ (k+1,_) ⟨Ji,by dsimp only;rw[U6,zU];exact hM,aZ⟩ Ji (Xv X0)
 ·obtain rfl:k=sz:=CZ;((try revert hK K);(repeat'(first|refine Va X0 ?_|(refine V2 X0 ?_ ?_<;>try with_reducible intro hb)|(refine Xi ?_ ?_<;>try intro ht)|refine VD ?_ ?_|exact Xx|fail))<;>try with_reducible intro K hK)
  refine ax _ _ rfl ?_;clear ao ax Ql;repeat(first|refine Xu ?_)
  ((try revert hK K);(repeat'(first|refine Vb X0 ?_|(refine V2 X0 ?_ ?_<;>try with_reducible intro hb)|(refine Xi ?_ ?_<;>try intro ht)|refine VD ?_ ?_|exact Xx|fail))<;>try with_reducible intro K hK)
  unfold lQ;simp only[gG,gv];exact⟨.bx [],_,⟨rfl,hM,aZ⟩,dX rfl aZ.len rfl⟩
end
section
variable {m:aj} {can:List (List Bool)} {gi ai bi mi:Nat} {D E:List (Nat×Nat)} {W:WS} {os:List Ob}
def LI{X:List (List Bool)}{c:Nat}(hc:c<X.length):(rowsOf aE X)[c]?=some [.tree 1 (br (X.getD c default))]:=by
 unfold rowsOf;rw[List.getElem?_map,az,bS hc];rfl
def ahT(hm:VM m)(hf:cP m can)(h:WF m can gi ai bi mi D E W os)(hs:jx m W){B:Int}(hB:0<=B/\B<=1152921504606846976)(hW:WB B W){p s:Nat}(hp:p<m.ae.length)(ka:s<=1):
  dZ Tryz.prog 72 [.ptr gi 0 0,OJ p,OJ s] os λr ob=>r=.bx []/\WF m can gi ai bi mi D E (qB m can W p s) ob/\Kp mi D E os ob:=by
 obtain⟨dj,q1,q2,q3,q4,q5⟩:=yo hm hp;have pD:=hm.ae;have qE:=hm.cls;have bz:∀ s,s<=1->ah m p s<m.cls.length:=λs hs=>by
  rcases(show s=0\/s=1 by omega) with rfl|rfl
  ·exact q1
  ·exact q2
 have vv:=D8 hm h hp;have qt:=D8 hm (h.app [.gone,.gone,.gone,.gone]) hp;have e0:(bN m p).fst=((ah m p 0:Nat):Int):=by show _=((bN m p).fst.toNat:Int);omega
 have e1:(bN m p).snd=((ah m p 1:Nat):Int):=by show _=((bN m p).snd.toNat:Int);omega
 rw[e0,e1]at vv qt;refine dZ.aQ 155 os.length [] Tryz.func72 ?_;refine Xk ?_;refine vP ?_;intro Q hn he;refine tV ⟨ar [(0,.ptr gi 0 0),(1,OJ p),(2,OJ s),(6,OJ (ah m p s:Nat)),(7,OJ (ah m p (1-s):Nat))],os++[.gone,.gone,.gone,.gone,.gone,.gone,.gone,.gone]⟩ hn ?_ (λkey=>?_);rotate_left
 ·refine q7 [] (.take 0 (.take 1 (.take 2 (.take 3 (.take 8 (.take 9 (.take 11 (.take 12 (.both 4 (.both 5 (.both 6 (.both 7 (.take 10 (.take 13 (.take 14 (.take 15 (.take 16 (.take 17 (.take 18 .nil))))))) 10 (.take 7 (.take 13 (.take 14 (.take 15 (.take 16 (.take 17 (.take 18 .nil)))))))) 10 (.take 6 (.take 7 (.take 13 (.take 14 (.take 15 (.take 16 (.take 17 (.take 18 .nil))))))))) 10 (.take 5 (.take 6 (.take 7 (.take 13 (.take 14 (.take 15 (.take 16 (.take 17 (.take 18 .nil)))))))))) 10 (.take 4 (.take 5 (.take 6 (.take 7 (.take 13 (.take 14 (.take 15 (.take 16 (.take 17 (.take 18 .nil))))))))))))))))))) rfl Fs (by decide +kernel) ?_;simp(disch:=omega)only[Ac,↓Pc,simprocAttr,ux,uw,uv,uu,sQ,p8,p9,nU,nV,cp,↓Lq];repeat'(first|with_reducible refine c6 ?_ ?_|omega|with_reducible rfl)
  all_goals
   refine gj vv Fl ?_;rcases(show s=0\/s=1 by omega) with rfl|rfl;all_goals
    simp(disch:=omega)only[Ac,↓Pc,simprocAttr,ux,uw,uv,uu,sQ,p8,p9,nU,nV,cp,↓Lq,bw];repeat'(first|with_reducible refine c6 ?_ ?_|omega|with_reducible rfl)
   all_goals
    refine gj qt Fl ?_;simp(disch:=omega)only[Ac,↓Pc,simprocAttr,ux,uw,uv,uu,sQ,p8,p9,nU,nV,cp,↓Lq,bw];repeat'(first|with_reducible refine c6 ?_ ?_|omega|with_reducible rfl)
   all_goals
    refine key _ ?_;exact Xv X0
 (try clear hn;try clear he)
 try(try clear Q)
 have rB:=h.app [.gone,.gone,.gone,.gone,.gone,.gone,.gone,.gone];have eJ:Kp mi D E os (os++[.gone,.gone,.gone,.gone,.gone,.gone,.gone,.gone]):=(Kp.refl mi D E os).app _;clear vv qt h;generalize os++[Ob.gone,Ob.gone,Ob.gone,Ob.gone,Ob.gone,Ob.gone,Ob.gone,Ob.gone]=lR at *;have hc:=bz s ka;have fI:=bz (1-s) CZ;have vQ:1-(1-s)=s:=CZ;have U7:((1:Int)-(s:Int))=((1-s:Nat):Int):=CZ;have hD:D.length=m.cls.length:=rB.rD.len.trans hs.ol;have z1:=z7 hm (ah m p s);have z2:=z7 hm (ah m p (1-s));have Bt:=hf.1;have hfc:_=aD m (ah m p s):=hf.2 (ah m p s) CZ;have hfk:_=aD m (ah m p (1-s)):=hf.2 (ah m p (1-s)) CZ;have xh:=LI (X:=can) (c:=ah m p s) CZ;have D9:=LI (X:=can) (c:=ah m p (1-s)) CZ;have U8:qB m can W p s=ec m can (fi m can W p s (aD m (ah m p s))) p s (aD m (ah m p (1-s))):=rfl;have L0:=λi=>BU (can:=can) hs p s i;have bA:=λi=>L1 (can:=can) hm hB.1 hW p s i;have sA:∀ i,fi m can W p s (i+1)=_:=λi=>fi.eq_2 ..;have s0:fi m can W p s 0=W:=rfl;have fv:=rB.v;have fa:=rB.a;have Hq:(D.getD (ah m p s) default).2=aD m (ah m p s):=((rB.rD.row _ CZ).1).symm.trans (hs.or _ hc);have Hs:(D.getD (ah m p (1-s)) default).2=aD m (ah m p (1-s)):=((rB.rD.row _ CZ).1).symm.trans (hs.or _ fI);refine Xk ?_;refine Xk ?_;refine vP ?_;intro Q hn he;refine tV ⟨ar [(0,.ptr gi 0 0),(1,OJ p),(2,OJ s),(6,OJ (ah m p s:Nat)),(7,OJ (ah m p (1-s):Nat)),(37,OJ (aD m (ah m p s):Nat)),(38,OJ 0)],lR⟩ hn ?_ (λkey=>?_);rotate_left
 ·(try clear hn;try clear he)
  have fr:=(rB.rD.row _ (show ah m p s<D.length by omega)).2;rcases pU (D.getD (ah m p s) default).2 with h0|h0
  ·have e:=L3 h0;rw[Hq]at h0;rw[h0]at key;((try revert hK K);(repeat'(first|refine Va (X3 @fv @fa @e) ?_|(refine V2 (X3 @fv @fa @e) ?_ ?_<;>try with_reducible intro hb)|(refine Xi ?_ ?_<;>try intro ht)|refine VD ?_ ?_|exact Xx|fail))<;>try with_reducible intro K hK)
   refine key _ ?_;exact Xv X0
  ·have e:=z' h0;have fr:=fr h0;rw[Hq]at e;((try revert hK K);(repeat'(first|refine Va (X4 @fv @fa @e @fr) ?_|(refine V2 (X4 @fv @fa @e @fr) ?_ ?_<;>try with_reducible intro hb)|(refine Xi ?_ ?_<;>try intro ht)|refine VD ?_ ?_|exact Xx|fail))<;>try with_reducible intro K hK)
   refine key _ ?_;exact Xv X0
 (try clear hn;try clear he)
 try(try clear Q)
 clear fv fa;((try revert hK K);(repeat'(first|refine Va X0 ?_|(refine V2 X0 ?_ ?_<;>try with_reducible intro hb)|(refine Xi ?_ ?_<;>try intro ht)|refine VD ?_ ?_|exact Xx|fail))<;>try with_reducible intro K hK)
 refine bd (λz:Nat×List Ob=>(⟨ar [(0,.ptr gi 0 0),(1,OJ p),(2,OJ s),(6,OJ (ah m p s:Nat)),(7,OJ (ah m p (1-s):Nat)),(37,OJ (aD m (ah m p s):Nat)),(38,OJ z.1)],z.2⟩:St))
  (λz=>z.1<=aD m (ah m p s)/\WF m can gi ai bi mi D E (fi m can W p s z.1) z.2/\Kp mi D E os z.2)
  (λz=>aD m (ah m p s)-z.1) (0,lR) ⟨aS _,rB,eJ⟩ (Xv X0) ?_
 clear rB eJ lR;rintro⟨i,ok⟩⟨hi,hM,aZ⟩Ql ao ax;dsimp only at hi hM aZ ⊢;have fv:=hM.v;have fa:=hM.a;obtain⟨rl,rr⟩:=hM.rD.row (ah m p s) CZ;by_cases aq:i<aD m (ah m p s)
 ·have rr:=rr CZ;have eD:=z' (q:=D.getD (ah m p s) default) CZ;have fh:=(bA i).ob (ah m p s) i;have qK:=U1 hm hM (L0 i) (B:=B+12884901888*i) CZ (bA i) hp ka aq (amt:=-dv (fi m can W p s i) (ah m p s) i) CZ;have Ht:=sA i;have Ab:((fi m can W p s i).own.getD (ah m p s) default).getD i 0=dv (fi m can W p s i) (ah m p s) i:=rfl;generalize s6:fi m can W p s (i+1)=W1 at *;have L4:i<24:=CZ;by_cases iV:c4 can (ah m p s) i=true
  ·rw[if_pos iV]at Ht;have aR:(can.getD (ah m p s) default).getD i false=true:=iV;generalize dv (fi m can W p s i) (ah m p s) i=ow at *;generalize (fi m can W p s i).own.getD (ah m p s) default=row at *;repeat'(first|((fail_if_success (first|refine eH 5 ?_|refine eI 5 ?_));refine Xr (X4 @fv @xh @aR @aE.eq_1) ?_;intro K hK)|refine Xo (X4 @fv @xh @aR @aE.eq_1) ?_|(refine hK _ ?_;clear hK K)|(refine Xg (X4 @fv @xh @aR @aE.eq_1) ?_ ?_<;>try intro hb)|(refine Xi ?_ ?_<;>try intro ht)|refine Xy ?_|refine Xd ?_ ?_|exact Xx|fail)
   refine px 15 Fs _ rfl ?_;intro K hK;simp(disch:=omega)only[Ac,↓Pc,simprocAttr,jO,fH,fv,fa,eD,rr,Ab];repeat'(first|with_reducible refine c6 ?_ ?_|omega|with_reducible rfl)
   refine⟨rfl,(show lr Tryz.prog 103 [.ptr gi 0 0,OJ p,OJ s,OJ i,OJ (-ow)] (some 66) _ _ from ?_)⟩;refine qz qK ?_;rintro r jU⟨rfl,xg,mX⟩;refine⟨mX.len,?_⟩;simp(disch:=omega)only[Ac,↓Pc,simprocAttr,fH];refine hK _ ?_;clear hK K;repeat(first|refine Xu ?_)
   ((try revert hK K);(repeat'(first|refine Va X0 ?_|(refine V2 X0 ?_ ?_<;>try with_reducible intro hb)|(refine Xi ?_ ?_<;>try intro ht)|refine VD ?_ ?_|exact Xx|fail))<;>try with_reducible intro K hK)
   exact ao _ (i+1,jU) ⟨Ji,by dsimp only;rw[s6,Ht];exact xg,aZ.trans mX⟩ Ji (Xv X0)
  ·rw[if_neg iV]at Ht;have aR:(can.getD (ah m p s) default).getD i false=false:=by simpa [c4] using iV
   ((try revert hK K);(repeat'(first|refine Va (X4 @fv @xh @aR @aE.eq_1) ?_|(refine V2 (X4 @fv @xh @aR @aE.eq_1) ?_ ?_<;>try with_reducible intro hb)|(refine Xi ?_ ?_<;>try intro ht)|refine VD ?_ ?_|exact Xx|fail))<;>try with_reducible intro K hK)
   exact ao _ (i+1,ok) ⟨Ji,by dsimp only;rw[s6,Ht];exact hM,aZ⟩ Ji (Xv X0)
 ·obtain rfl:i=aD m (ah m p s):=CZ;((try revert hK K);(repeat'(first|refine Va X0 ?_|(refine V2 X0 ?_ ?_<;>try with_reducible intro hb)|(refine Xi ?_ ?_<;>try intro ht)|refine VD ?_ ?_|exact Xx|fail))<;>try with_reducible intro K hK)
  refine ax _ _ rfl ?_;clear ao ax Ql;repeat(first|refine Xu ?_)
  clear fv fa rl rr;have ahU:=L0 (aD m (ah m p s));have ahV:=(bA (aD m (ah m p s))).mono (C:=B+309237645312) CZ;rw[U8];clear sA s0 U8 L0 bA hs hW;generalize fi m can W p s (aD m (ah m p s))=WA at *;have U9:=λi=>Ea (can:=can) ahU p s i;have bB:=λi=>L5 (can:=can) hm CZ ahV p s i;have sB:∀ i,ec m can WA p s (i+1)=_:=λi=>ec.eq_2 ..;have fv:=hM.v;have fa:=hM.a;refine Xk ?_;refine vP ?_;intro Q hn he;refine tV ⟨ar [(0,.ptr gi 0 0),(1,OJ p),(2,OJ s),(6,OJ (ah m p s:Nat)),(7,OJ (ah m p (1-s):Nat)),(75,OJ (aD m (ah m p (1-s)):Nat)),(76,OJ 0)],ok⟩ hn ?_ (λkey=>?_);rotate_left
  ·(try clear hn;try clear he)
   have fr:=(hM.rD.row _ (show ah m p (1-s)<D.length by omega)).2;rcases pU (D.getD (ah m p (1-s)) default).2 with h0|h0
   ·have e:=L3 h0;rw[Hs]at h0;rw[h0]at key;((try revert hK K);(repeat'(first|refine Va (X3 @fv @fa @e) ?_|(refine V2 (X3 @fv @fa @e) ?_ ?_<;>try with_reducible intro hb)|(refine Xi ?_ ?_<;>try intro ht)|refine VD ?_ ?_|exact Xx|fail))<;>try with_reducible intro K hK)
    refine key _ ?_;exact Xv X0
   ·have e:=z' h0;have fr:=fr h0;rw[Hs]at e;((try revert hK K);(repeat'(first|refine Va (X4 @fv @fa @e @fr) ?_|(refine V2 (X4 @fv @fa @e @fr) ?_ ?_<;>try with_reducible intro hb)|(refine Xi ?_ ?_<;>try intro ht)|refine VD ?_ ?_|exact Xx|fail))<;>try with_reducible intro K hK)
    refine key _ ?_;exact Xv X0
  (try clear hn;try clear he)
  try(try clear Q)
  clear fv fa;((try revert hK K);(repeat'(first|refine Va X0 ?_|(refine V2 X0 ?_ ?_<;>try with_reducible intro hb)|(refine Xi ?_ ?_<;>try intro ht)|refine VD ?_ ?_|exact Xx|fail))<;>try with_reducible intro K hK)
  refine bd (λz:Nat×List Ob=>(⟨ar [(0,.ptr gi 0 0),(1,OJ p),(2,OJ s),(6,OJ (ah m p s:Nat)),(7,OJ (ah m p (1-s):Nat)),(75,OJ (aD m (ah m p (1-s)):Nat)),(76,OJ z.1)],z.2⟩:St))
   (λz=>z.1<=aD m (ah m p (1-s))/\WF m can gi ai bi mi D E (ec m can WA p s z.1) z.2/\Kp mi D E os z.2)
   (λz=>aD m (ah m p (1-s))-z.1) (0,ok) ⟨aS _,hM,aZ⟩ (Xv X0) ?_
  clear hM aZ ok;rintro⟨k,ok⟩⟨hk,hM,aZ⟩Ql ao ax;dsimp only at hk hM aZ ⊢;by_cases bc:k<aD m (ah m p (1-s))
  ·have L4:k<24:=CZ;have Hu:=sB k;have L6:=λi=>U' (can:=can) (m:=m) CZ (bB k) p s k i;have qK:=U1 hm hM (U9 k) (B:=B+309237645312+12884901888*k) CZ (bB k) hp (s:=1-s) CZ bc (amt:=yv (fl m can (ec m can WA p s k) p s k (aD m (ah m p s)))) (by have:=L6 (aD m (ah m p s));unfold yv;split<;>omega);have Ve:=U9 k;generalize s6:ec m can WA p s (k+1)=W1 at *;have fv:=hM.v;have fa:=hM.a;by_cases iV:c4 can (ah m p (1-s)) k=true
   ·rw[if_pos iV]at Hu;have aR:(can.getD (ah m p (1-s)) default).getD k false=true:=iV;repeat'(first|((fail_if_success (first|refine eH 12 ?_|refine eI 12 ?_));refine Xr (X4 @fv @D9 @aR @aE.eq_1) ?_;intro K hK)|refine Xo (X4 @fv @D9 @aR @aE.eq_1) ?_|(refine hK _ ?_;clear hK K)|(refine Xg (X4 @fv @D9 @aR @aE.eq_1) ?_ ?_<;>try intro hb)|(refine Xi ?_ ?_<;>try intro ht)|refine Xy ?_|refine Xd ?_ ?_|exact Xx|fail)
    refine vP ?_;intro Q hn he;refine tV ⟨ar [(0,.ptr gi 0 0),(1,OJ p),(2,OJ s),(6,OJ (ah m p s:Nat)),(7,OJ (ah m p (1-s):Nat)),(9,OJ k),(10,OJ 1099511627776),(75,OJ (aD m (ah m p (1-s)):Nat)),(76,OJ k),(97,OJ (aD m (ah m p s):Nat)),(98,OJ 0)],ok⟩ hn ?_ (λkey=>?_);rotate_left
    ·(try clear hn;try clear he)
     have fr:=(hM.rD.row _ (show ah m p s<D.length by omega)).2;rcases pU (D.getD (ah m p s) default).2 with h0|h0
     ·have e:=L3 h0;rw[Hq]at h0;rw[h0]at key;((try revert hK K);(repeat'(first|refine Va (X3 @fv @fa @e) ?_|(refine V2 (X3 @fv @fa @e) ?_ ?_<;>try with_reducible intro hb)|(refine Xi ?_ ?_<;>try intro ht)|refine VD ?_ ?_|exact Xx|fail))<;>try with_reducible intro K hK)
      refine key _ ?_;exact Xv X0
     ·have e:=z' h0;have fr:=fr h0;rw[Hq]at e;((try revert hK K);(repeat'(first|refine Va (X4 @fv @fa @e @fr) ?_|(refine V2 (X4 @fv @fa @e @fr) ?_ ?_<;>try with_reducible intro hb)|(refine Xi ?_ ?_<;>try intro ht)|refine VD ?_ ?_|exact Xx|fail))<;>try with_reducible intro K hK)
      refine key _ ?_;exact Xv X0
    (try clear hn;try clear he)
    try(try clear Q)
    ((try revert hK K);(repeat'(first|refine Va X0 ?_|(refine V2 X0 ?_ ?_<;>try with_reducible intro hb)|(refine Xi ?_ ?_<;>try intro ht)|refine VD ?_ ?_|exact Xx|fail))<;>try with_reducible intro K hK)
    have hl0:fl m can (ec m can WA p s k) p s k 0=1099511627776:=rfl;have qA:∀ i,fl m can (ec m can WA p s k) p s k (i+1)=_:=λi=>fl.eq_2 ..;have ng:∀ i,i<aD m (ah m p s)->gJ m p s i k<(bN m p).aC.length:=λi hi=>U0 hm hp ka hi bc;have hE:E.length=m.ae.length:=hM.rE.len.trans Ve.tl;obtain⟨tl,tr⟩:=hM.rE.row p CZ;have kF:=Ve.tr p hp;have Eb:=(bB k).tb p;have eK:m.ae.getD p default=bN m p:=rfl;have Ae:∀ j,((ec m can WA p s k).aC.getD p default).getD j 0=kG (ec m can WA p s k) p j:=λj=>rfl;have fb:=hM.b;refine bd (λi:Nat=>(⟨ar [(0,.ptr gi 0 0),(1,OJ p),(2,OJ s),(6,OJ (ah m p s:Nat)),(7,OJ (ah m p (1-s):Nat)),(9,OJ k),(10,OJ (fl m can (ec m can WA p s k) p s k i)),(75,OJ (aD m (ah m p (1-s)):Nat)),(76,OJ k),(97,OJ (aD m (ah m p s):Nat)),(98,OJ i)],ok⟩:St))
     (λi=>i<=aD m (ah m p s)) (λi=>aD m (ah m p s)-i) 0 (aS _) (by rw[hl0];exact Xv X0) ?_
    rintro i mW du bE bG;have anN:=L6 i;by_cases hi3:i<aD m (ah m p s)
    ·have hA:=U4 hm hM hp (s:=s) (o:=i) (k:=k) CZ L4;have zJ:=ng i hi3;have mu:=qA i;have tr:=tr CZ;have eE:=z' (q:=E.getD p default) CZ;have htj:=Eb (gJ m p s i k);have Hv:=Ae (gJ m p s i k);generalize yp:fl m can (ec m can WA p s k) p s k (i+1)=l1 at *;generalize fl m can (ec m can WA p s k) p s k i=l0 at *;generalize kG (ec m can WA p s k) p (gJ m p s i k)=tj at *;generalize (ec m can WA p s k).aC.getD p default=anP at *;generalize gJ m p s i k=av at *;generalize bN m p=pp at *;generalize vr:pp.aC.getD av 0=pe at *;have Hw:(can.getD (ah m p s) default).getD i false=c4 can (ah m p s) i:=rfl;generalize c4 can (ah m p s) i=cb at *;by_cases hq:cb=true/\pe≠1099511627776
     ·rw[if_pos hq]at mu;obtain⟨rfl,Hx⟩:=hq;((try revert hK K);(repeat'(first|refine Va X0 ?_|(refine V2 X0 ?_ ?_<;>try with_reducible intro hb)|(refine Xi ?_ ?_<;>try intro ht)|refine VD ?_ ?_|exact Xx|fail))<;>try with_reducible intro K hK)
      refine gj hA Fl ?_;((try revert hK K);(repeat'(first|refine Va (X5 @fv @fb @eE @tr (X5 @eK @aL.eq_1 @vr @Hv (X3 @xh @Hw @aE.eq_1))) ?_|(refine V2 (X5 @fv @fb @eE @tr (X5 @eK @aL.eq_1 @vr @Hv (X3 @xh @Hw @aE.eq_1))) ?_ ?_<;>try with_reducible intro hb)|(refine Xi ?_ ?_<;>try intro ht)|refine VD ?_ ?_|exact Xx|fail))<;>try with_reducible intro K hK)
      all_goals try(exfalso;omega)
      all_goals exact bE _ (i+1) CZ CZ (by rw[yp,mu];exact Xv X0)
     ·rw[if_neg hq]at mu;((try revert hK K);(repeat'(first|refine Va X0 ?_|(refine V2 X0 ?_ ?_<;>try with_reducible intro hb)|(refine Xi ?_ ?_<;>try intro ht)|refine VD ?_ ?_|exact Xx|fail))<;>try with_reducible intro K hK)
      refine gj hA Fl ?_;((try revert hK K);(repeat'(first|refine Va (X5 @fv @fb @eE @tr (X5 @eK @aL.eq_1 @vr @Hv (X3 @xh @Hw @aE.eq_1))) ?_|(refine V2 (X5 @fv @fb @eE @tr (X5 @eK @aL.eq_1 @vr @Hv (X3 @xh @Hw @aE.eq_1))) ?_ ?_<;>try with_reducible intro hb)|(refine Xi ?_ ?_<;>try intro ht)|refine VD ?_ ?_|exact Xx|fail))<;>try with_reducible intro K hK)
      all_goals first
       |exact bE _ (i+1) CZ CZ (by rw[yp,mu];exact Xv X0)
       |exact absurd ⟨by assumption,by assumption⟩ hq
    ·obtain rfl:i=aD m (ah m p s):=CZ;((try revert hK K);(repeat'(first|refine Va X0 ?_|(refine V2 X0 ?_ ?_<;>try with_reducible intro hb)|(refine Xi ?_ ?_<;>try intro ht)|refine VD ?_ ?_|exact Xx|fail))<;>try with_reducible intro K hK)
     refine bG _ _ rfl ?_;clear bE bG du;repeat(first|refine Xu ?_)
     clear L6 hl0 qA ng Eb Ae fv fa fb tl tr;have jt:yv (fl m can (ec m can WA p s k) p s k (aD m (ah m p s)))=_:=yv.eq_1 _;generalize fl m can (ec m can WA p s k) p s k (aD m (ah m p s))=L at *;generalize yv L=amt at *;by_cases hL:L=1099511627776;all_goals
      first|rw[if_pos hL]at jt|rw[if_neg hL]at jt
      repeat'(first|((fail_if_success (first|refine eH 21 ?_|refine eI 21 ?_));refine Xr @hL ?_;intro K hK)|refine Xo @hL ?_|(refine hK _ ?_;clear hK K)|(refine Xg @hL ?_ ?_<;>try intro hb)|(refine Xi ?_ ?_<;>try intro ht)|refine Xy ?_|refine Xd ?_ ?_|exact Xx|fail)
      all_goals try(exfalso;omega)
      refine px 6 Fs _ rfl ?_;intro K hK;simp(disch:=omega)only[Ac,↓Pc,simprocAttr,jO,fH,U7];repeat'(first|with_reducible refine c6 ?_ ?_|omega|with_reducible rfl)
      rw[<- jt];refine⟨rfl,(show lr Tryz.prog 103 [.ptr gi 0 0,OJ p,OJ (1-s:Nat),OJ k,OJ amt] (some 153) _ _ from ?_)⟩;refine qz qK ?_;rintro r jU⟨rfl,xg,mX⟩;refine⟨mX.len,?_⟩;simp(disch:=omega)only[Ac,↓Pc,simprocAttr,fH];refine hK _ ?_;clear hK K;repeat(first|refine Xu ?_)
      ((try revert hK K);(repeat'(first|refine Va X0 ?_|(refine V2 X0 ?_ ?_<;>try with_reducible intro hb)|(refine Xi ?_ ?_<;>try intro ht)|refine VD ?_ ?_|exact Xx|fail))<;>try with_reducible intro K hK)
      exact ao _ (k+1,jU) ⟨Ji,by dsimp only;rw[s6,Hu];exact xg,aZ.trans mX⟩ Ji (Xv X0)
   ·rw[if_neg iV]at Hu;have aR:(can.getD (ah m p (1-s)) default).getD k false=false:=by simpa [c4] using iV
    ((try revert hK K);(repeat'(first|refine Va (X4 @fv @D9 @aR @aE.eq_1) ?_|(refine V2 (X4 @fv @D9 @aR @aE.eq_1) ?_ ?_<;>try with_reducible intro hb)|(refine Xi ?_ ?_<;>try intro ht)|refine VD ?_ ?_|exact Xx|fail))<;>try with_reducible intro K hK)
    exact ao _ (k+1,ok) ⟨Ji,by dsimp only;rw[s6,Hu];exact hM,aZ⟩ Ji (Xv X0)
  ·obtain rfl:k=aD m (ah m p (1-s)):=CZ;((try revert hK K);(repeat'(first|refine Va X0 ?_|(refine V2 X0 ?_ ?_<;>try with_reducible intro hb)|(refine Xi ?_ ?_<;>try intro ht)|refine VD ?_ ?_|exact Xx|fail))<;>try with_reducible intro K hK)
   refine ax _ _ rfl ?_;clear ao ax Ql;repeat(first|refine Xu ?_)
   ((try revert hK K);(repeat'(first|refine Vb X0 ?_|(refine V2 X0 ?_ ?_<;>try with_reducible intro hb)|(refine Xi ?_ ?_<;>try intro ht)|refine VD ?_ ?_|exact Xx|fail))<;>try with_reducible intro K hK)
   unfold lQ;simp only[gG,gv];exact⟨.bx [],_,⟨rfl,hM,aZ⟩,dX rfl aZ.len rfl⟩
end
def DY:ty Tryz.prog 88 = { kind:=9,size:=1,bytes:=8,elem:=0,len:=0,zero:=some [.nilFunc],aN:=[] }:=by kernel_rfl
section
variable {m:aj} {can:List (List Bool)} {gi ai bi mi:Nat} {D E:List (Nat×Nat)} {si sa jZ wi j4:Nat} {bJ:List (List Int)}
def ahk(hm:VM m)(hf:cP m can)(yw:UN gi ai bi mi D E si sa jZ wi j4)(nJ:bJ.length=m.cls.length)(pg:∀ c,c<m.cls.length->(bJ.getD c default).length<9223372036854775808/\∀ x∈bJ.getD c default,0<=x/\x<m.ae.length):
  ∀ (f:Nat) (st:WS×List Bool) (c:Nat) (os:List Ob) (B:Int),m.cls.length-nT st.2<=f->c<m.cls.length->st.2.getD c false=false->st.2.length=m.cls.length->WF m can gi ai bi mi D E st.1 os->UF 70 gi si sa jZ wi j4 bJ st.2 os->jx m st.1 ->
   0<=B+618475290624*(nT st.2:Nat)->B<=576460752303423488->WB (B+618475290624*(nT st.2:Nat)) st.1 ->
   dZ Tryz.prog 70 [OJ c,.ptr si 0 0,.ptr jZ 0 0,.ptr wi 0 0,.ptr j4 0 0] os λr ob=>r=.bx []/\WF m can gi ai bi mi D E (gI m can bJ f st c).1 ob/\UF 70 gi si sa jZ wi j4 bJ (gI m can bJ f st c).2 ob/\Kp mi ((sa,0)::D) E os ob/\UO m B 1 st (gI m can bJ f st c):=by
 intro f
 induction f with
 |zero =>
  intro st c os B h0 hc hs hl;have:=ahK CZ hs;omega
 |succ f ih =>
  intro st c os B h0 hc hs hl hW hU uz hB xi GQ;have s8:=hm.cls;have pD:=hm.ae;have fs:=hU.s;have fa:=hU.a;have K6:=ahL CZ hs;have Vf:=LH (st.2.set c true);rw[bH,hl]at Vf;obtain⟨n1,n2,n3,n4,n5,n6,n7⟩:=yw.sa;have s6:=hW.other ⟨n1,n2,n3,(yw.out sa Fl).1⟩ (yw.out sa Fl).2 (.arr 1 (br (st.2.set c true)));have L7:=hU.set yw (s2:=st.2.set c true) Fl;have eJ:Kp mi ((sa,0)::D) E os (os.set sa (.arr 1 (br (st.2.set c true)))):=(Kp.refl mi _ E os).put _;have Vg:UO m B 1 st (st.1,st.2.set c true):=⟨by simpa using hl,uz,GQ.mono Ji,Ji,λj hj=>by
   dsimp only;by_cases e:c=j
   ·subst e;simp[az,List.getElem?_set,hl,hc]
   ·rw[az,List.getElem?_set_ne e,<- az];exact hj⟩
  rw[ahN];obtain⟨jf,nG⟩:=pg c hc;have hbc:(fe bJ)[c]?=some [.tree 1 (ints (bJ.getD c default))]:=JC bJ c CZ;generalize ov:bJ.getD c default=l at *;have Vh:bJ.getD c []=l:=ov;have L8:=L7.b;refine dZ.aQ 49 os.length [] Tryz.func70 ?_;((try revert hK K);(repeat'(first|refine Va (X4 @fs @fa @L8 @Vh) ?_|(refine V2 (X4 @fs @fa @L8 @Vh) ?_ ?_<;>try with_reducible intro hb)|(refine Xi ?_ ?_<;>try intro ht)|refine VD ?_ ?_|exact Xx|fail))<;>try with_reducible intro K hK)
  have Af:vO m can (gI m can bJ f) (st.1,st.2.set c true) (l.take 0)=(st.1,st.2.set c true):=rfl;refine bd (λz:Nat×List Ob=>(⟨ar [(1,.ptr si 0 0),(2,.ptr jZ 0 0),(3,.ptr wi 0 0),(4,.ptr j4 0 0),(17,.tree 1 (ints l)),(18,OJ l.length),(19,OJ z.1)],z.2⟩:St))
   (λz=>z.1<=l.length/\WF m can gi ai bi mi D E (vO m can (gI m can bJ f) (st.1,st.2.set c true) (l.take z.1)).1 z.2/\UF 70 gi si sa jZ wi j4 bJ (vO m can (gI m can bJ f) (st.1,st.2.set c true) (l.take z.1)).2 z.2/\Kp mi ((sa,0)::D) E os z.2/\UO m B 1 st (vO m can (gI m can bJ f) (st.1,st.2.set c true) (l.take z.1)))
   (λz=>l.length-z.1) (0,os.set sa (.arr 1 (br (st.2.set c true)))) ⟨aS _,by dsimp only;rw[Af];exact s6,by dsimp only;rw[Af];exact L7,eJ,by dsimp only;rw[Af];exact Vg⟩ (Xv X0) ?_
  clear s6 L7 eJ Vg Af fs fa L8 K6 Vf hW hU;rintro⟨j,ob⟩⟨hj,hW,hU,aZ,hO⟩Ql ao ax;dsimp only at hj hW hU aZ hO ⊢;by_cases gx:j<l.length
  ·have eN:=ahM m can (gI m can bJ f) (st.1,st.2.set c true) gx;obtain⟨hx0,BV⟩:=nG (l.getD j default) (aF gx);generalize hx3:l.getD j default=x at *;have zr:l.getD j 0=x:=hx3;generalize s6:vO m can (gI m can bJ f) (st.1,st.2.set c true) (l.take (j+1))=r1 at *;generalize vO m can (gI m can bJ f) (st.1,st.2.set c true) (l.take j)=sj at *;obtain⟨p,rfl⟩:∃p:Nat,x=p:=⟨x.toNat,CZ⟩;rw[Int.toNat_natCast]at eN;have hp:p<m.ae.length:=CZ;obtain⟨dj,q1,q2,q3,q4,q5⟩:=yo hm hp;have he:=D8 hm hW hp;have fw:=hU.w;have pz:=hW.app [.gone,.gone,.gone,.gone];have Vi:=hU.app [.gone,.gone,.gone,.gone];have Vj:=aZ.app [.gone,.gone,.gone,.gone];have e0:(bN m p).fst=((ah m p 0:Nat):Int):=by show _=((bN m p).fst.toNat:Int);omega
   have e1:(bN m p).snd=((ah m p 1:Nat):Int):=by show _=((bN m p).snd.toNat:Int);omega
   rw[e0,e1]at he;have hEq:∀ s,s<2->([[.tree 1 (ints [((ah m p 0:Nat):Int)])],[.tree 1 (ints [((ah m p 1:Nat):Int)])]]:List (List AV))[s]?=some [.tree 1 (ints [((ah m p s:Nat):Int)])]:=λs hs=>by
    rcases(show s=0\/s=1 by omega) with rfl|rfl<;>rfl
   have yx:([[.tree 1 (ints [((ah m p 0:Nat):Int)])],[.tree 1 (ints [((ah m p 1:Nat):Int)])]]:List (List AV)).length=2:=rfl;generalize ([[.tree 1 (ints [((ah m p 0:Nat):Int)])],[.tree 1 (ints [((ah m p 1:Nat):Int)])]]:List (List AV))=EN at *;have bz:∀ s,s<2->ah m p s<m.cls.length:=λs hs=>by
    rcases(show s=0\/s=1 by omega) with rfl|rfl
    ·exact q1
    ·exact q2
   repeat'(first|((fail_if_success (first|refine eH 4 ?_|refine eI 4 ?_));refine Xr @zr ?_;intro K hK)|refine Xo @zr ?_|(refine hK _ ?_;clear hK K)|(refine Xg @zr ?_ ?_<;>try intro hb)|(refine Xi ?_ ?_<;>try intro ht)|refine Xy ?_|refine Xd ?_ ?_|exact Xx|fail)
   ((try revert hK K);(repeat'(first|refine Va @fw ?_|(refine V2 @fw ?_ ?_<;>try with_reducible intro hb)|(refine Xi ?_ ?_<;>try intro ht)|refine VD ?_ ?_|exact Xx|fail))<;>try with_reducible intro K hK)
   refine gj he Fl ?_;((try revert hK K);(repeat'(first|refine Va @yx ?_|(refine V2 @yx ?_ ?_<;>try with_reducible intro hb)|(refine Xi ?_ ?_<;>try intro ht)|refine VD ?_ ?_|exact Xx|fail))<;>try with_reducible intro K hK)
   have xj:uD m can (gI m can bJ f) sj p 0=sj:=rfl;have vQ:∀ s,uD m can (gI m can bJ f) sj p (s+1)=uA m can (gI m can bJ f) (uD m can (gI m can bJ f) sj p s) p s:=λs=>rfl;refine bd (λz:Nat×List Ob=>(⟨ar [(1,.ptr si 0 0),(2,.ptr jZ 0 0),(3,.ptr wi 0 0),(4,.ptr j4 0 0),(7,OJ p),(17,.tree 1 (ints l)),(18,OJ l.length),(19,OJ j),(25,.tree 1 EN),(26,OJ 2),(27,OJ z.1)],z.2⟩:St))
    (λz=>z.1<=2/\WF m can gi ai bi mi D E (uD m can (gI m can bJ f) sj p z.1).1 z.2/\UF 70 gi si sa jZ wi j4 bJ (uD m can (gI m can bJ f) sj p z.1).2 z.2/\Kp mi ((sa,0)::D) E os z.2/\UO m B 1 st (uD m can (gI m can bJ f) sj p z.1))
    (λz=>2-z.1) (0,ob++[.gone,.gone,.gone,.gone]) ⟨Ji,by dsimp only;rw[xj];exact pz,by dsimp only;rw[xj];exact Vi,Vj,by dsimp only;rw[xj];exact hO⟩ (Xv X0) ?_
   (try clear he;clear pz Vi Vj hO hW hU aZ fw xj)
   rintro⟨s,ob⟩⟨mg,hW,hU,aZ,hO⟩du bE bG;dsimp only at mg hW hU aZ hO ⊢;by_cases iK:s<2
   ·have Ec:EN.getD s []=[.tree 1 (ints [((ah m p s:Nat):Int)])]:=by rw[az,hEq s iK];rfl
    have xk:=bz s iK;have ny:=vQ s;unfold uA at ny;generalize pz:uD m can (gI m can bJ f) sj p (s+1)=r2 at *;generalize uD m can (gI m can bJ f) sj p s=sk at *;have fs:=hU.s;have fa:=hU.a;have fw:=hU.w;have fu:=hU.u;have dY:=hO.len;generalize iN:ah m p s=kc at *;by_cases vK:sk.2.getD kc false=true
    ·rw[if_pos vK]at ny;((try revert hK K);(repeat'(first|refine Va (X5 @Ec @yx @fs @fa @vK) ?_|(refine V2 (X5 @Ec @yx @fs @fa @vK) ?_ ?_<;>try with_reducible intro hb)|(refine Xi ?_ ?_<;>try intro ht)|refine VD ?_ ?_|exact Xx|fail))<;>try with_reducible intro K hK)
     exact bE _ (s+1,ob) ⟨Ji,by dsimp only;rw[pz,ny];exact hW,by dsimp only;rw[pz,ny];exact hU,aZ,by dsimp only;rw[pz,ny];exact hO⟩ Ji (Xv X0)
    ·rw[if_neg vK]at ny;have Hy:sk.2.getD kc false=false:=by simpa using vK
     repeat'(first|((fail_if_success (first|refine eH 9 ?_|refine eI 9 ?_));refine Xr (X5 @Ec @yx @fs @fa @Hy) ?_;intro K hK)|refine Xo (X5 @Ec @yx @fs @fa @Hy) ?_|(refine hK _ ?_;clear hK K)|(refine Xg (X5 @Ec @yx @fs @fa @Hy) ?_ ?_<;>try intro hb)|(refine Xi ?_ ?_<;>try intro ht)|refine Xy ?_|refine Xd ?_ ?_|exact Xx|fail)
     have hih:=ih sk kc ob (B-618475290624) (by have:=hO.up;omega) xk Hy dY hW hU hO.sh (by have:=hO.up;omega) CZ (hO.wb.mono CZ);generalize gI m can bJ f sk kc=s3 at *;refine px 2 Fs _ rfl ?_;intro K hK;simp(disch:=omega)only[Ac,↓Pc,simprocAttr,jO,fH,fu,DY];repeat'(first|with_reducible refine c6 ?_ ?_|omega|with_reducible rfl)
     refine⟨rfl,(show lr Tryz.prog 70 [OJ kc,.ptr si 0 0,.ptr jZ 0 0,.ptr wi 0 0,.ptr j4 0 0] (some 42) _ _ from ?_)⟩;refine qz hih ?_;rintro r jU⟨rfl,Lj,Vk,mX,yy⟩;refine⟨mX.len,?_⟩;simp(disch:=omega)only[Ac,↓Pc,simprocAttr,fH];refine hK _ ?_;clear hK K;repeat(first|refine Xu ?_)
     have hO4:=hO.up;have hO5:=yy.up;have hO6:=LH s3.2;rw[yy.len]at hO6;have eW:=ahT hm hf Lj yy.sh (B:=B-618475290624+618475290624*(nT s3.2:Nat)-618475290624) ⟨CZ,CZ⟩ (yy.wb.mono CZ) hp (s:=s) CZ;have fw3:=Vk.w;refine px 3 Fs _ rfl ?_;intro K hK;simp(disch:=omega)only[Ac,↓Pc,simprocAttr,jO,fH,fw3];repeat'(first|with_reducible refine c6 ?_ ?_|omega|with_reducible rfl)
     refine⟨rfl,(show lr Tryz.prog 72 [.ptr gi 0 0,OJ p,OJ s] (some 46) _ _ from ?_)⟩;refine qz eW ?_;rintro r ob4⟨rfl,hW4,yz⟩;refine⟨yz.len,?_⟩;simp(disch:=omega)only[Ac,↓Pc,simprocAttr,fH];refine hK _ ?_;clear hK K;repeat(first|refine Xu ?_)
     ((try revert hK K);(repeat'(first|refine Va X0 ?_|(refine V2 X0 ?_ ?_<;>try with_reducible intro hb)|(refine Xi ?_ ?_<;>try intro ht)|refine VD ?_ ?_|exact Xx|fail))<;>try with_reducible intro K hK)
     have hU4:=Vk.kp yw yz;have hO7:UO m B 1 st (qB m can s3.1 p s,s3.2):=⟨yy.len,Vl yy.sh p s,(Vm (can:=can) hm CZ yy.wb p s).mono Ji,Ji,λj hj=>yy.mono j (hO.mono j hj)⟩;exact bE _ (s+1,ob4) ⟨Ji,by dsimp only;rw[pz,ny];exact hW4,by dsimp only;rw[pz,ny];exact hU4,(aZ.trans mX).trans (yz.wide _),by dsimp only;rw[pz,ny];exact hO7⟩ Ji (Xv X0)
   ·obtain rfl:s=2:=CZ;((try revert hK K);(repeat'(first|refine Va X0 ?_|(refine V2 X0 ?_ ?_<;>try with_reducible intro hb)|(refine Xi ?_ ?_<;>try intro ht)|refine VD ?_ ?_|exact Xx|fail))<;>try with_reducible intro K hK)
    refine bG _ _ rfl ?_;clear bE bG du;repeat(first|refine Xu ?_)
    ((try revert hK K);(repeat'(first|refine Va X0 ?_|(refine V2 X0 ?_ ?_<;>try with_reducible intro hb)|(refine Xi ?_ ?_<;>try intro ht)|refine VD ?_ ?_|exact Xx|fail))<;>try with_reducible intro K hK)
    rw[<- eN]at hW hU hO;exact ao _ (j+1,ob) ⟨Ji,by dsimp only;rw[s6];exact hW,by dsimp only;rw[s6];exact hU,aZ,by dsimp only;rw[s6];exact hO⟩ Ji (Xv X0)
  ·obtain rfl:j=l.length:=CZ;((try revert hK K);(repeat'(first|refine Va X0 ?_|(refine V2 X0 ?_ ?_<;>try with_reducible intro hb)|(refine Xi ?_ ?_<;>try intro ht)|refine VD ?_ ?_|exact Xx|fail))<;>try with_reducible intro K hK)
   refine ax _ _ rfl ?_;clear ao ax Ql;repeat(first|refine Xu ?_)
   ((try revert hK K);(repeat'(first|refine Vb X0 ?_|(refine V2 X0 ?_ ?_<;>try with_reducible intro hb)|(refine Xi ?_ ?_<;>try intro ht)|refine VD ?_ ?_|exact Xx|fail))<;>try with_reducible intro K hK)
   unfold lQ;simp only[gG,gv];rw[List.take_length]at hW hU hO;exact⟨.bx [],_,⟨rfl,hW,hU,aZ,hO⟩,dX rfl aZ.len rfl⟩
end
end T

