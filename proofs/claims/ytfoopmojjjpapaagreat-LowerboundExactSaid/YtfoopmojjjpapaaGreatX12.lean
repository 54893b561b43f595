import Derived.Test.YtfoopmojjjpapaaGreatX11
set_option linter.all false
set_option maxHeartbeats 0
set_option maxRecDepth 20000
open List renaming getElem?_eq_some_iff→aR,getD_eq_getElem?_getD→ax,getElem?_append_left→eL,getElem?_append_right→gZ,getElem?_set→bP,mem_or_eq_of_mem_set→tP,length_set→bw,mem_of_getElem?→gY,mapIdx_cons→IV,all_cons→CA
open Option renaming some→cy,bind_some→r8,map_some→gF
open Nat renaming not_lt_zero→sc
open Bool renaming and_eq_true→bg
namespace Go.Am
variable {P:Program} {N n0:Nat} {σ:St}
def qW{f:FuncId}{args:List AV}{dst:Option Tmp}{K:St->Prop}{ic:AV->List Ob->Prop}(h:dy P f args σ.aa ic)(hK:∀ res ba,ic res ba->σ.aa.length<=ba.length/\K ((⟨σ.env,ba⟩:St).put dst res)):kK P f args dst K σ:=by
 refine⟨List.range σ.aa.length,false,args,σ.aa,ic,h,⟨List.nodup_range,IM,?_,rfl,?_⟩,λres ba hp=>⟨IM,?_⟩⟩
 ·intro j o hj;have aS:=(aR.1 hj).1;rw[xQ,CP];simpa [ax,List.getElem?_range aS] using hj
 ·intro j c d hc hd;rw[hc]at hd;simp only[cy.injEq]at hd;subst hd;exact .eq (by rw[xQ,xR])
 ·obtain⟨hl,hK⟩:=hK res ba hp;rw[xQ,xR];have:ba.map (bM (λj=>j))=ba:=by
   have h:bM (λj=>j)=id:=by funext o;exact CP o
   simp[h]
  rw[this,Qd _ _ hl];exact hK
def Hz{Q:Exit->St->Prop}(n:Nat){id:Nat}{ops:Array Oper}(hd:fU N ops=true)(h:∀ K K1:St->Prop,(∀ s,Q .normal s->K s)->(∀ s s1,aF n0 s s1->opsL P ops (ops.toList.drop n) K s1->K1 s)->opsL P ops (ops.toList.take n) K1 σ):W P N n0 (.region id ops false) Q σ:=by
 intro os γ0 a w hn aA;refine wp_region ?_;exact aci (ud hd) hn (K:=Q .normal) (K1:=λs=>∃ s1,aF n0 s s1/\opsL P ops (ops.toList.drop n) (Q .normal) s1) (λσ' a' w' hK dj=>⟨σ',hK,dj⟩) n (λs h=>h) σ a w (h _ _ (λ_ h=>h) (λs s1 h1 h2=>⟨s1,h1,h2⟩)) aA
def Holds.Kr{f:FuncId}{sz:Nat}{pre post:List AV}{aa ba:List Ob}{res:AV}(h:Holds P f (pre++.tree sz []::post) aa res ba):Holds P f (pre++.lit (.slice none 0 0)::post) aa res ba:=by
 refine⟨h.1,λγ aJ hs=>h.2 γ (by simpa using aJ) ⟨λk=>?_,hs.dx,hs.inj,hs.nz,hs.fV,hs.gl⟩⟩;have:=hs.ao k;dsimp only at this ⊢;by_cases hk:k=pre.length
 ·subst hk;have e1:(pre++AV.lit (.slice none 0 0)::post).getD pre.length .undef=.lit (.slice none 0 0):=IM;have e2:(pre++AV.tree sz []::post).getD pre.length .undef=.tree sz []:=IM;rw[e1]at this;rw[e2,this.cD];exact .cC _ _ (.nil _ _ _)
 ·have e:(pre++AV.tree sz []::post).getD k .undef=(pre++AV.lit (.slice none 0 0)::post).getD k .undef:=by
   simp only[ax];congr 1;rcases Nat.lt_or_ge k pre.length with h1|h1
   ·rw[eL h1,eL h1]
   ·rw[gZ h1,gZ h1,show k-pre.length=(k-pre.length-1)+1 by omega];rfl
  rw[e];exact this
end Go.Am
namespace Go.Am
variable {P:Program} {N n0:Nat} {σ:St} {Q:Exit->St->Prop}
def aF.Hm(a id r0 c sz HQ:Nat){R:List (List AV)}{cells:List AV}{rows:List (List AV)}(ho:σ.aa[id]?=some (.arr HQ R))(bE:R[r0]?=some cells)(ha:σ.aa[a]?=some (.arr sz rows))(hc:cells[c]?=some (.ref a sz 0 rows.length))(zN:a≠id)(hw:∀ row∈rows,row.length=sz)(u3:∀ row∈rows,∀ v∈row,(∃ x,v=.lit x)\/∃ s r,v=.tree s r):aF n0 σ ⟨σ.env,(σ.aa.set a .gone).set id (.arr HQ (R.set r0 (cells.set c (.tree sz rows))))⟩:=by
 intro os γ0 γ _ hs hf;have zO:id<σ.aa.length:=(aR.1 ho).1;have j5:a<σ.aa.length:=(aR.1 ha).1
 let az:Cx:={ γ with Z:=λb=>γ.Z b\/∃ o cap,γ.blk a=some (b,o,cap) }
 let os2:=(σ.aa.set a .gone).set id (.arr HQ (R.set r0 (cells.set c (.tree sz rows))))
 have ij:∀ i,os2[i]?=if i=id then some (.arr HQ (R.set r0 (cells.set c (.tree sz rows)))) else if i=a then some .gone else σ.aa[i]?:=by
  intro i;show((σ.aa.set a .gone).set id _)[i]?=_;rw[bP,bP];by_cases h1:i=id
  ·subst h1;simp[zO]
  ·by_cases h2:i=a
   ·subst h2;simp[Ne.symm h1,h1,j5]
   ·simp[Ne.symm h1,Ne.symm h2,h1,h2]
 have hR:∀ v cv,aw σ.aa γ.w γ.Z γ.blk v cv->aw os2 az.w az.Z az.blk v cv:=λv cv hv =>
  hv.mono (λb hb=>⟨.inl hb,rfl⟩) (λi o hi=>by
   rw[ij];by_cases h1:i=id
   ·subst h1;rw[ho]at hi;simp only[cy.injEq]at hi;subst hi;right;exact⟨rfl,_,by rw[if_pos rfl],by simp[Ob.dI]⟩
   ·rw[if_neg h1];by_cases h2:i=a
    ·left;rw[if_pos h2]
    ·rw[if_neg h2];by_cases hg:o=.gone
     ·subst hg;exact .inl hi
     ·exact .inr ⟨rfl,o,hi,Ob.jh hg⟩)
 have bN:∀ i,Live os2 i->Live σ.aa i/\i≠a:=by
  rintro i⟨o,hi,hg⟩;rw[ij]at hi;split at hi
  ·rename_i h1;subst h1;exact⟨⟨_,ho,IM⟩,Ne.symm zN⟩
  ·split at hi
   ·simp at hi;exact absurd hi.symm hg
   ·rename_i h2;exact⟨⟨o,hi,hg⟩,h2⟩
 have ov:Live σ.aa a:=⟨_,ha,IM⟩;refine⟨az,rfl,rfl,⟨λk=>hR _ _ (hs.ao k),?_,λi j b o c o' c' hi hj=>hs.inj i j b o c o' c' (bN i hi).1 (bN j hj).1,?_,?_,λg=>xY (hs.gl g) λb hb=>⟨.inl hb,rfl⟩⟩,?_⟩
 ·intro i o hi;have ar:os2[i]?=some o:=hi;rw[ij]at ar;split at ar
  ·rename_i h1;subst h1;simp only[cy.injEq]at ar;subst ar;obtain⟨h0,hr,bI⟩:=hs.dx _ _ ho;have rG:r0<R.length:=(aR.1 bE).1;refine⟨h0,λrow vP=>?_,?_⟩
   ·rcases tP vP with h|h
    ·exact hr row h
    ·subst h;rw[bw];exact hr cells (gY bE)
   ·rcases bI with⟨h1,h2⟩|⟨b,o,cap,cur,t,h1,h2,h3,h4,h5,h6⟩
    ·exact absurd (show r0<0 by rw[h2]at rG;exact rG) (sc _)
    ·refine .inr ⟨b,o,cap,cur,t,h1,h2,h3,by rw[bw];exact h4,h5,λr k v hv=>?_⟩;unfold cellAt at hv;rw[bP]at hv;by_cases e:r0=r
     ·subst e;rw[if_pos rfl,if_pos rG,r8,bP]at hv;split at hv
      ·rename_i e;subst e;split at hv
       ·simp only[cy.injEq]at hv;subst hv;have ef:dF σ (λx=>x≠a) (.tree sz rows) (.ref a sz 0 rows.length):=dF.flat ha hw rfl IM u3;exact .cC _ _ (ef.zq hs (γc:=az) (λb hb=>.inl hb) rfl (λx b o cap b9 _ hb=>.inr ⟨o,cap,by rw[show a=x by simpa using(Decidable.not_not.1 b9).symm];exact hb⟩) _ (h6 r0 c _ (by unfold cellAt;rw[bE];exact hc)))
       ·simp at hv
      ·exact hR _ _ (h6 r0 k v (by unfold cellAt;rw[bE];exact hv))
     ·rw[if_neg e]at hv;exact hR _ _ (h6 r k v hv)
  ·split at ar
   ·simp only[cy.injEq]at ar;subst ar;trivial
   ·by_cases hg:o=.gone
    ·subst hg;trivial
    ·exact(hs.dx i o ar).mono hR rfl (λ_ _ _ _=>rfl)
 ·rintro b ⟨i,o,c',hi,hb⟩ (hz|⟨o',cap,aY⟩)
  ·exact hs.nz b ⟨i,o,c',(bN i hi).1,hb⟩ hz
  ·exact(bN i hi).2 (hs.inj i a b o c' o' cap (bN i hi).1 ov hb aY)
 ·rintro b (hz|⟨o,cap,hb⟩)
  ·exact hs.fV b hz
  ·exact hs.blt ov hb
 ·refine⟨hf.kD,hf.tape,hf.output,hf.size,hf.dN,λb hb=>.inl (hf.z0 b hb),?_,?_,by show os.length<=os2.length;simp[os2];exact hf.len,?_,hf.drawn⟩
  ·rintro b (hz|⟨o,cap,hb⟩)
   ·exact hf.z1 b hz
   ·exact .inr (hf.own b ⟨a,o,cap,ov,hb⟩)
  ·rintro b ⟨i,o,c',hi,hb⟩;exact hf.own b ⟨i,o,c',(bN i hi).1,hb⟩
  ·intro i hi hl;obtain⟨h1,x,x',hx,bW,hk⟩:=hf.dV i hi (bN i hl).1;have C6:=(bN i hl).2;have jO:Live os2 i:=hl;obtain⟨o,dz,nY⟩:=jO;refine⟨h1,x,o,hx,dz,?_⟩;rw[ij]at dz;split at dz
   ·rename_i e;subst e;rw[ho]at bW;simp only[cy.injEq]at bW dz;subst bW;subst dz;refine Ob.FU hk (by simp[Ob.dI])
   ·rw[bW]at dz;simp only[cy.injEq]at dz;subst dz;exact hk
end Go.Am
namespace Go.Am
variable {P:Program} {N n0:Nat} {σ:St} {Q:Exit->St->Prop}
def bh.aia{σ:St}{γ:Cx}(h:bh σ γ){id sz:Nat}{R R':List (List AV)}(ho:σ.aa[id]?=some (.arr sz R))(hl:R'.length=R.length)(hw:∀ row∈R',row.length=sz)(bZ:R≠[])(hc:∀ (r c:Nat) v',cellAt R' r c=some v'->∃ v,cellAt R r c=some v/\∀ cv,aw σ.aa γ.w γ.Z γ.blk v cv->aw σ.aa γ.w γ.Z γ.blk v' cv):bh ⟨σ.env,σ.aa.set id (.arr sz R')⟩ γ:=by
 obtain⟨h0,hr,bI⟩:=h.dx id _ ho;rcases bI with⟨_,h2⟩|⟨b,o,cap,cur,t,h1,h2,h3,h4,h5,h6⟩
 ·exact absurd h2 bZ
 ·have:=h.write (ob':=.arr sz R') ho IM ⟨rfl,hl.symm⟩ h1 (w':=γ.w) h2 (λ_ _=>rfl) rfl ⟨h0,hw,h3,by rw[hl];exact h4,h5,λr c v' hv=>by
   obtain⟨v,oh,x8⟩:=hc r c v' hv;exact x8 _ (h6 r c v oh)⟩
  exact this
def Fr.aib(os:List Ob)(γ:Cx){id:Nat}{o o':Ob}(ho:os[id]?=some o)(jP:o.dI o'):Fr os γ (os.set id o') γ where
 kD:=rfl
 tape:=rfl
 output:=rfl
 size:=Nat.le_refl _
 dN:=λ_ _ _=>rfl
 z0:=λ_ h=>h
 z1:=λ_ h=>.inl h
 own:=by
  rintro b⟨i,p,c,⟨x,hx,eC⟩,hb⟩;rw[bP]at hx;split at hx
  ·rename_i e;subst e;exact .inl ⟨id,p,c,⟨_,ho,(Ob.QM jP).1⟩,hb⟩
  ·exact .inl ⟨i,p,c,⟨x,hx,eC⟩,hb⟩
 len:=IM
 dV:=by
  rintro i hi⟨x,hx,eC⟩;have hx0:=hx;rw[bP]at hx;split at hx
  ·rename_i e;subst e;exact⟨rfl,o,o',ho,by rw[bP];simp[hi],jP⟩
  ·exact⟨rfl,x,x,hx,hx0,Ob.jh eC⟩
def YZ(v v':AV):Prop:=v'=v\/(v=.lit (.slice none 0 0)/\∃ s,v'=.tree s [])
def Cj:List AV->List AV->Prop
 |[],[]=>True
 |c::cs,d::ds=>YZ c d/\Cj cs ds
 |_,_=>False
def Cj.get:∀ {cs ds:List AV},Cj cs ds->cs.length=ds.length/\∀ (j:Nat) d,ds[j]?=some d->∃ c,cs[j]?=some c/\YZ c d
 |[],[],_=>⟨rfl,IM⟩
 |c::cs,d::ds,h=>by
  obtain⟨a,b⟩:=Cj.get h.2;refine⟨by simp[a],λj d' hd=>?_⟩;cases j with
  |zero=>simp at hd;subst hd;exact⟨c,rfl,h.1⟩
  |succ j=>exact b j d' (by simpa using hd)
 |[],_::_,h=>h.elim
 |_::_,[],h=>h.elim
def aF.HR(id r0 sz:Nat){R:List (List AV)}{cells cells':List AV}(ho:σ.aa[id]?=some (.arr sz R))(bE:R[r0]?=some cells)(hc:Cj cells cells'):aF n0 σ ⟨σ.env,σ.aa.set id (.arr sz (R.set r0 cells'))⟩:=by
 intro os γ0 γ _ hs hf;obtain⟨hl,hg⟩:=hc.get;have rG:r0<R.length:=(aR.1 bE).1;have xk:=(hs.dx id _ ho).2.1;refine⟨γ,rfl,rfl,hs.aia ho IM (λrow vP=>?_) (λe=>by rw[e]at rG;exact absurd rG (sc _)) (λr c v' hv=>?_),hf.trans (Fr.aib _ _ ho ⟨rfl,IM⟩)⟩
 ·rcases tP vP with h|h
  ·exact xk row h
  ·subst h;rw[<- hl];exact xk cells (gY bE)
 ·unfold cellAt at hv;rw[bP]at hv;by_cases e:r0=r
  ·subst e;rw[if_pos rfl,if_pos rG,r8]at hv;obtain⟨v,h1,h2⟩:=hg c v' hv;refine⟨v,by unfold cellAt;rw[bE];exact h1,λcv hr=>?_⟩;rcases h2 with rfl|⟨rfl,s,rfl⟩
   ·exact hr
   ·rw[hr.cD];exact .cC _ _ (.nil _ _ _)
  ·rw[if_neg e]at hv;exact⟨v',hv,λcv hr=>hr⟩
end Go.Am
namespace Go.Am
variable {P:Program} {N n0:Nat} {σ:St} {Q:Exit->St->Prop}
end Go.Am
namespace Go.Am
def Holds.aic{P:Program}{f:FuncId}{args:List AV}{aa ba Y0:List Ob}{res Y1:AV}(h:Holds P f args aa res ba)(ht:aF aa.length ⟨λk=>[res].getD k .undef,ba⟩ ⟨λk=>[Y1].getD k .undef,Y0⟩):Holds P f args aa Y1 Y0:=by
 obtain⟨hc,h⟩:=h;refine⟨hc,λγ jx j3=>Calls.mono (h γ jx j3) ?_⟩;rintro e w'⟨cv,az,h1,h2,h3,h4,h5⟩;obtain⟨C3,a1,a2,a3,a4⟩:=ht aa γ az rfl h4 h5;exact⟨cv,C3,h1,a1.trans h2,a2.trans h3,a3,a4⟩
end Go.Am
namespace Go.Am
variable {P:Program} {N n0:Nat} {σ:St}
def Ms(ag:Nat)(f:Nat->Value)(p:List Int×AV)(r:List (List Int×AV)):c6 ag f (p::r)=(kV ag p.1,f 0)::c6 ag (λj=>f (j+1)) r:=by
 unfold c6;simp[IV]
def Y2(x:Int):∀ (L:List (List Int×AV)) (f:Nat->Value) (g:Nat->Nat) (i:Nat),(∀ p∈L,p.1.length=1) ->
  Instr.findNow (.int .i64) (.int .i64 x) ((c6 0 f L).mapIdx λj p=>(⟨p.1,p.2,g j⟩:MapEntry)) i=some ((fX [x] L i).map λq=>(q,f (q-i)))
 |[],_,_,_,_=>rfl
 |p::r,f,g,i,h=>by
  have hp:=h p IM;obtain⟨l,v⟩:=p;obtain⟨y,rfl⟩:∃y,l=[y]:=List.length_eq_one_iff.1 hp;rw[Ms];simp only[IV,Instr.findNow,kV,if_true,List.headD_cons,Instr.sameNow,fX];by_cases qt:y=x
  ·subst qt;simp
  ·rw[if_neg (λe=>qt (by simpa using e))];have:(x==y)=false:=by simpa using λe=>qt e.symm
   rw[this];have ih:=Y2 x r (λj=>f (j+1)) (λj=>g (j+1)) (i+1) (λq hq=>h q (by simp[hq]));simp only[ih];cases hf:fX [x] r (i+1) with
   |none=>rfl
   |some q =>
    have:=(zA hf).1;simp only[gF];rw[show q-(i+1)+1=q-i by omega]
def jb.int{t kt et:TypeId}(h1:P.underlying t=some (.map kt et))(h2:P.underlying kt=some (.int .i64)):jb P t 0:=by
 refine⟨kt,et,h1,λl hl=>?_⟩;obtain⟨x,rfl⟩:∃x,l=[x]:=List.length_eq_one_iff.1 hl;refine⟨λe w=>?_,λw=>?_,λf L w hL=>?_⟩
 ·exact run_checkKey h2 e x w
 ·have DY:Instr.sameBits 10000 (.int .i64 x) (.int .i64 x)=true:=by simp[Instr.sameBits]
  show(Instr.keyThatStays (.int .i64 x) (.int .i64 x)).run P w=_;simp[Instr.keyThatStays,DY,kV]
 ·have h:=Y2 x L f id 0 hL;simp only[id]at h;show(Instr.findKey kt (.int .i64 x) (cN (c6 0 f L)).toList).run P w=_;simp[Instr.findKey,run_underlying h2,sS,h]
end Go.Am
namespace Go.Am
variable {P:Program} {N n0:Nat} {σ:St}
def Er{n:Nat}(hn:n≠0)(l:List Int):kV n l=.agg (l.map (Value.int .i64)).toArray:=by unfold kV;rw[if_neg hn]
def aid{t:TypeId}{n:Nat}(h:u7 P t n)(hn:n≠0)(w:World){as bs:List Int}(ha:as.length=n)(hb:bs.length=n):(Op.equal t (kV n as) (kV n bs)).run P w=.ok (decide (as=bs)) w:=by
 rw[Er hn,Er hn];exact h w as bs ha hb
def Y3{t:TypeId}{n:Nat}(h:u7 P t n)(hn:n≠0){l:List Int}(hl:l.length=n)(w:World):∀ (L:List (List Int×AV)) (f:Nat->Value) (g:Nat->Nat) (i:Nat),(∀ p∈L,p.1.length=n) ->
  (Instr.findAsking t (kV n l) ((c6 n f L).mapIdx λj p=>(⟨p.1,p.2,g j⟩:MapEntry)) i).run P w=.ok ((fX l L i).map λq=>(q,f (q-i))) w
 |[],_,_,_,_=>rfl
 |p::r,f,g,i,hL=>by
  have hp:=hL p IM;rw[Ms];have he:=aid h hn w hl hp;simp only[IV,Instr.findAsking,Sem.run_bind,he,Result.andThen_ok,Sem.run_ite,fX];by_cases qt:p.1=l
  ·rw[if_pos qt];simp[qt.symm]
  ·rw[if_neg qt,if_neg (by simpa using λe=>qt e.symm)];have ih:=Y3 h hn hl w r (λj=>f (j+1)) (λj=>g (j+1)) (i+1) (λq hq=>hL q (by simp[hq]));rw[ih];cases hf:fX l r (i+1) with
   |none=>rfl
   |some q =>
    have:=(zA hf).1;simp only[gF];rw[show q-(i+1)+1=q-i by omega]
def Y4(k:Nat):∀ (l:List Int),((l.map (Value.int .i64)).zip (l.map (Value.int .i64))).all (λ(x,y)=>Instr.sameBits k x y)=true
 |[]=>rfl
 |x::r=>by
  simp only[List.map_cons,List.zip_cons_cons,CA,Y4 k r,Bool.and_true];cases k<;>simp[Instr.sameBits]
def aie(w:World){ft:TypeId}(hf:P.underlying ft=some (.int .i64)){l:List Int}{o:Nat}(ho:o<l.length):(part ft (l.map (Value.int .i64)).toArray o).run P w=.ok (.int .i64 (l.getD o 0)) w:=by
 have hx:((l.map (Value.int .i64)).toArray)[o]?=some (.int .i64 (l.getD o 0)):=by simp[ho]
 simp only[part,isAgg,Sem.run_bind,run_underlying hf,Result.andThen_ok,Sem.run_pure,Bool.false_eq_true,if_false,Sem.run_ite,hx]
def aif{ft:TypeId}(hf:P.underlying ft=some (.int .i64))(e:Bool)(x:Int)(k:Nat)(w:World):(Instr.checkKey e (k+1) ft (.int .i64 x)).run P w=.ok () w:=by
 simp[Instr.checkKey,run_underlying hf]
def HS(P : Program)(n : Nat)(fs : List Field): Bool := fs.all λf => f.name != "_" && decide (f.offset < n) && (match P.underlying f.type with | some (.int .i64) => true | _ => false)
def aih {P : Program} {n : Nat} {f : Field} (h : (f.name != "_" && decide (f.offset < n) && (match P.underlying f.type with | some (.int .i64) => true | _ => false)) = true) : f.name ≠ "_" /\ f.offset < n /\ P.underlying f.type = some (.int .i64) := by
 simp only[bg,bne_iff_ne,decide_eq_true_eq]at h;refine⟨h.1.1,h.1.2,?_⟩;have h2:=h.2;split at h2
 ·assumption
 ·cases h2
def aii{kt:TypeId}{n:Nat}{fs:Array Field}(h2:P.underlying kt=some (.struct fs))(hn:n≠0)(lL:HS P n fs.toList=true)(l:List Int)(hl:l.length=n)(e:Bool)(w:World):(Instr.checkKey e 10000 kt (kV n l)).run P w=.ok () w:=by
 rw[Er hn,show(10000:Nat)=9999+1 from rfl,Instr.checkKey];simp only[Sem.run_bind,run_underlying h2,Result.andThen_ok];rw[<- Array.forIn_toList];generalize fs.toList=L at lL
 induction L with
 |nil=>simp
 |cons f r ih =>
  unfold HS at lL;rw[CA,bg]at lL;obtain⟨a1,a2,a3⟩:=aih lL.1;have p1:=aie (P:=P) w a3 (l:=l) (o:=f.offset) AT;have p2:=aif a3 e (l.getD f.offset 0) 9998 w;simp only[List.forIn_cons,Sem.run_bind,a1,ne_eq,not_false_eq_true,if_true,Result.andThen_ok,p1,p2,Sem.run_pure];exact ih lL.2
def jb.agg{t kt et:TypeId}{n:Nat}{fs:Array Field}(h1:P.underlying t=some (.map kt et))(h2:P.underlying kt=some (.struct fs))(h3:u7 P kt n)(hn:n≠0)(h4:∀ (l:List Int),l.length=n->∀ e w,(Instr.checkKey e 10000 kt (kV n l)).run P w=.ok () w):jb P t n:=by
 have hk:j4 n=n:=by unfold j4;rw[if_neg hn]
 refine⟨kt,et,h1,λl hl=>?_⟩;rw[hk]at hl;refine⟨h4 l hl,λw=>?_,λf L w hL=>?_⟩
 ·have DY:Instr.sameBits 10000 (kV n l) (kV n l)=true:=by
   rw[Er hn];simp only[Instr.sameBits,beq_self_eq_true,Bool.true_and];exact Y4 9999 l
  simp[Instr.keyThatStays,DY]
 ·rw[hk]at hL;have h:=Y3 h3 hn hl w L f id 0 hL;simp only[id]at h;cases L with
  |nil=>simp[Instr.findKey,run_underlying h2,sS,c6,Instr.findNow,fX]
  |cons p r =>
   have aij:Instr.findNow (.struct fs) (kV n l) (cN (c6 n f (p::r))).toList 0=none:=by
    rw[sS,Ms];simp only[IV,Instr.findNow,Er hn,Instr.sameNow]
   simp only[Instr.findKey,Sem.run_bind,run_underlying h2,Result.andThen_ok,aij];rw[sS];exact h
def jb.struct{t kt et:TypeId}{n:Nat}{fs:Array Field}(h1:P.underlying t=some (.map kt et))(h2:P.underlying kt=some (.struct fs))(hn:n≠0)(h3:F3 P 2 kt n=true)(h4:HS P n fs.toList=true):jb P t n :=
 jb.agg h1 h2 (u7.of 2 h3) hn (aii h2 hn h4)
def Y5(P:Program)(kt:TypeId)(n:Nat):Bool:=match P.underlying kt with
 |some (.struct fs)=>HS P n fs.toList
 |_=>false
def jb.ahR{t kt et:TypeId}{n:Nat}(h1:P.underlying t=some (.map kt et))(h2:Y5 P kt n=true)(hn:n≠0)(h3:F3 P 2 kt n=true):jb P t n:=by
 unfold Y5 at h2;split at h2
 ·rename_i fs lL;exact jb.struct h1 lL hn h3 h2
 ·cases h2
end Go.Am

