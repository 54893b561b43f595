import Derived.Test.YtfoopmojjjpapaaGreatX11
set_option linter.all false
set_option maxHeartbeats 0
set_option maxRecDepth 20000
open List renaming getElem?_eq_some_iff→aT,getD_eq_getElem?_getD→az,getElem?_append_left→er,getElem?_append_right→gN,getElem?_set→bU,mem_or_eq_of_mem_set→tK,length_set→bH,mem_of_getElem?→ik,mapIdx_cons→Jp,all_cons→CN
open Option renaming some→cy,bind_some→rT,map_some→im
open Nat renaming not_lt_zero→rW
open Bool renaming and_eq_true→a7
namespace Go.Am
variable {P:Program} {N n0:Nat} {σ:St}
def qz{f:FuncId}{args:List AV}{dst:Option Tmp}{K:St->Prop}{je:AV->List Ob->Prop}(h:dZ P f args σ.aa je)(hK:∀ res bb,je res bb->σ.aa.length<=bb.length/\K ((⟨σ.env,bb⟩:St).put dst res)):lr P f args dst K σ:=by
 refine⟨List.range σ.aa.length,false,args,σ.aa,je,h,⟨List.nodup_range,Fl,?_,rfl,?_⟩,λres bb hp=>⟨Fl,?_⟩⟩
 ·intro j o hj;have ba:=(aT.1 hj).1;rw[xT,C3];simpa [az,List.getElem?_range ba] using hj
 ·intro j c d hc hd;rw[hc]at hd;simp only[cy.injEq]at hd;subst hd;exact .eq (by rw[xT,xU])
 ·obtain⟨hl,hK⟩:=hK res bb hp;rw[xT,xU];have:bb.map (bM (λj=>j))=bb:=by
   have h:bM (λj=>j)=id:=by funext o;exact C3 o
   simp[h]
  rw[this,QP _ _ hl];exact hK
def Ln{Q:Exit->St->Prop}(n:Nat){id:Nat}{ops:Array Oper}(hd:fJ N ops=true)(h:∀ K K1:St->Prop,(∀ s,Q .normal s->K s)->(∀ s s1,aH n0 s s1->opsL P ops (ops.toList.drop n) K s1->K1 s)->opsL P ops (ops.toList.take n) K1 σ):W P N n0 (.region id ops false) Q σ:=by
 intro os γ0 a w hn aA;refine wp_region ?_;exact adI (sr hd) hn (K:=Q .normal) (K1:=λs=>∃ s1,aH n0 s s1/\opsL P ops (ops.toList.drop n) (Q .normal) s1) (λσ' a' w' hK cW=>⟨σ',hK,cW⟩) n (λs h=>h) σ a w (h _ _ (λ_ h=>h) (λs s1 h1 h2=>⟨s1,h1,h2⟩)) aA
def Holds.Le{f:FuncId}{sz:Nat}{pre post:List AV}{aa bb:List Ob}{res:AV}(h:Holds P f (pre++.tree sz []::post) aa res bb):Holds P f (pre++.lit (.slice none 0 0)::post) aa res bb:=by
 refine⟨h.1,λγ aO hs=>h.2 γ (by simpa using aO) ⟨λk=>?_,hs.dz,hs.inj,hs.nz,hs.gk,hs.gl⟩⟩;have:=hs.ar k;dsimp only at this ⊢;by_cases hk:k=pre.length
 ·subst hk;have e1:(pre++AV.lit (.slice none 0 0)::post).getD pre.length .undef=.lit (.slice none 0 0):=Fl;have e2:(pre++AV.tree sz []::post).getD pre.length .undef=.tree sz []:=Fl;rw[e1]at this;rw[e2,this.cz];exact .cJ _ _ (.nil _ _ _)
 ·have e:(pre++AV.tree sz []::post).getD k .undef=(pre++AV.lit (.slice none 0 0)::post).getD k .undef:=by
   simp only[az];congr 1;rcases Nat.lt_or_ge k pre.length with h1|h1
   ·rw[er h1,er h1]
   ·rw[gN h1,gN h1,show k-pre.length=(k-pre.length-1)+1 by omega];rfl
  rw[e];exact this
end Go.Am
namespace Go.Am
variable {P:Program} {N n0:Nat} {σ:St} {Q:Exit->St->Prop}
def aH.aas(a id r0 c sz H2:Nat){R:List (List AV)}{cells:List AV}{rows:List (List AV)}(ho:σ.aa[id]?=some (.arr H2 R))(bR:R[r0]?=some cells)(ha:σ.aa[a]?=some (.arr sz rows))(hc:cells[c]?=some (.ref a sz 0 rows.length))(zJ:a≠id)(hw:∀ row∈rows,row.length=sz)(u9:∀ row∈rows,∀ v∈row,(∃ x,v=.lit x)\/∃ s r,v=.tree s r):aH n0 σ ⟨σ.env,(σ.aa.set a .gone).set id (.arr H2 (R.set r0 (cells.set c (.tree sz rows))))⟩:=by
 intro os γ0 γ _ hs hf;have zK:id<σ.aa.length:=(aT.1 ho).1;have kO:a<σ.aa.length:=(aT.1 ha).1
 let aB:Cx:={ γ with Z:=λb=>γ.Z b\/∃ o cap,γ.blk a=some (b,o,cap) }
 let os2:=(σ.aa.set a .gone).set id (.arr H2 (R.set r0 (cells.set c (.tree sz rows))))
 have gw:∀ i,os2[i]?=if i=id then some (.arr H2 (R.set r0 (cells.set c (.tree sz rows)))) else if i=a then some .gone else σ.aa[i]?:=by
  intro i;show((σ.aa.set a .gone).set id _)[i]?=_;rw[bU,bU];by_cases h1:i=id
  ·subst h1;simp[zK]
  ·by_cases h2:i=a
   ·subst h2;simp[Ne.symm h1,h1,kO]
   ·simp[Ne.symm h1,Ne.symm h2,h1,h2]
 have hR:∀ v cv,aw σ.aa γ.w γ.Z γ.blk v cv->aw os2 aB.w aB.Z aB.blk v cv:=λv cv hv =>
  hv.mono (λb hb=>⟨.inl hb,rfl⟩) (λi o hi=>by
   rw[gw];by_cases h1:i=id
   ·subst h1;rw[ho]at hi;simp only[cy.injEq]at hi;subst hi;right;exact⟨rfl,_,by rw[if_pos rfl],by simp[Ob.dO]⟩
   ·rw[if_neg h1];by_cases h2:i=a
    ·left;rw[if_pos h2]
    ·rw[if_neg h2];by_cases hg:o=.gone
     ·subst hg;exact .inl hi
     ·exact .inr ⟨rfl,o,hi,Ob.jr hg⟩)
 have bO:∀ i,Live os2 i->Live σ.aa i/\i≠a:=by
  rintro i⟨o,hi,hg⟩;rw[gw]at hi;split at hi
  ·rename_i h1;subst h1;exact⟨⟨_,ho,Fl⟩,Ne.symm zJ⟩
  ·split at hi
   ·simp at hi;exact absurd hi.symm hg
   ·rename_i h2;exact⟨⟨o,hi,hg⟩,h2⟩
 have ox:Live σ.aa a:=⟨_,ha,Fl⟩;refine⟨aB,rfl,rfl,⟨λk=>hR _ _ (hs.ar k),?_,λi j b o c o' c' hi hj=>hs.inj i j b o c o' c' (bO i hi).1 (bO j hj).1,?_,?_,λg=>x8 (hs.gl g) λb hb=>⟨.inl hb,rfl⟩⟩,?_⟩
 ·intro i o hi;have aq:os2[i]?=some o:=hi;rw[gw]at aq;split at aq
  ·rename_i h1;subst h1;simp only[cy.injEq]at aq;subst aq;obtain⟨h0,hr,bK⟩:=hs.dz _ _ ho;have wT:r0<R.length:=(aT.1 bR).1;refine⟨h0,λrow BK=>?_,?_⟩
   ·rcases tK BK with h|h
    ·exact hr row h
    ·subst h;rw[bH];exact hr cells (ik bR)
   ·rcases bK with⟨h1,h2⟩|⟨b,o,cap,cur,t,h1,h2,h3,h4,h5,h6⟩
    ·exact absurd (show r0<0 by rw[h2]at wT;exact wT) (rW _)
    ·refine .inr ⟨b,o,cap,cur,t,h1,h2,h3,by rw[bH];exact h4,h5,λr k v hv=>?_⟩;unfold cellAt at hv;rw[bU]at hv;by_cases e:r0=r
     ·subst e;rw[if_pos rfl,if_pos wT,rT,bU]at hv;split at hv
      ·rename_i e;subst e;split at hv
       ·simp only[cy.injEq]at hv;subst hv;have cX:dU σ (λx=>x≠a) (.tree sz rows) (.ref a sz 0 rows.length):=dU.flat ha hw rfl Fl u9;exact .cJ _ _ (cX.zl hs (γc:=aB) (λb hb=>.inl hb) rfl (λx b o cap bV _ hb=>.inr ⟨o,cap,by rw[show a=x by simpa using(Decidable.not_not.1 bV).symm];exact hb⟩) _ (h6 r0 c _ (by unfold cellAt;rw[bR];exact hc)))
       ·simp at hv
      ·exact hR _ _ (h6 r0 k v (by unfold cellAt;rw[bR];exact hv))
     ·rw[if_neg e]at hv;exact hR _ _ (h6 r k v hv)
  ·split at aq
   ·simp only[cy.injEq]at aq;subst aq;trivial
   ·by_cases hg:o=.gone
    ·subst hg;trivial
    ·exact(hs.dz i o aq).mono hR rfl (λ_ _ _ _=>rfl)
 ·rintro b ⟨i,o,c',hi,hb⟩ (hz|⟨o',cap,aV⟩)
  ·exact hs.nz b ⟨i,o,c',(bO i hi).1,hb⟩ hz
  ·exact(bO i hi).2 (hs.inj i a b o c' o' cap (bO i hi).1 ox hb aV)
 ·rintro b (hz|⟨o,cap,hb⟩)
  ·exact hs.gk b hz
  ·exact hs.blt ox hb
 ·refine⟨hf.kM,hf.tape,hf.output,hf.size,hf.dS,λb hb=>.inl (hf.z0 b hb),?_,?_,by show os.length<=os2.length;simp[os2];exact hf.len,?_,hf.drawn⟩
  ·rintro b (hz|⟨o,cap,hb⟩)
   ·exact hf.z1 b hz
   ·exact .inr (hf.own b ⟨a,o,cap,ox,hb⟩)
  ·rintro b ⟨i,o,c',hi,hb⟩;exact hf.own b ⟨i,o,c',(bO i hi).1,hb⟩
  ·intro i hi hl;obtain⟨h1,x,x',hx,bZ,hk⟩:=hf.dV i hi (bO i hl).1;have Dk:=(bO i hl).2;have jR:Live os2 i:=hl;obtain⟨o,dC,nW⟩:=jR;refine⟨h1,x,o,hx,dC,?_⟩;rw[gw]at dC;split at dC
   ·rename_i e;subst e;rw[ho]at bZ;simp only[cy.injEq]at bZ dC;subst bZ;subst dC;refine Ob.Gm hk (by simp[Ob.dO])
   ·rw[bZ]at dC;simp only[cy.injEq]at dC;subst dC;exact hk
end Go.Am
namespace Go.Am
variable {P:Program} {N n0:Nat} {σ:St} {Q:Exit->St->Prop}
def bk.ajt{σ:St}{γ:Cx}(h:bk σ γ){id sz:Nat}{R R':List (List AV)}(ho:σ.aa[id]?=some (.arr sz R))(hl:R'.length=R.length)(hw:∀ row∈R',row.length=sz)(bX:R≠[])(hc:∀ (r c:Nat) v',cellAt R' r c=some v'->∃ v,cellAt R r c=some v/\∀ cv,aw σ.aa γ.w γ.Z γ.blk v cv->aw σ.aa γ.w γ.Z γ.blk v' cv):bk ⟨σ.env,σ.aa.set id (.arr sz R')⟩ γ:=by
 obtain⟨h0,hr,bK⟩:=h.dz id _ ho;rcases bK with⟨_,h2⟩|⟨b,o,cap,cur,t,h1,h2,h3,h4,h5,h6⟩
 ·exact absurd h2 bX
 ·have:=h.write (ob':=.arr sz R') ho Fl ⟨rfl,hl.symm⟩ h1 (w':=γ.w) h2 (λ_ _=>rfl) rfl ⟨h0,hw,h3,by rw[hl];exact h4,h5,λr c v' hv=>by
   obtain⟨v,sI,Dg⟩:=hc r c v' hv;exact Dg _ (h6 r c v sI)⟩
  exact this
def Fr.aju(os:List Ob)(γ:Cx){id:Nat}{o o':Ob}(ho:os[id]?=some o)(jS:o.dO o'):Fr os γ (os.set id o') γ where
 kM:=rfl
 tape:=rfl
 output:=rfl
 size:=Nat.le_refl _
 dS:=λ_ _ _=>rfl
 z0:=λ_ h=>h
 z1:=λ_ h=>.inl h
 own:=by
  rintro b⟨i,p,c,⟨x,hx,eF⟩,hb⟩;rw[bU]at hx;split at hx
  ·rename_i e;subst e;exact .inl ⟨id,p,c,⟨_,ho,(Ob.Rw jS).1⟩,hb⟩
  ·exact .inl ⟨i,p,c,⟨x,hx,eF⟩,hb⟩
 len:=Fl
 dV:=by
  rintro i hi⟨x,hx,eF⟩;have hx0:=hx;rw[bU]at hx;split at hx
  ·rename_i e;subst e;exact⟨rfl,o,o',ho,by rw[bU];simp[hi],jS⟩
  ·exact⟨rfl,x,x,hx,hx0,Ob.jr eF⟩
def aat(v v':AV):Prop:=v'=v\/(v=.lit (.slice none 0 0)/\∃ s,v'=.tree s [])
def Ey:List AV->List AV->Prop
 |[],[]=>True
 |c::cs,d::ds=>aat c d/\Ey cs ds
 |_,_=>False
def Ey.get:∀ {cs ds:List AV},Ey cs ds->cs.length=ds.length/\∀ (j:Nat) d,ds[j]?=some d->∃ c,cs[j]?=some c/\aat c d
 |[],[],_=>⟨rfl,Fl⟩
 |c::cs,d::ds,h=>by
  obtain⟨a,b⟩:=Ey.get h.2;refine⟨by simp[a],λj d' hd=>?_⟩;cases j with
  |zero=>simp at hd;subst hd;exact⟨c,rfl,h.1⟩
  |succ j=>exact b j d' (by simpa using hd)
 |[],_::_,h=>h.elim
 |_::_,[],h=>h.elim
def aH.af8(id r0 sz:Nat){R:List (List AV)}{cells cells':List AV}(ho:σ.aa[id]?=some (.arr sz R))(bR:R[r0]?=some cells)(hc:Ey cells cells'):aH n0 σ ⟨σ.env,σ.aa.set id (.arr sz (R.set r0 cells'))⟩:=by
 intro os γ0 γ _ hs hf;obtain⟨hl,hg⟩:=hc.get;have wT:r0<R.length:=(aT.1 bR).1;have w8:=(hs.dz id _ ho).2.1;refine⟨γ,rfl,rfl,hs.ajt ho Fl (λrow BK=>?_) (λe=>by rw[e]at wT;exact absurd wT (rW _)) (λr c v' hv=>?_),hf.trans (Fr.aju _ _ ho ⟨rfl,Fl⟩)⟩
 ·rcases tK BK with h|h
  ·exact w8 row h
  ·subst h;rw[<- hl];exact w8 cells (ik bR)
 ·unfold cellAt at hv;rw[bU]at hv;by_cases e:r0=r
  ·subst e;rw[if_pos rfl,if_pos wT,rT]at hv;obtain⟨v,h1,h2⟩:=hg c v' hv;refine⟨v,by unfold cellAt;rw[bR];exact h1,λcv hr=>?_⟩;rcases h2 with rfl|⟨rfl,s,rfl⟩
   ·exact hr
   ·rw[hr.cz];exact .cJ _ _ (.nil _ _ _)
  ·rw[if_neg e]at hv;exact⟨v',hv,λcv hr=>hr⟩
end Go.Am
namespace Go.Am
variable {P:Program} {N n0:Nat} {σ:St} {Q:Exit->St->Prop}
end Go.Am
namespace Go.Am
def Holds.af6{P:Program}{f:FuncId}{args:List AV}{aa bb aau:List Ob}{res aav:AV}(h:Holds P f args aa res bb)(ht:aH aa.length ⟨λk=>[res].getD k .undef,bb⟩ ⟨λk=>[aav].getD k .undef,aau⟩):Holds P f args aa aav aau:=by
 obtain⟨hc,h⟩:=h;refine⟨hc,λγ ka mg=>Calls.mono (h γ ka mg) ?_⟩;rintro e w'⟨cv,aB,h1,h2,h3,h4,h5⟩;obtain⟨J',a1,a2,a3,a4⟩:=ht aa γ aB rfl h4 h5;exact⟨cv,J',h1,a1.trans h2,a2.trans h3,a3,a4⟩
end Go.Am
namespace Go.Am
variable {P:Program} {N n0:Nat} {σ:St}
def MR(ag:Nat)(f:Nat->Value)(p:List Int×AV)(r:List (List Int×AV)):cY ag f (p::r)=(kV ag p.1,f 0)::cY ag (λj=>f (j+1)) r:=by
 unfold cY;simp[Jp]
def aaw(x:Int):∀ (L:List (List Int×AV)) (f:Nat->Value) (g:Nat->Nat) (i:Nat),(∀ p∈L,p.1.length=1) ->
  Instr.findNow (.int .i64) (.int .i64 x) ((cY 0 f L).mapIdx λj p=>(⟨p.1,p.2,g j⟩:MapEntry)) i=some ((iz [x] L i).map λq=>(q,f (q-i)))
 |[],_,_,_,_=>rfl
 |p::r,f,g,i,h=>by
  have hp:=h p Fl;obtain⟨l,v⟩:=p;obtain⟨y,rfl⟩:∃y,l=[y]:=List.length_eq_one_iff.1 hp;rw[MR];simp only[Jp,Instr.findNow,kV,if_true,List.headD_cons,Instr.sameNow,iz];by_cases qj:y=x
  ·subst qj;simp
  ·rw[if_neg (λe=>qj (by simpa using e))];have:(x==y)=false:=by simpa using λe=>qj e.symm
   rw[this];have ih:=aaw x r (λj=>f (j+1)) (λj=>g (j+1)) (i+1) (λq hq=>h q (by simp[hq]));simp only[ih];cases hf:iz [x] r (i+1) with
   |none=>rfl
   |some q =>
    have:=(zu hf).1;simp only[im];rw[show q-(i+1)+1=q-i by omega]
def jl.int{t kt et:TypeId}(h1:P.underlying t=some (.map kt et))(h2:P.underlying kt=some (.int .i64)):jl P t 0:=by
 refine⟨kt,et,h1,λl hl=>?_⟩;obtain⟨x,rfl⟩:∃x,l=[x]:=List.length_eq_one_iff.1 hl;refine⟨λe w=>?_,λw=>?_,λf L w hL=>?_⟩
 ·exact run_checkKey h2 e x w
 ·have Er:Instr.sameBits 10000 (.int .i64 x) (.int .i64 x)=true:=by simp[Instr.sameBits]
  show(Instr.keyThatStays (.int .i64 x) (.int .i64 x)).run P w=_;simp[Instr.keyThatStays,Er,kV]
 ·have h:=aaw x L f id 0 hL;simp only[id]at h;show(Instr.findKey kt (.int .i64 x) (cL (cY 0 f L)).toList).run P w=_;simp[Instr.findKey,run_underlying h2,sK,h]
end Go.Am
namespace Go.Am
variable {P:Program} {N n0:Nat} {σ:St}
def Ez{n:Nat}(hn:n≠0)(l:List Int):kV n l=.agg (l.map (Value.int .i64)).toArray:=by unfold kV;rw[if_neg hn]
def ajv{t:TypeId}{n:Nat}(h:vg P t n)(hn:n≠0)(w:World){as bs:List Int}(ha:as.length=n)(hb:bs.length=n):(Op.equal t (kV n as) (kV n bs)).run P w=.ok (decide (as=bs)) w:=by
 rw[Ez hn,Ez hn];exact h w as bs ha hb
def aax{t:TypeId}{n:Nat}(h:vg P t n)(hn:n≠0){l:List Int}(hl:l.length=n)(w:World):∀ (L:List (List Int×AV)) (f:Nat->Value) (g:Nat->Nat) (i:Nat),(∀ p∈L,p.1.length=n) ->
  (Instr.findAsking t (kV n l) ((cY n f L).mapIdx λj p=>(⟨p.1,p.2,g j⟩:MapEntry)) i).run P w=.ok ((iz l L i).map λq=>(q,f (q-i))) w
 |[],_,_,_,_=>rfl
 |p::r,f,g,i,hL=>by
  have hp:=hL p Fl;rw[MR];have he:=ajv h hn w hl hp;simp only[Jp,Instr.findAsking,Sem.run_bind,he,Result.andThen_ok,Sem.run_ite,iz];by_cases qj:p.1=l
  ·rw[if_pos qj];simp[qj.symm]
  ·rw[if_neg qj,if_neg (by simpa using λe=>qj e.symm)];have ih:=aax h hn hl w r (λj=>f (j+1)) (λj=>g (j+1)) (i+1) (λq hq=>hL q (by simp[hq]));rw[ih];cases hf:iz l r (i+1) with
   |none=>rfl
   |some q =>
    have:=(zu hf).1;simp only[im];rw[show q-(i+1)+1=q-i by omega]
def aay(k:Nat):∀ (l:List Int),((l.map (Value.int .i64)).zip (l.map (Value.int .i64))).all (λ(x,y)=>Instr.sameBits k x y)=true
 |[]=>rfl
 |x::r=>by
  simp only[List.map_cons,List.zip_cons_cons,CN,aay k r,Bool.and_true];cases k<;>simp[Instr.sameBits]
def ajw(w:World){ft:TypeId}(hf:P.underlying ft=some (.int .i64)){l:List Int}{o:Nat}(ho:o<l.length):(part ft (l.map (Value.int .i64)).toArray o).run P w=.ok (.int .i64 (l.getD o 0)) w:=by
 have hx:((l.map (Value.int .i64)).toArray)[o]?=some (.int .i64 (l.getD o 0)):=by simp[ho]
 simp only[part,isAgg,Sem.run_bind,run_underlying hf,Result.andThen_ok,Sem.run_pure,Bool.false_eq_true,if_false,Sem.run_ite,hx]
def ajx{ft:TypeId}(hf:P.underlying ft=some (.int .i64))(e:Bool)(x:Int)(k:Nat)(w:World):(Instr.checkKey e (k+1) ft (.int .i64 x)).run P w=.ok () w:=by
 simp[Instr.checkKey,run_underlying hf]
def H3(P : Program)(n : Nat)(fs : List Field): Bool := fs.all λf => f.name != "_" && decide (f.offset < n) && (match P.underlying f.type with | some (.int .i64) => true | _ => false)
def ajy {P : Program} {n : Nat} {f : Field} (h : (f.name != "_" && decide (f.offset < n) && (match P.underlying f.type with | some (.int .i64) => true | _ => false)) = true) : f.name ≠ "_" /\ f.offset < n /\ P.underlying f.type = some (.int .i64) := by
 simp only[a7,bne_iff_ne,decide_eq_true_eq]at h;refine⟨h.1.1,h.1.2,?_⟩;have h2:=h.2;split at h2
 ·assumption
 ·cases h2
def ajz{kt:TypeId}{n:Nat}{fs:Array Field}(h2:P.underlying kt=some (.struct fs))(hn:n≠0)(iM:H3 P n fs.toList=true)(l:List Int)(hl:l.length=n)(e:Bool)(w:World):(Instr.checkKey e 10000 kt (kV n l)).run P w=.ok () w:=by
 rw[Ez hn,show(10000:Nat)=9999+1 from rfl,Instr.checkKey];simp only[Sem.run_bind,run_underlying h2,Result.andThen_ok];rw[<- Array.forIn_toList];generalize fs.toList=L at iM
 induction L with
 |nil=>simp
 |cons f r ih =>
  unfold H3 at iM;rw[CN,a7]at iM;obtain⟨a1,a2,a3⟩:=ajy iM.1;have p1:=ajw (P:=P) w a3 (l:=l) (o:=f.offset) CZ;have p2:=ajx a3 e (l.getD f.offset 0) 9998 w;simp only[List.forIn_cons,Sem.run_bind,a1,ne_eq,not_false_eq_true,if_true,Result.andThen_ok,p1,p2,Sem.run_pure];exact ih iM.2
def jl.agg{t kt et:TypeId}{n:Nat}{fs:Array Field}(h1:P.underlying t=some (.map kt et))(h2:P.underlying kt=some (.struct fs))(h3:vg P kt n)(hn:n≠0)(h4:∀ (l:List Int),l.length=n->∀ e w,(Instr.checkKey e 10000 kt (kV n l)).run P w=.ok () w):jl P t n:=by
 have hk:kd n=n:=by unfold kd;rw[if_neg hn]
 refine⟨kt,et,h1,λl hl=>?_⟩;rw[hk]at hl;refine⟨h4 l hl,λw=>?_,λf L w hL=>?_⟩
 ·have Er:Instr.sameBits 10000 (kV n l) (kV n l)=true:=by
   rw[Ez hn];simp only[Instr.sameBits,beq_self_eq_true,Bool.true_and];exact aay 9999 l
  simp[Instr.keyThatStays,Er]
 ·rw[hk]at hL;have h:=aax h3 hn hl w L f id 0 hL;simp only[id]at h;cases L with
  |nil=>simp[Instr.findKey,run_underlying h2,sK,cY,Instr.findNow,iz]
  |cons p r =>
   have ajA:Instr.findNow (.struct fs) (kV n l) (cL (cY n f (p::r))).toList 0=none:=by
    rw[sK,MR];simp only[Jp,Instr.findNow,Ez hn,Instr.sameNow]
   simp only[Instr.findKey,Sem.run_bind,run_underlying h2,Result.andThen_ok,ajA];rw[sK];exact h
def jl.struct{t kt et:TypeId}{n:Nat}{fs:Array Field}(h1:P.underlying t=some (.map kt et))(h2:P.underlying kt=some (.struct fs))(hn:n≠0)(h3:Gs P 2 kt n=true)(h4:H3 P n fs.toList=true):jl P t n :=
 jl.agg h1 h2 (vg.of 2 h3) hn (ajz h2 hn h4)
def aaz(P:Program)(kt:TypeId)(n:Nat):Bool:=match P.underlying kt with
 |some (.struct fs)=>H3 P n fs.toList
 |_=>false
def jl.ai5{t kt et:TypeId}{n:Nat}(h1:P.underlying t=some (.map kt et))(h2:aaz P kt n=true)(hn:n≠0)(h3:Gs P 2 kt n=true):jl P t n:=by
 unfold aaz at h2;split at h2
 ·rename_i fs iM;exact jl.struct h1 iM hn h3 h2
 ·cases h2
end Go.Am

