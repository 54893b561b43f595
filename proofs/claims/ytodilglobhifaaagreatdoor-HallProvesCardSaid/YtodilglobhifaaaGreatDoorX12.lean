import Derived.Test.YtodilglobhifaaaGreatDoorX11
set_option linter.all false
set_option maxHeartbeats 0
set_option maxRecDepth 20000
open List renaming getElem?_eq_some_iff→aN,getD_eq_getElem?_getD→ax,getElem?_append_left→cG,getElem?_append_right→dy,getElem?_set→bT,length_set→bm,mapIdx_cons→BE,all_cons→yS,range'→jN,map→xf,drop_eq_nil_of_le→dW,drop_eq_getElem_cons→JA,getElem?_eq_getElem→aT,range'_succ→sy
open Option renaming some→cL,map_some→fN
open Bool renaming false_eq_true→iT,and_eq_true→bb,true_and→eR
open Nat renaming sub_zero→nr,mul_one→Bu
namespace Go.Am
variable {P:Program} {N n0:Nat} {σ:St}
def rL{f:FuncId}{args:List AV}{dst:Option Tmp}{K:St->Prop}{fA:AV->List Ob->Prop}(h:di P f args σ.aa fA)(hK:∀ res aZ,fA res aZ->σ.aa.length<=aZ.length/\K ((⟨σ.env,aZ⟩:St).put dst res)):jS P f args dst K σ:=by
 refine⟨List.range σ.aa.length,false,args,σ.aa,fA,h,⟨List.nodup_range,Jy,?_,rfl,?_⟩,λres aZ hp=>⟨Jy,?_⟩⟩
 ·intro j o hj;have bq:=(aN.1 hj).1;rw[uz,zu];simpa [ax,List.getElem?_range bq] using hj
 ·intro j c d hc hd;rw[hc]at hd;simp only[cL.injEq]at hd;subst hd;exact .eq (by rw[uz,uA])
 ·obtain⟨hl,hK⟩:=hK res aZ hp;rw[uz,uA];have:aZ.map (bD (λj=>j))=aZ:=by
   have h:bD (λj=>j)=id:=by funext o;exact zu o
   simp[h]
  rw[this,O' _ _ hl];exact hK
def PS{Q:Exit->St->Prop}(n:Nat){id:Nat}{ops:Array Oper}(hd:dY N ops=true)(h:∀ K K1:St->Prop,(∀ s,Q .normal s->K s)->(∀ s s1,aC n0 s s1->opsL P ops (ops.toList.drop n) K s1->K1 s)->opsL P ops (ops.toList.take n) K1 σ):W P N n0 (.region id ops false) Q σ:=by
 intro os γ0 a w hn az;refine wp_region ?_;exact OY (kL hd) hn (K:=Q .normal) (K1:=λs=>∃ s1,aC n0 s s1/\opsL P ops (ops.toList.drop n) (Q .normal) s1) (λσ' a' w' hK cr=>⟨σ',hK,cr⟩) n (λs h=>h) σ a w (h _ _ (λ_ h=>h) (λs s1 h1 h2=>⟨s1,h1,h2⟩)) az
def ak.YH{f:FuncId}{sz:Nat}{pre post:List AV}{aa aZ:List Ob}{res:AV}(h:ak P f (pre++.tree sz []::post) aa res aZ):ak P f (pre++.lit (.slice none 0 0)::post) aa res aZ:=by
 refine⟨h.1,λγ aH hs=>h.2 γ (by simpa using aH) ⟨λk=>?_,hs.dQ,hs.inj,hs.nz,hs.fY,hs.gl⟩⟩;have:=hs.ao k;dsimp only at this ⊢;by_cases hk:k=pre.length
 ·subst hk;have e1:(pre++AV.lit (.slice none 0 0)::post).getD pre.length .undef=.lit (.slice none 0 0):=Jy;have e2:(pre++AV.tree sz []::post).getD pre.length .undef=.tree sz []:=Jy;rw[e1]at this;rw[e2,this.bX];exact .bV _ _ (.nil _ _ _)
 ·have e:(pre++AV.tree sz []::post).getD k .undef=(pre++AV.lit (.slice none 0 0)::post).getD k .undef:=by
   simp only[ax];congr 1;rcases Nat.lt_or_ge k pre.length with h1|h1
   ·rw[cG h1,cG h1]
   ·rw[dy h1,dy h1,show k-pre.length=(k-pre.length-1)+1 by omega];rfl
  rw[e];exact this
end Go.Am
namespace Go.Am
variable {P:Program} {N n0:Nat} {σ:St} {Q:Exit->St->Prop}
def aC.PU(a id r0 c sz C5:Nat){R:List (List AV)}{cells:List AV}{rows:List (List AV)}(ho:σ.aa[id]?=some (.arr C5 R))(bf:R[r0]?=some cells)(ha:σ.aa[a]?=some (.arr sz rows))(hc:cells[c]?=some (.ref a sz 0 rows.length))(zt:a≠id)(hw:∀ row∈rows,row.length=sz)(ux:∀ row∈rows,∀ v∈row,(∃ x,v=.lit x)\/∃ s r,v=.tree s r):aC n0 σ ⟨σ.env,(σ.aa.set a .gone).set id (.arr C5 (R.set r0 (cells.set c (.tree sz rows))))⟩:=by
 intro os γ0 γ _ hs hf;have vG:id<σ.aa.length:=(aN.1 ho).1;have fS:a<σ.aa.length:=(aN.1 ha).1
 let ay:Cx:={ γ with Z:=λb=>γ.Z b\/∃ o cap,γ.blk a=some (b,o,cap) }
 let cj:=(σ.aa.set a .gone).set id (.arr C5 (R.set r0 (cells.set c (.tree sz rows))))
 have h9:∀ i,cj[i]?=if i=id then some (.arr C5 (R.set r0 (cells.set c (.tree sz rows)))) else if i=a then some .gone else σ.aa[i]?:=by
  intro i;show((σ.aa.set a .gone).set id _)[i]?=_;rw[bT,bT];by_cases h1:i=id
  ·subst h1;simp[vG]
  ·by_cases h2:i=a
   ·subst h2;simp[Ne.symm h1,h1,fS]
   ·simp[Ne.symm h1,Ne.symm h2,h1,h2]
 have hR:∀ v cv,au σ.aa γ.w γ.Z γ.blk v cv->au cj ay.w ay.Z ay.blk v cv:=λv cv hv =>
  hv.mono (λb hb=>⟨.inl hb,rfl⟩) (λi o hi=>by
   rw[h9];by_cases h1:i=id
   ·subst h1;rw[ho]at hi;simp only[cL.injEq]at hi;subst hi;right;exact⟨rfl,_,by rw[if_pos rfl],by simp[Ob.dj]⟩
   ·rw[if_neg h1];by_cases h2:i=a
    ·left;rw[if_pos h2]
    ·rw[if_neg h2];by_cases hg:o=.gone
     ·subst hg;exact .inl hi
     ·exact .inr ⟨rfl,o,hi,Ob.iC hg⟩)
 have bI:∀ i,Live cj i->Live σ.aa i/\i≠a:=by
  rintro i⟨o,hi,hg⟩;rw[h9]at hi;split at hi
  ·rename_i h1;subst h1;exact⟨⟨_,ho,Jy⟩,Ne.symm zt⟩
  ·split at hi
   ·simp at hi;exact absurd hi.symm hg
   ·rename_i h2;exact⟨⟨o,hi,hg⟩,h2⟩
 have mX:Live σ.aa a:=⟨_,ha,Jy⟩;refine⟨ay,rfl,rfl,⟨λk=>hR _ _ (hs.ao k),?_,λi j b o c o' c' hi hj=>hs.inj i j b o c o' c' (bI i hi).1 (bI j hj).1,?_,?_,λg=>vH (hs.gl g) λb hb=>⟨.inl hb,rfl⟩⟩,?_⟩
 ·intro i o hi;have hi':cj[i]?=some o:=hi;rw[h9]at hi';split at hi'
  ·rename_i h1;subst h1;simp only[cL.injEq]at hi';subst hi';obtain⟨h0,hr,a9⟩:=hs.dQ _ _ ho;have zT:r0<R.length:=(aN.1 bf).1;refine⟨h0,λrow jF=>?_,?_⟩
   ·rcases List.mem_or_eq_of_mem_set jF with h|h
    ·exact hr row h
    ·subst h;rw[bm];exact hr cells (List.mem_of_getElem? bf)
   ·rcases a9 with⟨h1,h2⟩|⟨b,o,cap,cur,t,h1,h2,h3,h4,h5,h6⟩
    ·exact absurd (show r0<0 by rw[h2]at zT;exact zT) (Nat.not_lt_zero _)
    ·refine .inr ⟨b,o,cap,cur,t,h1,h2,h3,by rw[bm];exact h4,h5,λr k v hv=>?_⟩;unfold cellAt at hv;rw[bT]at hv;by_cases e:r0=r
     ·subst e;rw[if_pos rfl,if_pos zT,Option.bind_some,bT]at hv;split at hv
      ·rename_i e;subst e;split at hv
       ·simp only[cL.injEq]at hv;subst hv;have dC:df σ (λx=>x≠a) (.tree sz rows) (.ref a sz 0 rows.length):=df.flat ha hw rfl Jy ux;exact .bV _ _ (dC.xr hs (γc:=ay) (λb hb=>.inl hb) rfl (λx b o cap cO _ hb=>.inr ⟨o,cap,by rw[show a=x by simpa using(Decidable.not_not.1 cO).symm];exact hb⟩) _ (h6 r0 c _ (by unfold cellAt;rw[bf];exact hc)))
       ·simp at hv
      ·exact hR _ _ (h6 r0 k v (by unfold cellAt;rw[bf];exact hv))
     ·rw[if_neg e]at hv;exact hR _ _ (h6 r k v hv)
  ·split at hi'
   ·simp only[cL.injEq]at hi';subst hi';trivial
   ·by_cases hg:o=.gone
    ·subst hg;trivial
    ·exact(hs.dQ i o hi').mono hR rfl (λ_ _ _ _=>rfl)
 ·rintro b ⟨i,o,c',hi,hb⟩ (hz|⟨o',cap,bO⟩)
  ·exact hs.nz b ⟨i,o,c',(bI i hi).1,hb⟩ hz
  ·exact(bI i hi).2 (hs.inj i a b o c' o' cap (bI i hi).1 mX hb bO)
 ·rintro b (hz|⟨o,cap,hb⟩)
  ·exact hs.fY b hz
  ·exact hs.blt mX hb
 ·refine⟨hf.kl,hf.tape,hf.output,hf.size,hf.cW,λb hb=>.inl (hf.z0 b hb),?_,?_,by show os.length<=cj.length;simp[cj];exact hf.len,?_⟩
  ·rintro b (hz|⟨o,cap,hb⟩)
   ·exact hf.z1 b hz
   ·exact .inr (hf.own b ⟨a,o,cap,mX,hb⟩)
  ·rintro b ⟨i,o,c',hi,hb⟩;exact hf.own b ⟨i,o,c',(bI i hi).1,hb⟩
  ·intro i hi hl;obtain⟨h1,x,x',hx,bR,hk⟩:=hf.jn i hi (bI i hl).1;have vI:=(bI i hl).2;have iX:Live cj i:=hl;obtain⟨o,dw,dc⟩:=iX;refine⟨h1,x,o,hx,dw,?_⟩;rw[h9]at dw;split at dw
   ·rename_i e;subst e;rw[ho]at bR;simp only[cL.injEq]at bR dw;subst bR;subst dw;refine Ob.FT hk (by simp[Ob.dj])
   ·rw[bR]at dw;simp only[cL.injEq]at dw;subst dw;exact hk
end Go.Am
namespace Go.Am
variable {P:Program} {N n0:Nat} {σ:St} {Q:Exit->St->Prop}
def PV(v v':AV):Prop:=v'=v\/(v=.lit (.slice none 0 0)/\∃ s,v'=.tree s [])
def C6:List AV->List AV->Prop
 |[],[]=>True
 |c::cs,d::ds=>PV c d/\C6 cs ds
 |_,_=>False
def C6.get:∀ {cs ds:List AV},C6 cs ds->cs.length=ds.length/\∀ (j:Nat) d,ds[j]?=some d->∃ c,cs[j]?=some c/\PV c d
 |[],[],_=>⟨rfl,Jy⟩
 |c::cs,d::ds,h=>by
  obtain⟨a,b⟩:=C6.get h.2;refine⟨by simp[a],λj d' hd=>?_⟩;cases j with
  |zero=>simp at hd;subst hd;exact⟨c,rfl,h.1⟩
  |succ j=>exact b j d' (by simpa using hd)
 |[],_::_,h=>h.elim
 |_::_,[],h=>h.elim
end Go.Am
namespace Go.Am
variable {P:Program} {N n0:Nat} {σ:St} {Q:Exit->St->Prop}
end Go.Am
namespace Go.Am
def ak.GU{P:Program}{f:FuncId}{args:List AV}{aa aZ PW:List Ob}{res PX:AV}(h:ak P f args aa res aZ)(ht:aC aa.length ⟨λk=>[res].getD k .undef,aZ⟩ ⟨λk=>[PX].getD k .undef,PW⟩):ak P f args aa PX PW:=by
 obtain⟨hc,h⟩:=h;refine⟨hc,λγ lB oy=>Calls.mono (h γ lB oy) ?_⟩;rintro e w'⟨cv,ay,h1,h2,h3,h4,h5⟩;obtain⟨zK,a1,a2,a3,a4⟩:=ht aa γ ay rfl h4 h5;exact⟨cv,zK,h1,a1.trans h2,a2.trans h3,a3,a4⟩
end Go.Am
namespace Go.Am
variable {P:Program} {N n0:Nat} {σ:St}
def C7(ag:Nat)(f:Nat->Value)(p:List Int×AV)(r:List (List Int×AV)):cP ag f (p::r)=(kV ag p.1,f 0)::cP ag (λj=>f (j+1)) r:=by
 unfold cP;simp[BE]
def PY(x:Int):∀ (L:List (List Int×AV)) (f:Nat->Value) (g:Nat->Nat) (i:Nat),(∀ p∈L,p.1.length=1) ->
  Instr.findNow (.int .i64) (.int .i64 x) ((cP 0 f L).mapIdx λj p=>(⟨p.1,p.2,g j⟩:MapEntry)) i=some ((dV [x] L i).map λq=>(q,f (q-i)))
 |[],_,_,_,_=>rfl
 |p::r,f,g,i,h=>by
  have hp:=h p Jy;obtain⟨l,v⟩:=p;obtain⟨y,rfl⟩:∃y,l=[y]:=List.length_eq_one_iff.1 hp;rw[C7];simp only[BE,Instr.findNow,kV,if_true,List.headD_cons,Instr.sameNow,dV];by_cases jV:y=x
  ·subst jV;simp
  ·rw[if_neg (λe=>jV (by simpa using e))];have:(x==y)=false:=by simpa using λe=>jV e.symm
   rw[this];have ih:=PY x r (λj=>f (j+1)) (λj=>g (j+1)) (i+1) (λq hq=>h q (by simp[hq]));simp only[ih];cases hf:dV [x] r (i+1) with
   |none=>rfl
   |some q =>
    have:=(s5 hf).1;simp only[fN];rw[show q-(i+1)+1=q-i by omega]
def g8.int{t kt et:TypeId}(h1:P.underlying t=some (.map kt et))(h2:P.underlying kt=some (.int .i64)):g8 P t 0:=by
 refine⟨kt,et,h1,λl hl=>?_⟩;obtain⟨x,rfl⟩:∃x,l=[x]:=List.length_eq_one_iff.1 hl;refine⟨λe w=>?_,λw=>?_,λf L w hL=>?_⟩
 ·exact run_checkKey h2 e x w
 ·have vZ:Instr.sameBits 10000 (.int .i64 x) (.int .i64 x)=true:=by simp[Instr.sameBits]
  show(Instr.keyThatStays (.int .i64 x) (.int .i64 x)).run P w=_;simp[Instr.keyThatStays,vZ,kV]
 ·have h:=PY x L f id 0 hL;simp only[id]at h;show(Instr.findKey kt (.int .i64 x) (cE (cP 0 f L)).toList).run P w=_;simp[Instr.findKey,run_underlying h2,nL,h]
end Go.Am
namespace Go.Am
variable {P:Program} {N n0:Nat} {σ:St}
def uH{n:Nat}(hn:n≠0)(l:List Int):kV n l=.agg (l.map (Value.int .i64)).toArray:=by unfold kV;rw[if_neg hn]
def YI{t:TypeId}{n:Nat}(h:od P t n)(hn:n≠0)(w:World){as bs:List Int}(ha:as.length=n)(hb:bs.length=n):(Op.equal t (kV n as) (kV n bs)).run P w=.ok (decide (as=bs)) w:=by
 rw[uH hn,uH hn];exact h w as bs ha hb
def GV{t:TypeId}{n:Nat}(h:od P t n)(hn:n≠0){l:List Int}(hl:l.length=n)(w:World):∀ (L:List (List Int×AV)) (f:Nat->Value) (g:Nat->Nat) (i:Nat),(∀ p∈L,p.1.length=n) ->
  (Instr.findAsking t (kV n l) ((cP n f L).mapIdx λj p=>(⟨p.1,p.2,g j⟩:MapEntry)) i).run P w=.ok ((dV l L i).map λq=>(q,f (q-i))) w
 |[],_,_,_,_=>rfl
 |p::r,f,g,i,hL=>by
  have hp:=hL p Jy;rw[C7];have he:=YI h hn w hl hp;simp only[BE,Instr.findAsking,Sem.run_bind,he,Result.andThen_ok,Sem.run_ite,dV];by_cases jV:p.1=l
  ·rw[if_pos jV];simp[jV.symm]
  ·rw[if_neg jV,if_neg (by simpa using λe=>jV e.symm)];have ih:=GV h hn hl w r (λj=>f (j+1)) (λj=>g (j+1)) (i+1) (λq hq=>hL q (by simp[hq]));rw[ih];cases hf:dV l r (i+1) with
   |none=>rfl
   |some q =>
    have:=(s5 hf).1;simp only[fN];rw[show q-(i+1)+1=q-i by omega]
def GW(k:Nat):∀ (l:List Int),((l.map (Value.int .i64)).zip (l.map (Value.int .i64))).all (λ(x,y)=>Instr.sameBits k x y)=true
 |[]=>rfl
 |x::r=>by
  simp only[List.map_cons,List.zip_cons_cons,yS,GW k r,Bool.and_true];cases k<;>simp[Instr.sameBits]
def C8(w:World){ft:TypeId}(hf:P.underlying ft=some (.int .i64)){l:List Int}{o:Nat}(ho:o<l.length):(part ft (l.map (Value.int .i64)).toArray o).run P w=.ok (.int .i64 (l.getD o 0)) w:=by
 have hx:((l.map (Value.int .i64)).toArray)[o]?=some (.int .i64 (l.getD o 0)):=by simp[ho]
 simp only[part,isAgg,Sem.run_bind,run_underlying hf,Result.andThen_ok,Sem.run_pure,iT,if_false,Sem.run_ite,hx]
def PZ{ft:TypeId}(hf:P.underlying ft=some (.int .i64))(e:Bool)(x:Int)(k:Nat)(w:World):(Instr.checkKey e (k+1) ft (.int .i64 x)).run P w=.ok () w:=by
 simp[Instr.checkKey,run_underlying hf]
def GX(P : Program)(n : Nat)(fs : List Field): Bool := fs.all λf => f.name != "_" && decide (f.offset < n) && (match P.underlying f.type with | some (.int .i64) => true | _ => false)
def YJ {P : Program} {n : Nat} {f : Field} (h : (f.name != "_" && decide (f.offset < n) && (match P.underlying f.type with | some (.int .i64) => true | _ => false)) = true) : f.name ≠ "_" /\ f.offset < n /\ P.underlying f.type = some (.int .i64) := by
 simp only[bb,bne_iff_ne,decide_eq_true_eq]at h;refine⟨h.1.1,h.1.2,?_⟩;have h2:=h.2;split at h2
 ·assumption
 ·cases h2
def YK{kt:TypeId}{n:Nat}{fs:Array Field}(h2:P.underlying kt=some (.struct fs))(hn:n≠0)(s7:GX P n fs.toList=true)(l:List Int)(hl:l.length=n)(e:Bool)(w:World):(Instr.checkKey e 10000 kt (kV n l)).run P w=.ok () w:=by
 rw[uH hn,show(10000:Nat)=9999+1 from rfl,Instr.checkKey];simp only[Sem.run_bind,run_underlying h2,Result.andThen_ok];rw[<- Array.forIn_toList];generalize fs.toList=L at s7
 induction L with
 |nil=>simp
 |cons f r ih =>
  unfold GX at s7;rw[yS,bb]at s7;obtain⟨a1,a2,a3⟩:=YJ s7.1;have p1:=C8 (P:=P) w a3 (l:=l) (o:=f.offset) Bv;have p2:=PZ a3 e (l.getD f.offset 0) 9998 w;simp only[List.forIn_cons,Sem.run_bind,a1,ne_eq,not_false_eq_true,if_true,Result.andThen_ok,p1,p2,Sem.run_pure];exact ih s7.2
def g8.agg{t kt et:TypeId}{n:Nat}{fs:Array Field}(h1:P.underlying t=some (.map kt et))(h2:P.underlying kt=some (.struct fs))(h3:od P kt n)(hn:n≠0)(h4:∀ (l:List Int),l.length=n->∀ e w,(Instr.checkKey e 10000 kt (kV n l)).run P w=.ok () w):g8 P t n:=by
 have hk:g9 n=n:=by unfold g9;rw[if_neg hn]
 refine⟨kt,et,h1,λl hl=>?_⟩;rw[hk]at hl;refine⟨h4 l hl,λw=>?_,λf L w hL=>?_⟩
 ·have vZ:Instr.sameBits 10000 (kV n l) (kV n l)=true:=by
   rw[uH hn];simp only[Instr.sameBits,beq_self_eq_true,eR];exact GW 9999 l
  simp[Instr.keyThatStays,vZ]
 ·rw[hk]at hL;have h:=GV h3 hn hl w L f id 0 hL;simp only[id]at h;cases L with
  |nil=>simp[Instr.findKey,run_underlying h2,nL,cP,Instr.findNow,dV]
  |cons p r =>
   have GY:Instr.findNow (.struct fs) (kV n l) (cE (cP n f (p::r))).toList 0=none:=by
    rw[nL,C7];simp only[BE,Instr.findNow,uH hn,Instr.sameNow]
   simp only[Instr.findKey,Sem.run_bind,run_underlying h2,Result.andThen_ok,GY];rw[nL];exact h
def g8.struct{t kt et:TypeId}{n:Nat}{fs:Array Field}(h1:P.underlying t=some (.map kt et))(h2:P.underlying kt=some (.struct fs))(hn:n≠0)(h3:FU P 2 kt n=true)(h4:GX P n fs.toList=true):g8 P t n :=
 g8.agg h1 h2 (od.of 2 h3) hn (YK h2 hn h4)
end Go.Am
namespace Go.Am
variable {P:Program}
def P0{e:TypeId}(h1:(P.info? e).isSome=true)(h2:P.cellsOf e=1)(w:World):(sizeOf e).run P w=.ok 1 w:=by
 obtain⟨i,hi⟩:=Option.isSome_iff_exists.1 h1;rw[<- h2];simp[sizeOf,typeInfo,Program.cellsOf,hi,run_program]
def od.arr{t e:TypeId}{n:Nat}(h1:P.underlying t=some (.array n e))(h2:P.underlying e=some (.int .i64))(h3:(P.info? e).isSome=true)(h4:P.cellsOf e=1):od P t n:=by
 intro w as bs ha hb;rw[show(10000:Nat)=9999+1 from rfl,Op.equalIn];simp only[Sem.run_bind,run_underlying h1,Result.andThen_ok,P0 h3 h4,Std.Legacy.Range.forIn_eq_forIn_range',Std.Legacy.Range.size,nr,Nat.add_one_sub_one,Nat.div_one,Bu];have key:∀ (k o:Nat),o+k=n->(Sem.run P (forIn (jN o k 1) ((none,()):Option Bool×Unit) λi __s=>do
    let a ← part e (xf (Value.int IntKind.i64) as).toArray i
    let b ← part e (xf (Value.int IntKind.i64) bs).toArray i
    let c ← Op.equalIn 9999 e a b
    if(!c)=true then pure (ForInStep.done (some false,())) else pure (ForInStep.yield (none,()))) w)=.ok (if as.drop o=bs.drop o then(none,()) else(some false,())) w:=by
  intro k
  induction k with
  |zero =>
   intro o ho;rw[dW Bv,dW Bv];simp
  |succ k ih =>
   intro o ho;have p1:=C8 (P:=P) w h2 (l:=as) (o:=o) Bv;have p2:=C8 (P:=P) w h2 (l:=bs) (o:=o) Bv;have e1:=run_equalIn_int w 9998 e .i64 .i64 (as.getD o 0) (bs.getD o 0) h2;have d1:as.drop o=as.getD o 0::as.drop (o+1):=by rw[JA Bv,ax,aT Bv];rfl
   have d2:bs.drop o=bs.getD o 0::bs.drop (o+1):=by rw[JA Bv,ax,aT Bv];rfl
   simp only[sy,List.forIn_cons,Sem.run_bind,p1,p2,Result.andThen_ok,e1,Sem.run_ite];rw[d1,d2];by_cases h:as.getD o 0=bs.getD o 0
   ·simp only[h,BEq.rfl,Bool.not_true,iT,if_false,Sem.run_pure,Result.andThen_ok];rw[ih (o+1) Bv];simp
   ·have h':(as.getD o 0==bs.getD o 0)=false:=by simpa using h
    simp only[h',Bool.not_false,if_true,Sem.run_pure,Result.andThen_ok];rw[if_neg λhh=>h (List.cons.inj hh).1]
 have:=key n 0 Bv;rw[this];by_cases h:as=bs
 ·simp[h]
 ·simp[h]
def YL{kt e:TypeId}{n:Nat}(h1:P.underlying kt=some (.array n e))(h2:P.underlying e=some (.int .i64))(h3:(P.info? e).isSome=true)(h4:P.cellsOf e=1)(hn:n≠0)(l:List Int)(hl:l.length=n)(b:Bool)(w:World):(Instr.checkKey b 10000 kt (kV n l)).run P w=.ok () w:=by
 rw[uH hn,show(10000:Nat)=9999+1 from rfl,Instr.checkKey];simp only[Sem.run_bind,run_underlying h1,Result.andThen_ok,Std.Legacy.Range.forIn_eq_forIn_range',Std.Legacy.Range.size,nr,Nat.add_one_sub_one,Nat.div_one];have key:∀ (k o:Nat),o+k=n->(Sem.run P (forIn (jN o k 1) PUnit.unit λi __s=>do
    let s ← sizeOf e
    let a ← part e (xf (Value.int IntKind.i64) l).toArray (i*s)
    Instr.checkKey b 9999 e a
    pure (ForInStep.yield PUnit.unit)) w)=.ok PUnit.unit w:=by
  intro k
  induction k with
  |zero=>intro o ho;simp
  |succ k ih =>
   intro o ho;have p1:=C8 (P:=P) w h2 (l:=l) (o:=o) Bv;have p2:=PZ h2 b (l.getD o 0) 9998 w;simp only[sy,List.forIn_cons,Sem.run_bind,P0 h3 h4,Bu,Result.andThen_ok,p1,p2,Sem.run_pure];have:=ih (o+1) Bv;simpa only[Sem.run_bind,Bu] using this
 have:=key n 0 Bv;rw[this];simp
def g8.arr{t kt et e:TypeId}{n:Nat}(h1:P.underlying t=some (.map kt et))(h2:P.underlying kt=some (.array n e))(hn:n≠0)(h3:P.underlying e=some (.int .i64))(h4:(P.info? e).isSome=true)(h5:P.cellsOf e=1):g8 P t n:=by
 have hk:g9 n=n:=by unfold g9;rw[if_neg hn]
 refine⟨kt,et,h1,λl hl=>?_⟩;rw[hk]at hl;refine⟨YL h2 h3 h4 h5 hn l hl,λw=>?_,λf L w hL=>?_⟩
 ·have vZ:Instr.sameBits 10000 (kV n l) (kV n l)=true:=by
   rw[uH hn];simp only[Instr.sameBits,beq_self_eq_true,eR];exact GW 9999 l
  simp[Instr.keyThatStays,vZ]
 ·rw[hk]at hL;have h:=GV (od.arr h2 h3 h4 h5) hn hl w L f id 0 hL;simp only[id]at h;cases L with
  |nil=>simp[Instr.findKey,run_underlying h2,nL,cP,Instr.findNow,dV]
  |cons p r =>
   have GY:Instr.findNow (.array n e) (kV n l) (cE (cP n f (p::r))).toList 0=none:=by
    rw[nL,C7];simp only[BE,Instr.findNow,uH hn,Instr.sameNow]
   simp only[Instr.findKey,Sem.run_bind,run_underlying h2,Result.andThen_ok,GY];rw[nL];exact h
end Go.Am

