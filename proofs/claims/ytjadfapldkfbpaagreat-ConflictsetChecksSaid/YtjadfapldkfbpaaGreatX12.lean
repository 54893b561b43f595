import Derived.Test.YtjadfapldkfbpaaGreatX11
set_option linter.all false
set_option maxHeartbeats 0
set_option maxRecDepth 20000
open List renaming getElem?_eq_some_iff→aY,getD_eq_getElem?_getD→aG,getElem?_append_left→dg,getElem?_append_right→fO,getElem?_set→cm,mem_or_eq_of_mem_set→oP,length_set→bw,mem_of_getElem?→gY,mapIdx_cons→Kx,all_cons→DG
open Option renaming some→dD,bind_some→uG,map_some→fE
open Nat renaming not_lt_zero→mQ
open Bool renaming and_eq_true→bk
namespace Go.Am
variable {P:Program} {N n0:Nat} {σ:St}
def wA{f:FuncId}{args:List AV}{dst:Option Tmp}{K:St->Prop}{jd:AV->List Ob->Prop}(h:fG P f args σ.aa jd)(hK:∀ res bI,jd res bI->σ.aa.length<=bI.length/\K ((⟨σ.env,bI⟩:St).put dst res)):nF P f args dst K σ:=by
 refine⟨List.range σ.aa.length,false,args,σ.aa,jd,h,⟨List.nodup_range,G9,?_,rfl,?_⟩,λres bI hp=>⟨G9,?_⟩⟩
 ·intro j o hj;have bx:=(aY.1 hj).1;rw[yS,D3];simpa [aG,List.getElem?_range bx] using hj
 ·intro j c d hc hd;rw[hc]at hd;simp only[dD.injEq]at hd;subst hd;exact .eq (by rw[yS,yT])
 ·obtain⟨hl,hK⟩:=hK res bI hp;rw[yS,yT];have:bI.map (bU (λj=>j))=bI:=by
   have h:bU (λj=>j)=id:=by funext o;exact D3 o
   simp[h]
  rw[this,RE _ _ hl];exact hK
def MC{Q:Exit->St->Prop}(n:Nat){id:Nat}{ops:Array Oper}(hd:gH N ops=true)(h:∀ K K1:St->Prop,(∀ s,Q .normal s->K s)->(∀ s s1,ay n0 s s1->opsL P ops (ops.toList.drop n) K s1->K1 s)->opsL P ops (ops.toList.take n) K1 σ):W P N n0 (.region id ops false) Q σ:=by
 intro os γ0 a w hn aw;refine wp_region ?_;exact adF (rC hd) hn (K:=Q .normal) (K1:=λs=>∃ s1,ay n0 s s1/\opsL P ops (ops.toList.drop n) (Q .normal) s1) (λσ' a' w' hK dG=>⟨σ',hK,dG⟩) n (λs h=>h) σ a w (h _ _ (λ_ h=>h) (λs s1 h1 h2=>⟨s1,h1,h2⟩)) aw
def an.WB{f:FuncId}{sz:Nat}{pre post:List AV}{aa bI:List Ob}{res:AV}(h:an P f (pre++.tree sz []::post) aa res bI):an P f (pre++.lit (.slice none 0 0)::post) aa res bI:=by
 refine⟨h.1,λγ bg hs=>h.2 γ (by simpa using bg) ⟨λk=>?_,hs.fF,hs.inj,hs.nz,hs.jm,hs.gl⟩⟩;have:=hs.au k;dsimp only at this ⊢;by_cases hk:k=pre.length
 ·subst hk;have e1:(pre++AV.lit (.slice none 0 0)::post).getD pre.length .undef=.lit (.slice none 0 0):=G9;have e2:(pre++AV.tree sz []::post).getD pre.length .undef=.tree sz []:=G9;rw[e1]at this;rw[e2,this.dm];exact .cp _ _ (.nil _ _ _)
 ·have e:(pre++AV.tree sz []::post).getD k .undef=(pre++AV.lit (.slice none 0 0)::post).getD k .undef:=by
   simp only[aG];congr 1;rcases Nat.lt_or_ge k pre.length with h1|h1
   ·rw[dg h1,dg h1]
   ·rw[fO h1,fO h1,show k-pre.length=(k-pre.length-1)+1 by omega];rfl
  rw[e];exact this
end Go.Am
namespace Go.Am
variable {P:Program} {N n0:Nat} {σ:St} {Q:Exit->St->Prop}
def ay.MD(a id r0 c sz Ix:Nat){R:List (List AV)}{cells:List AV}{rows:List (List AV)}(ho:σ.aa[id]?=some (.arr Ix R))(bj:R[r0]?=some cells)(ha:σ.aa[a]?=some (.arr sz rows))(hc:cells[c]?=some (.ref a sz 0 rows.length))(EI:a≠id)(hw:∀ row∈rows,row.length=sz)(mj:∀ row∈rows,∀ v∈row,(∃ x,v=.lit x)\/∃ s r,v=.tree s r):ay n0 σ ⟨σ.env,(σ.aa.set a .gone).set id (.arr Ix (R.set r0 (cells.set c (.tree sz rows))))⟩:=by
 intro os γ0 γ _ hs hf;have AH:id<σ.aa.length:=(aY.1 ho).1;have gJ:a<σ.aa.length:=(aY.1 ha).1
 let aP:Cx:={ γ with Z:=λb=>γ.Z b\/∃ o cap,γ.blk a=some (b,o,cap) }
 let eD:=(σ.aa.set a .gone).set id (.arr Ix (R.set r0 (cells.set c (.tree sz rows))))
 have iG:∀ i,eD[i]?=if i=id then some (.arr Ix (R.set r0 (cells.set c (.tree sz rows)))) else if i=a then some .gone else σ.aa[i]?:=by
  intro i;show((σ.aa.set a .gone).set id _)[i]?=_;rw[cm,cm];by_cases h1:i=id
  ·subst h1;simp[AH]
  ·by_cases h2:i=a
   ·subst h2;simp[Ne.symm h1,h1,gJ]
   ·simp[Ne.symm h1,Ne.symm h2,h1,h2]
 have hR:∀ v cv,aA σ.aa γ.w γ.Z γ.blk v cv->aA eD aP.w aP.Z aP.blk v cv:=λv cv hv =>
  hv.mono (λb hb=>⟨.inl hb,rfl⟩) (λi o hi=>by
   rw[iG];by_cases h1:i=id
   ·subst h1;rw[ho]at hi;simp only[dD.injEq]at hi;subst hi;right;exact⟨rfl,_,by rw[if_pos rfl],by simp[Ob.fj]⟩
   ·rw[if_neg h1];by_cases h2:i=a
    ·left;rw[if_pos h2]
    ·rw[if_neg h2];by_cases hg:o=.gone
     ·subst hg;exact .inl hi
     ·exact .inr ⟨rfl,o,hi,Ob.kK hg⟩)
 have c9:∀ i,Live eD i->Live σ.aa i/\i≠a:=by
  rintro i⟨o,hi,hg⟩;rw[iG]at hi;split at hi
  ·rename_i h1;subst h1;exact⟨⟨_,ho,G9⟩,Ne.symm EI⟩
  ·split at hi
   ·simp at hi;exact absurd hi.symm hg
   ·rename_i h2;exact⟨⟨o,hi,hg⟩,h2⟩
 have o7:Live σ.aa a:=⟨_,ha,G9⟩;refine⟨aP,rfl,rfl,⟨λk=>hR _ _ (hs.au k),?_,λi j b o c o' c' hi hj=>hs.inj i j b o c o' c' (c9 i hi).1 (c9 j hj).1,?_,?_,λg=>Cd (hs.gl g) λb hb=>⟨.inl hb,rfl⟩⟩,?_⟩
 ·intro i o hi;have hi':eD[i]?=some o:=hi;rw[iG]at hi';split at hi'
  ·rename_i h1;subst h1;simp only[dD.injEq]at hi';subst hi';obtain⟨h0,hr,a8⟩:=hs.fF _ _ ho;have u6:r0<R.length:=(aY.1 bj).1;refine⟨h0,λrow sS=>?_,?_⟩
   ·rcases oP sS with h|h
    ·exact hr row h
    ·subst h;rw[bw];exact hr cells (gY bj)
   ·rcases a8 with⟨h1,h2⟩|⟨b,o,cap,cur,t,h1,h2,h3,h4,h5,h6⟩
    ·exact absurd (show r0<0 by rw[h2]at u6;exact u6) (mQ _)
    ·refine .inr ⟨b,o,cap,cur,t,h1,h2,h3,by rw[bw];exact h4,h5,λr k v hv=>?_⟩;unfold cellAt at hv;rw[cm]at hv;by_cases e:r0=r
     ·subst e;rw[if_pos rfl,if_pos u6,uG,cm]at hv;split at hv
      ·rename_i e;subst e;split at hv
       ·simp only[dD.injEq]at hv;subst hv;have dV:cG σ (λx=>x≠a) (.tree sz rows) (.ref a sz 0 rows.length):=cG.flat ha hw rfl G9 mj;exact .cp _ _ (dV.Eb hs (γc:=aP) (λb hb=>.inl hb) rfl (λx b o cap cT _ hb=>.inr ⟨o,cap,by rw[show a=x by simpa using(Decidable.not_not.1 cT).symm];exact hb⟩) _ (h6 r0 c _ (by unfold cellAt;rw[bj];exact hc)))
       ·simp at hv
      ·exact hR _ _ (h6 r0 k v (by unfold cellAt;rw[bj];exact hv))
     ·rw[if_neg e]at hv;exact hR _ _ (h6 r k v hv)
  ·split at hi'
   ·simp only[dD.injEq]at hi';subst hi';trivial
   ·by_cases hg:o=.gone
    ·subst hg;trivial
    ·exact(hs.fF i o hi').mono hR rfl (λ_ _ _ _=>rfl)
 ·rintro b ⟨i,o,c',hi,hb⟩ (hz|⟨o',cap,cW⟩)
  ·exact hs.nz b ⟨i,o,c',(c9 i hi).1,hb⟩ hz
  ·exact(c9 i hi).2 (hs.inj i a b o c' o' cap (c9 i hi).1 o7 hb cW)
 ·rintro b (hz|⟨o,cap,hb⟩)
  ·exact hs.jm b hz
  ·exact hs.blt o7 hb
 ·refine⟨hf.nt,hf.tape,hf.output,hf.size,hf.aH,λb hb=>.inl (hf.z0 b hb),?_,?_,by show os.length<=eD.length;simp[eD];exact hf.len,?_,hf.drawn⟩
  ·rintro b (hz|⟨o,cap,hb⟩)
   ·exact hf.z1 b hz
   ·exact .inr (hf.own b ⟨a,o,cap,o7,hb⟩)
  ·rintro b ⟨i,o,c',hi,hb⟩;exact hf.own b ⟨i,o,c',(c9 i hi).1,hb⟩
  ·intro i hi hl;obtain⟨h1,x,x',hx,cV,hk⟩:=hf.lk i hi (c9 i hl).1;have Eo:=(c9 i hl).2;have jF:Live eD i:=hl;obtain⟨o,e9,tC⟩:=jF;refine⟨h1,x,o,hx,e9,?_⟩;rw[iG]at e9;split at e9
   ·rename_i e;subst e;rw[ho]at cV;simp only[dD.injEq]at cV e9;subst cV;subst e9;refine Ob.LU hk (by simp[Ob.fj])
   ·rw[cV]at e9;simp only[dD.injEq]at e9;subst e9;exact hk
end Go.Am
namespace Go.Am
variable {P:Program} {N n0:Nat} {σ:St} {Q:Exit->St->Prop}
def bC.af7{σ:St}{γ:Cx}(h:bC σ γ){id sz:Nat}{R R':List (List AV)}(ho:σ.aa[id]?=some (.arr sz R))(hl:R'.length=R.length)(hw:∀ row∈R',row.length=sz)(ew:R≠[])(hc:∀ (r c:Nat) v',cellAt R' r c=some v'->∃ v,cellAt R r c=some v/\∀ cv,aA σ.aa γ.w γ.Z γ.blk v cv->aA σ.aa γ.w γ.Z γ.blk v' cv):bC ⟨σ.env,σ.aa.set id (.arr sz R')⟩ γ:=by
 obtain⟨h0,hr,a8⟩:=h.fF id _ ho;rcases a8 with⟨_,h2⟩|⟨b,o,cap,cur,t,h1,h2,h3,h4,h5,h6⟩
 ·exact absurd h2 ew
 ·have:=h.write (ob':=.arr sz R') ho G9 ⟨rfl,hl.symm⟩ h1 (w':=γ.w) h2 (λ_ _=>rfl) rfl ⟨h0,hw,h3,by rw[hl];exact h4,h5,λr c v' hv=>by
   obtain⟨v,oW,mo⟩:=hc r c v' hv;exact mo _ (h6 r c v oW)⟩
  exact this
def Fr.af8(os:List Ob)(γ:Cx){id:Nat}{o o':Ob}(ho:os[id]?=some o)(g9:o.fj o'):Fr os γ (os.set id o') γ where
 nt:=rfl
 tape:=rfl
 output:=rfl
 size:=Nat.le_refl _
 aH:=λ_ _ _=>rfl
 z0:=λ_ h=>h
 z1:=λ_ h=>.inl h
 own:=by
  rintro b⟨i,p,c,⟨x,hx,ed⟩,hb⟩;rw[cm]at hx;split at hx
  ·rename_i e;subst e;exact .inl ⟨id,p,c,⟨_,ho,(Ob.Se g9).1⟩,hb⟩
  ·exact .inl ⟨i,p,c,⟨x,hx,ed⟩,hb⟩
 len:=G9
 lk:=by
  rintro i hi⟨x,hx,ed⟩;have hx0:=hx;rw[cm]at hx;split at hx
  ·rename_i e;subst e;exact⟨rfl,o,o',ho,by rw[cm];simp[hi],g9⟩
  ·exact⟨rfl,x,x,hx,hx0,Ob.kK ed⟩
def WC(v v':AV):Prop:=v'=v\/(v=.lit (.slice none 0 0)/\∃ s,v'=.tree s [])
def CJ:List AV->List AV->Prop
 |[],[]=>True
 |c::cs,d::ds=>WC c d/\CJ cs ds
 |_,_=>False
def CJ.get:∀ {cs ds:List AV},CJ cs ds->cs.length=ds.length/\∀ (j:Nat) d,ds[j]?=some d->∃ c,cs[j]?=some c/\WC c d
 |[],[],_=>⟨rfl,G9⟩
 |c::cs,d::ds,h=>by
  obtain⟨a,b⟩:=CJ.get h.2;refine⟨by simp[a],λj d' hd=>?_⟩;cases j with
  |zero=>simp at hd;subst hd;exact⟨c,rfl,h.1⟩
  |succ j=>exact b j d' (by simpa using hd)
 |[],_::_,h=>h.elim
 |_::_,[],h=>h.elim
def ay.ME(id r0 sz:Nat){R:List (List AV)}{cells cells':List AV}(ho:σ.aa[id]?=some (.arr sz R))(bj:R[r0]?=some cells)(hc:CJ cells cells'):ay n0 σ ⟨σ.env,σ.aa.set id (.arr sz (R.set r0 cells'))⟩:=by
 intro os γ0 γ _ hs hf;obtain⟨hl,hg⟩:=hc.get;have u6:r0<R.length:=(aY.1 bj).1;have tz:=(hs.fF id _ ho).2.1;refine⟨γ,rfl,rfl,hs.af7 ho G9 (λrow sS=>?_) (λe=>by rw[e]at u6;exact absurd u6 (mQ _)) (λr c v' hv=>?_),hf.trans (Fr.af8 _ _ ho ⟨rfl,G9⟩)⟩
 ·rcases oP sS with h|h
  ·exact tz row h
  ·subst h;rw[<- hl];exact tz cells (gY bj)
 ·unfold cellAt at hv;rw[cm]at hv;by_cases e:r0=r
  ·subst e;rw[if_pos rfl,if_pos u6,uG]at hv;obtain⟨v,h1,h2⟩:=hg c v' hv;refine⟨v,by unfold cellAt;rw[bj];exact h1,λcv hr=>?_⟩;rcases h2 with rfl|⟨rfl,s,rfl⟩
   ·exact hr
   ·rw[hr.dm];exact .cp _ _ (.nil _ _ _)
  ·rw[if_neg e]at hv;exact⟨v',hv,λcv hr=>hr⟩
end Go.Am
namespace Go.Am
variable {P:Program} {N n0:Nat} {σ:St} {Q:Exit->St->Prop}
end Go.Am
namespace Go.Am
end Go.Am
namespace Go.Am
variable {P:Program} {N n0:Nat} {σ:St}
def MF(ag:Nat)(f:Nat->Value)(p:List Int×AV)(r:List (List Int×AV)):dR ag f (p::r)=(kV ag p.1,f 0)::dR ag (λj=>f (j+1)) r:=by
 unfold dR;simp[Kx]
def WD(x:Int):∀ (L:List (List Int×AV)) (f:Nat->Value) (g:Nat->Nat) (i:Nat),(∀ p∈L,p.1.length=1) ->
  Instr.findNow (.int .i64) (.int .i64 x) ((dR 0 f L).mapIdx λj p=>(⟨p.1,p.2,g j⟩:MapEntry)) i=some ((kM [x] L i).map λq=>(q,f (q-i)))
 |[],_,_,_,_=>rfl
 |p::r,f,g,i,h=>by
  have hp:=h p G9;obtain⟨l,v⟩:=p;obtain⟨y,rfl⟩:∃y,l=[y]:=List.length_eq_one_iff.1 hp;rw[MF];simp only[Kx,Instr.findNow,kV,if_true,List.headD_cons,Instr.sameNow,kM];by_cases oX:y=x
  ·subst oX;simp
  ·rw[if_neg (λe=>oX (by simpa using e))];have:(x==y)=false:=by simpa using λe=>oX e.symm
   rw[this];have ih:=WD x r (λj=>f (j+1)) (λj=>g (j+1)) (i+1) (λq hq=>h q (by simp[hq]));simp only[ih];cases hf:kM [x] r (i+1) with
   |none=>rfl
   |some q =>
    have:=(Ay hf).1;simp only[fE];rw[show q-(i+1)+1=q-i by omega]
def mV.int{t kt et:TypeId}(h1:P.underlying t=some (.map kt et))(h2:P.underlying kt=some (.int .i64)):mV P t 0:=by
 refine⟨kt,et,h1,λl hl=>?_⟩;obtain⟨x,rfl⟩:∃x,l=[x]:=List.length_eq_one_iff.1 hl;refine⟨λe w=>?_,λw=>?_,λf L w hL=>?_⟩
 ·exact run_checkKey h2 e x w
 ·have E4:Instr.sameBits 10000 (.int .i64 x) (.int .i64 x)=true:=by simp[Instr.sameBits]
  show(Instr.keyThatStays (.int .i64 x) (.int .i64 x)).run P w=_;simp[Instr.keyThatStays,E4,kV]
 ·have h:=WD x L f id 0 hL;simp only[id]at h;show(Instr.findKey kt (.int .i64 x) (dy (dR 0 f L)).toList).run P w=_;simp[Instr.findKey,run_underlying h2,tM,h]
end Go.Am
namespace Go.Am
variable {P:Program} {N n0:Nat} {σ:St}
def E5{n:Nat}(hn:n≠0)(l:List Int):kV n l=.agg (l.map (Value.int .i64)).toArray:=by unfold kV;rw[if_neg hn]
def af9{t:TypeId}{n:Nat}(h:v9 P t n)(hn:n≠0)(w:World){as bs:List Int}(ha:as.length=n)(hb:bs.length=n):(Op.equal t (kV n as) (kV n bs)).run P w=.ok (decide (as=bs)) w:=by
 rw[E5 hn,E5 hn];exact h w as bs ha hb
def WE{t:TypeId}{n:Nat}(h:v9 P t n)(hn:n≠0){l:List Int}(hl:l.length=n)(w:World):∀ (L:List (List Int×AV)) (f:Nat->Value) (g:Nat->Nat) (i:Nat),(∀ p∈L,p.1.length=n) ->
  (Instr.findAsking t (kV n l) ((dR n f L).mapIdx λj p=>(⟨p.1,p.2,g j⟩:MapEntry)) i).run P w=.ok ((kM l L i).map λq=>(q,f (q-i))) w
 |[],_,_,_,_=>rfl
 |p::r,f,g,i,hL=>by
  have hp:=hL p G9;rw[MF];have he:=af9 h hn w hl hp;simp only[Kx,Instr.findAsking,Sem.run_bind,he,Result.andThen_ok,Sem.run_ite,kM];by_cases oX:p.1=l
  ·rw[if_pos oX];simp[oX.symm]
  ·rw[if_neg oX,if_neg (by simpa using λe=>oX e.symm)];have ih:=WE h hn hl w r (λj=>f (j+1)) (λj=>g (j+1)) (i+1) (λq hq=>hL q (by simp[hq]));rw[ih];cases hf:kM l r (i+1) with
   |none=>rfl
   |some q =>
    have:=(Ay hf).1;simp only[fE];rw[show q-(i+1)+1=q-i by omega]
def WG(k:Nat):∀ (l:List Int),((l.map (Value.int .i64)).zip (l.map (Value.int .i64))).all (λ(x,y)=>Instr.sameBits k x y)=true
 |[]=>rfl
 |x::r=>by
  simp only[List.map_cons,List.zip_cons_cons,DG,WG k r,Bool.and_true];cases k<;>simp[Instr.sameBits]
def af'(w:World){ft:TypeId}(hf:P.underlying ft=some (.int .i64)){l:List Int}{o:Nat}(ho:o<l.length):(part ft (l.map (Value.int .i64)).toArray o).run P w=.ok (.int .i64 (l.getD o 0)) w:=by
 have hx:((l.map (Value.int .i64)).toArray)[o]?=some (.int .i64 (l.getD o 0)):=by simp[ho]
 simp only[part,isAgg,Sem.run_bind,run_underlying hf,Result.andThen_ok,Sem.run_pure,Bool.false_eq_true,if_false,Sem.run_ite,hx]
def aga{ft:TypeId}(hf:P.underlying ft=some (.int .i64))(e:Bool)(x:Int)(k:Nat)(w:World):(Instr.checkKey e (k+1) ft (.int .i64 x)).run P w=.ok () w:=by
 simp[Instr.checkKey,run_underlying hf]
def MG(P : Program)(n : Nat)(fs : List Field): Bool := fs.all λf => f.name != "_" && decide (f.offset < n) && (match P.underlying f.type with | some (.int .i64) => true | _ => false)
def agb {P : Program} {n : Nat} {f : Field} (h : (f.name != "_" && decide (f.offset < n) && (match P.underlying f.type with | some (.int .i64) => true | _ => false)) = true) : f.name ≠ "_" /\ f.offset < n /\ P.underlying f.type = some (.int .i64) := by
 simp only[bk,bne_iff_ne,decide_eq_true_eq]at h;refine⟨h.1.1,h.1.2,?_⟩;have h2:=h.2;split at h2
 ·assumption
 ·cases h2
def agc{kt:TypeId}{n:Nat}{fs:Array Field}(h2:P.underlying kt=some (.struct fs))(hn:n≠0)(xP:MG P n fs.toList=true)(l:List Int)(hl:l.length=n)(e:Bool)(w:World):(Instr.checkKey e 10000 kt (kV n l)).run P w=.ok () w:=by
 rw[E5 hn,show(10000:Nat)=9999+1 from rfl,Instr.checkKey];simp only[Sem.run_bind,run_underlying h2,Result.andThen_ok];rw[<- Array.forIn_toList];generalize fs.toList=L at xP
 induction L with
 |nil=>simp
 |cons f r ih =>
  unfold MG at xP;rw[DG,bk]at xP;obtain⟨a1,a2,a3⟩:=agb xP.1;have p1:=af' (P:=P) w a3 (l:=l) (o:=f.offset) G3;have p2:=aga a3 e (l.getD f.offset 0) 9998 w;simp only[List.forIn_cons,Sem.run_bind,a1,ne_eq,not_false_eq_true,if_true,Result.andThen_ok,p1,p2,Sem.run_pure];exact ih xP.2
def mV.agg{t kt et:TypeId}{n:Nat}{fs:Array Field}(h1:P.underlying t=some (.map kt et))(h2:P.underlying kt=some (.struct fs))(h3:v9 P kt n)(hn:n≠0)(h4:∀ (l:List Int),l.length=n->∀ e w,(Instr.checkKey e 10000 kt (kV n l)).run P w=.ok () w):mV P t n:=by
 have hk:lg n=n:=by unfold lg;rw[if_neg hn]
 refine⟨kt,et,h1,λl hl=>?_⟩;rw[hk]at hl;refine⟨h4 l hl,λw=>?_,λf L w hL=>?_⟩
 ·have E4:Instr.sameBits 10000 (kV n l) (kV n l)=true:=by
   rw[E5 hn];simp only[Instr.sameBits,beq_self_eq_true,Bool.true_and];exact WG 9999 l
  simp[Instr.keyThatStays,E4]
 ·rw[hk]at hL;have h:=WE h3 hn hl w L f id 0 hL;simp only[id]at h;cases L with
  |nil=>simp[Instr.findKey,run_underlying h2,tM,dR,Instr.findNow,kM]
  |cons p r =>
   have agd:Instr.findNow (.struct fs) (kV n l) (dy (dR n f (p::r))).toList 0=none:=by
    rw[tM,MF];simp only[Kx,Instr.findNow,E5 hn,Instr.sameNow]
   simp only[Instr.findKey,Sem.run_bind,run_underlying h2,Result.andThen_ok,agd];rw[tM];exact h
def mV.struct{t kt et:TypeId}{n:Nat}{fs:Array Field}(h1:P.underlying t=some (.map kt et))(h2:P.underlying kt=some (.struct fs))(hn:n≠0)(h3:L1 P 2 kt n=true)(h4:MG P n fs.toList=true):mV P t n :=
 mV.agg h1 h2 (v9.of 2 h3) hn (agc h2 hn h4)
end Go.Am

