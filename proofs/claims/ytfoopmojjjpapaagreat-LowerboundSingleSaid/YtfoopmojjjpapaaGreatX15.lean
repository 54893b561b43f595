import Derived.Test.YtfoopmojjjpapaaGreatX13
set_option linter.all false
set_option maxHeartbeats 0
set_option maxRecDepth 20000
open List renaming getElem?_eq_some_iff→aV,getD_eq_getElem?_getD→az,getElem?_append_left→eZ,getElem?_append_right→iA,getElem?_set→bU,mem_or_eq_of_mem_set→su,length_set→bJ,mem_of_getElem?→gI,mapIdx_cons→Km,all_cons→DP
open Option renaming some→cA,bind_some→tH,map_some→eH
open Nat renaming not_lt_zero→pd
open Bool renaming and_eq_true→bb
namespace Go.Am
variable {P:Program} {N n0:Nat} {σ:St}
def rS{f:FuncId}{args:List AV}{dst:Option Tmp}{K:St->Prop}{iF:AV->List Ob->Prop}(h:cX P f args σ.aa iF)(hK:∀ res bn,iF res bn->σ.aa.length<=bn.length/\K ((⟨σ.env,bn⟩:St).put dst res)):j1 P f args dst K σ:=by
 refine⟨List.range σ.aa.length,false,args,σ.aa,iF,h,⟨List.nodup_range,GM,?_,rfl,?_⟩,λres bn hp=>⟨GM,?_⟩⟩
 ·intro j o hj;have aX:=(aV.1 hj).1;rw[zd,D4];simpa [az,List.getElem?_range aX] using hj
 ·intro j c d hc hd;rw[hc]at hd;simp only[cA.injEq]at hd;subst hd;exact .eq (by rw[zd,ze])
 ·obtain⟨hl,hK⟩:=hK res bn hp;rw[zd,ze];have:bn.map (bM (λj=>j))=bn:=by
   have h:bM (λj=>j)=id:=by funext o;exact D4 o
   simp[h]
  rw[this,RA _ _ hl];exact hK
def Nx{Q:Exit->St->Prop}(n:Nat){id:Nat}{ops:Array Oper}(hd:fq N ops=true)(h:∀ K K1:St->Prop,(∀ s,Q .normal s->K s)->(∀ s s1,aH n0 s s1->opsL P ops (ops.toList.drop n) K s1->K1 s)->opsL P ops (ops.toList.take n) K1 σ):W P N n0 (.region id ops false) Q σ:=by
 intro os γ0 a w hn ax;refine wp_region ?_;exact aex (oL hd) hn (K:=Q .normal) (K1:=λs=>∃ s1,aH n0 s s1/\opsL P ops (ops.toList.drop n) (Q .normal) s1) (λσ' a' w' hK cW=>⟨σ',hK,cW⟩) n (λs h=>h) σ a w (h _ _ (λ_ h=>h) (λs s1 h1 h2=>⟨s1,h1,h2⟩)) ax
def Holds.L8{f:FuncId}{sz:Nat}{pre post:List AV}{aa bn:List Ob}{res:AV}(h:Holds P f (pre++.tree sz []::post) aa res bn):Holds P f (pre++.lit (.slice none 0 0)::post) aa res bn:=by
 refine⟨h.1,λγ aP hs=>h.2 γ (by simpa using aP) ⟨λk=>?_,hs.dT,hs.inj,hs.nz,hs.gG,hs.gl⟩⟩;have:=hs.ao k;dsimp only at this ⊢;by_cases hk:k=pre.length
 ·subst hk;have e1:(pre++AV.lit (.slice none 0 0)::post).getD pre.length .undef=.lit (.slice none 0 0):=GM;have e2:(pre++AV.tree sz []::post).getD pre.length .undef=.tree sz []:=GM;rw[e1]at this;rw[e2,this.cF];exact .cO _ _ (.nil _ _ _)
 ·have e:(pre++AV.tree sz []::post).getD k .undef=(pre++AV.lit (.slice none 0 0)::post).getD k .undef:=by
   simp only[az];congr 1;rcases Nat.lt_or_ge k pre.length with h1|h1
   ·rw[eZ h1,eZ h1]
   ·rw[iA h1,iA h1,show k-pre.length=(k-pre.length-1)+1 by omega];rfl
  rw[e];exact this
end Go.Am
namespace Go.Am
variable {P:Program} {N n0:Nat} {σ:St} {Q:Exit->St->Prop}
def aH.Yj(a id r0 c sz IU:Nat){R:List (List AV)}{cells:List AV}{rows:List (List AV)}(ho:σ.aa[id]?=some (.arr IU R))(bL:R[r0]?=some cells)(ha:σ.aa[a]?=some (.arr sz rows))(hc:cells[c]?=some (.ref a sz 0 rows.length))(A9:a≠id)(hw:∀ row∈rows,row.length=sz)(wH:∀ row∈rows,∀ v∈row,(∃ x,v=.lit x)\/∃ s r,v=.tree s r):aH n0 σ ⟨σ.env,(σ.aa.set a .gone).set id (.arr IU (R.set r0 (cells.set c (.tree sz rows))))⟩:=by
 intro os γ0 γ _ hs hf;have Ba:id<σ.aa.length:=(aV.1 ho).1;have lI:a<σ.aa.length:=(aV.1 ha).1
 let aA:Cx:={ γ with Z:=λb=>γ.Z b\/∃ o cap,γ.blk a=some (b,o,cap) }
 let os2:=(σ.aa.set a .gone).set id (.arr IU (R.set r0 (cells.set c (.tree sz rows))))
 have jt:∀ i,os2[i]?=if i=id then some (.arr IU (R.set r0 (cells.set c (.tree sz rows)))) else if i=a then some .gone else σ.aa[i]?:=by
  intro i;show((σ.aa.set a .gone).set id _)[i]?=_;rw[bU,bU];by_cases h1:i=id
  ·subst h1;simp[Ba]
  ·by_cases h2:i=a
   ·subst h2;simp[Ne.symm h1,h1,lI]
   ·simp[Ne.symm h1,Ne.symm h2,h1,h2]
 have hR:∀ v cv,aw σ.aa γ.w γ.Z γ.blk v cv->aw os2 aA.w aA.Z aA.blk v cv:=λv cv hv =>
  hv.mono (λb hb=>⟨.inl hb,rfl⟩) (λi o hi=>by
   rw[jt];by_cases h1:i=id
   ·subst h1;rw[ho]at hi;simp only[cA.injEq]at hi;subst hi;right;exact⟨rfl,_,by rw[if_pos rfl],by simp[Ob.ej]⟩
   ·rw[if_neg h1];by_cases h2:i=a
    ·left;rw[if_pos h2]
    ·rw[if_neg h2];by_cases hg:o=.gone
     ·subst hg;exact .inl hi
     ·exact .inr ⟨rfl,o,hi,Ob.jK hg⟩)
 have bS:∀ i,Live os2 i->Live σ.aa i/\i≠a:=by
  rintro i⟨o,hi,hg⟩;rw[jt]at hi;split at hi
  ·rename_i h1;subst h1;exact⟨⟨_,ho,GM⟩,Ne.symm A9⟩
  ·split at hi
   ·simp at hi;exact absurd hi.symm hg
   ·rename_i h2;exact⟨⟨o,hi,hg⟩,h2⟩
 have pF:Live σ.aa a:=⟨_,ha,GM⟩;refine⟨aA,rfl,rfl,⟨λk=>hR _ _ (hs.ao k),?_,λi j b o c o' c' hi hj=>hs.inj i j b o c o' c' (bS i hi).1 (bS j hj).1,?_,?_,λg=>zm (hs.gl g) λb hb=>⟨.inl hb,rfl⟩⟩,?_⟩
 ·intro i o hi;have ar:os2[i]?=some o:=hi;rw[jt]at ar;split at ar
  ·rename_i h1;subst h1;simp only[cA.injEq]at ar;subst ar;obtain⟨h0,hr,bP⟩:=hs.dT _ _ ho;have vv:r0<R.length:=(aV.1 bL).1;refine⟨h0,λrow z6=>?_,?_⟩
   ·rcases su z6 with h|h
    ·exact hr row h
    ·subst h;rw[bJ];exact hr cells (gI bL)
   ·rcases bP with⟨h1,h2⟩|⟨b,o,cap,cur,t,h1,h2,h3,h4,h5,h6⟩
    ·exact absurd (show r0<0 by rw[h2]at vv;exact vv) (pd _)
    ·refine .inr ⟨b,o,cap,cur,t,h1,h2,h3,by rw[bJ];exact h4,h5,λr k v hv=>?_⟩;unfold cellAt at hv;rw[bU]at hv;by_cases e:r0=r
     ·subst e;rw[if_pos rfl,if_pos vv,tH,bU]at hv;split at hv
      ·rename_i e;subst e;split at hv
       ·simp only[cA.injEq]at hv;subst hv;have dU:cQ σ (λx=>x≠a) (.tree sz rows) (.ref a sz 0 rows.length):=cQ.flat ha hw rfl GM wH;exact .cO _ _ (dU.AM hs (γc:=aA) (λb hb=>.inl hb) rfl (λx b o cap bX _ hb=>.inr ⟨o,cap,by rw[show a=x by simpa using(Decidable.not_not.1 bX).symm];exact hb⟩) _ (h6 r0 c _ (by unfold cellAt;rw[bL];exact hc)))
       ·simp at hv
      ·exact hR _ _ (h6 r0 k v (by unfold cellAt;rw[bL];exact hv))
     ·rw[if_neg e]at hv;exact hR _ _ (h6 r k v hv)
  ·split at ar
   ·simp only[cA.injEq]at ar;subst ar;trivial
   ·by_cases hg:o=.gone
    ·subst hg;trivial
    ·exact(hs.dT i o ar).mono hR rfl (λ_ _ _ _=>rfl)
 ·rintro b ⟨i,o,c',hi,hb⟩ (hz|⟨o',cap,a6⟩)
  ·exact hs.nz b ⟨i,o,c',(bS i hi).1,hb⟩ hz
  ·exact(bS i hi).2 (hs.inj i a b o c' o' cap (bS i hi).1 pF hb a6)
 ·rintro b (hz|⟨o,cap,hb⟩)
  ·exact hs.gG b hz
  ·exact hs.blt pF hb
 ·refine⟨hf.lF,hf.tape,hf.output,hf.size,hf.ek,λb hb=>.inl (hf.z0 b hb),?_,?_,by show os.length<=os2.length;simp[os2];exact hf.len,?_,hf.drawn⟩
  ·rintro b (hz|⟨o,cap,hb⟩)
   ·exact hf.z1 b hz
   ·exact .inr (hf.own b ⟨a,o,cap,pF,hb⟩)
  ·rintro b ⟨i,o,c',hi,hb⟩;exact hf.own b ⟨i,o,c',(bS i hi).1,hb⟩
  ·intro i hi hl;obtain⟨h1,x,x',hx,b6,hk⟩:=hf.eA i hi (bS i hl).1;have Ek:=(bS i hl).2;have kf:Live os2 i:=hl;obtain⟨o,dt,nR⟩:=kf;refine⟨h1,x,o,hx,dt,?_⟩;rw[jt]at dt;split at dt
   ·rename_i e;subst e;rw[ho]at b6;simp only[cA.injEq]at b6 dt;subst b6;subst dt;refine Ob.HF hk (by simp[Ob.ej])
   ·rw[b6]at dt;simp only[cA.injEq]at dt;subst dt;exact hk
end Go.Am
namespace Go.Am
variable {P:Program} {N n0:Nat} {σ:St} {Q:Exit->St->Prop}
def bx.ai9{σ:St}{γ:Cx}(h:bx σ γ){id sz:Nat}{R R':List (List AV)}(ho:σ.aa[id]?=some (.arr sz R))(hl:R'.length=R.length)(hw:∀ row∈R',row.length=sz)(cy:R≠[])(hc:∀ (r c:Nat) v',cellAt R' r c=some v'->∃ v,cellAt R r c=some v/\∀ cv,aw σ.aa γ.w γ.Z γ.blk v cv->aw σ.aa γ.w γ.Z γ.blk v' cv):bx ⟨σ.env,σ.aa.set id (.arr sz R')⟩ γ:=by
 obtain⟨h0,hr,bP⟩:=h.dT id _ ho;rcases bP with⟨_,h2⟩|⟨b,o,cap,cur,t,h1,h2,h3,h4,h5,h6⟩
 ·exact absurd h2 cy
 ·have:=h.write (ob':=.arr sz R') ho GM ⟨rfl,hl.symm⟩ h1 (w':=γ.w) h2 (λ_ _=>rfl) rfl ⟨h0,hw,h3,by rw[hl];exact h4,h5,λr c v' hv=>by
   obtain⟨v,np,zq⟩:=hc r c v' hv;exact zq _ (h6 r c v np)⟩
  exact this
def Fr.ai'(os:List Ob)(γ:Cx){id:Nat}{o o':Ob}(ho:os[id]?=some o)(gr:o.ej o'):Fr os γ (os.set id o') γ where
 lF:=rfl
 tape:=rfl
 output:=rfl
 size:=Nat.le_refl _
 ek:=λ_ _ _=>rfl
 z0:=λ_ h=>h
 z1:=λ_ h=>.inl h
 own:=by
  rintro b⟨i,p,c,⟨x,hx,eS⟩,hb⟩;rw[bU]at hx;split at hx
  ·rename_i e;subst e;exact .inl ⟨id,p,c,⟨_,ho,(Ob.Ss gr).1⟩,hb⟩
  ·exact .inl ⟨i,p,c,⟨x,hx,eS⟩,hb⟩
 len:=GM
 eA:=by
  rintro i hi⟨x,hx,eS⟩;have hx0:=hx;rw[bU]at hx;split at hx
  ·rename_i e;subst e;exact⟨rfl,o,o',ho,by rw[bU];simp[hi],gr⟩
  ·exact⟨rfl,x,x,hx,hx0,Ob.jK eS⟩
def aaG(v v':AV):Prop:=v'=v\/(v=.lit (.slice none 0 0)/\∃ s,v'=.tree s [])
def Fx:List AV->List AV->Prop
 |[],[]=>True
 |c::cs,d::ds=>aaG c d/\Fx cs ds
 |_,_=>False
def Fx.get:∀ {cs ds:List AV},Fx cs ds->cs.length=ds.length/\∀ (j:Nat) d,ds[j]?=some d->∃ c,cs[j]?=some c/\aaG c d
 |[],[],_=>⟨rfl,GM⟩
 |c::cs,d::ds,h=>by
  obtain⟨a,b⟩:=Fx.get h.2;refine⟨by simp[a],λj d' hd=>?_⟩;cases j with
  |zero=>simp at hd;subst hd;exact⟨c,rfl,h.1⟩
  |succ j=>exact b j d' (by simpa using hd)
 |[],_::_,h=>h.elim
 |_::_,[],h=>h.elim
def aH.aja(id r0 sz:Nat){R:List (List AV)}{cells cells':List AV}(ho:σ.aa[id]?=some (.arr sz R))(bL:R[r0]?=some cells)(hc:Fx cells cells'):aH n0 σ ⟨σ.env,σ.aa.set id (.arr sz (R.set r0 cells'))⟩:=by
 intro os γ0 γ _ hs hf;obtain⟨hl,hg⟩:=hc.get;have vv:r0<R.length:=(aV.1 bL).1;have yD:=(hs.dT id _ ho).2.1;refine⟨γ,rfl,rfl,hs.ai9 ho GM (λrow z6=>?_) (λe=>by rw[e]at vv;exact absurd vv (pd _)) (λr c v' hv=>?_),hf.trans (Fr.ai' _ _ ho ⟨rfl,GM⟩)⟩
 ·rcases su z6 with h|h
  ·exact yD row h
  ·subst h;rw[<- hl];exact yD cells (gI bL)
 ·unfold cellAt at hv;rw[bU]at hv;by_cases e:r0=r
  ·subst e;rw[if_pos rfl,if_pos vv,tH]at hv;obtain⟨v,h1,h2⟩:=hg c v' hv;refine⟨v,by unfold cellAt;rw[bL];exact h1,λcv hr=>?_⟩;rcases h2 with rfl|⟨rfl,s,rfl⟩
   ·exact hr
   ·rw[hr.cF];exact .cO _ _ (.nil _ _ _)
  ·rw[if_neg e]at hv;exact⟨v',hv,λcv hr=>hr⟩
end Go.Am
namespace Go.Am
variable {P:Program} {N n0:Nat} {σ:St} {Q:Exit->St->Prop}
end Go.Am
namespace Go.Am
end Go.Am
namespace Go.Am
variable {P:Program} {N n0:Nat} {σ:St}
def Ny(ag:Nat)(f:Nat->Value)(p:List Int×AV)(r:List (List Int×AV)):du ag f (p::r)=(kV ag p.1,f 0)::du ag (λj=>f (j+1)) r:=by
 unfold du;simp[Km]
def aaH(x:Int):∀ (L:List (List Int×AV)) (f:Nat->Value) (g:Nat->Nat) (i:Nat),(∀ p∈L,p.1.length=1) ->
  Instr.findNow (.int .i64) (.int .i64 x) ((du 0 f L).mapIdx λj p=>(⟨p.1,p.2,g j⟩:MapEntry)) i=some ((iH [x] L i).map λq=>(q,f (q-i)))
 |[],_,_,_,_=>rfl
 |p::r,f,g,i,h=>by
  have hp:=h p GM;obtain⟨l,v⟩:=p;obtain⟨y,rfl⟩:∃y,l=[y]:=List.length_eq_one_iff.1 hp;rw[Ny];simp only[Km,Instr.findNow,kV,if_true,List.headD_cons,Instr.sameNow,iH];by_cases ri:y=x
  ·subst ri;simp
  ·rw[if_neg (λe=>ri (by simpa using e))];have:(x==y)=false:=by simpa using λe=>ri e.symm
   rw[this];have ih:=aaH x r (λj=>f (j+1)) (λj=>g (j+1)) (i+1) (λq hq=>h q (by simp[hq]));simp only[ih];cases hf:iH [x] r (i+1) with
   |none=>rfl
   |some q =>
    have:=(AW hf).1;simp only[eH];rw[show q-(i+1)+1=q-i by omega]
def jC.int{t kt et:TypeId}(h1:P.underlying t=some (.map kt et))(h2:P.underlying kt=some (.int .i64)):jC P t 0:=by
 refine⟨kt,et,h1,λl hl=>?_⟩;obtain⟨x,rfl⟩:∃x,l=[x]:=List.length_eq_one_iff.1 hl;refine⟨λe w=>?_,λw=>?_,λf L w hL=>?_⟩
 ·exact run_checkKey h2 e x w
 ·have E9:Instr.sameBits 10000 (.int .i64 x) (.int .i64 x)=true:=by simp[Instr.sameBits]
  show(Instr.keyThatStays (.int .i64 x) (.int .i64 x)).run P w=_;simp[Instr.keyThatStays,E9,kV]
 ·have h:=aaH x L f id 0 hL;simp only[id]at h;show(Instr.findKey kt (.int .i64 x) (cY (du 0 f L)).toList).run P w=_;simp[Instr.findKey,run_underlying h2,ue,h]
end Go.Am
namespace Go.Am
variable {P:Program} {N n0:Nat} {σ:St}
def Fy{n:Nat}(hn:n≠0)(l:List Int):kV n l=.agg (l.map (Value.int .i64)).toArray:=by unfold kV;rw[if_neg hn]
def ajb{t:TypeId}{n:Nat}(h:wM P t n)(hn:n≠0)(w:World){as bs:List Int}(ha:as.length=n)(hb:bs.length=n):(Op.equal t (kV n as) (kV n bs)).run P w=.ok (decide (as=bs)) w:=by
 rw[Fy hn,Fy hn];exact h w as bs ha hb
def aaI{t:TypeId}{n:Nat}(h:wM P t n)(hn:n≠0){l:List Int}(hl:l.length=n)(w:World):∀ (L:List (List Int×AV)) (f:Nat->Value) (g:Nat->Nat) (i:Nat),(∀ p∈L,p.1.length=n) ->
  (Instr.findAsking t (kV n l) ((du n f L).mapIdx λj p=>(⟨p.1,p.2,g j⟩:MapEntry)) i).run P w=.ok ((iH l L i).map λq=>(q,f (q-i))) w
 |[],_,_,_,_=>rfl
 |p::r,f,g,i,hL=>by
  have hp:=hL p GM;rw[Ny];have he:=ajb h hn w hl hp;simp only[Km,Instr.findAsking,Sem.run_bind,he,Result.andThen_ok,Sem.run_ite,iH];by_cases ri:p.1=l
  ·rw[if_pos ri];simp[ri.symm]
  ·rw[if_neg ri,if_neg (by simpa using λe=>ri e.symm)];have ih:=aaI h hn hl w r (λj=>f (j+1)) (λj=>g (j+1)) (i+1) (λq hq=>hL q (by simp[hq]));rw[ih];cases hf:iH l r (i+1) with
   |none=>rfl
   |some q =>
    have:=(AW hf).1;simp only[eH];rw[show q-(i+1)+1=q-i by omega]
def aaJ(k:Nat):∀ (l:List Int),((l.map (Value.int .i64)).zip (l.map (Value.int .i64))).all (λ(x,y)=>Instr.sameBits k x y)=true
 |[]=>rfl
 |x::r=>by
  simp only[List.map_cons,List.zip_cons_cons,DP,aaJ k r,Bool.and_true];cases k<;>simp[Instr.sameBits]
def ajc(w:World){ft:TypeId}(hf:P.underlying ft=some (.int .i64)){l:List Int}{o:Nat}(ho:o<l.length):(part ft (l.map (Value.int .i64)).toArray o).run P w=.ok (.int .i64 (l.getD o 0)) w:=by
 have hx:((l.map (Value.int .i64)).toArray)[o]?=some (.int .i64 (l.getD o 0)):=by simp[ho]
 simp only[part,isAgg,Sem.run_bind,run_underlying hf,Result.andThen_ok,Sem.run_pure,Bool.false_eq_true,if_false,Sem.run_ite,hx]
def ajd{ft:TypeId}(hf:P.underlying ft=some (.int .i64))(e:Bool)(x:Int)(k:Nat)(w:World):(Instr.checkKey e (k+1) ft (.int .i64 x)).run P w=.ok () w:=by
 simp[Instr.checkKey,run_underlying hf]
def IV(P : Program)(n : Nat)(fs : List Field): Bool := fs.all λf => f.name != "_" && decide (f.offset < n) && (match P.underlying f.type with | some (.int .i64) => true | _ => false)
def aje {P : Program} {n : Nat} {f : Field} (h : (f.name != "_" && decide (f.offset < n) && (match P.underlying f.type with | some (.int .i64) => true | _ => false)) = true) : f.name ≠ "_" /\ f.offset < n /\ P.underlying f.type = some (.int .i64) := by
 simp only[bb,bne_iff_ne,decide_eq_true_eq]at h;refine⟨h.1.1,h.1.2,?_⟩;have h2:=h.2;split at h2
 ·assumption
 ·cases h2
def ajf{kt:TypeId}{n:Nat}{fs:Array Field}(h2:P.underlying kt=some (.struct fs))(hn:n≠0)(iQ:IV P n fs.toList=true)(l:List Int)(hl:l.length=n)(e:Bool)(w:World):(Instr.checkKey e 10000 kt (kV n l)).run P w=.ok () w:=by
 rw[Fy hn,show(10000:Nat)=9999+1 from rfl,Instr.checkKey];simp only[Sem.run_bind,run_underlying h2,Result.andThen_ok];rw[<- Array.forIn_toList];generalize fs.toList=L at iQ
 induction L with
 |nil=>simp
 |cons f r ih =>
  unfold IV at iQ;rw[DP,bb]at iQ;obtain⟨a1,a2,a3⟩:=aje iQ.1;have p1:=ajc (P:=P) w a3 (l:=l) (o:=f.offset) GK;have p2:=ajd a3 e (l.getD f.offset 0) 9998 w;simp only[List.forIn_cons,Sem.run_bind,a1,ne_eq,not_false_eq_true,if_true,Result.andThen_ok,p1,p2,Sem.run_pure];exact ih iQ.2
def jC.agg{t kt et:TypeId}{n:Nat}{fs:Array Field}(h1:P.underlying t=some (.map kt et))(h2:P.underlying kt=some (.struct fs))(h3:wM P kt n)(hn:n≠0)(h4:∀ (l:List Int),l.length=n->∀ e w,(Instr.checkKey e 10000 kt (kV n l)).run P w=.ok () w):jC P t n:=by
 have hk:kD n=n:=by unfold kD;rw[if_neg hn]
 refine⟨kt,et,h1,λl hl=>?_⟩;rw[hk]at hl;refine⟨h4 l hl,λw=>?_,λf L w hL=>?_⟩
 ·have E9:Instr.sameBits 10000 (kV n l) (kV n l)=true:=by
   rw[Fy hn];simp only[Instr.sameBits,beq_self_eq_true,Bool.true_and];exact aaJ 9999 l
  simp[Instr.keyThatStays,E9]
 ·rw[hk]at hL;have h:=aaI h3 hn hl w L f id 0 hL;simp only[id]at h;cases L with
  |nil=>simp[Instr.findKey,run_underlying h2,ue,du,Instr.findNow,iH]
  |cons p r =>
   have ajg:Instr.findNow (.struct fs) (kV n l) (cY (du n f (p::r))).toList 0=none:=by
    rw[ue,Ny];simp only[Km,Instr.findNow,Fy hn,Instr.sameNow]
   simp only[Instr.findKey,Sem.run_bind,run_underlying h2,Result.andThen_ok,ajg];rw[ue];exact h
def jC.struct{t kt et:TypeId}{n:Nat}{fs:Array Field}(h1:P.underlying t=some (.map kt et))(h2:P.underlying kt=some (.struct fs))(hn:n≠0)(h3:HJ P 2 kt n=true)(h4:IV P n fs.toList=true):jC P t n :=
 jC.agg h1 h2 (wM.of 2 h3) hn (ajf h2 hn h4)
def aaK(P:Program)(kt:TypeId)(n:Nat):Bool:=match P.underlying kt with
 |some (.struct fs)=>IV P n fs.toList
 |_=>false
def jC.aiM{t kt et:TypeId}{n:Nat}(h1:P.underlying t=some (.map kt et))(h2:aaK P kt n=true)(hn:n≠0)(h3:HJ P 2 kt n=true):jC P t n:=by
 unfold aaK at h2;split at h2
 ·rename_i fs iQ;exact jC.struct h1 iQ hn h3 h2
 ·cases h2
end Go.Am

