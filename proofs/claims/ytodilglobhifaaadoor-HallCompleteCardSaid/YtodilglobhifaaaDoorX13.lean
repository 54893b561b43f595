import Derived.Test.YtodilglobhifaaaDoorX12
set_option linter.all false
set_option maxHeartbeats 0
set_option maxRecDepth 20000
open List renaming mapIdx_cons→Ag,all_cons→w4,range'→g8,map→xd,drop_eq_nil_of_le→dF,drop_eq_getElem_cons→D8,getD_eq_getElem?_getD→an,getElem?_eq_getElem→aN,range'_succ→pE
open Option renaming map_some→fV
open Bool renaming false_eq_true→iQ,and_eq_true→bb,true_and→fH
open Nat renaming sub_zero→lI,mul_one→wY
namespace Go.Am
variable {P:Program} {N n0:Nat} {σ:St} {Q:Exit->St->Prop}
end Go.Am
namespace Go.Am
variable {P:Program} {N n0:Nat} {σ:St}
def yy(ag:Nat)(f:Nat->Value)(p:List Int×AV)(r:List (List Int×AV)):bQ ag f (p::r)=(kV ag p.1,f 0)::bQ ag (λj=>f (j+1)) r:=by
 unfold bQ;simp[Ag]
def Ja(x:Int):∀ (L:List (List Int×AV)) (f:Nat->Value) (g:Nat->Nat) (i:Nat),(∀ p∈L,p.1.length=1) ->
  Instr.findNow (.int .i64) (.int .i64 x) ((bQ 0 f L).mapIdx λj p=>(⟨p.1,p.2,g j⟩:MapEntry)) i=some ((cX [x] L i).map λq=>(q,f (q-i)))
 |[],_,_,_,_=>rfl
 |p::r,f,g,i,h=>by
  have hp:=h p Eb;obtain⟨l,v⟩:=p;obtain⟨y,rfl⟩:∃y,l=[y]:=List.length_eq_one_iff.1 hp;rw[yy];simp only[Ag,Instr.findNow,kV,if_true,List.headD_cons,Instr.sameNow,cX];by_cases gT:y=x
  ·subst gT;simp
  ·rw[if_neg (λe=>gT (by simpa using e))];have:(x==y)=false:=by simpa using λe=>gT e.symm
   rw[this];have ih:=Ja x r (λj=>f (j+1)) (λj=>g (j+1)) (i+1) (λq hq=>h q (by simp[hq]));simp only[ih];cases hf:cX [x] r (i+1) with
   |none=>rfl
   |some q =>
    have:=(oK hf).1;simp only[fV];rw[show q-(i+1)+1=q-i by omega]
def gg.int{t kt et:TypeId}(h1:P.underlying t=some (.map kt et))(h2:P.underlying kt=some (.int .i64)):gg P t 0:=by
 refine⟨kt,et,h1,λl hl=>?_⟩;obtain⟨x,rfl⟩:∃x,l=[x]:=List.length_eq_one_iff.1 hl;refine⟨λe w=>?_,λw=>?_,λf L w hL=>?_⟩
 ·exact run_checkKey h2 e x w
 ·have vt:Instr.sameBits 10000 (.int .i64 x) (.int .i64 x)=true:=by simp[Instr.sameBits]
  show(Instr.keyThatStays (.int .i64 x) (.int .i64 x)).run P w=_;simp[Instr.keyThatStays,vt,kV]
 ·have h:=Ja x L f id 0 hL;simp only[id]at h;show(Instr.findKey kt (.int .i64 x) (dz (bQ 0 f L)).toList).run P w=_;simp[Instr.findKey,run_underlying h2,oJ,h]
end Go.Am
namespace Go.Am
variable {P:Program} {N n0:Nat} {σ:St}
def p'{n:Nat}(hn:n≠0)(l:List Int):kV n l=.agg (l.map (Value.int .i64)).toArray:=by unfold kV;rw[if_neg hn]
def Pq{t:TypeId}{n:Nat}(h:mB P t n)(hn:n≠0)(w:World){as bs:List Int}(ha:as.length=n)(hb:bs.length=n):(Op.equal t (kV n as) (kV n bs)).run P w=.ok (decide (as=bs)) w:=by
 rw[p' hn,p' hn];exact h w as bs ha hb
def BT{t:TypeId}{n:Nat}(h:mB P t n)(hn:n≠0){l:List Int}(hl:l.length=n)(w:World):∀ (L:List (List Int×AV)) (f:Nat->Value) (g:Nat->Nat) (i:Nat),(∀ p∈L,p.1.length=n) ->
  (Instr.findAsking t (kV n l) ((bQ n f L).mapIdx λj p=>(⟨p.1,p.2,g j⟩:MapEntry)) i).run P w=.ok ((cX l L i).map λq=>(q,f (q-i))) w
 |[],_,_,_,_=>rfl
 |p::r,f,g,i,hL=>by
  have hp:=hL p Eb;rw[yy];have he:=Pq h hn w hl hp;simp only[Ag,Instr.findAsking,Sem.run_bind,he,Result.andThen_ok,Sem.run_ite,cX];by_cases gT:p.1=l
  ·rw[if_pos gT];simp[gT.symm]
  ·rw[if_neg gT,if_neg (by simpa using λe=>gT e.symm)];have ih:=BT h hn hl w r (λj=>f (j+1)) (λj=>g (j+1)) (i+1) (λq hq=>hL q (by simp[hq]));rw[ih];cases hf:cX l r (i+1) with
   |none=>rfl
   |some q =>
    have:=(oK hf).1;simp only[fV];rw[show q-(i+1)+1=q-i by omega]
def BU(k:Nat):∀ (l:List Int),((l.map (Value.int .i64)).zip (l.map (Value.int .i64))).all (λ(x,y)=>Instr.sameBits k x y)=true
 |[]=>rfl
 |x::r=>by
  simp only[List.map_cons,List.zip_cons_cons,w4,BU k r,Bool.and_true];cases k<;>simp[Instr.sameBits]
def yz(w:World){ft:TypeId}(hf:P.underlying ft=some (.int .i64)){l:List Int}{o:Nat}(ho:o<l.length):(part ft (l.map (Value.int .i64)).toArray o).run P w=.ok (.int .i64 (l.getD o 0)) w:=by
 have hx:((l.map (Value.int .i64)).toArray)[o]?=some (.int .i64 (l.getD o 0)):=by simp[ho]
 simp only[part,isAgg,Sem.run_bind,run_underlying hf,Result.andThen_ok,Sem.run_pure,iQ,if_false,Sem.run_ite,hx]
def Jb{ft:TypeId}(hf:P.underlying ft=some (.int .i64))(e:Bool)(x:Int)(k:Nat)(w:World):(Instr.checkKey e (k+1) ft (.int .i64 x)).run P w=.ok () w:=by
 simp[Instr.checkKey,run_underlying hf]
def BV(P : Program)(n : Nat)(fs : List Field): Bool := fs.all λf => f.name != "_" && decide (f.offset < n) && (match P.underlying f.type with | some (.int .i64) => true | _ => false)
def Ps {P : Program} {n : Nat} {f : Field} (h : (f.name != "_" && decide (f.offset < n) && (match P.underlying f.type with | some (.int .i64) => true | _ => false)) = true) : f.name ≠ "_" /\ f.offset < n /\ P.underlying f.type = some (.int .i64) := by
 simp only[bb,bne_iff_ne,decide_eq_true_eq]at h;refine⟨h.1.1,h.1.2,?_⟩;have h2:=h.2;split at h2
 ·assumption
 ·cases h2
def Pt{kt:TypeId}{n:Nat}{fs:Array Field}(h2:P.underlying kt=some (.struct fs))(hn:n≠0)(oM:BV P n fs.toList=true)(l:List Int)(hl:l.length=n)(e:Bool)(w:World):(Instr.checkKey e 10000 kt (kV n l)).run P w=.ok () w:=by
 rw[p' hn,show(10000:Nat)=9999+1 from rfl,Instr.checkKey];simp only[Sem.run_bind,run_underlying h2,Result.andThen_ok];rw[<- Array.forIn_toList];generalize fs.toList=L at oM
 induction L with
 |nil=>simp
 |cons f r ih =>
  unfold BV at oM;rw[w4,bb]at oM;obtain⟨a1,a2,a3⟩:=Ps oM.1;have p1:=yz (P:=P) w a3 (l:=l) (o:=f.offset) z8;have p2:=Jb a3 e (l.getD f.offset 0) 9998 w;simp only[List.forIn_cons,Sem.run_bind,a1,ne_eq,not_false_eq_true,if_true,Result.andThen_ok,p1,p2,Sem.run_pure];exact ih oM.2
def gg.agg{t kt et:TypeId}{n:Nat}{fs:Array Field}(h1:P.underlying t=some (.map kt et))(h2:P.underlying kt=some (.struct fs))(h3:mB P kt n)(hn:n≠0)(h4:∀ (l:List Int),l.length=n->∀ e w,(Instr.checkKey e 10000 kt (kV n l)).run P w=.ok () w):gg P t n:=by
 have hk:e8 n=n:=by unfold e8;rw[if_neg hn]
 refine⟨kt,et,h1,λl hl=>?_⟩;rw[hk]at hl;refine⟨h4 l hl,λw=>?_,λf L w hL=>?_⟩
 ·have vt:Instr.sameBits 10000 (kV n l) (kV n l)=true:=by
   rw[p' hn];simp only[Instr.sameBits,beq_self_eq_true,fH];exact BU 9999 l
  simp[Instr.keyThatStays,vt]
 ·rw[hk]at hL;have h:=BT h3 hn hl w L f id 0 hL;simp only[id]at h;cases L with
  |nil=>simp[Instr.findKey,run_underlying h2,oJ,bQ,Instr.findNow,cX]
  |cons p r =>
   have BW:Instr.findNow (.struct fs) (kV n l) (dz (bQ n f (p::r))).toList 0=none:=by
    rw[oJ,yy];simp only[Ag,Instr.findNow,p' hn,Instr.sameNow]
   simp only[Instr.findKey,Sem.run_bind,run_underlying h2,Result.andThen_ok,BW];rw[oJ];exact h
def gg.struct{t kt et:TypeId}{n:Nat}{fs:Array Field}(h1:P.underlying t=some (.map kt et))(h2:P.underlying kt=some (.struct fs))(hn:n≠0)(h3:AM P 2 kt n=true)(h4:BV P n fs.toList=true):gg P t n :=
 gg.agg h1 h2 (mB.of 2 h3) hn (Pt h2 hn h4)
end Go.Am
namespace Go.Am
variable {P:Program}
def Jc{e:TypeId}(h1:(P.info? e).isSome=true)(h2:P.cellsOf e=1)(w:World):(sizeOf e).run P w=.ok 1 w:=by
 obtain⟨i,hi⟩:=Option.isSome_iff_exists.1 h1;rw[<- h2];simp[sizeOf,typeInfo,Program.cellsOf,hi,run_program]
def mB.arr{t e:TypeId}{n:Nat}(h1:P.underlying t=some (.array n e))(h2:P.underlying e=some (.int .i64))(h3:(P.info? e).isSome=true)(h4:P.cellsOf e=1):mB P t n:=by
 intro w as bs ha hb;rw[show(10000:Nat)=9999+1 from rfl,Op.equalIn];simp only[Sem.run_bind,run_underlying h1,Result.andThen_ok,Jc h3 h4,Std.Legacy.Range.forIn_eq_forIn_range',Std.Legacy.Range.size,lI,Nat.add_one_sub_one,Nat.div_one,wY];have key:∀ (k o:Nat),o+k=n->(Sem.run P (forIn (g8 o k 1) ((none,()):Option Bool×Unit) λi __s=>do
    let a ← part e (xd (Value.int IntKind.i64) as).toArray i
    let b ← part e (xd (Value.int IntKind.i64) bs).toArray i
    let c ← Op.equalIn 9999 e a b
    if(!c)=true then pure (ForInStep.done (some false,())) else pure (ForInStep.yield (none,()))) w)=.ok (if as.drop o=bs.drop o then(none,()) else(some false,())) w:=by
  intro k
  induction k with
  |zero =>
   intro o ho;rw[dF z8,dF z8];simp
  |succ k ih =>
   intro o ho;have p1:=yz (P:=P) w h2 (l:=as) (o:=o) z8;have p2:=yz (P:=P) w h2 (l:=bs) (o:=o) z8;have e1:=run_equalIn_int w 9998 e .i64 .i64 (as.getD o 0) (bs.getD o 0) h2;have d1:as.drop o=as.getD o 0::as.drop (o+1):=by rw[D8 z8,an,aN z8];rfl
   have d2:bs.drop o=bs.getD o 0::bs.drop (o+1):=by rw[D8 z8,an,aN z8];rfl
   simp only[pE,List.forIn_cons,Sem.run_bind,p1,p2,Result.andThen_ok,e1,Sem.run_ite];rw[d1,d2];by_cases h:as.getD o 0=bs.getD o 0
   ·simp only[h,BEq.rfl,Bool.not_true,iQ,if_false,Sem.run_pure,Result.andThen_ok];rw[ih (o+1) z8];simp
   ·have h':(as.getD o 0==bs.getD o 0)=false:=by simpa using h
    simp only[h',Bool.not_false,if_true,Sem.run_pure,Result.andThen_ok];rw[if_neg λhh=>h (List.cons.inj hh).1]
 have:=key n 0 z8;rw[this];by_cases h:as=bs
 ·simp[h]
 ·simp[h]
def Pu{kt e:TypeId}{n:Nat}(h1:P.underlying kt=some (.array n e))(h2:P.underlying e=some (.int .i64))(h3:(P.info? e).isSome=true)(h4:P.cellsOf e=1)(hn:n≠0)(l:List Int)(hl:l.length=n)(b:Bool)(w:World):(Instr.checkKey b 10000 kt (kV n l)).run P w=.ok () w:=by
 rw[p' hn,show(10000:Nat)=9999+1 from rfl,Instr.checkKey];simp only[Sem.run_bind,run_underlying h1,Result.andThen_ok,Std.Legacy.Range.forIn_eq_forIn_range',Std.Legacy.Range.size,lI,Nat.add_one_sub_one,Nat.div_one];have key:∀ (k o:Nat),o+k=n->(Sem.run P (forIn (g8 o k 1) PUnit.unit λi __s=>do
    let s ← sizeOf e
    let a ← part e (xd (Value.int IntKind.i64) l).toArray (i*s)
    Instr.checkKey b 9999 e a
    pure (ForInStep.yield PUnit.unit)) w)=.ok PUnit.unit w:=by
  intro k
  induction k with
  |zero=>intro o ho;simp
  |succ k ih =>
   intro o ho;have p1:=yz (P:=P) w h2 (l:=l) (o:=o) z8;have p2:=Jb h2 b (l.getD o 0) 9998 w;simp only[pE,List.forIn_cons,Sem.run_bind,Jc h3 h4,wY,Result.andThen_ok,p1,p2,Sem.run_pure];have:=ih (o+1) z8;simpa only[Sem.run_bind,wY] using this
 have:=key n 0 z8;rw[this];simp
def gg.arr{t kt et e:TypeId}{n:Nat}(h1:P.underlying t=some (.map kt et))(h2:P.underlying kt=some (.array n e))(hn:n≠0)(h3:P.underlying e=some (.int .i64))(h4:(P.info? e).isSome=true)(h5:P.cellsOf e=1):gg P t n:=by
 have hk:e8 n=n:=by unfold e8;rw[if_neg hn]
 refine⟨kt,et,h1,λl hl=>?_⟩;rw[hk]at hl;refine⟨Pu h2 h3 h4 h5 hn l hl,λw=>?_,λf L w hL=>?_⟩
 ·have vt:Instr.sameBits 10000 (kV n l) (kV n l)=true:=by
   rw[p' hn];simp only[Instr.sameBits,beq_self_eq_true,fH];exact BU 9999 l
  simp[Instr.keyThatStays,vt]
 ·rw[hk]at hL;have h:=BT (mB.arr h2 h3 h4 h5) hn hl w L f id 0 hL;simp only[id]at h;cases L with
  |nil=>simp[Instr.findKey,run_underlying h2,oJ,bQ,Instr.findNow,cX]
  |cons p r =>
   have BW:Instr.findNow (.array n e) (kV n l) (dz (bQ n f (p::r))).toList 0=none:=by
    rw[oJ,yy];simp only[Ag,Instr.findNow,p' hn,Instr.sameNow]
   simp only[Instr.findKey,Sem.run_bind,run_underlying h2,Result.andThen_ok,BW];rw[oJ];exact h
end Go.Am

