import Derived.Test.YtodilglobhifaaaGreatDoorX14
import Derived.Test.YtodilglobhifaaaGreatDoorX15
set_option linter.all false
set_option maxHeartbeats 0
set_option maxRecDepth 20000
open List renaming mapIdx_cons→Ds,all_cons→An,range'→jJ,map→AA,drop_eq_nil_of_le→dw,drop_eq_getElem_cons→Hj,getD_eq_getElem?_getD→aw,getElem?_eq_getElem→bc,range'_succ→sC
open Option renaming map_some→g9
open Bool renaming false_eq_true→j7,and_eq_true→bd,true_and→iD
open Nat renaming sub_zero→nP,mul_one→Al
namespace Go.Am
variable {P:Program} {N n0:Nat} {σ:St} {Q:Exit->St->Prop}
end Go.Am
namespace Go.Am
variable {P:Program} {N n0:Nat} {σ:St}
def BL(ag:Nat)(f:Nat->Value)(p:List Int×AV)(r:List (List Int×AV)):cw ag f (p::r)=(kV ag p.1,f 0)::cw ag (λj=>f (j+1)) r:=by
 unfold cw;simp[Ds]
def NO(x:Int):∀ (L:List (List Int×AV)) (f:Nat->Value) (g:Nat->Nat) (i:Nat),(∀ p∈L,p.1.length=1) ->
  Instr.findNow (.int .i64) (.int .i64 x) ((cw 0 f L).mapIdx λj p=>(⟨p.1,p.2,g j⟩:MapEntry)) i=some ((dP [x] L i).map λq=>(q,f (q-i)))
 |[],_,_,_,_=>rfl
 |p::r,f,g,i,h=>by
  have hp:=h p Dg;obtain⟨l,v⟩:=p;obtain⟨y,rfl⟩:∃y,l=[y]:=List.length_eq_one_iff.1 hp;rw[BL];simp only[Ds,Instr.findNow,kV,if_true,List.headD_cons,Instr.sameNow,dP];by_cases fJ:y=x
  ·subst fJ;simp
  ·rw[if_neg (λe=>fJ (by simpa using e))];have:(x==y)=false:=by simpa using λe=>fJ e.symm
   rw[this];have ih:=NO x r (λj=>f (j+1)) (λj=>g (j+1)) (i+1) (λq hq=>h q (by simp[hq]));simp only[ih];cases hf:dP [x] r (i+1) with
   |none=>rfl
   |some q =>
    have:=(rq hf).1;simp only[g9];rw[show q-(i+1)+1=q-i by omega]
def gF.int{t kt et:TypeId}(h1:P.underlying t=some (.map kt et))(h2:P.underlying kt=some (.int .i64)):gF P t 0:=by
 refine⟨kt,et,h1,λl hl=>?_⟩;obtain⟨x,rfl⟩:∃x,l=[x]:=List.length_eq_one_iff.1 hl;refine⟨λe w=>?_,λw=>?_,λf L w hL=>?_⟩
 ·exact run_checkKey h2 e x w
 ·have yQ:Instr.sameBits 10000 (.int .i64 x) (.int .i64 x)=true:=by simp[Instr.sameBits]
  show(Instr.keyThatStays (.int .i64 x) (.int .i64 x)).run P w=_;simp[Instr.keyThatStays,yQ,kV]
 ·have h:=NO x L f id 0 hL;simp only[id]at h;show(Instr.findKey kt (.int .i64 x) (eN (cw 0 f L)).toList).run P w=_;simp[Instr.findKey,run_underlying h2,rp,h]
end Go.Am
namespace Go.Am
variable {P:Program} {N n0:Nat} {σ:St}
def ta{n:Nat}(hn:n≠0)(l:List Int):kV n l=.agg (l.map (Value.int .i64)).toArray:=by unfold kV;rw[if_neg hn]
def UD{t:TypeId}{n:Nat}(h:m7 P t n)(hn:n≠0)(w:World){as bs:List Int}(ha:as.length=n)(hb:bs.length=n):(Op.equal t (kV n as) (kV n bs)).run P w=.ok (decide (as=bs)) w:=by
 rw[ta hn,ta hn];exact h w as bs ha hb
def ER{t:TypeId}{n:Nat}(h:m7 P t n)(hn:n≠0){l:List Int}(hl:l.length=n)(w:World):∀ (L:List (List Int×AV)) (f:Nat->Value) (g:Nat->Nat) (i:Nat),(∀ p∈L,p.1.length=n) ->
  (Instr.findAsking t (kV n l) ((cw n f L).mapIdx λj p=>(⟨p.1,p.2,g j⟩:MapEntry)) i).run P w=.ok ((dP l L i).map λq=>(q,f (q-i))) w
 |[],_,_,_,_=>rfl
 |p::r,f,g,i,hL=>by
  have hp:=hL p Dg;rw[BL];have he:=UD h hn w hl hp;simp only[Ds,Instr.findAsking,Sem.run_bind,he,Result.andThen_ok,Sem.run_ite,dP];by_cases fJ:p.1=l
  ·rw[if_pos fJ];simp[fJ.symm]
  ·rw[if_neg fJ,if_neg (by simpa using λe=>fJ e.symm)];have ih:=ER h hn hl w r (λj=>f (j+1)) (λj=>g (j+1)) (i+1) (λq hq=>hL q (by simp[hq]));rw[ih];cases hf:dP l r (i+1) with
   |none=>rfl
   |some q =>
    have:=(rq hf).1;simp only[g9];rw[show q-(i+1)+1=q-i by omega]
def ES(k:Nat):∀ (l:List Int),((l.map (Value.int .i64)).zip (l.map (Value.int .i64))).all (λ(x,y)=>Instr.sameBits k x y)=true
 |[]=>rfl
 |x::r=>by
  simp only[List.map_cons,List.zip_cons_cons,An,ES k r,Bool.and_true];cases k<;>simp[Instr.sameBits]
def BM(w:World){ft:TypeId}(hf:P.underlying ft=some (.int .i64)){l:List Int}{o:Nat}(ho:o<l.length):(part ft (l.map (Value.int .i64)).toArray o).run P w=.ok (.int .i64 (l.getD o 0)) w:=by
 have hx:((l.map (Value.int .i64)).toArray)[o]?=some (.int .i64 (l.getD o 0)):=by simp[ho]
 simp only[part,isAgg,Sem.run_bind,run_underlying hf,Result.andThen_ok,Sem.run_pure,j7,if_false,Sem.run_ite,hx]
def NP{ft:TypeId}(hf:P.underlying ft=some (.int .i64))(e:Bool)(x:Int)(k:Nat)(w:World):(Instr.checkKey e (k+1) ft (.int .i64 x)).run P w=.ok () w:=by
 simp[Instr.checkKey,run_underlying hf]
def ET(P : Program)(n : Nat)(fs : List Field): Bool := fs.all λf => f.name != "_" && decide (f.offset < n) && (match P.underlying f.type with | some (.int .i64) => true | _ => false)
def UE {P : Program} {n : Nat} {f : Field} (h : (f.name != "_" && decide (f.offset < n) && (match P.underlying f.type with | some (.int .i64) => true | _ => false)) = true) : f.name ≠ "_" /\ f.offset < n /\ P.underlying f.type = some (.int .i64) := by
 simp only[bd,bne_iff_ne,decide_eq_true_eq]at h;refine⟨h.1.1,h.1.2,?_⟩;have h2:=h.2;split at h2
 ·assumption
 ·cases h2
def UF{kt:TypeId}{n:Nat}{fs:Array Field}(h2:P.underlying kt=some (.struct fs))(hn:n≠0)(og:ET P n fs.toList=true)(l:List Int)(hl:l.length=n)(e:Bool)(w:World):(Instr.checkKey e 10000 kt (kV n l)).run P w=.ok () w:=by
 rw[ta hn,show(10000:Nat)=9999+1 from rfl,Instr.checkKey];simp only[Sem.run_bind,run_underlying h2,Result.andThen_ok];rw[<- Array.forIn_toList];generalize fs.toList=L at og
 induction L with
 |nil=>simp
 |cons f r ih =>
  unfold ET at og;rw[An,bd]at og;obtain⟨a1,a2,a3⟩:=UE og.1;have p1:=BM (P:=P) w a3 (l:=l) (o:=f.offset) Ay;have p2:=NP a3 e (l.getD f.offset 0) 9998 w;simp only[List.forIn_cons,Sem.run_bind,a1,ne_eq,not_false_eq_true,if_true,Result.andThen_ok,p1,p2,Sem.run_pure];exact ih og.2
def gF.agg{t kt et:TypeId}{n:Nat}{fs:Array Field}(h1:P.underlying t=some (.map kt et))(h2:P.underlying kt=some (.struct fs))(h3:m7 P kt n)(hn:n≠0)(h4:∀ (l:List Int),l.length=n->∀ e w,(Instr.checkKey e 10000 kt (kV n l)).run P w=.ok () w):gF P t n:=by
 have hk:gA n=n:=by unfold gA;rw[if_neg hn]
 refine⟨kt,et,h1,λl hl=>?_⟩;rw[hk]at hl;refine⟨h4 l hl,λw=>?_,λf L w hL=>?_⟩
 ·have yQ:Instr.sameBits 10000 (kV n l) (kV n l)=true:=by
   rw[ta hn];simp only[Instr.sameBits,beq_self_eq_true,iD];exact ES 9999 l
  simp[Instr.keyThatStays,yQ]
 ·rw[hk]at hL;have h:=ER h3 hn hl w L f id 0 hL;simp only[id]at h;cases L with
  |nil=>simp[Instr.findKey,run_underlying h2,rp,cw,Instr.findNow,dP]
  |cons p r =>
   have EU:Instr.findNow (.struct fs) (kV n l) (eN (cw n f (p::r))).toList 0=none:=by
    rw[rp,BL];simp only[Ds,Instr.findNow,ta hn,Instr.sameNow]
   simp only[Instr.findKey,Sem.run_bind,run_underlying h2,Result.andThen_ok,EU];rw[rp];exact h
def gF.struct{t kt et:TypeId}{n:Nat}{fs:Array Field}(h1:P.underlying t=some (.map kt et))(h2:P.underlying kt=some (.struct fs))(hn:n≠0)(h3:DA P 2 kt n=true)(h4:ET P n fs.toList=true):gF P t n :=
 gF.agg h1 h2 (m7.of 2 h3) hn (UF h2 hn h4)
end Go.Am
namespace Go.Am
variable {P:Program}
def NQ{e:TypeId}(h1:(P.info? e).isSome=true)(h2:P.cellsOf e=1)(w:World):(sizeOf e).run P w=.ok 1 w:=by
 obtain⟨i,hi⟩:=Option.isSome_iff_exists.1 h1;rw[<- h2];simp[sizeOf,typeInfo,Program.cellsOf,hi,run_program]
def m7.arr{t e:TypeId}{n:Nat}(h1:P.underlying t=some (.array n e))(h2:P.underlying e=some (.int .i64))(h3:(P.info? e).isSome=true)(h4:P.cellsOf e=1):m7 P t n:=by
 intro w as bs ha hb;rw[show(10000:Nat)=9999+1 from rfl,Op.equalIn];simp only[Sem.run_bind,run_underlying h1,Result.andThen_ok,NQ h3 h4,Std.Legacy.Range.forIn_eq_forIn_range',Std.Legacy.Range.size,nP,Nat.add_one_sub_one,Nat.div_one,Al];have key:∀ (k o:Nat),o+k=n->(Sem.run P (forIn (jJ o k 1) ((none,()):Option Bool×Unit) λi __s=>do
    let a ← part e (AA (Value.int IntKind.i64) as).toArray i
    let b ← part e (AA (Value.int IntKind.i64) bs).toArray i
    let c ← Op.equalIn 9999 e a b
    if(!c)=true then pure (ForInStep.done (some false,())) else pure (ForInStep.yield (none,()))) w)=.ok (if as.drop o=bs.drop o then(none,()) else(some false,())) w:=by
  intro k
  induction k with
  |zero =>
   intro o ho;rw[dw Ay,dw Ay];simp
  |succ k ih =>
   intro o ho;have p1:=BM (P:=P) w h2 (l:=as) (o:=o) Ay;have p2:=BM (P:=P) w h2 (l:=bs) (o:=o) Ay;have e1:=run_equalIn_int w 9998 e .i64 .i64 (as.getD o 0) (bs.getD o 0) h2;have d1:as.drop o=as.getD o 0::as.drop (o+1):=by rw[Hj Ay,aw,bc Ay];rfl
   have d2:bs.drop o=bs.getD o 0::bs.drop (o+1):=by rw[Hj Ay,aw,bc Ay];rfl
   simp only[sC,List.forIn_cons,Sem.run_bind,p1,p2,Result.andThen_ok,e1,Sem.run_ite];rw[d1,d2];by_cases h:as.getD o 0=bs.getD o 0
   ·simp only[h,BEq.rfl,Bool.not_true,j7,if_false,Sem.run_pure,Result.andThen_ok];rw[ih (o+1) Ay];simp
   ·have h':(as.getD o 0==bs.getD o 0)=false:=by simpa using h
    simp only[h',Bool.not_false,if_true,Sem.run_pure,Result.andThen_ok];rw[if_neg λhh=>h (List.cons.inj hh).1]
 have:=key n 0 Ay;rw[this];by_cases h:as=bs
 ·simp[h]
 ·simp[h]
def UG{kt e:TypeId}{n:Nat}(h1:P.underlying kt=some (.array n e))(h2:P.underlying e=some (.int .i64))(h3:(P.info? e).isSome=true)(h4:P.cellsOf e=1)(hn:n≠0)(l:List Int)(hl:l.length=n)(b:Bool)(w:World):(Instr.checkKey b 10000 kt (kV n l)).run P w=.ok () w:=by
 rw[ta hn,show(10000:Nat)=9999+1 from rfl,Instr.checkKey];simp only[Sem.run_bind,run_underlying h1,Result.andThen_ok,Std.Legacy.Range.forIn_eq_forIn_range',Std.Legacy.Range.size,nP,Nat.add_one_sub_one,Nat.div_one];have key:∀ (k o:Nat),o+k=n->(Sem.run P (forIn (jJ o k 1) PUnit.unit λi __s=>do
    let s ← sizeOf e
    let a ← part e (AA (Value.int IntKind.i64) l).toArray (i*s)
    Instr.checkKey b 9999 e a
    pure (ForInStep.yield PUnit.unit)) w)=.ok PUnit.unit w:=by
  intro k
  induction k with
  |zero=>intro o ho;simp
  |succ k ih =>
   intro o ho;have p1:=BM (P:=P) w h2 (l:=l) (o:=o) Ay;have p2:=NP h2 b (l.getD o 0) 9998 w;simp only[sC,List.forIn_cons,Sem.run_bind,NQ h3 h4,Al,Result.andThen_ok,p1,p2,Sem.run_pure];have:=ih (o+1) Ay;simpa only[Sem.run_bind,Al] using this
 have:=key n 0 Ay;rw[this];simp
def gF.arr{t kt et e:TypeId}{n:Nat}(h1:P.underlying t=some (.map kt et))(h2:P.underlying kt=some (.array n e))(hn:n≠0)(h3:P.underlying e=some (.int .i64))(h4:(P.info? e).isSome=true)(h5:P.cellsOf e=1):gF P t n:=by
 have hk:gA n=n:=by unfold gA;rw[if_neg hn]
 refine⟨kt,et,h1,λl hl=>?_⟩;rw[hk]at hl;refine⟨UG h2 h3 h4 h5 hn l hl,λw=>?_,λf L w hL=>?_⟩
 ·have yQ:Instr.sameBits 10000 (kV n l) (kV n l)=true:=by
   rw[ta hn];simp only[Instr.sameBits,beq_self_eq_true,iD];exact ES 9999 l
  simp[Instr.keyThatStays,yQ]
 ·rw[hk]at hL;have h:=ER (m7.arr h2 h3 h4 h5) hn hl w L f id 0 hL;simp only[id]at h;cases L with
  |nil=>simp[Instr.findKey,run_underlying h2,rp,cw,Instr.findNow,dP]
  |cons p r =>
   have EU:Instr.findNow (.array n e) (kV n l) (eN (cw n f (p::r))).toList 0=none:=by
    rw[rp,BL];simp only[Ds,Instr.findNow,ta hn,Instr.sameNow]
   simp only[Instr.findKey,Sem.run_bind,run_underlying h2,Result.andThen_ok,EU];rw[rp];exact h
end Go.Am

