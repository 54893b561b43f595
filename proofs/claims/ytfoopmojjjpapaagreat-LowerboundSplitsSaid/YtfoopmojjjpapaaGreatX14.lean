import Derived.Test.YtfoopmojjjpapaaGreatX13
set_option linter.all false
set_option maxHeartbeats 0
set_option maxRecDepth 20000
open List renaming mapIdx_cons→KV,all_cons→Es
open Option renaming map_some→fc
open Bool renaming and_eq_true→bc
namespace Go.Am
variable {P:Program} {N n0:Nat} {σ:St} {Q:Exit->St->Prop}
end Go.Am
namespace Go.Am
def Holds.aix{P:Program}{f:FuncId}{args:List AV}{aa bh YP:List Ob}{res YQ:AV}(h:Holds P f args aa res bh)(ht:aD aa.length ⟨λk=>[res].getD k .undef,bh⟩ ⟨λk=>[YQ].getD k .undef,YP⟩):Holds P f args aa YQ YP:=by
 obtain⟨hc,h⟩:=h;refine⟨hc,λγ jD j5=>Calls.mono (h γ jD j5) ?_⟩;rintro e w'⟨cv,aC,h1,h2,h3,h4,h5⟩;obtain⟨EV,a1,a2,a3,a4⟩:=ht aa γ aC rfl h4 h5;exact⟨cv,EV,h1,a1.trans h2,a2.trans h3,a3,a4⟩
end Go.Am
namespace Go.Am
variable {P:Program} {N n0:Nat} {σ:St}
def Nq(ag:Nat)(f:Nat->Value)(p:List Int×AV)(r:List (List Int×AV)):dy ag f (p::r)=(kV ag p.1,f 0)::dy ag (λj=>f (j+1)) r:=by
 unfold dy;simp[KV]
def YR(x:Int):∀ (L:List (List Int×AV)) (f:Nat->Value) (g:Nat->Nat) (i:Nat),(∀ p∈L,p.1.length=1) ->
  Instr.findNow (.int .i64) (.int .i64 x) ((dy 0 f L).mapIdx λj p=>(⟨p.1,p.2,g j⟩:MapEntry)) i=some ((gX [x] L i).map λq=>(q,f (q-i)))
 |[],_,_,_,_=>rfl
 |p::r,f,g,i,h=>by
  have hp:=h p G9;obtain⟨l,v⟩:=p;obtain⟨y,rfl⟩:∃y,l=[y]:=List.length_eq_one_iff.1 hp;rw[Nq];simp only[KV,Instr.findNow,kV,if_true,List.headD_cons,Instr.sameNow,gX];by_cases rS:y=x
  ·subst rS;simp
  ·rw[if_neg (λe=>rS (by simpa using e))];have:(x==y)=false:=by simpa using λe=>rS e.symm
   rw[this];have ih:=YR x r (λj=>f (j+1)) (λj=>g (j+1)) (i+1) (λq hq=>h q (by simp[hq]));simp only[ih];cases hf:gX [x] r (i+1) with
   |none=>rfl
   |some q =>
    have:=(Bl hf).1;simp only[fc];rw[show q-(i+1)+1=q-i by omega]
def jM.int{t kt et:TypeId}(h1:P.underlying t=some (.map kt et))(h2:P.underlying kt=some (.int .i64)):jM P t 0:=by
 refine⟨kt,et,h1,λl hl=>?_⟩;obtain⟨x,rfl⟩:∃x,l=[x]:=List.length_eq_one_iff.1 hl;refine⟨λe w=>?_,λw=>?_,λf L w hL=>?_⟩
 ·exact run_checkKey h2 e x w
 ·have Fy:Instr.sameBits 10000 (.int .i64 x) (.int .i64 x)=true:=by simp[Instr.sameBits]
  show(Instr.keyThatStays (.int .i64 x) (.int .i64 x)).run P w=_;simp[Instr.keyThatStays,Fy,kV]
 ·have h:=YR x L f id 0 hL;simp only[id]at h;show(Instr.findKey kt (.int .i64 x) (c9 (dy 0 f L)).toList).run P w=_;simp[Instr.findKey,run_underlying h2,uD,h]
end Go.Am
namespace Go.Am
variable {P:Program} {N n0:Nat} {σ:St}
def Fz{n:Nat}(hn:n≠0)(l:List Int):kV n l=.agg (l.map (Value.int .i64)).toArray:=by unfold kV;rw[if_neg hn]
def aiy{t:TypeId}{n:Nat}(h:xj P t n)(hn:n≠0)(w:World){as bs:List Int}(ha:as.length=n)(hb:bs.length=n):(Op.equal t (kV n as) (kV n bs)).run P w=.ok (decide (as=bs)) w:=by
 rw[Fz hn,Fz hn];exact h w as bs ha hb
def YS{t:TypeId}{n:Nat}(h:xj P t n)(hn:n≠0){l:List Int}(hl:l.length=n)(w:World):∀ (L:List (List Int×AV)) (f:Nat->Value) (g:Nat->Nat) (i:Nat),(∀ p∈L,p.1.length=n) ->
  (Instr.findAsking t (kV n l) ((dy n f L).mapIdx λj p=>(⟨p.1,p.2,g j⟩:MapEntry)) i).run P w=.ok ((gX l L i).map λq=>(q,f (q-i))) w
 |[],_,_,_,_=>rfl
 |p::r,f,g,i,hL=>by
  have hp:=hL p G9;rw[Nq];have he:=aiy h hn w hl hp;simp only[KV,Instr.findAsking,Sem.run_bind,he,Result.andThen_ok,Sem.run_ite,gX];by_cases rS:p.1=l
  ·rw[if_pos rS];simp[rS.symm]
  ·rw[if_neg rS,if_neg (by simpa using λe=>rS e.symm)];have ih:=YS h hn hl w r (λj=>f (j+1)) (λj=>g (j+1)) (i+1) (λq hq=>hL q (by simp[hq]));rw[ih];cases hf:gX l r (i+1) with
   |none=>rfl
   |some q =>
    have:=(Bl hf).1;simp only[fc];rw[show q-(i+1)+1=q-i by omega]
def YT(k:Nat):∀ (l:List Int),((l.map (Value.int .i64)).zip (l.map (Value.int .i64))).all (λ(x,y)=>Instr.sameBits k x y)=true
 |[]=>rfl
 |x::r=>by
  simp only[List.map_cons,List.zip_cons_cons,Es,YT k r,Bool.and_true];cases k<;>simp[Instr.sameBits]
def aiz(w:World){ft:TypeId}(hf:P.underlying ft=some (.int .i64)){l:List Int}{o:Nat}(ho:o<l.length):(part ft (l.map (Value.int .i64)).toArray o).run P w=.ok (.int .i64 (l.getD o 0)) w:=by
 have hx:((l.map (Value.int .i64)).toArray)[o]?=some (.int .i64 (l.getD o 0)):=by simp[ho]
 simp only[part,isAgg,Sem.run_bind,run_underlying hf,Result.andThen_ok,Sem.run_pure,Bool.false_eq_true,if_false,Sem.run_ite,hx]
def aiA{ft:TypeId}(hf:P.underlying ft=some (.int .i64))(e:Bool)(x:Int)(k:Nat)(w:World):(Instr.checkKey e (k+1) ft (.int .i64 x)).run P w=.ok () w:=by
 simp[Instr.checkKey,run_underlying hf]
def ID(P : Program)(n : Nat)(fs : List Field): Bool := fs.all λf => f.name != "_" && decide (f.offset < n) && (match P.underlying f.type with | some (.int .i64) => true | _ => false)
def aiB {P : Program} {n : Nat} {f : Field} (h : (f.name != "_" && decide (f.offset < n) && (match P.underlying f.type with | some (.int .i64) => true | _ => false)) = true) : f.name ≠ "_" /\ f.offset < n /\ P.underlying f.type = some (.int .i64) := by
 simp only[bc,bne_iff_ne,decide_eq_true_eq]at h;refine⟨h.1.1,h.1.2,?_⟩;have h2:=h.2;split at h2
 ·assumption
 ·cases h2
def aiC{kt:TypeId}{n:Nat}{fs:Array Field}(h2:P.underlying kt=some (.struct fs))(hn:n≠0)(jh:ID P n fs.toList=true)(l:List Int)(hl:l.length=n)(e:Bool)(w:World):(Instr.checkKey e 10000 kt (kV n l)).run P w=.ok () w:=by
 rw[Fz hn,show(10000:Nat)=9999+1 from rfl,Instr.checkKey];simp only[Sem.run_bind,run_underlying h2,Result.andThen_ok];rw[<- Array.forIn_toList];generalize fs.toList=L at jh
 induction L with
 |nil=>simp
 |cons f r ih =>
  unfold ID at jh;rw[Es,bc]at jh;obtain⟨a1,a2,a3⟩:=aiB jh.1;have p1:=aiz (P:=P) w a3 (l:=l) (o:=f.offset) Ey;have p2:=aiA a3 e (l.getD f.offset 0) 9998 w;simp only[List.forIn_cons,Sem.run_bind,a1,ne_eq,not_false_eq_true,if_true,Result.andThen_ok,p1,p2,Sem.run_pure];exact ih jh.2
def jM.agg{t kt et:TypeId}{n:Nat}{fs:Array Field}(h1:P.underlying t=some (.map kt et))(h2:P.underlying kt=some (.struct fs))(h3:xj P kt n)(hn:n≠0)(h4:∀ (l:List Int),l.length=n->∀ e w,(Instr.checkKey e 10000 kt (kV n l)).run P w=.ok () w):jM P t n:=by
 have hk:kQ n=n:=by unfold kQ;rw[if_neg hn]
 refine⟨kt,et,h1,λl hl=>?_⟩;rw[hk]at hl;refine⟨h4 l hl,λw=>?_,λf L w hL=>?_⟩
 ·have Fy:Instr.sameBits 10000 (kV n l) (kV n l)=true:=by
   rw[Fz hn];simp only[Instr.sameBits,beq_self_eq_true,Bool.true_and];exact YT 9999 l
  simp[Instr.keyThatStays,Fy]
 ·rw[hk]at hL;have h:=YS h3 hn hl w L f id 0 hL;simp only[id]at h;cases L with
  |nil=>simp[Instr.findKey,run_underlying h2,uD,dy,Instr.findNow,gX]
  |cons p r =>
   have aiD:Instr.findNow (.struct fs) (kV n l) (c9 (dy n f (p::r))).toList 0=none:=by
    rw[uD,Nq];simp only[KV,Instr.findNow,Fz hn,Instr.sameNow]
   simp only[Instr.findKey,Sem.run_bind,run_underlying h2,Result.andThen_ok,aiD];rw[uD];exact h
def jM.struct{t kt et:TypeId}{n:Nat}{fs:Array Field}(h1:P.underlying t=some (.map kt et))(h2:P.underlying kt=some (.struct fs))(hn:n≠0)(h3:H' P 2 kt n=true)(h4:ID P n fs.toList=true):jM P t n :=
 jM.agg h1 h2 (xj.of 2 h3) hn (aiC h2 hn h4)
def YU(P:Program)(kt:TypeId)(n:Nat):Bool:=match P.underlying kt with
 |some (.struct fs)=>ID P n fs.toList
 |_=>false
def jM.aii{t kt et:TypeId}{n:Nat}(h1:P.underlying t=some (.map kt et))(h2:YU P kt n=true)(hn:n≠0)(h3:H' P 2 kt n=true):jM P t n:=by
 unfold YU at h2;split at h2
 ·rename_i fs jh;exact jM.struct h1 jh hn h3 h2
 ·cases h2
end Go.Am

