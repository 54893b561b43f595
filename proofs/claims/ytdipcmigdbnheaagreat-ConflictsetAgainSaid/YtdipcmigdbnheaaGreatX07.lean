import Derived.Test.YtdipcmigdbnheaaGreatX06
set_option linter.all false
set_option maxHeartbeats 0
set_option maxRecDepth 20000
open List renaming mapIdx_cons→Je,all_cons→Bv
open Option renaming map_some→fR
open Bool renaming and_eq_true→ba
namespace Go.Am
variable {P:Program} {N n0:Nat} {σ:St} {Q:Exit->St->Prop}
def M6(v v':AV):Prop:=v'=v\/(v=.lit (.slice none 0 0)/\∃ s,v'=.tree s [])
def CO:List AV->List AV->Prop
 |[],[]=>True
 |c::cs,d::ds=>M6 c d/\CO cs ds
 |_,_=>False
def CO.get:∀ {cs ds:List AV},CO cs ds->cs.length=ds.length/\∀ (j:Nat) d,ds[j]?=some d->∃ c,cs[j]?=some c/\M6 c d
 |[],[],_=>⟨rfl,Jd⟩
 |c::cs,d::ds,h=>by
  obtain⟨a,b⟩:=CO.get h.2;refine⟨by simp[a],λj d' hd=>?_⟩;cases j with
  |zero=>simp at hd;subst hd;exact⟨c,rfl,h.1⟩
  |succ j=>exact b j d' (by simpa using hd)
 |[],_::_,h=>h.elim
 |_::_,[],h=>h.elim
end Go.Am
namespace Go.Am
variable {P:Program} {N n0:Nat} {σ:St} {Q:Exit->St->Prop}
end Go.Am
namespace Go.Am
end Go.Am
namespace Go.Am
variable {P:Program} {N n0:Nat} {σ:St}
def Ge(ag:Nat)(f:Nat->Value)(p:List Int×AV)(r:List (List Int×AV)):dg ag f (p::r)=(kV ag p.1,f 0)::dg ag (λj=>f (j+1)) r:=by
 unfold dg;simp[Je]
def M7(x:Int):∀ (L:List (List Int×AV)) (f:Nat->Value) (g:Nat->Nat) (i:Nat),(∀ p∈L,p.1.length=1) ->
  Instr.findNow (.int .i64) (.int .i64 x) ((dg 0 f L).mapIdx λj p=>(⟨p.1,p.2,g j⟩:MapEntry)) i=some ((jg [x] L i).map λq=>(q,f (q-i)))
 |[],_,_,_,_=>rfl
 |p::r,f,g,i,h=>by
  have hp:=h p Jd;obtain⟨l,v⟩:=p;obtain⟨y,rfl⟩:∃y,l=[y]:=List.length_eq_one_iff.1 hp;rw[Ge];simp only[Je,Instr.findNow,kV,if_true,List.headD_cons,Instr.sameNow,jg];by_cases pQ:y=x
  ·subst pQ;simp
  ·rw[if_neg (λe=>pQ (by simpa using e))];have:(x==y)=false:=by simpa using λe=>pQ e.symm
   rw[this];have ih:=M7 x r (λj=>f (j+1)) (λj=>g (j+1)) (i+1) (λq hq=>h q (by simp[hq]));simp only[ih];cases hf:jg [x] r (i+1) with
   |none=>rfl
   |some q =>
    have:=(wj hf).1;simp only[fR];rw[show q-(i+1)+1=q-i by omega]
def j4.int{t kt et:TypeId}(h1:P.underlying t=some (.map kt et))(h2:P.underlying kt=some (.int .i64)):j4 P t 0:=by
 refine⟨kt,et,h1,λl hl=>?_⟩;obtain⟨x,rfl⟩:∃x,l=[x]:=List.length_eq_one_iff.1 hl;refine⟨λe w=>?_,λw=>?_,λf L w hL=>?_⟩
 ·exact run_checkKey h2 e x w
 ·have Gf:Instr.sameBits 10000 (.int .i64 x) (.int .i64 x)=true:=by simp[Instr.sameBits]
  show(Instr.keyThatStays (.int .i64 x) (.int .i64 x)).run P w=_;simp[Instr.keyThatStays,Gf,kV]
 ·have h:=M7 x L f id 0 hL;simp only[id]at h;show(Instr.findKey kt (.int .i64 x) (fI (dg 0 f L)).toList).run P w=_;simp[Instr.findKey,run_underlying h2,xO,h]
end Go.Am
namespace Go.Am
variable {P:Program} {N n0:Nat} {σ:St}
def z9{n:Nat}(hn:n≠0)(l:List Int):kV n l=.agg (l.map (Value.int .i64)).toArray:=by unfold kV;rw[if_neg hn]
def Yy{t:TypeId}{n:Nat}(h:uD P t n)(hn:n≠0)(w:World){as bs:List Int}(ha:as.length=n)(hb:bs.length=n):(Op.equal t (kV n as) (kV n bs)).run P w=.ok (decide (as=bs)) w:=by
 rw[z9 hn,z9 hn];exact h w as bs ha hb
def M8{t:TypeId}{n:Nat}(h:uD P t n)(hn:n≠0){l:List Int}(hl:l.length=n)(w:World):∀ (L:List (List Int×AV)) (f:Nat->Value) (g:Nat->Nat) (i:Nat),(∀ p∈L,p.1.length=n) ->
  (Instr.findAsking t (kV n l) ((dg n f L).mapIdx λj p=>(⟨p.1,p.2,g j⟩:MapEntry)) i).run P w=.ok ((jg l L i).map λq=>(q,f (q-i))) w
 |[],_,_,_,_=>rfl
 |p::r,f,g,i,hL=>by
  have hp:=hL p Jd;rw[Ge];have he:=Yy h hn w hl hp;simp only[Je,Instr.findAsking,Sem.run_bind,he,Result.andThen_ok,Sem.run_ite,jg];by_cases pQ:p.1=l
  ·rw[if_pos pQ];simp[pQ.symm]
  ·rw[if_neg pQ,if_neg (by simpa using λe=>pQ e.symm)];have ih:=M8 h hn hl w r (λj=>f (j+1)) (λj=>g (j+1)) (i+1) (λq hq=>hL q (by simp[hq]));rw[ih];cases hf:jg l r (i+1) with
   |none=>rfl
   |some q =>
    have:=(wj hf).1;simp only[fR];rw[show q-(i+1)+1=q-i by omega]
def M9(k:Nat):∀ (l:List Int),((l.map (Value.int .i64)).zip (l.map (Value.int .i64))).all (λ(x,y)=>Instr.sameBits k x y)=true
 |[]=>rfl
 |x::r=>by
  simp only[List.map_cons,List.zip_cons_cons,Bv,M9 k r,Bool.and_true];cases k<;>simp[Instr.sameBits]
def Yz(w:World){ft:TypeId}(hf:P.underlying ft=some (.int .i64)){l:List Int}{o:Nat}(ho:o<l.length):(part ft (l.map (Value.int .i64)).toArray o).run P w=.ok (.int .i64 (l.getD o 0)) w:=by
 have hx:((l.map (Value.int .i64)).toArray)[o]?=some (.int .i64 (l.getD o 0)):=by simp[ho]
 simp only[part,isAgg,Sem.run_bind,run_underlying hf,Result.andThen_ok,Sem.run_pure,Bool.false_eq_true,if_false,Sem.run_ite,hx]
def YA{ft:TypeId}(hf:P.underlying ft=some (.int .i64))(e:Bool)(x:Int)(k:Nat)(w:World):(Instr.checkKey e (k+1) ft (.int .i64 x)).run P w=.ok () w:=by
 simp[Instr.checkKey,run_underlying hf]
def Gg(P : Program)(n : Nat)(fs : List Field): Bool := fs.all λf => f.name != "_" && decide (f.offset < n) && (match P.underlying f.type with | some (.int .i64) => true | _ => false)
def YB {P : Program} {n : Nat} {f : Field} (h : (f.name != "_" && decide (f.offset < n) && (match P.underlying f.type with | some (.int .i64) => true | _ => false)) = true) : f.name ≠ "_" /\ f.offset < n /\ P.underlying f.type = some (.int .i64) := by
 simp only[ba,bne_iff_ne,decide_eq_true_eq]at h;refine⟨h.1.1,h.1.2,?_⟩;have h2:=h.2;split at h2
 ·assumption
 ·cases h2
def YC{kt:TypeId}{n:Nat}{fs:Array Field}(h2:P.underlying kt=some (.struct fs))(hn:n≠0)(tp:Gg P n fs.toList=true)(l:List Int)(hl:l.length=n)(e:Bool)(w:World):(Instr.checkKey e 10000 kt (kV n l)).run P w=.ok () w:=by
 rw[z9 hn,show(10000:Nat)=9999+1 from rfl,Instr.checkKey];simp only[Sem.run_bind,run_underlying h2,Result.andThen_ok];rw[<- Array.forIn_toList];generalize fs.toList=L at tp
 induction L with
 |nil=>simp
 |cons f r ih =>
  unfold Gg at tp;rw[Bv,ba]at tp;obtain⟨a1,a2,a3⟩:=YB tp.1;have p1:=Yz (P:=P) w a3 (l:=l) (o:=f.offset) I6;have p2:=YA a3 e (l.getD f.offset 0) 9998 w;simp only[List.forIn_cons,Sem.run_bind,a1,ne_eq,not_false_eq_true,if_true,Result.andThen_ok,p1,p2,Sem.run_pure];exact ih tp.2
def j4.agg{t kt et:TypeId}{n:Nat}{fs:Array Field}(h1:P.underlying t=some (.map kt et))(h2:P.underlying kt=some (.struct fs))(h3:uD P kt n)(hn:n≠0)(h4:∀ (l:List Int),l.length=n->∀ e w,(Instr.checkKey e 10000 kt (kV n l)).run P w=.ok () w):j4 P t n:=by
 have hk:jA n=n:=by unfold jA;rw[if_neg hn]
 refine⟨kt,et,h1,λl hl=>?_⟩;rw[hk]at hl;refine⟨h4 l hl,λw=>?_,λf L w hL=>?_⟩
 ·have Gf:Instr.sameBits 10000 (kV n l) (kV n l)=true:=by
   rw[z9 hn];simp only[Instr.sameBits,beq_self_eq_true,Bool.true_and];exact M9 9999 l
  simp[Instr.keyThatStays,Gf]
 ·rw[hk]at hL;have h:=M8 h3 hn hl w L f id 0 hL;simp only[id]at h;cases L with
  |nil=>simp[Instr.findKey,run_underlying h2,xO,dg,Instr.findNow,jg]
  |cons p r =>
   have YD:Instr.findNow (.struct fs) (kV n l) (fI (dg n f (p::r))).toList 0=none:=by
    rw[xO,Ge];simp only[Je,Instr.findNow,z9 hn,Instr.sameNow]
   simp only[Instr.findKey,Sem.run_bind,run_underlying h2,Result.andThen_ok,YD];rw[xO];exact h
def j4.struct{t kt et:TypeId}{n:Nat}{fs:Array Field}(h1:P.underlying t=some (.map kt et))(h2:P.underlying kt=some (.struct fs))(hn:n≠0)(h3:F6 P 2 kt n=true)(h4:Gg P n fs.toList=true):j4 P t n :=
 j4.agg h1 h2 (uD.of 2 h3) hn (YC h2 hn h4)
end Go.Am

