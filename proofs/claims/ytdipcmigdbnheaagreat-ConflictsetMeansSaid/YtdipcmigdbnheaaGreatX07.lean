import Derived.Test.YtdipcmigdbnheaaGreatX06
import Derived.Test.YtdipcmigdbnheaaGreatX05
set_option linter.unusedVariables false
set_option linter.unusedSimpArgs false
set_option linter.unnecessarySimpa false
set_option linter.unusedSectionVars false
set_option maxHeartbeats 64000000
set_option maxRecDepth 20000
open List renaming mapIdx_cons→JM,all_cons→B2
open Option renaming map_some→gf
open Bool renaming and_eq_true→bk
namespace Go.Am
variable {P:Program} {N n0:Nat} {σ:St} {Q:Exit→St→Prop}
def NJ (v v':AV):Prop:=v'=v∨(v=.lit (.slice none 0 0)∧∃ s,v'=.tree s [])
def Dj:List AV→List AV→Prop
  | [],[]=>True
  | c::cs,d::ds=>NJ c d∧Dj cs ds
  | _,_=>False
theorem Dj.get:∀ {cs ds:List AV},Dj cs ds→cs.length=ds.length∧∀ (j:Nat) d,ds[j]?=some d→∃ c,cs[j]?=some c∧NJ c d
  | [],[],_=>⟨rfl,by simp⟩
  | c::cs,d::ds,h=>by
    obtain ⟨a,b⟩:=Dj.get h.2
    refine⟨by simp[a],fun j d' hd=>?_⟩
    cases j with
    | zero=>simp at hd;subst hd;exact⟨c,rfl,h.1⟩
    | succ j=>exact b j d' (by simpa using hd)
  | [],_::_,h=>h.elim
  | _::_,[],h=>h.elim
end Go.Am
namespace Go.Am
variable {P:Program} {N n0:Nat} {σ:St} {Q:Exit→St→Prop}
end Go.Am
namespace Go.Am
theorem an.Zb {P:Program} {f:FuncId} {args:List AV} {aa a8 NK:List Ob} {res NL:AV} (h:an P f args aa res a8) (ht:aB aa.length ⟨fun k=>[res].getD k .undef,a8⟩ ⟨fun k=>[NL].getD k .undef,NK⟩):an P f args aa NL NK:=by
  obtain ⟨hc,h⟩:=h
  refine⟨hc,fun γ jS iK=>Calls.mono (h γ jS iK) ?_⟩
  rintro e w' ⟨cv,aF,h1,h2,h3,h4,h5⟩
  obtain ⟨z6,a1,a2,a3,a4⟩:=ht aa γ aF rfl h4 h5
  exact⟨cv,z6,h1,a1.trans h2,a2.trans h3,a3,a4⟩
theorem aB.Zc {n0:Nat} {v v':AV} {os:List Ob} (h:∀ (w:World) (Z:Nat→Prop) (blk:fQ) (cv:Value),ay os w Z blk v cv→ay os w Z blk v' cv):aB n0 ⟨fun k=>[v].getD k .undef,os⟩ ⟨fun k=>[v'].getD k .undef,os⟩:=by
  intro os0 γ0 γ _ hs hf
  refine⟨γ,rfl,rfl,⟨fun k=>?_,hs.ez,hs.inj,hs.nz,hs.gG⟩,hf⟩
  have:=hs.aw k
  cases k with
  | zero=>exact h _ _ _ _ this
  | succ k=>exact this
theorem ay.GP {os:List Ob} {w:World} {Z:Nat→Prop} {blk:fQ} {a b c:AV} {cv:Value} (h:ay os w Z blk (.bG [a,b,c]) cv):ay os w Z blk (.bG [a,.undef,c]) cv:=by
  cases h with
  | bW _ _ h=>cases h
  | bG _ aZ hs h =>
    refine .bG _ aZ hs fun j x hx=>?_
    match j,hx with
    | 0,hx=>exact h 0 x hx
    | 1,hx=>cases hx;exact .undef _
    | 2,hx=>exact h 2 x hx
theorem an.GP {P:Program} {f:FuncId} {args:List AV} {aa a8:List Ob} {a b c:AV} (h:an P f args aa (.bG [a,b,c]) a8):an P f args aa (.bG [a,.undef,c]) a8:=h.Zb (aB.Zc fun _ _ _ _ h=>h.GP)
end Go.Am
namespace Go.Am
variable {P:Program} {N n0:Nat} {σ:St}
theorem GQ (ag:Nat) (f:Nat→Value) (p:List Int × AV) (r:List (List Int × AV)):dr ag f (p::r)=(kV ag p.1,f 0)::dr ag (fun j=>f (j+1)) r:=by
  unfold dr;simp[JM]
theorem NM (x:Int):∀ (L:List (List Int × AV)) (f:Nat→Value) (g:Nat→Nat) (i:Nat),(∀ p∈L,p.1.length=1) →
    Instr.findNow (.int .i64) (.int .i64 x) ((dr 0 f L).mapIdx fun j p=>(⟨p.1,p.2,g j⟩:MapEntry)) i=some ((jx [x] L i).map fun q=>(q,f (q - i)))
  | [],_,_,_,_=>rfl
  | p::r,f,g,i,h=>by
    have hp:=h p (by simp)
    obtain ⟨l,v⟩:=p
    obtain ⟨y,rfl⟩ :∃y,l=[y]:=List.length_eq_one_iff.1 hp
    rw[GQ]
    simp only[JM,Instr.findNow,kV,if_true,List.headD_cons,Instr.sameNow,jx]
    by_cases mz:y=x
    · subst mz
      simp
    · rw[if_neg (fun e=>mz (by simpa using e))]
      have:(x == y)=false:=by simpa using fun e=>mz e.symm
      rw[this]
      have ih:=NM x r (fun j=>f (j+1)) (fun j=>g (j+1)) (i+1) (fun q hq=>h q (by simp[hq]))
      simp only[ih]
      cases hf:jx [x] r (i+1) with
      | none=>rfl
      | some q =>
        have:=(wM hf).1
        simp only[gf]
        rw[show q - (i+1)+1=q - i by omega]
theorem ke.int {t kt et:TypeId} (h1:P.underlying t=some (.map kt et)) (h2:P.underlying kt=some (.int .i64)):ke P t 0:=by
  refine⟨kt,et,h1,fun l hl=>?_⟩
  obtain ⟨x,rfl⟩ :∃x,l=[x]:=List.length_eq_one_iff.1 hl
  refine⟨fun e w=>?_,fun w=>?_,fun f L w hL=>?_⟩
  · exact run_checkKey h2 e x w
  · have GR:Instr.sameBits 10000 (.int .i64 x) (.int .i64 x)=true:=by simp[Instr.sameBits]
    show (Instr.keyThatStays (.int .i64 x) (.int .i64 x)).run P w=_
    simp[Instr.keyThatStays,GR,kV]
  · have h:=NM x L f id 0 hL
    simp only[id] at h
    show (Instr.findKey kt (.int .i64 x) (fS (dr 0 f L)).toList).run P w=_
    simp[Instr.findKey,run_underlying h2,yg,h]
end Go.Am
namespace Go.Am
variable {P:Program} {N n0:Nat} {σ:St}
theorem Az {n:Nat} (hn:n≠0) (l:List Int):kV n l=.agg (l.map (Value.int .i64)).toArray:=by unfold kV;rw[if_neg hn]
theorem Zd {t:TypeId} {n:Nat} (h:u4 P t n) (hn:n≠0) (w:World) {as bs:List Int} (ha:as.length=n) (hb:bs.length=n):(Op.equal t (kV n as) (kV n bs)).run P w=.ok (decide (as=bs)) w:=by
  rw[Az hn,Az hn]
  exact h w as bs ha hb
theorem NN {t:TypeId} {n:Nat} (h:u4 P t n) (hn:n≠0) {l:List Int} (hl:l.length=n) (w:World):∀ (L:List (List Int × AV)) (f:Nat→Value) (g:Nat→Nat) (i:Nat),(∀ p∈L,p.1.length=n) →
    (Instr.findAsking t (kV n l) ((dr n f L).mapIdx fun j p=>(⟨p.1,p.2,g j⟩:MapEntry)) i).run P w=.ok ((jx l L i).map fun q=>(q,f (q - i))) w
  | [],_,_,_,_=>rfl
  | p::r,f,g,i,hL=>by
    have hp:=hL p (by simp)
    rw[GQ]
    have he:=Zd h hn w hl hp
    simp only[JM,Instr.findAsking,Sem.run_bind,he,Result.andThen_ok,Sem.run_ite,jx]
    by_cases mz:p.1=l
    · rw[if_pos mz]
      simp[mz.symm]
    · rw[if_neg mz,if_neg (by simpa using fun e=>mz e.symm)]
      have ih:=NN h hn hl w r (fun j=>f (j+1)) (fun j=>g (j+1)) (i+1) (fun q hq=>hL q (by simp[hq]))
      rw[ih]
      cases hf:jx l r (i+1) with
      | none=>rfl
      | some q =>
        have:=(wM hf).1
        simp only[gf]
        rw[show q - (i+1)+1=q - i by omega]
theorem NO (k:Nat):∀ (l:List Int),((l.map (Value.int .i64)).zip (l.map (Value.int .i64))).all (fun (x,y)=>Instr.sameBits k x y)=true
  | []=>rfl
  | x::r=>by
    simp only[List.map_cons,List.zip_cons_cons,B2,NO k r,Bool.and_true]
    cases k<;>simp[Instr.sameBits]
theorem Ze (w:World) {ft:TypeId} (hf:P.underlying ft=some (.int .i64)) {l:List Int} {o:Nat} (ho:o<l.length):(part ft (l.map (Value.int .i64)).toArray o).run P w=.ok (.int .i64 (l.getD o 0)) w:=by
  have hx:((l.map (Value.int .i64)).toArray)[o]?=some (.int .i64 (l.getD o 0)):=by simp[ho]
  simp only[part,isAgg,Sem.run_bind,run_underlying hf,Result.andThen_ok,Sem.run_pure,Bool.false_eq_true,if_false,Sem.run_ite,hx]
theorem Zg {ft:TypeId} (hf:P.underlying ft=some (.int .i64)) (e:Bool) (x:Int) (k:Nat) (w:World):(Instr.checkKey e (k+1) ft (.int .i64 x)).run P w=.ok () w:=by
  simp[Instr.checkKey,run_underlying hf]
def GU (P : Program) (n : Nat) (fs : List Field) : Bool := fs.all fun f => f.name != "_" && decide (f.offset < n) && (match P.underlying f.type with | some (.int .i64) => true | _ => false)
theorem Zh {P : Program} {n : Nat} {f : Field} (h : (f.name != "_" && decide (f.offset < n) && (match P.underlying f.type with | some (.int .i64) => true | _ => false)) = true) : f.name ≠ "_" ∧ f.offset < n ∧ P.underlying f.type = some (.int .i64) := by
  simp only[bk,bne_iff_ne,decide_eq_true_eq] at h
  refine⟨h.1.1,h.1.2,?_⟩
  have h2:=h.2
  split at h2
  · assumption
  · cases h2
theorem Zi {kt:TypeId} {n:Nat} {fs:Array Field} (h2:P.underlying kt=some (.struct fs)) (hn:n≠0) (tV:GU P n fs.toList=true) (l:List Int) (hl:l.length=n) (e:Bool) (w:World):(Instr.checkKey e 10000 kt (kV n l)).run P w=.ok () w:=by
  rw[Az hn,show (10000:Nat)=9999+1 from rfl,Instr.checkKey]
  simp only[Sem.run_bind,run_underlying h2,Result.andThen_ok]
  rw[← Array.forIn_toList]
  generalize fs.toList=L at tV
  induction L with
  | nil=>simp
  | cons f r ih =>
    unfold GU at tV
    rw[B2,bk] at tV
    obtain ⟨a1,a2,a3⟩:=Zh tV.1
    have p1:=Ze (P:=P) w a3 (l:=l) (o:=f.offset) (by omega)
    have p2:=Zg a3 e (l.getD f.offset 0) 9998 w
    simp only[List.forIn_cons,Sem.run_bind,a1,ne_eq,not_false_eq_true,if_true,Result.andThen_ok,p1,p2,Sem.run_pure]
    exact ih tV.2
theorem ke.agg {t kt et:TypeId} {n:Nat} {fs:Array Field} (h1:P.underlying t=some (.map kt et)) (h2:P.underlying kt=some (.struct fs)) (h3:u4 P kt n) (hn:n≠0)
    (h4:∀ (l:List Int),l.length=n→∀ e w,(Instr.checkKey e 10000 kt (kV n l)).run P w=.ok () w):ke P t n:=by
  have hk:jH n=n:=by unfold jH;rw[if_neg hn]
  refine⟨kt,et,h1,fun l hl=>?_⟩
  rw[hk] at hl
  refine⟨h4 l hl,fun w=>?_,fun f L w hL=>?_⟩
  · have GR:Instr.sameBits 10000 (kV n l) (kV n l)=true:=by
      rw[Az hn]
      simp only[Instr.sameBits,beq_self_eq_true,Bool.true_and]
      exact NO 9999 l
    simp[Instr.keyThatStays,GR]
  · rw[hk] at hL
    have h:=NN h3 hn hl w L f id 0 hL
    simp only[id] at h
    cases L with
    | nil=>simp[Instr.findKey,run_underlying h2,yg,dr,Instr.findNow,jx]
    | cons p r =>
      have Zj:Instr.findNow (.struct fs) (kV n l) (fS (dr n f (p::r))).toList 0=none:=by
        rw[yg,GQ]
        simp only[JM,Instr.findNow,Az hn,Instr.sameNow]
      simp only[Instr.findKey,Sem.run_bind,run_underlying h2,Result.andThen_ok,Zj]
      rw[yg]
      exact h
theorem ke.struct {t kt et:TypeId} {n:Nat} {fs:Array Field} (h1:P.underlying t=some (.map kt et)) (h2:P.underlying kt=some (.struct fs)) (hn:n≠0) (h3:GG P 2 kt n=true) (h4:GU P n fs.toList=true):ke P t n :=
  ke.agg h1 h2 (u4.of 2 h3) hn (Zi h2 hn h4)
end Go.Am

