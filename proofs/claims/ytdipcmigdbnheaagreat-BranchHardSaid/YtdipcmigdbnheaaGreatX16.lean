import Derived.Test.YtdipcmigdbnheaaGreatX13
import Derived.Test.YtdipcmigdbnheaaGreatX08
import Derived.Test.YtdipcmigdbnheaaGreatX12
set_option linter.unusedVariables false
set_option linter.unusedSimpArgs false
set_option linter.unnecessarySimpa false
set_option linter.unusedSectionVars false
set_option maxHeartbeats 64000000
set_option maxRecDepth 20000
open List renaming mapIdx_cons→K4,all_cons→C5
open Option renaming map_some→ed,some→da
open Bool renaming and_eq_true→bh
namespace Go.Am
variable {P:Program} {N n0:Nat} {σ:St} {Q:Exit→St→Prop}
end Go.Am
namespace Go.Am
theorem ao.ab9 {P:Program} {f:FuncId} {args:List AV} {aa ba TM:List Ob} {res TN:AV} (h:ao P f args aa res ba) (ht:aA aa.length ⟨fun k=>[res].getD k .undef,ba⟩ ⟨fun k=>[TN].getD k .undef,TM⟩):ao P f args aa TN TM:=by
  obtain ⟨hc,h⟩:=h
  refine⟨hc,fun γ jL iD=>Calls.mono (h γ jL iD) ?_⟩
  rintro e w' ⟨cv,aB,h1,h2,h3,h4,h5⟩
  obtain ⟨Hb,a1,a2,a3,a4⟩:=ht aa γ aB rfl h4 h5
  exact⟨cv,Hb,h1,a1.trans h2,a2.trans h3,a3,a4⟩
theorem aA.ab' {n0:Nat} {v v':AV} {os:List Ob} (h:∀ (w:World) (Z:Nat→Prop) (blk:fU) (cv:Value),aw os w Z blk v cv→aw os w Z blk v' cv):aA n0 ⟨fun k=>[v].getD k .undef,os⟩ ⟨fun k=>[v'].getD k .undef,os⟩:=by
  intro os0 γ0 γ _ hs hf
  refine⟨γ,rfl,rfl,⟨fun k=>?_,hs.er,hs.inj,hs.nz,hs.gB⟩,hf⟩
  have:=hs.av k
  cases k with
  | zero=>exact h _ _ _ _ this
  | succ k=>exact this
theorem aw.IV {os:List Ob} {w:World} {Z:Nat→Prop} {blk:fU} {a b c:AV} {cv:Value} (h:aw os w Z blk (.bL [a,b,c]) cv):aw os w Z blk (.bL [a,.undef,c]) cv:=by
  cases h with
  | cd _ _ h=>cases h
  | bL _ aY hs h =>
    refine .bL _ aY hs fun j x hx=>?_
    match j,hx with
    | 0,hx=>exact h 0 x hx
    | 1,hx=>cases hx;exact .undef _
    | 2,hx=>exact h 2 x hx
theorem ao.IV {P:Program} {f:FuncId} {args:List AV} {aa ba:List Ob} {a b c:AV} (h:ao P f args aa (.bL [a,b,c]) ba):ao P f args aa (.bL [a,.undef,c]) ba:=h.ab9 (aA.ab' fun _ _ _ _ h=>h.IV)
end Go.Am
namespace Go.Am
variable {P:Program} {N n0:Nat} {σ:St}
theorem IW (ag:Nat) (f:Nat→Value) (p:List Int × AV) (r:List (List Int × AV)):dy ag f (p::r)=(kV ag p.1,f 0)::dy ag (fun j=>f (j+1)) r:=by
  unfold dy;simp[K4]
theorem TO (x:Int):∀ (L:List (List Int × AV)) (f:Nat→Value) (g:Nat→Nat) (i:Nat),(∀ p∈L,p.1.length=1) →
    Instr.findNow (.int .i64) (.int .i64 x) ((dy 0 f L).mapIdx fun j p=>(⟨p.1,p.2,g j⟩:MapEntry)) i=some ((jg [x] L i).map fun q=>(q,f (q - i)))
  | [],_,_,_,_=>rfl
  | p::r,f,g,i,h=>by
    have hp:=h p (by simp)
    obtain ⟨l,v⟩:=p
    obtain ⟨y,rfl⟩ :∃y,l=[y]:=List.length_eq_one_iff.1 hp
    rw[IW]
    simp only[K4,Instr.findNow,kV,if_true,List.headD_cons,Instr.sameNow,jg]
    by_cases nX:y=x
    · subst nX
      simp
    · rw[if_neg (fun e=>nX (by simpa using e))]
      have:(x == y)=false:=by simpa using fun e=>nX e.symm
      rw[this]
      have ih:=TO x r (fun j=>f (j+1)) (fun j=>g (j+1)) (i+1) (fun q hq=>h q (by simp[hq]))
      simp only[ih]
      cases hf:jg [x] r (i+1) with
      | none=>rfl
      | some q =>
        have:=(xe hf).1
        simp only[ed]
        rw[show q - (i+1)+1=q - i by omega]
theorem j7.int {t kt et:TypeId} (h1:P.underlying t=some (.map kt et)) (h2:P.underlying kt=some (.int .i64)):j7 P t 0:=by
  refine⟨kt,et,h1,fun l hl=>?_⟩
  obtain ⟨x,rfl⟩ :∃x,l=[x]:=List.length_eq_one_iff.1 hl
  refine⟨fun e w=>?_,fun w=>?_,fun f L w hL=>?_⟩
  · exact run_checkKey h2 e x w
  · have IX:Instr.sameBits 10000 (.int .i64 x) (.int .i64 x)=true:=by simp[Instr.sameBits]
    show (Instr.keyThatStays (.int .i64 x) (.int .i64 x)).run P w=_
    simp[Instr.keyThatStays,IX,kV]
  · have h:=TO x L f id 0 hL
    simp only[id] at h
    show (Instr.findKey kt (.int .i64 x) (fX (dy 0 f L)).toList).run P w=_
    simp[Instr.findKey,run_underlying h2,yZ,h]
end Go.Am
namespace Go.Am
variable {P:Program} {N n0:Nat} {σ:St}
theorem Ca {n:Nat} (hn:n≠0) (l:List Int):kV n l=.agg (l.map (Value.int .i64)).toArray:=by unfold kV;rw[if_neg hn]
theorem aca {t:TypeId} {n:Nat} (h:oQ P t n) (hn:n≠0) (w:World) {as bs:List Int} (ha:as.length=n) (hb:bs.length=n):(Op.equal t (kV n as) (kV n bs)).run P w=.ok (decide (as=bs)) w:=by
  rw[Ca hn,Ca hn]
  exact h w as bs ha hb
theorem TP {t:TypeId} {n:Nat} (h:oQ P t n) (hn:n≠0) {l:List Int} (hl:l.length=n) (w:World):∀ (L:List (List Int × AV)) (f:Nat→Value) (g:Nat→Nat) (i:Nat),(∀ p∈L,p.1.length=n) →
    (Instr.findAsking t (kV n l) ((dy n f L).mapIdx fun j p=>(⟨p.1,p.2,g j⟩:MapEntry)) i).run P w=.ok ((jg l L i).map fun q=>(q,f (q - i))) w
  | [],_,_,_,_=>rfl
  | p::r,f,g,i,hL=>by
    have hp:=hL p (by simp)
    rw[IW]
    have he:=aca h hn w hl hp
    simp only[K4,Instr.findAsking,Sem.run_bind,he,Result.andThen_ok,Sem.run_ite,jg]
    by_cases nX:p.1=l
    · rw[if_pos nX]
      simp[nX.symm]
    · rw[if_neg nX,if_neg (by simpa using fun e=>nX e.symm)]
      have ih:=TP h hn hl w r (fun j=>f (j+1)) (fun j=>g (j+1)) (i+1) (fun q hq=>hL q (by simp[hq]))
      rw[ih]
      cases hf:jg l r (i+1) with
      | none=>rfl
      | some q =>
        have:=(xe hf).1
        simp only[ed]
        rw[show q - (i+1)+1=q - i by omega]
theorem TQ (k:Nat):∀ (l:List Int),((l.map (Value.int .i64)).zip (l.map (Value.int .i64))).all (fun (x,y)=>Instr.sameBits k x y)=true
  | []=>rfl
  | x::r=>by
    simp only[List.map_cons,List.zip_cons_cons,C5,TQ k r,Bool.and_true]
    cases k<;>simp[Instr.sameBits]
theorem acb (w:World) {ft:TypeId} (hf:P.underlying ft=some (.int .i64)) {l:List Int} {o:Nat} (ho:o<l.length):(part ft (l.map (Value.int .i64)).toArray o).run P w=.ok (.int .i64 (l.getD o 0)) w:=by
  have hx:((l.map (Value.int .i64)).toArray)[o]?=some (.int .i64 (l.getD o 0)):=by simp[ho]
  simp only[part,isAgg,Sem.run_bind,run_underlying hf,Result.andThen_ok,Sem.run_pure,Bool.false_eq_true,if_false,Sem.run_ite,hx]
theorem acd {ft:TypeId} (hf:P.underlying ft=some (.int .i64)) (e:Bool) (x:Int) (k:Nat) (w:World):(Instr.checkKey e (k+1) ft (.int .i64 x)).run P w=.ok () w:=by
  simp[Instr.checkKey,run_underlying hf]
def IY (P : Program) (n : Nat) (fs : List Field) : Bool := fs.all fun f => f.name != "_" && decide (f.offset < n) && (match P.underlying f.type with | some (.int .i64) => true | _ => false)
theorem ace {P : Program} {n : Nat} {f : Field} (h : (f.name != "_" && decide (f.offset < n) && (match P.underlying f.type with | some (.int .i64) => true | _ => false)) = true) : f.name ≠ "_" ∧ f.offset < n ∧ P.underlying f.type = some (.int .i64) := by
  simp only[bh,bne_iff_ne,decide_eq_true_eq] at h
  refine⟨h.1.1,h.1.2,?_⟩
  have h2:=h.2
  split at h2
  · assumption
  · cases h2
theorem acf {kt:TypeId} {n:Nat} {fs:Array Field} (h2:P.underlying kt=some (.struct fs)) (hn:n≠0) (um:IY P n fs.toList=true) (l:List Int) (hl:l.length=n) (e:Bool) (w:World):(Instr.checkKey e 10000 kt (kV n l)).run P w=.ok () w:=by
  rw[Ca hn,show (10000:Nat)=9999+1 from rfl,Instr.checkKey]
  simp only[Sem.run_bind,run_underlying h2,Result.andThen_ok]
  rw[← Array.forIn_toList]
  generalize fs.toList=L at um
  induction L with
  | nil=>simp
  | cons f r ih =>
    unfold IY at um
    rw[C5,bh] at um
    obtain ⟨a1,a2,a3⟩:=ace um.1
    have p1:=acb (P:=P) w a3 (l:=l) (o:=f.offset) (by omega)
    have p2:=acd a3 e (l.getD f.offset 0) 9998 w
    simp only[List.forIn_cons,Sem.run_bind,a1,ne_eq,not_false_eq_true,if_true,Result.andThen_ok,p1,p2,Sem.run_pure]
    exact ih um.2
theorem j7.agg {t kt et:TypeId} {n:Nat} {fs:Array Field} (h1:P.underlying t=some (.map kt et)) (h2:P.underlying kt=some (.struct fs)) (h3:oQ P kt n) (hn:n≠0)
    (h4:∀ (l:List Int),l.length=n→∀ e w,(Instr.checkKey e 10000 kt (kV n l)).run P w=.ok () w):j7 P t n:=by
  have hk:jz n=n:=by unfold jz;rw[if_neg hn]
  refine⟨kt,et,h1,fun l hl=>?_⟩
  rw[hk] at hl
  refine⟨h4 l hl,fun w=>?_,fun f L w hL=>?_⟩
  · have IX:Instr.sameBits 10000 (kV n l) (kV n l)=true:=by
      rw[Ca hn]
      simp only[Instr.sameBits,beq_self_eq_true,Bool.true_and]
      exact TQ 9999 l
    simp[Instr.keyThatStays,IX]
  · rw[hk] at hL
    have h:=TP h3 hn hl w L f id 0 hL
    simp only[id] at h
    cases L with
    | nil=>simp[Instr.findKey,run_underlying h2,yZ,dy,Instr.findNow,jg]
    | cons p r =>
      have acg:Instr.findNow (.struct fs) (kV n l) (fX (dy n f (p::r))).toList 0=none:=by
        rw[yZ,IW]
        simp only[K4,Instr.findNow,Ca hn,Instr.sameNow]
      simp only[Instr.findKey,Sem.run_bind,run_underlying h2,Result.andThen_ok,acg]
      rw[yZ]
      exact h
theorem j7.struct {t kt et:TypeId} {n:Nat} {fs:Array Field} (h1:P.underlying t=some (.map kt et)) (h2:P.underlying kt=some (.struct fs)) (hn:n≠0) (h3:HK P 2 kt n=true) (h4:IY P n fs.toList=true):j7 P t n :=
  j7.agg h1 h2 (oQ.of 2 h3) hn (acf h2 hn h4)
end Go.Am
namespace Go.Am
variable {P:Program} {N n0:Nat} {σ:St}
theorem aA.ach (d id sz:Nat) {rows:List (List AV)} (ho:σ.aa[id]?=some (.arr sz rows)) (hd:σ.env d=.ref id sz 0 rows.length)
    (hw:∀ row∈rows,row.length=sz) (lS:∀ row∈rows,∀ v∈row,(∃ x,v=.lit x)∨∃ s r,v=.tree s r):aA n0 σ ⟨iG σ.env d (.tree sz rows),σ.aa.set id .gone⟩:=by
  intro os γ0 γ _ hs hf
  have xr:id<σ.aa.length:=(List.getElem?_eq_some_iff.1 ho).1
  let aB:Cx:={ γ with Z:=fun b=>γ.Z b∨∃ o cap,γ.blk id=some (b,o,cap) }
  let dT:=σ.aa.set id .gone
  have eN:∀ i,dT[i]?=if i=id then some .gone else σ.aa[i]?:=by
    intro i
    show (σ.aa.set id _)[i]?=_
    rw[List.getElem?_set]
    by_cases h1:i=id
    · subst h1;simp[xr]
    · simp[Ne.symm h1,h1]
  have hR:∀ v cv,aw σ.aa γ.w γ.Z γ.blk v cv→aw dT aB.w aB.Z aB.blk v cv:=fun v cv hv =>
    hv.mono (fun b hb=>⟨.inl hb,rfl⟩) (fun i o hi=>by
      rw[eN]
      by_cases h1:i=id
      · left;rw[if_pos h1]
      · rw[if_neg h1]
        by_cases hg:o=.gone
        · subst hg;exact .inl hi
        · exact .inr ⟨rfl,o,hi,Ob.jB hg⟩)
  have cq:∀ i,Live dT i→Live σ.aa i∧i≠id:=by
    rintro i ⟨o,hi,hg⟩
    rw[eN] at hi
    split at hi
    · simp at hi;exact absurd hi.symm hg
    · rename_i h2;exact⟨⟨o,hi,hg⟩,h2⟩
  have n6:Live σ.aa id:=⟨_,ho,by simp⟩
  have qN:=hs.av d
  rw[hd] at qN
  have jd:aw dT aB.w aB.Z aB.blk (.tree sz rows) (γ.tmps.getD d Go.undef):=by
    have dE:bV σ (fun x=>x≠id) (.tree sz rows) (.ref id sz 0 rows.length):=bV.flat ho hw rfl (by simp) lS
    exact .cd _ _ (dE.AQ hs (γc:=aB) (fun b hb=>.inl hb) rfl (fun x b o cap cN _ hb=>.inr ⟨o,cap,by rw[show id=x by simpa using (Decidable.not_not.1 cN).symm];exact hb⟩) _ qN)
  refine⟨aB,rfl,rfl,⟨fun k=>?_,?_,fun i j b o c o' c' hi hj=>hs.inj i j b o c o' c' (cq i hi).1 (cq j hj).1,?_,?_⟩,?_⟩
  · show aw dT aB.w aB.Z aB.blk (iG σ.env d (.tree sz rows) k) (γ.tmps.getD k Go.undef)
    simp only[iG]
    split
    · rename_i e;subst e;exact jd
    · exact hR _ _ (hs.av k)
  · intro i o hi
    have hi':dT[i]?=some o:=hi
    rw[eN] at hi'
    split at hi'
    · simp only[da.injEq] at hi';subst hi';trivial
    · by_cases hg:o=.gone
      · subst hg;trivial
      · exact (hs.er i o hi').mono hR rfl (fun _ _ _ _=>rfl)
  · rintro b ⟨i,o,c',hi,hb⟩ (hz | ⟨o',cap,cU⟩)
    · exact hs.nz b ⟨i,o,c',(cq i hi).1,hb⟩ hz
    · exact (cq i hi).2 (hs.inj i id b o c' o' cap (cq i hi).1 n6 hb cU)
  · rintro b (hz | ⟨o,cap,hb⟩)
    · exact hs.gB b hz
    · exact hs.blt n6 hb
  · refine⟨hf.lT,hf.tape,hf.output,hf.size,hf.fC,fun b hb=>.inl (hf.z0 b hb),?_,?_,by show os.length≤dT.length;simp[dT];exact hf.len,?_⟩
    · rintro b (hz | ⟨o,cap,hb⟩)
      · exact hf.z1 b hz
      · exact .inr (hf.own b ⟨id,o,cap,n6,hb⟩)
    · rintro b ⟨i,o,c',hi,hb⟩
      exact hf.own b ⟨i,o,c',(cq i hi).1,hb⟩
    · intro i hi hl
      obtain ⟨h1,x,x',hx,cX,hk⟩:=hf.kG i hi (cq i hl).1
      have il:Live dT i:=hl
      obtain ⟨o,dO,ql⟩:=il
      refine⟨h1,x,o,hx,dO,?_⟩
      rw[eN] at dO
      split at dO
      · simp at dO;exact absurd dO.symm ql
      · rw[cX] at dO
        simp only[da.injEq] at dO
        subst dO;exact hk
theorem fF.mono {P:Program} {f:FuncId} {args:List AV} {aa:List Ob} {ij TR:AV→List Ob→Prop} (h:fF P f args aa ij) (hp:∀ r os,ij r os→TR r os):fF P f args aa TR:=by
  refine⟨h.1,fun γ jL iD=>Calls.mono (h.2 γ jL iD) ?_⟩
  rintro e w' ⟨res,ba,cv,aB,h0,h1⟩
  exact⟨res,ba,cv,aB,hp _ _ h0,h1⟩
end Go.Am

