import Derived.Test.YtdipcmigdbnheaaGreatX06
import Derived.Test.YtdipcmigdbnheaaGreatX07
import Derived.Laws.StructEq
set_option linter.unusedVariables false
set_option linter.unusedSimpArgs false
set_option linter.unnecessarySimpa false
set_option linter.unusedSectionVars false
set_option maxHeartbeats 64000000
set_option maxRecDepth 20000
open List renaming all_eq_true→fK,mem_map→b7,range'→mz,tail→Gf,tail_drop→Gg,range→aT,range_eq_range'→vd,getElem?_eq_some_iff→aS,getElem?_eq_getElem→bI,getElem?_set→bS,getElem?_append_left→cj,drop_drop→Gm,take_append_drop→Aw,map_cons→cR,contains_iff_mem→q9,mem_filter→yy,mem_range→mA,getElem?_append_right→eE
open Bool renaming and_eq_true→bh,false_eq_true→jv,eq_iff_iff→mB
open Option renaming some→da
open Array renaming getElem?_eq_some_iff→oL
namespace Go.Am
variable {σ:St}
class Row {α:Type} (enc:α→List AV) (sz:outParam Nat):Prop where
  wid:∀ x,(enc x).length=sz
  ok:∀ x,∀ v∈enc x,(∃ y,v=.lit y∧y.oneCell'=true)∨∃ s r,v=.tree s r
def rowsOf {α:Type} (enc:α→List AV) (xs:List α):List (List AV):=xs.map enc
section
variable {α:Type} {enc:α→List AV} {sz:Nat}
theorem b5 (xs:List α):(rowsOf enc xs).length=xs.length:=by simp[rowsOf]
theorem gr [Inhabited α] (xs:List α) (i:Nat) (h:i<xs.length):(rowsOf enc xs).getD i []=enc (xs.getD i default):=by simp[rowsOf,h]
theorem zn [Inhabited α] (xs:List α) (i:Nat) (h:i<xs.length):(rowsOf enc xs)[i]?=some (enc (xs.getD i default)):=by simp[rowsOf,h]
theorem Nw (xs:List α):(rowsOf enc xs).take xs.length=rowsOf enc xs:=by rw[List.take_of_length_le (by simp[rowsOf])]
theorem HH (xs ys:List α):rowsOf enc xs++rowsOf enc ys=rowsOf enc (xs++ys):=by simp[rowsOf]
theorem l8 (xs:List α) (x:α):rowsOf enc xs++[enc x]=rowsOf enc (xs++[x]):=by simp[rowsOf]
theorem D5 (xs:List α) (i:Nat) (x:α):(rowsOf enc xs).set i (enc x)=rowsOf enc (xs.set i x):=by simp[rowsOf,List.map_set]
theorem Nx [Row enc sz] (x:α):(enc x).all cm=true:=by
  rw[fK]
  intro v hv
  rcases Row.ok (enc:=enc) x v hv with ⟨y,rfl,h⟩ | ⟨s,r,rfl⟩
  · simpa [cm] using h
  · rfl
theorem Bh [Row enc sz] (xs:List α):((rowsOf enc xs).all fun row=>row.all cm)=true:=by
  simp only[rowsOf,List.all_map,fK]
  intro x _
  exact Nx (enc:=enc) x
theorem ZJ {l:List AV} (h:∀ v∈l,gT v=true):iO l=true:=by
  induction l with
  | nil=>rfl
  | cons v l ih=>simp only[iO,bh];exact⟨h v (by simp),ih fun x hx=>h x (by simp[hx])⟩
theorem ZK [Row enc sz] (x:α):iO (enc x)=true:=ZJ fun v hv=>by
  rcases Row.ok (enc:=enc) x v hv with ⟨y,rfl,_⟩ | ⟨s,r,rfl⟩<;>rfl
theorem zo [Row enc sz] (ρ:Nat→Nat) (s:Nat) (xs:List α):bC ρ (.arr s (rowsOf enc xs))=.arr s (rowsOf enc xs):=AN (by
  intro row hr
  simp only[rowsOf,b7] at hr
  obtain ⟨x,_,rfl⟩:=hr
  exact ZK (enc:=enc) x)
theorem l9 [Row enc sz] (xs:List α):∀ row∈rowsOf enc xs,∀ v∈row,(∃ x,v=AV.lit x)∨∃ s r,v=AV.tree s r:=by
  intro row hr v hv
  simp only[rowsOf,b7] at hr
  obtain ⟨x,_,rfl⟩:=hr
  rcases Row.ok (enc:=enc) x v hv with ⟨y,rfl,_⟩ | h
  · exact .inl ⟨_,rfl⟩
  · exact .inr h
theorem fZ [Row enc sz] (xs:List α):∀ row∈rowsOf enc xs,row.length=sz:=by
  intro row hr
  simp only[rowsOf,b7] at hr
  obtain ⟨x,_,rfl⟩:=hr
  exact Row.wid (enc:=enc) x
end
structure bK where
  wk:Int
  day:Int
  st:Int
  len:Int
  room:Int
  ch:List (Int × Int)
  deriving Inhabited
structure Pr where
  fst:Int
  snd:Int
  cB:Int
  ax:List Int
  deriving Inhabited
structure Ld where
  cls:Int
  opt:Int
  wt:Int
  deriving Inhabited
structure Ct where
  cB:Int
  aK:List Ld
  most:Int
  bE:Int
  deriving Inhabited
structure ah where
  cls:List (List bK)
  ae:List Pr
  au:List Ct
  rules:Int
  deriving Inhabited
def i64 (n:Int):AV:=.lit (.int .i64 n)
def aG (c:Int × Int):List AV:=[.lit (.int .i64 c.1),.lit (.int .i64 c.2)]
def bX (o:bK):List AV:=[.lit (.int .i64 o.wk),.lit (.int .i64 o.day),.lit (.int .i64 o.st),.lit (.int .i64 o.len),.lit (.int .i64 o.room),.tree 2 (rowsOf aG o.ch)]
def bn (l:List bK):List AV:=[.tree 6 (rowsOf bX l)]
def aV (p:Pr):List AV:=[.lit (.int .i64 p.fst),.lit (.int .i64 p.snd),.lit (.int .i64 p.cB),.tree 1 (ints p.ax)]
def gG (l:Ld):List AV:=[.lit (.int .i64 l.cls),.lit (.int .i64 l.opt),.lit (.int .i64 l.wt)]
def aU (c:Ct):List AV:=[.lit (.int .i64 c.cB),.tree 3 (rowsOf gG c.aK),.lit (.int .i64 c.most),.lit (.int .i64 c.bE)]
def ar (m:ah):List AV:=[.tree 1 (rowsOf bn m.cls),.tree 4 (rowsOf aV m.ae),.tree 4 (rowsOf aU m.au),.lit (.int .i64 m.rules)]
theorem xq {l:List AV} (h:(l.all fun v=>match v with | .lit y=>y.oneCell' | .tree ..=>true | _=>false)=true):∀ v∈l,(∃ y,v=AV.lit y∧y.oneCell'=true)∨∃ s r,v=AV.tree s r:=by
  intro v hv
  have:=fK.1 h v hv
  cases v<;>simp at this
  · exact .inl ⟨_,rfl,this⟩
  · exact .inr ⟨_,_,rfl⟩
instance:Row aG 2:=⟨fun _=>rfl,fun _=>xq rfl⟩
instance:Row bX 6:=⟨fun _=>rfl,fun _=>xq rfl⟩
instance:Row bn 1:=⟨fun _=>rfl,fun _=>xq rfl⟩
instance:Row aV 4:=⟨fun _=>rfl,fun _=>xq rfl⟩
instance:Row gG 3:=⟨fun _=>rfl,fun _=>xq rfl⟩
instance:Row aU 4:=⟨fun _=>rfl,fun _=>xq rfl⟩
instance:Row ar 4:=⟨fun _=>rfl,fun _=>xq rfl⟩
end Go.Am
namespace Go.Am
variable {P:Program} {N n0:Nat} {σ:St} {Q:Exit→St→Prop}
def pL (P:Program) (ops:Array Oper) (qs:List Nat):Nat→List Oper→(St→Prop)→St→Prop
  | _,[],K,σ=>K σ
  | i,o::r,K,σ=>dV P ops (qs.contains i) o (pL P ops qs (i+1) r K) σ
theorem Ny {ops:Array Oper} {qs:List Nat} {i:Nat} {K:St→Prop}:pL P ops qs i [] K σ=K σ:=by simp only[pL]
theorem D6 {ops:Array Oper} {qs:List Nat} {i:Nat} {o:Oper} {r:List Oper} {K:St→Prop}:pL P ops qs i (o::r) K σ=dV P ops (qs.contains i) o (pL P ops qs (i+1) r K) σ:=by simp only[pL]
theorem HI {ops:Array Oper} {qs:List Nat} {K:St→Prop}:∀ (l:List Oper) (i:Nat) (σ:St),ops.toList.drop i=l→pL P ops qs i l K σ→iQ P ops qs (iR (mz i l.length)) K σ
  | [],i,σ,_,h=>h
  | o::r,i,σ,hl,h=>by
    have hi:ops[i]?=some o:=by
      have:(ops.toList.drop i)[0]?=some o:=by rw[hl];rfl
      simpa using this
    have hr:ops.toList.drop (i+1)=r:=by
      have:=congrArg Gf hl
      simpa [Gg] using this
    rw[List.length_cons,List.range'_succ]
    show cO P ops qs i (iQ P ops qs (iR (mz (i+1) r.length)) K) σ
    unfold cO
    simp only[hi]
    have hm:∀ s,pL P ops qs (i+1) r K s→iQ P ops qs (iR (mz (i+1) r.length)) K s:=fun s hs=>HI r (i+1) s hr hs
    exact AJ hm h
def D7 (ops:Array Oper) (qs:List Nat):Bool:=(iR (aT ops.size)).ok ops qs ops.size (Array.replicate ops.size false)
theorem Nz {id:Nat} {ops:Array Oper} {y:Code} (qs:List Nat) (hm:P.follows .mixedOrders=true) (hd:gm N ops=true) (ht:D7 ops qs=true) (h:∀ K:St→Prop,(∀ s,W P N n0 y Q s→K s)→pL P ops qs 0 ops.toList K σ) :
    W P N n0 (.seq (.region id ops true) y) Q σ :=
  Mn qs _ hm hd ht fun K hK=>by
    have:=HI (P:=P) (ops:=ops) (qs:=qs) ops.toList 0 σ rfl (h K hK)
    rw[vd]
    simpa using this
theorem D8 {id:Nat} {ops:Array Oper} (qs:List Nat) (hm:P.follows .mixedOrders=true) (hd:gm N ops=true) (ht:D7 ops qs=true) (h:∀ K:St→Prop,(∀ s,Q .normal s→K s)→pL P ops qs 0 ops.toList K σ) :
    W P N n0 (.region id ops true) Q σ :=
  oT qs _ hm hd ht (by
    have:=HI (P:=P) (ops:=ops) (qs:=qs) ops.toList 0 σ rfl (h _ (fun _ h=>h))
    rw[vd]
    simpa using this)
theorem bY {f:FuncId} {args:List AV} {dst:Option Tmp} {K:St→Prop} {res:AV} (h:ao P f args [] res []) (ha:iO args=true) (hr:gT res=true) (hK:K (σ.put dst res)):GM P f args dst K σ :=
  ⟨res,h,ha,hr,hK⟩
end Go.Am
namespace Go.Am
variable {P:Program} {N n0:Nat} {σ:St} {Q:Exit→St→Prop}
theorem br.HJ {σ:St} {γ:Cx} (h:br σ γ) {id:Nat} {cells cells':List AV} (ho:σ.aa[id]?=some (.var cells)) (hl:cells'.length=cells.length)
    (hc:∀ (c:Nat) v v',cells[c]?=some v→cells'[c]?=some v'→∀ cv,aw σ.aa γ.w γ.Z γ.blk v cv→aw σ.aa γ.w γ.Z γ.blk v' cv):br ⟨σ.env,σ.aa.set id (.var cells')⟩ γ:=by
  obtain ⟨b,cap,cur,t,h1,h2,h3,h4⟩:=h.er id _ ho
  have:=h.write (ob':=.var cells') ho (by simp) (by simp[Ob.dX,hl]) h1 (w':=γ.w) h2 (fun _ _=>rfl) rfl ⟨rfl,by rw[h3,hl],fun c v hv=>?_⟩
  · exact this
  · have bj:c<cells.length:=by rw[← hl];exact (aS.1 hv).1
    exact hc c _ v (bI bj) hv _ (h4 c _ (bI bj))
theorem Fr.HJ (os:List Ob) (γ:Cx) {id:Nat} {cells cells':List AV} (ho:os[id]?=some (.var cells)) (hl:cells'.length=cells.length):Fr os γ (os.set id (.var cells')) γ where
  lT:=rfl
  tape:=rfl
  output:=rfl
  size:=Nat.le_refl _
  fC:=fun _ _ _=>rfl
  z0:=fun _ h=>h
  z1:=fun _ h=>.inl h
  own:=by
    rintro b ⟨i,o,c,⟨x,hx,dD⟩,hb⟩
    rw[bS] at hx
    split at hx
    · rename_i e;subst e;exact .inl ⟨id,o,c,⟨_,ho,by simp⟩,hb⟩
    · exact .inl ⟨i,o,c,⟨x,hx,dD⟩,hb⟩
  len:=by simp
  kG:=by
    rintro i hi ⟨x,hx,dD⟩
    have hx0:=hx
    rw[bS] at hx
    split at hx
    · rename_i e;subst e
      exact⟨rfl,.var cells,.var cells',ho,by rw[bS];simp[hi],by simp[Ob.dX,hl]⟩
    · exact⟨rfl,x,x,hx,hx0,Ob.jB dD⟩
theorem aA.ma (id c sz:Nat) {cells:List AV} (ho:σ.aa[id]?=some (.var cells)) (hc:cells[c]?=some (.lit (.slice none 0 0))) (h0:0<sz) :
    aA n0 σ ⟨σ.env,(σ.aa++[Ob.arr sz []]).set id (.var (cells.set c (.ref σ.aa.length sz 0 0)))⟩:=by
  intro os γ0 γ _ hs hf
  have hp:=hs.w7 h0
  have cN:id<σ.aa.length:=(aS.1 ho).1
  have cf:(σ.aa++[Ob.arr sz []])[id]?=some (.var cells):=by rw[cj cN];exact ho
  refine⟨{ γ with blk:=cL γ.blk σ.aa.length none },rfl,rfl,?_,(hf.trans (Fr.w7 _ _ _)).trans (Fr.HJ _ _ cf (cells':=cells.set c (.ref σ.aa.length sz 0 0)) (by simp))⟩
  refine hp.HJ cf (cells':=cells.set c (.ref σ.aa.length sz 0 0)) (by simp) (fun k v v' hv oU cv hr=>?_)
  rw[bS] at oU
  split at oU
  · rename_i e;subst e
    split at oU
    · simp only[da.injEq] at oU
      subst oU
      have hk:cells[c]?=some v:=hv
      rw[hc] at hk
      simp only[da.injEq] at hk
      subst hk
      rw[hr.cH]
      exact .lC _ _ (List.getElem?_concat_length ..) (by simp[cL])
    · simp at oU
  · have hk:cells[k]?=some v':=oU
    have bQ:cells[k]?=some v:=hv
    rw[bQ] at hk
    simp only[da.injEq] at hk
    subst hk
    exact hr
theorem aA.vF (a id c sz:Nat) {cells:List AV} {rows:List (List AV)} (ho:σ.aa[id]?=some (.var cells)) (ha:σ.aa[a]?=some (.arr sz rows)) (hc:cells[c]?=some (.ref a sz 0 rows.length))
    (hw:∀ row∈rows,row.length=sz) (lS:∀ row∈rows,∀ v∈row,(∃ x,v=.lit x)∨∃ s r,v=.tree s r):aA n0 σ ⟨σ.env,(σ.aa.set a .gone).set id (.var (cells.set c (.tree sz rows)))⟩:=by
  intro os γ0 γ _ hs hf
  have Bi:a≠id:=by intro e;subst e;rw[ho] at ha;simp at ha
  have xr:id<σ.aa.length:=(aS.1 ho).1
  have ik:a<σ.aa.length:=(aS.1 ha).1
  let aB:Cx:={ γ with Z:=fun b=>γ.Z b∨∃ o cap,γ.blk a=some (b,o,cap) }
  let dT:=(σ.aa.set a .gone).set id (.var (cells.set c (.tree sz rows)))
  have eN:∀ i,dT[i]?=if i=id then some (.var (cells.set c (.tree sz rows))) else if i=a then some .gone else σ.aa[i]?:=by
    intro i
    show ((σ.aa.set a .gone).set id _)[i]?=_
    rw[bS,bS]
    by_cases h1:i=id
    · subst h1;simp[xr]
    · by_cases h2:i=a
      · subst h2;simp[Ne.symm h1,h1,ik]
      · simp[Ne.symm h1,Ne.symm h2,h1,h2]
  have hR:∀ v cv,aw σ.aa γ.w γ.Z γ.blk v cv→aw dT aB.w aB.Z aB.blk v cv:=fun v cv hv =>
    hv.mono (fun b hb=>⟨.inl hb,rfl⟩) (fun i o hi=>by
      rw[eN]
      by_cases h1:i=id
      · subst h1
        rw[ho] at hi
        simp only[da.injEq] at hi
        subst hi
        right
        exact⟨rfl,_,by rw[if_pos rfl],by simp[Ob.dX]⟩
      · rw[if_neg h1]
        by_cases h2:i=a
        · left;rw[if_pos h2]
        · rw[if_neg h2]
          by_cases hg:o=.gone
          · subst hg;exact .inl hi
          · exact .inr ⟨rfl,o,hi,Ob.jB hg⟩)
  have cq:∀ i,Live dT i→Live σ.aa i∧i≠a:=by
    rintro i ⟨o,hi,hg⟩
    rw[eN] at hi
    split at hi
    · rename_i h1;subst h1;exact⟨⟨_,ho,by simp⟩,Ne.symm Bi⟩
    · split at hi
      · simp at hi;exact absurd hi.symm hg
      · rename_i h2;exact⟨⟨o,hi,hg⟩,h2⟩
  have n6:Live σ.aa a:=⟨_,ha,by simp⟩
  refine⟨aB,rfl,rfl,⟨fun k=>hR _ _ (hs.av k),?_,fun i j b o c o' c' hi hj=>hs.inj i j b o c o' c' (cq i hi).1 (cq j hj).1,?_,?_⟩,?_⟩
  · intro i o hi
    have hi':dT[i]?=some o:=hi
    rw[eN] at hi'
    split at hi'
    · rename_i h1
      subst h1
      simp only[da.injEq] at hi'
      subst hi'
      obtain ⟨b,cap,cur,t,h1,h2,h3,h4⟩:=hs.er _ _ ho
      refine⟨b,cap,cur,t,h1,h2,by simpa using h3,fun k v hv=>?_⟩
      rw[bS] at hv
      split at hv
      · rename_i e
        subst e
        split at hv
        · simp only[da.injEq] at hv
          subst hv
          have dE:bV σ (fun x=>x≠a) (.tree sz rows) (.ref a sz 0 rows.length):=bV.flat ha hw rfl (by simp) lS
          exact .cd _ _ (dE.AQ hs (γc:=aB) (fun b hb=>.inl hb) rfl (fun x b o cap cN _ hb=>.inr ⟨o,cap,by rw[show a=x by simpa using (Decidable.not_not.1 cN).symm];exact hb⟩) _ (h4 c _ hc))
        · simp at hv
      · exact hR _ _ (h4 k v hv)
    · split at hi'
      · simp only[da.injEq] at hi';subst hi';trivial
      · by_cases hg:o=.gone
        · subst hg;trivial
        · exact (hs.er i o hi').mono hR rfl (fun _ _ _ _=>rfl)
  · rintro b ⟨i,o,c',hi,hb⟩ (hz | ⟨o',cap,cU⟩)
    · exact hs.nz b ⟨i,o,c',(cq i hi).1,hb⟩ hz
    · exact (cq i hi).2 (hs.inj i a b o c' o' cap (cq i hi).1 n6 hb cU)
  · rintro b (hz | ⟨o,cap,hb⟩)
    · exact hs.gB b hz
    · exact hs.blt n6 hb
  · refine⟨hf.lT,hf.tape,hf.output,hf.size,hf.fC,fun b hb=>.inl (hf.z0 b hb),?_,?_,by show os.length≤dT.length;simp[dT];exact hf.len,?_⟩
    · rintro b (hz | ⟨o,cap,hb⟩)
      · exact hf.z1 b hz
      · exact .inr (hf.own b ⟨a,o,cap,n6,hb⟩)
    · rintro b ⟨i,o,c',hi,hb⟩
      exact hf.own b ⟨i,o,c',(cq i hi).1,hb⟩
    · intro i hi hl
      obtain ⟨h1,x,x',hx,cX,hk⟩:=hf.kG i hi (cq i hl).1
      have A2:=(cq i hl).2
      have il:Live dT i:=hl
      obtain ⟨o,dO,ql⟩:=il
      refine⟨h1,x,o,hx,dO,?_⟩
      rw[eN] at dO
      split at dO
      · rename_i e
        subst e
        rw[ho] at cX
        simp only[da.injEq] at cX dO
        subst cX;subst dO
        refine Ob.HG hk (by simp[Ob.dX])
      · rw[cX] at dO
        simp only[da.injEq] at dO
        subst dO;exact hk
end Go.Am
namespace Go.Am
variable {P:Program}
def vG (P:Program):List Field→Nat→Nat→Bool
  | [],o,n=>o == n
  | f::fs,o,n=>f.offset == o && vG P fs (o+P.cellsOf f.type) n
def sR (P:Program):Nat→TypeId→Bool
  | 0,_=>false
  | d+1,t =>
    match P.underlying t with
    | some (.int .i64)=>P.cellsOf t == 1
    | some (.struct fs) => (P.info? t).isSome && !P.stoodInHeld t && vG P fs.toList 0 (P.cellsOf t) && fs.toList.all fun f => f.name != "_" && sR P d f.type
    | _=>false
def sS (P:Program) (t:TypeId) (xs:List Int):Value :=
  match P.underlying t with
  | some (.struct _)=>.agg (xs.map (Value.int .i64)).toArray
  | _=>.int .i64 (xs.getD 0 0)
theorem NA {as bs:List Int} {o c:Nat} (h:as.length=bs.length):as.drop o=bs.drop o↔(as.drop o).take c=(bs.drop o).take c∧as.drop (o+c)=bs.drop (o+c):=by
  constructor
  · intro e
    refine⟨by rw[e],?_⟩
    rw[← Gm,← Gm,e]
  · rintro ⟨e1,e2⟩
    rw[← Gm,← Gm] at e2
    rw[← Aw c (as.drop o),← Aw c (bs.drop o),e1,e2]
theorem NC (w:World) {d:Nat} {t:TypeId} (h:sR P d t=true) {as:List Int} {o:Nat} (ho:o+P.cellsOf t≤as.length) :
    (part t (as.map (Value.int .i64)).toArray o).run P w=.ok (sS P t ((as.drop o).take (P.cellsOf t))) w:=by
  cases d with
  | zero=>simp[sR] at h
  | succ d =>
    unfold sR at h
    cases hu:P.underlying t with
    | none=>simp[hu] at h
    | some k =>
      rw[hu] at h
      cases k<;>try (simp at h;done)
      case int q =>
        cases q<;>try (simp at h;done)
        have hc:P.cellsOf t=1:=by simpa using h
        rw[hc] at ho
        have hx:((as.map (Value.int .i64)).toArray)[o]?=some (.int .i64 (as.getD o 0)):=by
          have:o<as.length:=by omega
          simp[this]
        simp only[part,isAgg,Sem.run_bind,run_underlying hu,Result.andThen_ok,Sem.run_pure,jv,if_false,Sem.run_ite,hx]
        have:o<as.length:=by omega
        simp[sS,hu,hc,this]
      case struct fs =>
        simp only[bh] at h
        obtain ⟨i,hi⟩:=Option.isSome_iff_exists.1 h.1.1.1
        have hs:∀ w,(sizeOf t).run P w=.ok (P.cellsOf t) w:=fun w=>by
          simp[sizeOf,typeInfo,Program.cellsOf,hi,run_program]
        simp only[part,isAgg,Sem.run_bind,run_underlying hu,Result.andThen_ok,Sem.run_pure,if_true,Sem.run_ite,hs]
        simp only[sS,hu]
        congr 2
        simp[List.map_take,List.map_drop]
theorem ND {D d:Nat} (ih:∀ t,sR P d t=true→∀ (w:World) (as bs:List Int),as.length=P.cellsOf t→bs.length=P.cellsOf t→(Op.equalIn (D+d) t (sS P t as) (sS P t bs)).run P w=.ok (decide (as=bs)) w) {as bs:List Int} (hl:as.length=bs.length) :
    ∀ (fs : List Field) (o : Nat) (w : World), vG P fs o as.length = true → (fs.all fun f => f.name != "_" && sR P d f.type) = true →
      o+(fs.map fun f=>P.cellsOf f.type).sum=as.length→(Op.eqFields (D+d) (as.map (Value.int .i64)).toArray (bs.map (Value.int .i64)).toArray fs).run P w=.ok (decide (as.drop o=bs.drop o)) w
  | [],o,w,ht,_,hs=>by
    have:o=as.length:=by simpa [vG] using ht
    subst this
    have:bs.drop as.length=[]:=List.drop_eq_nil_of_le (by omega)
    simp[Op.eqFields,this]
  | f::fs,o,w,ht,ha,hs=>by
    simp only[vG,bh,beq_iff_eq] at ht
    obtain ⟨rfl,ht⟩:=ht
    simp only[List.all_cons,bh,bne_iff_ne] at ha
    simp only[cR,List.sum_cons] at hs
    have h1:=NC (as:=as) w ha.1.2 (o:=f.offset) (by omega)
    have h2:=NC (as:=bs) w ha.1.2 (o:=f.offset) (by omega)
    have h3:=ih f.type ha.1.2 w ((as.drop f.offset).take (P.cellsOf f.type)) ((bs.drop f.offset).take (P.cellsOf f.type)) (by simp;omega) (by simp;omega)
    have h4:=ND ih hl fs (f.offset+P.cellsOf f.type) w ht ha.2 (by omega)
    simp only[Op.eqFields]
    rw[if_pos ha.1.1]
    simp only[Sem.run_bind,h1,h2,h3,Result.andThen_ok,Sem.run_ite,Sem.run_pure,h4]
    by_cases he:(as.drop f.offset).take (P.cellsOf f.type)=(bs.drop f.offset).take (P.cellsOf f.type)
    · rw[decide_eq_true he]
      simp only[Bool.not_true,jv,if_false]
      congr 1
      rw[decide_eq_decide,NA (o:=f.offset) (c:=P.cellsOf f.type) hl]
      simp[he]
    · rw[decide_eq_false he]
      simp only[Bool.not_false,if_true]
      congr 1
      rw[eq_comm,decide_eq_false_iff_not,NA (o:=f.offset) (c:=P.cellsOf f.type) hl]
      exact fun h=>he h.1
theorem NF:∀ (fs:List Field) (o n:Nat),vG P fs o n=true→o+(fs.map fun f=>P.cellsOf f.type).sum=n
  | [],o,n,h=>by simpa [vG] using h
  | f::fs,o,n,h=>by
    simp only[vG,bh,beq_iff_eq] at h
    have:=NF fs _ n h.2
    simp only[cR,List.sum_cons];omega
theorem NG (D:Nat):∀ (d:Nat) (t:TypeId),sR P d t=true→∀ (w:World) (as bs:List Int),as.length=P.cellsOf t→bs.length=P.cellsOf t→(Op.equalIn (D+d) t (sS P t as) (sS P t bs)).run P w=.ok (decide (as=bs)) w
  | 0,t,h=>by simp[sR] at h
  | d+1,t,h=>by
    intro w as bs ha hb
    unfold sR at h
    cases hu:P.underlying t with
    | none=>simp[hu] at h
    | some k =>
      rw[hu] at h
      cases k<;>try (simp at h;done)
      case int q =>
        cases q<;>try (simp at h;done)
        have hc:P.cellsOf t=1:=by simpa using h
        rw[hc] at ha hb
        match as,bs,ha,hb with
        | [a],[b],_,_ =>
          simp only[sS,hu,List.getD_cons_zero]
          rw[show D+(d+1)=(D+d)+1 from rfl,run_equalIn_int w (D+d) t .i64 .i64 a b hu]
          congr 1
          rw[mB];simp
      case struct fs =>
        simp only[bh,Bool.not_eq_true'] at h
        have hf:P.fieldsOf t=fs:=by simp[Program.fieldsOf,hu]
        simp only[sS,hu]
        rw[show D+(d+1)=(D+d)+1 from rfl,run_equalIn_struct w (D+d) t _ _ (by rw[hf];exact hu) h.1.1.2,hf]
        have:=ND (D:=D) (NG D d) (as:=as) (bs:=bs) (by omega) fs.toList 0 w (by rw[ha];exact h.1.2) h.2 (by rw[ha];exact NF _ _ _ h.1.2)
        simpa using this
def HK (P:Program) (d:Nat) (t:TypeId) (n:Nat):Bool :=
  (match P.underlying t with | some (.struct _)=>true | _=>false) && decide (d≤10000) && sR P d t && (P.cellsOf t == n)
theorem oQ.of {t:TypeId} (d:Nat) {n:Nat} (h:HK P d t n=true):oQ P t n:=by
  intro w as bs ha hb
  simp only[HK,bh,decide_eq_true_eq,beq_iff_eq] at h
  obtain ⟨⟨⟨h1,hd⟩,h2⟩,h3⟩:=h
  have:=NG (10000 - d) d t h2 w as bs (by omega) (by omega)
  rw[Nat.sub_add_cancel hd] at this
  cases hu:P.underlying t with
  | none=>rw[hu] at h1;simp at h1
  | some k =>
    cases k<;>rw[hu] at h1<;>try (simp at h1;done)
    simpa only[sS,hu] using this
end Go.Am
namespace Go.Am
variable {P:Program} {N n0:Nat} {σ:St} {Q:Exit→St→Prop}
def rO (o:Oper):Bool :=
  match o.op with
  | .call c=>match c.callee with
    | .value _=>true
    | _=>false
  | _=>false
def zq (ops:Array Oper):List Nat:=(aT ops.size).filter fun i=>match ops[i]? with | some o=>rO o | none=>false
def qA (P:Program) (ops:Array Oper):List Oper→(St→Prop)→St→Prop
  | [],K,σ=>K σ
  | o::r,K,σ=>dV P ops (rO o) o (qA P ops r K) σ
theorem NH {ops:Array Oper} {K:St→Prop}:qA P ops [] K σ=K σ:=by simp only[qA]
theorem HL {ops:Array Oper} {o:Oper} {r:List Oper} {K:St→Prop}:qA P ops (o::r) K σ=dV P ops (rO o) o (qA P ops r K) σ:=by simp only[qA]
theorem ZL {ops:Array Oper} {i:Nat} {o:Oper} (h:ops[i]?=some o):(zq ops).contains i=rO o:=by
  have hi:i<ops.size:=(oL.1 h).1
  rw[mB,q9]
  simp only[zq,yy,mA,hi,true_and,h]
theorem HM {ops:Array Oper} {K:St→Prop}:∀ (l:List Oper) (i:Nat) (σ:St),ops.toList.drop i=l→qA P ops l K σ→pL P ops (zq ops) i l K σ
  | [],i,σ,_,h=>h
  | o::r,i,σ,hl,h=>by
    have hi:ops[i]?=some o:=by
      have:(ops.toList.drop i)[0]?=some o:=by rw[hl];rfl
      simpa using this
    have hr:ops.toList.drop (i+1)=r:=by
      have:=congrArg Gf hl
      simpa [Gg] using this
    rw[D6,ZL hi]
    rw[HL] at h
    exact AJ (fun s hs=>HM r (i+1) s hr hs) h
def D9 (ops:Array Oper):Bool:=D7 ops (zq ops)
theorem ZM {id:Nat} {ops:Array Oper} {y:Code} (hm:P.follows .mixedOrders=true) (hd:gm N ops=true) (ht:D9 ops=true) (h:∀ K:St→Prop,(∀ s,W P N n0 y Q s→K s)→qA P ops ops.toList K σ) :
    W P N n0 (.seq (.region id ops true) y) Q σ :=
  Nz (zq ops) hm hd ht fun K hK=>HM ops.toList 0 σ rfl (h K hK)
theorem ZN {id:Nat} {ops:Array Oper} (hm:P.follows .mixedOrders=true) (hd:gm N ops=true) (ht:D9 ops=true) (h:∀ K:St→Prop,(∀ s,Q .normal s→K s)→qA P ops ops.toList K σ) :
    W P N n0 (.region id ops true) Q σ :=
  D8 (zq ops) hm hd ht fun K hK=>HM ops.toList 0 σ rfl (h K hK)
def uu:List Oper→Bool
  | []=>false
  | o::r=>rO o || uu r
def zr (ops:Array Oper):List Nat:=(aT ops.size).filter fun i=>match ops[i]? with | some o=>rO o && uu (ops.toList.drop (i+1)) | none=>false
def qC (P:Program) (ops:Array Oper):List Oper→(St→Prop)→St→Prop
  | [],K,σ=>K σ
  | o::r,K,σ=>dV P ops (rO o && uu r) o (qC P ops r K) σ
theorem NI {ops:Array Oper} {K:St→Prop}:qC P ops [] K σ=K σ:=by simp only[qC]
theorem HN {ops:Array Oper} {o:Oper} {r:List Oper} {K:St→Prop}:qC P ops (o::r) K σ=dV P ops (rO o && uu r) o (qC P ops r K) σ:=by simp only[qC]
theorem ZO {ops:Array Oper} {i:Nat} {o:Oper} {r:List Oper} (h:ops[i]?=some o) (hr:ops.toList.drop (i+1)=r):(zr ops).contains i=(rO o && uu r):=by
  have hi:i<ops.size:=(oL.1 h).1
  rw[mB,q9]
  simp only[zr,yy,mA,hi,true_and,h,hr]
theorem HO {ops:Array Oper} {K:St→Prop}:∀ (l:List Oper) (i:Nat) (σ:St),ops.toList.drop i=l→qC P ops l K σ→pL P ops (zr ops) i l K σ
  | [],i,σ,_,h=>h
  | o::r,i,σ,hl,h=>by
    have hi:ops[i]?=some o:=by
      have:(ops.toList.drop i)[0]?=some o:=by rw[hl];rfl
      simpa using this
    have hr:ops.toList.drop (i+1)=r:=by
      have:=congrArg Gf hl
      simpa [Gg] using this
    rw[D6,ZO hi hr]
    rw[HN] at h
    exact AJ (fun s hs=>HO r (i+1) s hr hs) h
def Ea (ops:Array Oper):Bool:=D7 ops (zr ops)
theorem ZP {id:Nat} {ops:Array Oper} {y:Code} (hm:P.follows .mixedOrders=true) (hd:gm N ops=true) (ht:Ea ops=true) (h:∀ K:St→Prop,(∀ s,W P N n0 y Q s→K s)→qC P ops ops.toList K σ) :
    W P N n0 (.seq (.region id ops true) y) Q σ :=
  Nz (zr ops) hm hd ht fun K hK=>HO ops.toList 0 σ rfl (h K hK)
theorem ZQ {id:Nat} {ops:Array Oper} (hm:P.follows .mixedOrders=true) (hd:gm N ops=true) (ht:Ea ops=true) (h:∀ K:St→Prop,(∀ s,Q .normal s→K s)→qC P ops ops.toList K σ) :
    W P N n0 (.region id ops true) Q σ :=
  D8 (zr ops) hm hd ht fun K hK=>HO ops.toList 0 σ rfl (h K hK)
theorem ao.empty {f:FuncId} {sz:Nat} {pre post:List AV} {aa ba:List Ob} {res:AV} (h:∀ a cap,ao P f (pre++.lit (.slice a 0 cap)::post) aa res ba):ao P f (pre++.tree sz []::post) aa res ba:=by
  refine⟨(h none 0).1,fun γ aW hs=>?_⟩
  have jd:=hs.av pre.length
  have he:(pre++.tree sz []::post).getD pre.length .undef=.tree sz []:=by simp
  rw[show (⟨fun k=>(pre++AV.tree sz []::post).getD k .undef,aa⟩:St).env pre.length=.tree sz [] from he] at jd
  obtain ⟨a,cap,a9⟩ :∃a cap,γ.tmps.getD pre.length Go.undef=.slice a 0 cap:=by
    generalize γ.tmps.getD pre.length Go.undef=cv at jd
    have:=jd.wY
    cases this with
    | nil _ cap a=>exact⟨a,cap,rfl⟩
    | tree _ _ b o cap f=>exact⟨_,cap,rfl⟩
  refine (h a cap).2 γ (by simpa using aW) ⟨fun k=>?_,hs.er,hs.inj,hs.nz,hs.gB⟩
  by_cases hk:k=pre.length
  · subst hk
    show aw aa γ.w γ.Z γ.blk ((pre++.lit (.slice a 0 cap)::post).getD pre.length .undef) _
    rw[show (pre++AV.lit (.slice a 0 cap)::post).getD pre.length .undef=.lit (.slice a 0 cap) by simp,a9]
    exact .lit _
  · have:=hs.av k
    show aw aa γ.w γ.Z γ.blk ((pre++.lit (.slice a 0 cap)::post).getD k .undef) _
    have e:(pre++AV.lit (.slice a 0 cap)::post).getD k .undef=(pre++AV.tree sz []::post).getD k .undef:=by
      simp only[List.getD_eq_getElem?_getD]
      congr 1
      rcases Nat.lt_or_ge k pre.length with h' | h'
      · rw[cj h',cj h']
      · rw[eE h',eE h']
        obtain ⟨j,hj⟩ :∃j,k - pre.length=j+1:=⟨k - pre.length - 1,by omega⟩
        rw[hj];simp
    rw[e];exact this
theorem aA.Eb (d sz:Nat) {a:Option Addr} {cap:Nat} (h:σ.env d=.lit (.slice a 0 cap)):aA n0 σ ⟨iG σ.env d (.tree sz []),σ.aa⟩:=by
  intro os γ0 γ _ hs hf
  refine⟨γ,rfl,rfl,⟨fun k=>?_,hs.er,hs.inj,hs.nz,hs.gB⟩,hf⟩
  show aw σ.aa γ.w γ.Z γ.blk (iG σ.env d (.tree sz []) k) _
  by_cases hk:k=d
  · subst hk
    have:=hs.av k
    rw[h] at this
    rw[YT,this.cH]
    exact .cd _ _ (.nil sz cap a)
  · rw[iG,if_neg hk];exact hs.av k
end Go.Am

