import Derived.Test.YtodilglobhifaaaGreatDoorX08
set_option linter.all false
set_option maxHeartbeats 0
set_option maxRecDepth 20000
open List renaming getElem?_eq_some_iff→ba
open Option renaming some→dv
namespace Go.Am
variable {P:Program} {N n0:Nat} {σ:St} {Q:Exit->St->Prop}
class Head (p:Prop):Prop where
 on:True
section
variable {ops:Array Oper} {o:Oper} {l:List Oper} {K:St->Prop}
instance:Head (opsL P ops (o::l) K σ):=⟨trivial⟩
instance {qs:List Nat}{t:PT}:Head (gC P ops qs t K σ):=⟨trivial⟩
instance {qs:List Nat}{i:Nat}:Head (m8 P ops qs i (o::l) K σ):=⟨trivial⟩
instance:Head (nV P ops (o::l) K σ):=⟨trivial⟩
instance:Head (nW P ops (o::l) K σ):=⟨trivial⟩
end
def gO{p:Prop}[Head p](h:p):p:=h
class BH (p:Prop) (b:outParam Bool) (A B:outParam Prop):Prop where
 sp:(b=true->A)->(b=false->B)->p
instance {o:Oper}{K:St->Prop}{b want:Bool}:BH (lg P o K b want σ) b (lg P o K true want σ) (lg P o K false want σ):=⟨TE⟩
instance {q:Bool}{o:Oper}{K:St->Prop}{b want:Bool}:BH (lR q P o K b want σ) b (lR q P o K true want σ) (lR q P o K false want σ):=⟨S6⟩
def gS{p:Prop}{b:Bool}{A B:Prop}[h:BH p b A B](h1:b=true->A)(h2:b=false->B):p:=h.sp h1 h2
def NL:Code->Option Exit
 |.skip=>some .normal
 |.label _=>some .normal
 |.exit id=>some (.exit id)
 |.ret=>some .ret
 |_=>none
def Wz{c:Code}{e:Exit}(hc:NL c=some e)(h:Q e σ):W P N n0 c Q σ:=by
 cases c<;>simp[NL]at hc;all_goals subst hc
 all_goals first|exact Tz h|exact TB h|exact TC h|exact TA h
def BI(P:Program)(d:Bool)(ops:Array Oper):Bool:=!d||(P.follows .mixedOrders&&uC ops)
theorem rr{id:Nat}{ops:Array Oper}{d:Bool}{y:Code}(h:∀ K:St->Prop,(∀ s,W P N n0 y Q s->K s)->opsL P ops ops.toList K σ)(ht:BI P d ops=true:=by decide +kernel)(hd:eJ N ops=true:=by decide):W P N n0 (.seq (.region id ops d) y) Q σ:=by
 cases d
 ·exact rk h hd
 ·have h2:P.follows .mixedOrders=true/\uC ops=true:=by simpa [BI] using ht
  exact rd h h2.1 hd h2.2
theorem qt{id:Nat}{ops:Array Oper}{d:Bool}(h:∀ K:St->Prop,(∀ s,Q .normal s->K s)->opsL P ops ops.toList K σ)(ht:BI P d ops=true:=by decide +kernel)(hd:eJ N ops=true:=by decide):W P N n0 (.region id ops d) Q σ:=by
 cases d
 ·exact Sx h hd
 ·have h2:P.follows .mixedOrders=true/\uC ops=true:=by simpa [BI] using ht
  exact SA h h2.1 hd h2.2
class yO (rows:List (List AV)) (sz:outParam Nat):Prop where
 wid:∀ row∈rows,row.length=sz
 bO:∀ row∈rows,∀ v∈row,(∃ x,v=AV.lit x)\/∃ s r,v=AV.tree s r
instance (xs:List Int):yO (ints xs) 1:=⟨kF _,n9 _⟩
instance (xs:List Bool):yO (b8 xs) 1:=⟨KF _,KE _⟩
instance (xs:List (List Int)):yO (bW xs) 1:=⟨D3 _,Tg _⟩
instance {α:Type}{enc:α->List AV}{sz:Nat}[Row enc sz](xs:List α):yO (rowsOf enc xs) sz:=⟨gb _,jt _⟩
theorem a9.fz{kp:Nat->Prop}{ρ:Nat->Nat}{id sz len:Nat}{rows:List (List AV)}[h:yO rows sz](ho:σ.aa[id]?=some (.arr sz rows))(hl:len=rows.length)(n7:¬ kp id:=by first|exact iW (by decide)|decide):a9 σ kp ρ true (.tree sz rows) (.ref id sz 0 len):=a9.bO ho h.wid hl n7 h.bO
theorem aC.se(ab:List Nat)(snap:Bool){l:List (Nat×AV)}{co:List Ob}(ho:lQ (bq σ.aa.length ab) σ.aa ab co)(h:n8 (a9 σ (kept ab co) (bq σ.aa.length ab) snap) σ.env l)(cR:ab.Nodup:=by decide)(hn:n0<=ab.length:=by decide)(cp:∀ i,i<n0->ab.getD i 0=i:=by decide):aC n0 σ ⟨Am.au l,co⟩:=aC.ab ab snap l co cR ho hn cp h
theorem UB(ab:List Nat)(snap:Bool){v res:AV}{aY:List Ob}(ho:lQ (bq σ.aa.length ab) σ.aa ab aY)(h:a9 σ (kept ab aY) (bq σ.aa.length ab) snap res v)(cR:ab.Nodup:=by decide)(hn:n0<=ab.length:=by decide)(cp:∀ i,i<n0->ab.getD i 0=i:=by decide):my n0 σ v res aY:=eU ab snap cR ho hn cp h
end Go.Am
namespace Go.Am
def NJ:dO []=.bP []:=rfl
def NK(a b:AV)(l:List AV):dO (a::b::l)=.bP (a::b::l):=rfl
end Go.Am
namespace Go.Am
variable {P:Program} {N n0:Nat} {σ:St}
inductive PF where
 |nil
 |take (i:Nat) (t:PF)
 |both (i:Nat) (t:PF) (j:Nat) (u:PF)
 |three (i:Nat) (t:PF) (j:Nat) (u:PF) (k:Nat) (v:PF)
 |four (i:Nat) (t:PF) (j:Nat) (u:PF) (k:Nat) (v:PF) (l:Nat) (w:PF)
def PF.ok(ops:Array Oper)(qs:List Nat):PF->Nat->Array Bool->Bool
 |.nil,n,listed=>n==0&&(Region.ready .any ops listed).isEmpty
 |.take _ _,0,_=>false
 |.take i t,n+1,listed=>Bd ops qs listed i (DN ops i)&&t.ok ops qs n (listed.setIfInBounds i true)
 |.both _ _ _ _,0,_=>false
 |.both i t j u,n+1,listed=>(Region.ready .any ops listed==[i,j])&&t.ok ops qs n (listed.setIfInBounds i true)&&u.ok ops qs n (listed.setIfInBounds j true)
 |.three _ _ _ _ _ _,0,_=>false
 |.three i t j u k v,n+1,listed=>(Region.ready .any ops listed==[i,j,k])&&t.ok ops qs n (listed.setIfInBounds i true)&&u.ok ops qs n (listed.setIfInBounds j true)&&v.ok ops qs n (listed.setIfInBounds k true)
 |.four _ _ _ _ _ _ _ _,0,_=>false
 |.four i t j u k v l w,n+1,listed=>(Region.ready .any ops listed==[i,j,k,l])&&t.ok ops qs n (listed.setIfInBounds i true)&&u.ok ops qs n (listed.setIfInBounds j true)&&v.ok ops qs n (listed.setIfInBounds k true)&&w.ok ops qs n (listed.setIfInBounds l true)
section
variable {ops:Array Oper} {qs:List Nat} {K:St->Prop} {i j k l:Nat} {t u v w:PF}
end
end Go.Am
namespace Go.Am
variable {P:Program} {N n0:Nat} {σ:St}
def NM(dst:Option Tmp)(t:TypeId)(a:Operand)(tt:TypeId)(p:String)(af:Array Edge)(g:Option (Nat×Bool))(K:St->Prop):jq true P ⟨dst,.load t a,tt,p,af,g⟩ σ K=o7 P t dst K σ (ev σ a):=rfl
def Lq:=aai @NM @o7.eq_1
def aC.UC(d id:Nat){cells:List AV}(ho:σ.aa[id]?=some (.var cells))(hd:σ.env d=.ptr id 0 0)(sU:∀ v∈cells,(∃ x,v=.lit x)\/∃ s r,v=.tree s r):aC n0 σ ⟨eY σ.env d (.cm cells),σ.aa.set id .gone⟩:=by
 intro os γ0 γ _ hs hf;have uF:id<σ.aa.length:=(ba.1 ho).1
 let av:Cx:={ γ with Z:=λb=>γ.Z b\/∃ o cap,γ.blk id=some (b,o,cap) }
 let bR:=σ.aa.set id .gone
 have gD:∀ i,bR[i]?=if i=id then some .gone else σ.aa[i]?:=by
  intro i;show(σ.aa.set id _)[i]?=_;rw[List.getElem?_set];by_cases h1:i=id
  ·subst h1;simp[uF]
  ·simp[Ne.symm h1,h1]
 have hR:∀ v cv,aq σ.aa γ.w γ.Z γ.blk v cv->aq bR av.w av.Z av.blk v cv:=λv cv hv =>
  hv.mono (λb hb=>⟨.inl hb,rfl⟩) (λi o hi=>by
   rw[gD];by_cases h1:i=id
   ·left;rw[if_pos h1]
   ·rw[if_neg h1];by_cases hg:o=.gone
    ·subst hg;exact .inl hi
    ·exact .inr ⟨rfl,o,hi,Ob.gV hg⟩)
 have bx:∀ i,Live bR i->Live σ.aa i/\i≠id:=by
  rintro i⟨o,hi,hg⟩;rw[gD]at hi;split at hi
  ·simp at hi;exact absurd hi.symm hg
  ·rename_i h2;exact⟨⟨o,hi,hg⟩,h2⟩
 have lO:Live σ.aa id:=⟨_,ho,Dg⟩;obtain⟨b,cap,cur,t,h1,h2,h3,h4⟩:=hs.dL _ _ ho;have kL:=hs.au d;rw[hd]at kL;have fU:aq bR av.w av.Z av.blk (.cm cells) (γ.tmps.getD d Go.undef):=by
  generalize γ.tmps.getD d Go.undef=cv at kL;cases kL with
  |bO _ _ h=>cases h
  |ki _ _ _ _ h=>rw[ho]at h;simp at h
  |kG _ _ b2 Z3 Z4 h hb =>
   rw[h1]at hb;simp only[dv.injEq,Prod.mk.injEq]at hb;obtain⟨rfl,_,_⟩:=hb;refine .cm cells b 0 (λj=>cur.getD j Go.undef) (.inr ⟨0,cap,h1⟩) (λj x hx=>?_) (λj x hx=>?_)
   ·rw[Nat.zero_add];exact wv h2 (by rw[h3];exact(ba.1 hx).1)
   ·have fI:cA σ (λy=>y≠id) x x:=by
     rcases sU x (List.mem_of_getElem? hx) with⟨v,rfl⟩|⟨s,r,rfl⟩
     ·exact .lit v
     ·exact .tree s r
    exact fI.wg hs (γc:=av) (λb hb=>.inl hb) rfl (λx b o cap cp _ hb=>.inr ⟨o,cap,by rw[show id=x by simpa using(Decidable.not_not.1 cp).symm];exact hb⟩) _ (h4 j x hx)
  |ld _ _ _ _ _ _ _ _ h=>rw[ho]at h;simp at h
 refine⟨av,rfl,rfl,⟨λk=>?_,?_,λi j b o c o' c' hi hj=>hs.inj i j b o c o' c' (bx i hi).1 (bx j hj).1,?_,?_,λg=>uG (hs.gl g) λb hb=>⟨.inl hb,rfl⟩⟩,?_⟩
 ·show aq bR av.w av.Z av.blk (eY σ.env d (.cm cells) k) (γ.tmps.getD k Go.undef);simp only[eY];split
  ·rename_i e;subst e;exact fU
  ·exact hR _ _ (hs.au k)
 ·intro i o hi;have hi':bR[i]?=some o:=hi;rw[gD]at hi';split at hi'
  ·simp only[dv.injEq]at hi';subst hi';trivial
  ·by_cases hg:o=.gone
   ·subst hg;trivial
   ·exact(hs.dL i o hi').mono hR rfl (λ_ _ _ _=>rfl)
 ·rintro b ⟨i,o,c',hi,hb⟩ (hz|⟨o',cap,bS⟩)
  ·exact hs.nz b ⟨i,o,c',(bx i hi).1,hb⟩ hz
  ·exact(bx i hi).2 (hs.inj i id b o c' o' cap (bx i hi).1 lO hb bS)
 ·rintro b (hz|⟨o,cap,hb⟩)
  ·exact hs.fG b hz
  ·exact hs.blt lO hb
 ·refine⟨hf.jT,hf.tape,hf.output,hf.size,hf.cO,λb hb=>.inl (hf.z0 b hb),?_,?_,by show os.length<=bR.length;simp[bR];exact hf.len,?_⟩
  ·rintro b (hz|⟨o,cap,hb⟩)
   ·exact hf.z1 b hz
   ·exact .inr (hf.own b ⟨id,o,cap,lO,hb⟩)
  ·rintro b ⟨i,o,c',hi,hb⟩;exact hf.own b ⟨i,o,c',(bx i hi).1,hb⟩
  ·intro i hi hl;obtain⟨h1,x,x',hx,cd,hk⟩:=hf.iH i hi (bx i hl).1;have iw:Live bR i:=hl;obtain⟨o,cY,cI⟩:=iw;refine⟨h1,x,o,hx,cY,?_⟩;rw[gD]at cY;split at cY
   ·simp at cY;exact absurd cY.symm cI
   ·rw[cd]at cY;simp only[dv.injEq]at cY;subst cY;exact hk
end Go.Am
namespace Go.Am
variable {P:Program} {N n0:Nat} {σ:St}
inductive Gh where
 |map (gj:List (Value×Value))
 |iter (mb since:Nat) (seen:List Nat)
def Gh.At(w:World)(b:Nat):Gh->Prop
 |.map gj=>w.heap[b]?=some (.map (eN gj) gj.length)
 |.iter mb since seen=>w.heap[b]?=some (.mapIter (some mb) since seen.toArray since)
def Gh.At.heap{w w':World}{b:Nat}{g:Gh}(h:g.At w b)(e:w'.heap[b]?=w.heap[b]?):g.At w' b:=by
 cases g<;>exact e.trans h
def Gh.At.lt{w:World}{b:Nat}{g:Gh}(h:g.At w b):b<w.heap.size:=by
 cases g<;>exact(Array.getElem?_eq_some_iff.1 h).1
abbrev Mem:=Nat->Option Gh
def lZ(μ:Mem)(b:Nat)(g:Gh):Mem:=λk=>if k=b then some g else μ k
def BJ(μ:Mem)(b:Nat)(g:Gh):lZ μ b g b=some g:=by simp[lZ]
def s9(μ:Mem){b c:Nat}(g:Gh)(h:c≠b):lZ μ b g c=μ c:=by simp[lZ,h]
def yP:Mem:=λ_=>none
structure ov(μ:Mem)(os:List Ob)(γ0 γ:Cx):Prop where
 gh:∀ b g,μ b=some g->g.At γ.w b
 fresh:∀ b g,μ b=some g->γ0.w.heap.size<=b
 BK:∀ b g,μ b=some g->¬ γ.Z b
 wF:∀ b g,μ b=some g->¬ lT os γ.blk b
def ov.nil(os:List Ob)(γ0 γ:Cx):ov yP os γ0 γ:=⟨by simp[yP],by simp[yP],by simp[yP],by simp[yP]⟩
def ov.cO{μ:Mem}{os os':List Ob}{γ0 γ av:Cx}(h:ov μ os γ0 γ)(hf:Fr os γ os' av):ov μ os' γ0 av :=
 ⟨λb g hp=>(h.gh b g hp).heap (hf.cO _ (h.gh b g hp).lt (h.wF b g hp)),h.fresh,λb g hp hz=>by
  rcases hf.z1 _ hz with h1|h1|h1
  ·exact h.BK b g hp h1
  ·exact h.wF b g hp h1
  ·have:=(h.gh b g hp).lt;omega,λb g hp ho=>by
  rcases hf.own _ ho with h1|h1
  ·exact h.wF b g hp h1
  ·have:=(h.gh b g hp).lt;omega⟩
def ov.le{μ NN:Mem}{os:List Ob}{γ0 γ:Cx}(h:ov μ os γ0 γ)(hl:∀ b g,NN b=some g->μ b=some g):ov NN os γ0 γ :=
 ⟨λb g hp=>h.gh b g (hl b g hp),λb g hp=>h.fresh b g (hl b g hp),λb g hp=>h.BK b g (hl b g hp),λb g hp=>h.wF b g (hl b g hp)⟩
def rC(N:Nat)(os:List Ob)(γ0:Cx)(σ:St)(μ:Mem)(a:Act)(w:World):Prop :=
 a.defers=[]/\a.tmps.size=N/\∃ γ,γ.w=w/\γ.tmps=a.tmps/\aZ σ γ/\Fr os γ0 σ.aa γ/\ov μ σ.aa γ0 γ
variable {Q:Exit->St->Mem->Prop} {μ:Mem}
def wG(n0:Nat)(σ σ':St):Prop:=∀ (os:List Ob) (γ0 γ:Cx),os.length=n0->aZ σ γ->Fr os γ0 σ.aa γ ->
 ∃ av,av.w=γ.w/\av.tmps=γ.tmps/\aZ σ' av/\Fr os γ0 σ'.aa av/\(∀ b,av.Z b->γ.Z b\/lT σ.aa γ.blk b)/\∀ b,lT σ'.aa av.blk b->lT σ.aa γ.blk b
def wG.au(l:List (Nat×AV))(os:List Ob)(ho:σ.aa=os)(h:Has σ.env l):wG n0 σ ⟨au l,os⟩:=by
 subst ho;intro os γ0 γ _ hs hf;refine⟨γ,rfl,rfl,⟨λk=>?_,hs.dL,hs.inj,hs.nz,hs.fG,hs.gl⟩,hf,λ_ h=>.inl h,λ_ h=>h⟩;rcases Be l k with h'|⟨p,hp,rfl,h'⟩
 ·show aq _ _ _ _ (Am.au l k) _;rw[h'];exact .undef _
 ·show aq _ _ _ _ (Am.au l p.1) _;rw[h',<- h.mem p hp];exact hs.au p.1
theorem wG.se(ab:List Nat)(snap:Bool){l:List (Nat×AV)}{co:List Ob}(ho:lQ (bq σ.aa.length ab) σ.aa ab co)(h:n8 (a9 σ (kept ab co) (bq σ.aa.length ab) snap) σ.env l)(cR:ab.Nodup:=by decide)(hn:n0<=ab.length:=by decide)(cp:∀ i,i<n0->ab.getD i 0=i:=by decide):wG n0 σ ⟨Am.au l,co⟩:=by
 intro os γ0 γ Bp hs hf;obtain⟨h1,h2,h3⟩:=ho.spec;obtain⟨av,a1,a2,a3,a4⟩:=hs.select ab snap co cR h1 h2 h3 (Am.au l) γ.tmps (fun k=>by
  rcases Be l k with h'|⟨p,hp,rfl,h'⟩
  ·exact .inl h'
  ·right;rw[h'];exact⟨_,h.mem p hp,hs.au p.1⟩)
 obtain⟨b1,b2,b3,b4⟩:=a4;refine⟨av,a1,a2,a3,hf.select (by omega) h1 (fun i hi=>cp i (by omega)) a1 ⟨b1,b2,b3,b4⟩,b3,?_⟩;rintro b⟨i,o,c,hi,hb⟩;have bw:=hi.lt;rw[b1 i bw]at hb;exact⟨_,o,c,(b4 i hi).1,hb⟩
end Go.Am

