import Derived.Test.YtfoopmojjjpapaaGreatX14
import Derived.Laws.IdiomRangeMap
set_option linter.all false
set_option maxHeartbeats 0
set_option maxRecDepth 20000
open List renaming getElem?_eq_some_iff→aR,mem_of_getElem?→gk,getElem?_eq_getElem→bT,ext_getElem?→qS,getElem?_map→b9,getElem?_mapIdx→NL,length→kI
open Option renaming some→cm
open Array renaming getElem?_eq_some_iff→mg,getD_eq_getD_getElem?→ek,getElem?_setIfInBounds_ne→tM
open Nat renaming le_refl→bb,sub_self→iT
open Bool renaming false_eq_true→iS
namespace Go.Am
variable {P:Program} {N n0:Nat} {σ:St}
def U0(dst:Option Tmp)(t:TypeId)(a:Operand)(tt:TypeId)(p:String)(af:Array Edge)(g:Option (Nat×Bool))(K:St->Prop):lJ true P ⟨dst,.load t a,tt,p,af,g⟩ σ K=tS P t dst K σ (ev σ a):=rfl
def Lq:=N2 @U0 @tS.eq_1
def aF.Bv(d id:Nat){cells:List AV}(ho:σ.aa[id]?=some (.var cells))(hd:σ.env d=.ptr id 0 0)(u9:∀ v∈cells,(∃ x,v=.lit x)\/∃ s r,v=.tree s r):aF n0 σ ⟨jd σ.env d (.cd cells),σ.aa.set id .gone⟩:=by
 intro os γ0 γ _ hs hf;have zC:id<σ.aa.length:=(aR.1 ho).1
 let az:Cx:={ γ with Z:=λb=>γ.Z b\/∃ o cap,γ.blk id=some (b,o,cap) }
 let os2:=σ.aa.set id .gone
 have iU:∀ i,os2[i]?=if i=id then some .gone else σ.aa[i]?:=by
  intro i;show(σ.aa.set id _)[i]?=_;rw[List.getElem?_set];by_cases h1:i=id
  ·subst h1;simp[zC]
  ·simp[Ne.symm h1,h1]
 have hR:∀ v cv,aw σ.aa γ.w γ.Z γ.blk v cv->aw os2 az.w az.Z az.blk v cv:=λv cv hv =>
  hv.mono (λb hb=>⟨.inl hb,rfl⟩) (λi o hi=>by
   rw[iU];by_cases h1:i=id
   ·left;rw[if_pos h1]
   ·rw[if_neg h1];by_cases hg:o=.gone
    ·subst hg;exact .inl hi
    ·exact .inr ⟨rfl,o,hi,Ob.jg hg⟩)
 have bL:∀ i,Live os2 i->Live σ.aa i/\i≠id:=by
  rintro i⟨o,hi,hg⟩;rw[iU]at hi;split at hi
  ·simp at hi;exact absurd hi.symm hg
  ·rename_i h2;exact⟨⟨o,hi,hg⟩,h2⟩
 have oz:Live σ.aa id:=⟨_,ho,Iy⟩;obtain⟨b,cap,cur,t,h1,h2,h3,h4⟩:=hs.dF _ _ ho;have sW:=hs.an d;rw[hd]at sW;have jc:aw os2 az.w az.Z az.blk (.cd cells) (γ.tmps.getD d Go.undef):=by
  generalize γ.tmps.getD d Go.undef=cv at sW;cases sW with
  |cG _ _ h=>cases h
  |mP _ _ _ _ h=>rw[ho]at h;simp at h
  |nA _ _ b2 alZ al0 h hb =>
   rw[h1]at hb;simp only[cm.injEq,Prod.mk.injEq]at hb;obtain⟨rfl,_,_⟩:=hb;refine .cd cells b 0 (λj=>cur.getD j Go.undef) (.inr ⟨0,cap,h1⟩) (λj x hx=>?_) (λj x hx=>?_)
   ·rw[Nat.zero_add];exact zh h2 (by rw[h3];exact(aR.1 hx).1)
   ·have ee:cL σ (λy=>y≠id) x x:=by
     rcases u9 x (gk hx) with⟨v,rfl⟩|⟨s,r,rfl⟩
     ·exact .lit v
     ·exact .tree s r
    exact ee.ze hs (γc:=az) (λb hb=>.inl hb) rfl (λx b o cap bO _ hb=>.inr ⟨o,cap,by rw[show id=x by simpa using(Decidable.not_not.1 bO).symm];exact hb⟩) _ (h4 j x hx)
  |n9 _ _ _ _ _ _ _ _ h=>rw[ho]at h;simp at h
 refine⟨az,rfl,rfl,⟨λk=>?_,?_,λi j b o c o' c' hi hj=>hs.inj i j b o c o' c' (bL i hi).1 (bL j hj).1,?_,?_,λg=>xV (hs.gl g) λb hb=>⟨.inl hb,rfl⟩⟩,?_⟩
 ·show aw os2 az.w az.Z az.blk (jd σ.env d (.cd cells) k) (γ.tmps.getD k Go.undef);simp only[jd];split
  ·rename_i e;subst e;exact jc
  ·exact hR _ _ (hs.an k)
 ·intro i o hi;have aq:os2[i]?=some o:=hi;rw[iU]at aq;split at aq
  ·simp only[cm.injEq]at aq;subst aq;trivial
  ·by_cases hg:o=.gone
   ·subst hg;trivial
   ·exact(hs.dF i o aq).mono hR rfl (λ_ _ _ _=>rfl)
 ·rintro b ⟨i,o,c',hi,hb⟩ (hz|⟨o',cap,aV⟩)
  ·exact hs.nz b ⟨i,o,c',(bL i hi).1,hb⟩ hz
  ·exact(bL i hi).2 (hs.inj i id b o c' o' cap (bL i hi).1 oz hb aV)
 ·rintro b (hz|⟨o,cap,hb⟩)
  ·exact hs.fZ b hz
  ·exact hs.blt oz hb
 ·refine⟨hf.kJ,hf.tape,hf.output,hf.size,hf.dV,λb hb=>.inl (hf.z0 b hb),?_,?_,by show os.length<=os2.length;simp[os2];exact hf.len,?_,hf.drawn⟩
  ·rintro b (hz|⟨o,cap,hb⟩)
   ·exact hf.z1 b hz
   ·exact .inr (hf.own b ⟨id,o,cap,oz,hb⟩)
  ·rintro b ⟨i,o,c',hi,hb⟩;exact hf.own b ⟨i,o,c',(bL i hi).1,hb⟩
  ·intro i hi hl;obtain⟨h1,x,x',hx,bS,hk⟩:=hf.dY i hi (bL i hl).1;have jJ:Live os2 i:=hl;obtain⟨o,c9,mM⟩:=jJ;refine⟨h1,x,o,hx,c9,?_⟩;rw[iU]at c9;split at c9
   ·simp at c9;exact absurd c9.symm mM
   ·rw[bS]at c9;simp only[cm.injEq]at c9;subst c9;exact hk
end Go.Am
namespace Go.Am
variable {P:Program} {N n0:Nat} {σ:St}
inductive Gh where
 |map (ents:List (Value×Value))
 |iter (mb since:Nat) (seen:List Nat)
 |iB (i:Nat)
def Gh.At(w:World)(b:Nat):Gh->Prop
 |.map ents=>w.heap[b]?=some (.map (cR ents) ents.length)
 |.iter mb since seen=>w.heap[b]?=some (.mapIter (some mb) since seen.toArray since)
 |.iB _=>True
def Gh.vC:Gh->Prop
 |.iB _=>False
 |_=>True
def Gh.At.heap{w w':World}{b:Nat}{g:Gh}(h:g.At w b)(e:w'.heap[b]?=w.heap[b]?):g.At w' b:=by
 cases g<;>first|trivial|exact e.trans h
def Gh.At.lt{w:World}{b:Nat}{g:Gh}(h:g.At w b)(hm:g.vC):b<w.heap.size:=by
 cases g<;>first|exact(mg.1 h).1|exact hm.elim
abbrev Mem:=Nat->Option Gh
def gP(μ:Mem)(b:Nat)(g:Gh):Mem:=λk=>if k=b then some g else μ k
def rm(μ:Mem)(b:Nat)(g:Gh):gP μ b g b=some g:=by simp[gP]
def px(μ:Mem){b c:Nat}(g:Gh)(h:c≠b):gP μ b g c=μ c:=by simp[gP,h]
def vD:Mem:=λ_=>none
structure oD(μ:Mem)(o0 os:List Ob)(γ0 γ:Cx):Prop where
 gh:∀ b g,μ b=some g->g.At γ.w b
 fresh:∀ b g,μ b=some g->g.vC->γ0.w.heap.size<=b
 Bw:∀ b g,μ b=some g->g.vC->¬ γ.Z b
 w6:∀ b g,μ b=some g->g.vC->¬ oc os γ.blk b
 iB:∀ b i,μ b=some (.iB i)->i<o0.length/\γ0.blk i=some (b,0,0)/\b<γ0.w.heap.size
def oD.nil(o0 os:List Ob)(γ0 γ:Cx):oD vD o0 os γ0 γ:=⟨by simp[vD],by simp[vD],by simp[vD],by simp[vD],by simp[vD]⟩
def oD.dV{μ:Mem}{o0 os gp:List Ob}{γ0 γ az:Cx}(h:oD μ o0 os γ0 γ)(hf:Fr os γ gp az):oD μ o0 gp γ0 az:=by
 refine⟨λb g hp=>?_,h.fresh,λb g hp hm hz=>?_,λb g hp hm ho=>?_,h.iB⟩
 ·by_cases hm:g.vC
  ·exact(h.gh b g hp).heap (hf.dV _ ((h.gh b g hp).lt hm) (h.w6 b g hp hm))
  ·cases g<;>first|trivial|exact(hm trivial).elim
 ·rcases hf.z1 _ hz with h1|h1|h1
  ·exact h.Bw b g hp hm h1
  ·exact h.w6 b g hp hm h1
  ·have:=(h.gh b g hp).lt hm;omega
 ·rcases hf.own _ ho with h1|h1
  ·exact h.w6 b g hp hm h1
  ·have:=(h.gh b g hp).lt hm;omega
def oD.le{μ dw:Mem}{o0 os:List Ob}{γ0 γ:Cx}(h:oD μ o0 os γ0 γ)(hl:∀ b g,dw b=some g->μ b=some g):oD dw o0 os γ0 γ :=
 ⟨λb g hp=>h.gh b g (hl b g hp),λb g hp=>h.fresh b g (hl b g hp),λb g hp=>h.Bw b g (hl b g hp),λb g hp=>h.w6 b g (hl b g hp),λb i hp=>h.iB b i (hl _ _ hp)⟩
def gQ(N:Nat)(os:List Ob)(γ0:Cx)(σ:St)(μ:Mem)(a:Act)(w:World):Prop :=
 a.defers=[]/\a.tmps.size=N/\∃ γ,γ.w=w/\γ.tmps=a.tmps/\bg σ γ/\Fr os γ0 σ.aa γ/\oD μ os σ.aa γ0 γ
def WM(P:Program)(N n0:Nat)(c:Code)(Q:Exit->St->Mem->Prop)(σ:St)(μ:Mem):Prop :=
 ∀ (os:List Ob) (γ0:Cx) (a:Act) (w:World),os.length=n0->gQ N os γ0 σ μ a w->c.wp P (λe a' w'=>∃ σ' dw,Q e σ' dw/\gQ N os γ0 σ' dw a' w') a w
variable {Q:Exit->St->Mem->Prop} {μ:Mem}
def U1{c:Code}(h:W P N σ.aa.length c (λe s=>Q e s μ) σ):WM P N n0 c Q σ μ:=by
 rintro os γ0 a w hn⟨gI,aN,γ,rfl,ha,hs,hf,hm⟩;refine wp_mono (h σ.aa γ a γ.w rfl ⟨gI,aN,γ,rfl,ha,hs,Fr.refl _ _⟩) ?_;rintro e a' w'⟨σ',hq,Km,Kn,az,rfl,oE,iw,eX⟩;exact⟨σ',μ,hq,Km,Kn,az,rfl,oE,iw,hf.trans eX,hm.dV eX⟩
def oA{c:Code}{e:Exit}(hc:Gj c=some e)(h:Q e σ μ):WM P N n0 c Q σ μ:=by
 cases c<;>simp[Gj]at hc;all_goals subst hc
 all_goals first
  |exact λ_ _ _ _ _ ay=>wp_skip ⟨σ,μ,h,ay⟩
  |exact λ_ _ _ _ _ ay=>wp_label ⟨σ,μ,h,ay⟩
  |exact λ_ _ _ _ _ ay=>wp_exit ⟨σ,μ,h,ay⟩
  |exact λ_ _ _ _ _ ay=>wp_ret ⟨σ,μ,h,ay⟩
def afb{x y:Code}(Q1:Exit->St->Mem->Prop)(h:WM P N n0 x Q1 σ μ)(hn:∀ s m,Q1 .normal s m->WM P N n0 y Q s m)(he:∀ e s m,e≠.normal->Q1 e s m->Q e s m):WM P N n0 (.seq x y) Q σ μ:=by
 intro os γ0 a w hl ay;refine wp_seq (wp_mono (h os γ0 a w hl ay) ?_);rintro e a' w'⟨σ',dw,h1,h2⟩;cases e with
 |normal=>exact hn _ _ h1 os γ0 a' w' hl h2
 |exit id=>exact⟨σ',dw,he _ _ _ Iy h1,h2⟩
 |goto l=>exact⟨σ',dw,he _ _ _ Iy h1,h2⟩
 |ret=>exact⟨σ',dw,he _ _ _ Iy h1,h2⟩
 |panic c=>exact⟨σ',dw,he _ _ _ Iy h1,h2⟩
 |outgrown=>exact⟨σ',dw,he _ _ _ Iy h1,h2⟩
def nH{x y:Code}(h:∀ Q':Exit->St->Mem->Prop,(∀ s m,WM P N n0 y Q s m->Q' .normal s m)->(∀ e s m,uq e=false->Q e s m->Q' e s m)->WM P N n0 x Q' σ μ):WM P N n0 (.seq x y) Q σ μ :=
 afb (λe s m=>(e=.normal->WM P N n0 y Q s m)/\(e≠.normal->Q e s m)) (h _ (λs m h=>⟨λ_=>h,λh=>absurd rfl h⟩) (λe s m he h=>⟨λe2=>absurd e2 (Gg he),λ_=>h⟩)) (λs m h=>h.1 rfl) (λe s m he h=>h.2 he)
def afc{c:Operand}{x y:Code}{t:Bool}(hc:ev σ c=.lit (.bool t))(ht:t=true->WM P N n0 x Q σ μ)(hf:t=false->WM P N n0 y Q σ μ):WM P N n0 (.cond c x y) Q σ μ:=by
 intro os γ0 a w hn ay;have aP:a.eval c=.bool t:=by
  obtain⟨_,_,γ,rfl,ha,hs,_⟩:=ay;have:=sv hs ha c;rw[hc]at this;exact this.cz
 exact wp_cond_split aP (λh=>ht h os γ0 a w hn ay) (λh=>hf h os γ0 a w hn ay)
def pw{id:Nat}{c:Code}(h:∀ Q':Exit->St->Mem->Prop,(∀ s m,Q .normal s m->Q' .normal s m)->(∀ s m,Q .normal s m->Q' (.exit id) s m)->(∀ e s m,zI id e=false->Q e s m->Q' e s m)->WM P N n0 c Q' σ μ):WM P N n0 (.block id c) Q σ μ:=by
 intro os γ0 a w hn ay;have h':=h (λe s m=>(e=.exit id->Q .normal s m)/\(e≠.exit id->Q e s m)) (λs m h=>⟨λe=>by simp at e,λ_=>h⟩) (λs m h=>⟨λ_=>h,λe=>absurd rfl e⟩) (λe s m he h=>⟨λe2=>absurd e2 (Kg he).2,λ_=>h⟩);refine wp_block (wp_mono (h' os γ0 a w hn ay) ?_);rintro e a' w'⟨σ',dw,h1,h2⟩;cases e with
 |exit nZ =>
  simp only[Exit.inBlock];split
  ·rename_i he;exact⟨σ',dw,h1.1 (by rw[he]),h2⟩
  ·rename_i he;exact⟨σ',dw,h1.2 (λe=>he (by simpa using e)),h2⟩
 |normal=>exact⟨σ',dw,h1.2 Iy,h2⟩
 |goto l=>exact⟨σ',dw,h1.2 Iy,h2⟩
 |ret=>exact⟨σ',dw,h1.2 Iy,h2⟩
 |panic c=>exact⟨σ',dw,h1.2 Iy,h2⟩
 |outgrown=>exact⟨σ',dw,h1.2 Iy,h2⟩
def kP(n0:Nat)(σ σ':St):Prop:=∀ (os:List Ob) (γ0 γ:Cx),os.length=n0->bg σ γ->Fr os γ0 σ.aa γ ->
 ∃ az,az.w=γ.w/\az.tmps=γ.tmps/\bg σ' az/\Fr os γ0 σ'.aa az/\(∀ b,az.Z b->γ.Z b\/oc σ.aa γ.blk b)/\∀ b,oc σ'.aa az.blk b->oc σ.aa γ.blk b
def kP.U2{σ':St}(h:kP n0 σ σ'){os:List Ob}{γ0:Cx}{a:Act}{w:World}(hn:os.length=n0)(ay:gQ N os γ0 σ μ a w):gQ N os γ0 σ' μ a w:=by
 obtain⟨h1,h2,γ,rfl,h3,h4,h5,h6⟩:=ay;obtain⟨az,e1,e2,e3,e4,e5,e6⟩:=h os γ0 γ hn h4 h5;refine⟨h1,h2,az,e1,e2.trans h3,e3,e4,λb g hp=>(h6.gh b g hp).heap (by rw[e1]),h6.fresh,λb g hp hm hz=>?_,λb g hp hm ho=>h6.w6 b g hp hm (e6 _ ho),h6.iB⟩;rcases e5 _ hz with h|h
 ·exact h6.Bw b g hp hm h
 ·exact h6.w6 b g hp hm h
def afd{c:Code}{σ':St}(h:kP n0 σ σ')(hw:WM P N n0 c Q σ' μ):WM P N n0 c Q σ μ :=
 λos γ0 a w hn ay=>hw os γ0 a w hn (h.U2 hn ay)
def kP.an(l:List (Nat×AV))(os:List Ob)(ho:σ.aa=os)(h:Has σ.env l):kP n0 σ ⟨an l,os⟩:=by
 subst ho;intro os γ0 γ _ hs hf;refine⟨γ,rfl,rfl,⟨λk=>?_,hs.dF,hs.inj,hs.nz,hs.fZ,hs.gl⟩,hf,λ_ h=>.inl h,λ_ h=>h⟩;rcases Ff l k with h'|⟨p,hp,rfl,h'⟩
 ·show aw _ _ _ _ (Am.an l k) _;rw[h'];exact .undef _
 ·show aw _ _ _ _ (Am.an l p.1) _;rw[h',<- h.mem p hp];exact hs.an p.1
theorem kP.se(aj:List Nat)(snap:Bool){l:List (Nat×AV)}{co:List Ob}(ho:oZ (bq σ.aa.length aj) σ.aa aj co)(h:sq (bw σ (kept aj co) (bq σ.aa.length aj) snap) σ.env l)(bU:aj.Nodup:=by decide)(hn:n0<=aj.length:=by decide)(bO:∀ i,i<n0->aj.getD i 0=i:=by decide):kP n0 σ ⟨Am.an l,co⟩:=by
 intro os γ0 γ Bd hs hf;obtain⟨h1,h2,h3⟩:=ho.spec;obtain⟨az,a1,a2,a3,a4⟩:=hs.select aj snap co bU h1 h2 h3 (Am.an l) γ.tmps (fun k=>by
  rcases Ff l k with h'|⟨p,hp,rfl,h'⟩
  ·exact .inl h'
  ·right;rw[h'];exact⟨_,h.mem p hp,hs.an p.1⟩)
 obtain⟨b1,b2,b3,b4⟩:=a4;refine⟨az,a1,a2,a3,hf.select (by omega) h1 (fun i hi=>bO i (by omega)) a1 ⟨b1,b2,b3,b4⟩,b3,?_⟩;rintro b⟨i,o,c,hi,hb⟩;have a6:=hi.lt;rw[b1 i a6]at hb;exact⟨_,o,c,(b4 i hi).1,hb⟩
def Gb{α:Type}{c:Code}(S:α->St)(I:α->Mem->Prop)(M:α->Nat)(x0:α)(hI:I x0 μ)(h0:kP n0 σ (S x0))(round:∀ x m0,I x m0->∀ Q':Exit->St->Mem->Prop,(∀ s m y,I y m->M y<M x->kP n0 s (S y)->Q' .normal s m)->(∀ e s m,uq e=false->Q e s m->Q' e s m)->WM P N n0 c Q' (S x) m0):WM P N n0 (.loop c) Q σ μ:=by
 refine afd h0 ?_;intro os γ0 a w hn ay b k cs;have key:∀ n x m0 a w,M x=n->I x m0->gQ N os γ0 (S x) m0 a w ->
   ∃ e a' w',(∃ σ' dw,Q e σ' dw/\gQ N os γ0 σ' dw a' w')/\Arrives P (lone (b.at a (.code c::.inLoop c::k)) cs w) b k cs e a' w':=by
  intro n
  induction n using Nat.strongRecOn with
  |_ n ih =>
   intro x m0 a w hm hI ay;have hr:=round x m0 hI (λe s m=>(e=.normal->∃ y,I y m/\M y<M x/\kP n0 s (S y))/\(e≠.normal->Q e s m)) (λs m y h1 h2 h3=>⟨λ_=>⟨y,h1,h2,h3⟩,λh=>absurd rfl h⟩)
    (λe s m he h=>⟨λe2=>absurd e2 (Gg he),λ_=>h⟩)
   obtain⟨e,q7,sr,⟨σ',dw,hq,cP⟩,ny⟩:=hr os γ0 a w hn ay b (.inLoop c::k) cs;cases e with
   |normal =>
    obtain⟨y,IY,a6,ht⟩:=hq.1 rfl;obtain⟨IZ,I0,I1,I2,I3⟩:=ih (M y) Ix y _ q7 sr rfl IY (ht.U2 hn cP);exact⟨IZ,I0,I1,I2,.of_steps (Steps.trans ny (.one step_inLoop)) I3⟩
   |exit id=>exact⟨_,q7,sr,⟨σ',dw,hq.2 Iy,cP⟩,.pass (x:=.inLoop c) rfl (λ_ _=>.inl Iy) ny⟩
   |goto l=>exact⟨_,q7,sr,⟨σ',dw,hq.2 Iy,cP⟩,.pass (x:=.inLoop c) rfl (λ_ _=>.inl Iy) ny⟩
   |ret=>exact⟨_,q7,sr,⟨σ',dw,hq.2 Iy,cP⟩,.pass (x:=.inLoop c) rfl (λ_ _=>.inl Iy) ny⟩
   |panic ch=>exact⟨_,q7,sr,⟨σ',dw,hq.2 Iy,cP⟩,.pass (x:=.inLoop c) rfl (λ_ _=>.inl Iy) ny⟩
   |outgrown=>exact⟨_,q7,sr,⟨σ',dw,hq.2 Iy,cP⟩,.pass (x:=.inLoop c) rfl (λ_ _=>.inl Iy) ny⟩
 obtain⟨e,a',w',hq,ny⟩:=key _ x0 _ a w rfl hI ay;exact⟨e,a',w',hq,.of_steps (.one step_loop) ny⟩
def ad5{c:Code}{Q:Exit->St->Prop}(h:WM P N n0 c (λe s _=>Q e s) σ vD):W P N n0 c Q σ:=by
 rintro os γ0 a w hn⟨h1,h2,γ,rfl,h3,h4,h5⟩;refine wp_mono (h os γ0 a γ.w hn ⟨h1,h2,γ,rfl,h3,h4,h5,oD.nil _ _ _ _⟩) ?_;rintro e a' w'⟨σ',dw,hq,k1,k2,az,rfl,k3,k4,k5,k6⟩;exact⟨σ',hq,k1,k2,az,rfl,k3,k4,k5⟩
def afe{c:Code}{Q:Exit->St->Prop}(i:Nat){ag:Nat}{L:List (List Int×AV)}(hi:σ.aa[i]?=some (.mp ag L))(h:∀ b,WM P N σ.aa.length c (λe s _=>Q e s) σ (gP vD b (.iB i))):W P N n0 c Q σ:=by
 rintro os γ0 a w hn⟨h1,h2,γ,rfl,h3,h4,h5⟩;obtain⟨b,f,hb,hh,_⟩:=h4.dF i _ hi;have hl:=(aR.1 hi).1;refine wp_mono (h b σ.aa γ a γ.w rfl ⟨h1,h2,γ,rfl,h3,h4,Fr.refl _ _,?_⟩) ?_
 ·have one:∀ k g,gP vD b (.iB i) k=some g->k=b/\g=.iB i:=λk g hk=>by
   by_cases e:k=b
   ·subst e;rw[rm]at hk;exact⟨rfl,by simpa using hk.symm⟩
   ·rw[px _ _ e]at hk;cases hk
  refine⟨λk g hk=>?_,λk g hk hm=>?_,λk g hk hm=>?_,λk g hk hm=>?_,λk j hk=>?_⟩<;>obtain⟨rfl,e⟩:=one _ _ hk
  ·subst e;trivial
  ·subst e;exact hm.elim
  ·subst e;exact hm.elim
  ·subst e;exact hm.elim
  ·cases e;exact⟨hl,hb,(mg.1 hh).1⟩
 rintro e a' w'⟨σ',dw,hq,k1,k2,az,rfl,k3,k4,k5,k6⟩;exact⟨σ',hq,k1,k2,az,rfl,k3,k4,h5.trans k5⟩
end Go.Am
namespace Go.Am
variable {P:Program} {N n0:Nat} {σ:St}
def iE(L:List (Int×Value)):List (Value×Value):=L.map λp=>(.int .i64 p.1,p.2)
def j7(x:Int)(v:Value):List (Int×Value)->List (Int×Value)
 |[]=>[(x,v)]
 |p::r=>if p.1=x then(x,v)::r else p::j7 x v r
def mW(x:Int):List (Int×Value)->Option Value
 |[]=>none
 |p::r=>if p.1=x then some p.2 else mW x r
def ry(x:Int):List (Int×Value)->Nat->Option (Nat×Value)
 |[],_=>none
 |p::r,i=>if p.1=x then some (i,p.2) else ry x r (i+1)
def U3(x:Int):∀ (L:List (Int×Value)) (i:Nat),(ry x L i).map (·.2)=mW x L
 |[],_=>rfl
 |p::r,i=>by
  rw[ry,mW];split
  ·rfl
  ·exact U3 x r (i+1)
def U4(x:Int)(v:Value):∀ (L:List (Int×Value)) (i:Nat),ry x L i=none->j7 x v L=L++[(x,v)]
 |[],_,_=>rfl
 |p::r,i,h=>by
  rw[ry]at h;split at h
  ·cases h
  ·rename_i hp;rw[j7,if_neg hp,U4 x v r (i+1) h];rfl
def U5(x:Int)(v:Value):∀ (L:List (Int×Value)) (i j:Nat) (u:Value),ry x L i=some (j,u)->i<=j/\L[j-i]?=some (x,u)/\j7 x v L=L.set (j-i) (x,v)
 |[],_,_,_,h=>by cases h
 |p::r,i,j,u,h=>by
  rw[ry]at h;split at h
  ·rename_i hp;simp only[cm.injEq,Prod.mk.injEq]at h;obtain⟨rfl,rfl⟩:=h;refine⟨bb _,?_,?_⟩
   ·rw[iT];simp[<- hp]
   ·rw[iT,j7,if_pos hp];rfl
  ·rename_i hp;obtain⟨h1,h2,h3⟩:=U5 x v r (i+1) j u h;have e:j-i=(j-(i+1))+1:=Ix;refine⟨Ix,?_,?_⟩
   ·rw[e,List.getElem?_cons_succ];exact h2
   ·rw[e,j7,if_neg hp,h3];rfl
def U6{k:TypeDesc}(hk:k=.int .i64)(x:Int):∀ (L:List (Int×Value)) (f:Nat->Nat) (i:Nat),Instr.findNow k (.int .i64 x) ((iE L).mapIdx λi p=>(⟨p.1,p.2,f i⟩:MapEntry)) i=some (ry x L i)
 |[],_,_=>rfl
 |p::r,f,i=>by
  subst hk;simp only[iE,List.map_cons,List.mapIdx_cons,Instr.findNow,Instr.sameNow,if_true,ry];by_cases h:p.1=x
  ·rw[if_pos h];subst h;simp
  ·rw[if_neg h];have:(x==p.1)=false:=by simpa using λe=>h e.symm
   rw[this];simpa [iE] using U6 rfl x r (λj=>f (j+1)) (i+1)
def run_findKey{kt:TypeId}(hk:P.underlying kt=some (.int .i64))(x:Int)(L:List (Int×Value))(w:World):(Instr.findKey kt (.int .i64 x) (cR (iE L)).toList).run P w=.ok (ry x L 0) w:=by
 have h:=U6 (k:=.int .i64) rfl x L id 0;simp only[id]at h;simp[Instr.findKey,run_underlying hk,sH,h]
def run_checkKey{kt:TypeId}(hk:P.underlying kt=some (.int .i64))(e:Bool)(x:Int)(w:World):(Instr.checkKey e 10000 kt (.int .i64 x)).run P w=.ok () w:=by
 have h:∀ d:Nat,(Instr.checkKey e (d+1) kt (.int .i64 x)).run P w=.ok () w:=λd=>by simp[Instr.checkKey,run_underlying hk]
 exact h 9999
def aff{t kt et:TypeId}(ht:P.underlying t=some (.map kt et))(hk:P.underlying kt=some (.int .i64)){z:Value}{w:World}(hz:(zeroValue et).run P w=.ok z w){b n:Nat}{L:List (Int×Value)}(hb:w.heap[b]?=some (.map (cR (iE L)) n))(x:Int):(Instr.lookup t (.map (some b)) (.int .i64 x) false).run P w=.ok ((mW x L).getD z) w:=by
 rw[<- U3 x L 0];simp only[Instr.lookup,Sem.run_bind,run_underlying ht,MapKept.run_getObj_map hb,run_checkKey hk,run_findKey hk,Result.andThen_ok,Sem.run_pure];cases h:ry x L 0 with
 |none=>simp[hz]
 |some q=>simp
def afg{t kt et:TypeId}(ht:P.underlying t=some (.map kt et))(hk:P.underlying kt=some (.int .i64)){z:Value}{w:World}(hz:(zeroValue et).run P w=.ok z w)(x:Int):
  (Instr.lookup t (.map none) (.int .i64 x) false).run P w=.ok z w:=by
 have h:=run_findKey (P:=P) hk x [] w;have e:(cR (iE [])).toList=(#[]:Array MapEntry).toList:=rfl;rw[e]at h;simp only[Instr.lookup,Sem.run_bind,run_underlying ht,run_checkKey hk,h,Result.andThen_ok,Sem.run_pure];simp[ry,hz]
def afh{t kt et:TypeId}(ht:P.underlying t=some (.map kt et))(hk:P.underlying kt=some (.int .i64)){w:World}{b:Nat}{L:List (Int×Value)}(hb:w.heap[b]?=some (.map (cR (iE L)) L.length))(x:Int)(v:Value):
  (Instr.mapUpdate t (.map (some b)) (.int .i64 x) v).run P w=.ok () { w with heap:=w.heap.setIfInBounds b (.map (cR (iE (j7 x v L))) (j7 x v L).length) }:=by
 simp only[Instr.mapUpdate,Sem.run_bind,run_underlying ht,MapKept.run_getObj_map hb,run_checkKey hk,run_findKey hk,Result.andThen_ok];cases h:ry x L 0 with
 |none =>
  have h2:=U4 x v L 0 h;have e:=Jw (iE L) (.int .i64 x,v);rw[show(iE L).length=L.length by simp[iE]]at e;simp only[MapKept.run_setObj_map _ hb,e,h2,show iE (L++[(x,v)])=iE L++[(.int .i64 x,v)] by simp[iE],List.length_append,List.length_singleton]
 |some q =>
  obtain⟨j,u⟩:=q;obtain⟨_,h2,h3⟩:=U5 x v L 0 j u h;rw[Nat.sub_zero]at h2 h3;have CQ:(((cR (iE L))[j]?).map (·.key)).getD (.int .i64 x)=.int .i64 x:=by
   simp[cR,iE,h2]
  have Dh:Instr.sameBits 10000 (.int .i64 x) (.int .i64 x)=true:=by simp[Instr.sameBits]
  have dU:(Instr.keyThatStays (.int .i64 x) (.int .i64 x)).run P w=.ok (.int .i64 x) w:=by simp[Instr.keyThatStays,Dh]
  have e:=FD (iE L) j (λe=>{ e with key:=.int .i64 x,val:=v }) (.int .i64 x,v) (λq _=>rfl);have e2:(iE L).set j (.int .i64 x,v)=iE (j7 x v L):=by rw[h3];simp[iE,List.map_set]
  simp only[CQ,Sem.run_bind,dU,Result.andThen_ok,MapKept.run_setObj_map _ hb];rw[e,e2,h3,List.length_set]
def U7{t kt et:TypeId}(ht:P.underlying t=some (.map kt et)){w:World}{b n:Nat}{es:Array MapEntry}(hb:w.heap[b]?=some (.map es n)):
  (Instr.range t (.map (some b))).run P w=.ok (.pointer (some ⟨w.heap.size,0,none⟩)) (w.alloc (.mapIter (some b) n #[] n)):=run_range_map w t kt et b es n ht hb
def U8{ents:List (Value×Value)}{x:MapEntry}(h:x∈(cR ents).toList):x.born<ents.length/\ents[x.born]?=some (x.key,x.val):=by
 rw[sH]at h;obtain⟨i,hi,rfl⟩:=List.mem_mapIdx.1 h;exact⟨hi,by simp[hi]⟩
def U9{w:World}{r b n:Nat}{seen:List Nat}{ents:List (Value×Value)}(hn:n=ents.length)(hr:w.heap[r]?=some (.mapIter (some b) n seen.toArray n))(hb:w.heap[b]?=some (.map (cR ents) n))(ty:TypeId):
  ((∀ j<ents.length,j∈seen)/\(Instr.next (.pointer (some ⟨r,0,none⟩)) false ty).run P w=.ok (.tuple #[.bool false]) w) \/
  ∃ j p d,ents[j]?=some p/\j ∉ seen/\w.drawn<=d/\(Instr.next (.pointer (some ⟨r,0,none⟩)) false ty).run P w=.ok (.tuple #[.bool true,p.1,p.2]) { w with heap:=w.heap.setIfInBounds r (.mapIter (some b) n (seen++[j]).toArray n),drawn:=d }:=by
 subst hn;have hold:∀ x∈(cR ents).toList,x.born<ents.length:=λx hx=>(U8 hx).1;simp only[Instr.next,getObj,Sem.run_bind,Sem.run,hr,hb,Result.andThen,next_test_false seen.toArray (cR ents) ents.length ents.length hold (bb _),iS,if_false];have hL:∀ x,x∈((cR ents).filter λe=>!seen.toArray.contains e.born).toList↔x∈(cR ents).toList/\x.born ∉ seen:=by
  intro x;simp
 have cH:∀ x∈((cR ents).filter λe=>!seen.toArray.contains e.born).toList,x.born<ents.length:=λx hx=>hold x ((hL x).1 hx).1;generalize (cR ents).filter (λe=>!seen.toArray.contains e.born)=L at cH hL ⊢;have e1:L.filter (λx=>decide (x.born<ents.length))=L:=Array.filter_eq_self.2 (λx hx=>by simpa using cH x (by simpa using hx));have e2:L.filter (λx=>decide (x.born >= ents.length)) = #[]:=by
  rw[Array.filter_eq_empty_iff];intro x hx;have:=cH x (by simpa using hx);simp;omega
 simp only[e1,e2,Array.append_empty];by_cases h0:L.size=0
 ·left;have:L = #[]:=Array.eq_empty_of_size_eq_zero h0;subst this;refine⟨λj hj=>?_,?_⟩
  ·cases hc:decide (j∈seen) with
   |true=>exact of_decide_eq_true hc
   |false =>
    have xW:=of_decide_eq_false hc;have:=(hL ⟨(ents[j]).1,(ents[j]).2,j⟩).2 ⟨by rw[sH];exact List.mem_mapIdx.2 ⟨j,hj,rfl⟩,xW⟩;simp at this
  ·simp[choose,Sem.run,Question.forced]
 ·right;have cA:L.isEmpty=false:=by simp[Array.isEmpty,h0]
  simp only[cA,iS,if_false,Array.empty_append,Array.size_map];have ng :∃(j:Nat) (d:Nat),j<L.size/\w.drawn<=d/\(choose (Question.mapNext L.size)).run P w=.ok j { w with drawn:=d }:=by
   by_cases hf:L.size<=1
   ·exact⟨0,w.drawn,Ix,bb _,by simp[choose,Sem.run,Question.forced,hf]⟩
   ·exact⟨_,w.drawn+1,Nat.mod_lt _ Ix,Nat.le_succ _,by
     simp only[choose,Sem.run,Question.forced,decide_eq_true_eq,hf,if_false,Question.cut];rfl⟩
  obtain⟨j,d,hj,Ko,eG⟩:=ng;have hx:=(hL L[j]).1 Iy;obtain⟨h1,h2⟩:=U8 hx.1;refine⟨L[j].born,_,d,h2,hx.2,Ko,?_⟩;simp only[eG,Array.getElem?_map,Array.getElem?_eq_getElem hj,Option.map_some,Sem.run_bind,Result.andThen];simp only[setObj,Sem.run,hr,List.push_toArray];rfl
def U'{w:World}{r b n j:Nat}{seen:List Nat}{ents:List (Value×Value)}{p:Value×Value}(hn:n=ents.length)(hr:w.heap[r]?=some (.mapIter (some b) n (seen++[j]).toArray n))(hb:w.heap[b]?=some (.map (cR ents) n))(hp:ents[j]?=some p):(Instr.entry (.pointer (some ⟨r,0,none⟩))).run P w=.ok (.tuple #[p.1,p.2]) w:=by
 have hj:=(aR.1 hp).1;have hm:(⟨p.1,p.2,j⟩:MapEntry)∈(cR ents).toList:=by
  rw[sH];refine List.mem_mapIdx.2 ⟨j,hj,?_⟩;rw[bT hj]at hp;simp only[cm.injEq]at hp;rw[hp]
 have bU:((cR ents).toList.map (·.born)).Nodup:=by
  rw[sH];have:(ents.mapIdx λi p=>(⟨p.1,p.2,i⟩:MapEntry)).map (·.born)=List.range ents.length:=by
   apply qS;intro i;simp only[b9,NL];rcases Nat.lt_or_ge i ents.length with h|h
   ·simp[h]
   ·simp[h]
  rw[this];exact List.nodup_range
 have hf:(cR ents).find? (·.born==j)=some ⟨p.1,p.2,j⟩:=by rw[<- Array.find?_toList];exact find_born ⟨p.1,p.2,j⟩ _ bU hm
 simp only[Instr.entry,getObj,Sem.run_bind,Sem.run,hr,hb,Result.andThen,List.back?_toArray,List.getLast?_append,List.getLast?_singleton,Option.some_or,bne_self_eq_false,iS,if_false,hf];rfl
def afi(w:World)(t kt et:TypeId)(a:Option Nat)(ht:P.underlying t=some (.map kt et)):(binOp .eql t (.map a) (.map none)).run P w=.ok (.bool a.isNone) w:=by
 have h:∀ d:Nat,(Op.equalIn (d+1) t (.map a) (.map none)).run P w=.ok a.isNone w:=λd=>by
  cases a<;>simp[Op.equalIn,run_underlying ht]
 simp[binOp,Op.equal,Op.maxDepth,h]
def afj(w:World)(t kt et:TypeId)(a:Option Nat)(ht:P.underlying t=some (.map kt et)):(binOp .neq t (.map a) (.map none)).run P w=.ok (.bool (!a.isNone)) w:=by
 have h:∀ d:Nat,(Op.equalIn (d+1) t (.map a) (.map none)).run P w=.ok a.isNone w:=λd=>by
  cases a<;>simp[Op.equalIn,run_underlying ht]
 simp[binOp,Op.equal,Op.maxDepth,h]
end Go.Am
namespace Go.Am
variable {P:Program} {N n0:Nat} {σ:St}
def bg.zL{γ:Cx}(h:bg σ γ){w':World}{b:Nat}(hz:¬ γ.Z b)(ho:¬ oc σ.aa γ.blk b)(hk:∀ k,k≠b->k<γ.w.heap.size->w'.heap[k]?=γ.w.heap[k]?)(aN:γ.w.heap.size<=w'.heap.size):bg σ { γ with w:=w' }:=by
 have hR:∀ v cv,aw σ.aa γ.w γ.Z γ.blk v cv->aw σ.aa w' γ.Z γ.blk v cv:=λv cv hv =>
  hv.mono (λk Kq=>⟨Kq,hk k (λe=>hz (e▸Kq)) (h.fZ k Kq)⟩) (λi x hx=>by
   by_cases cD:x=.gone
   ·subst cD;exact .inl hx
   ·exact .inr ⟨rfl,x,hx,Ob.jg cD⟩)
 refine⟨λk=>hR _ _ (h.an k),λi o hi=>?_,h.inj,h.nz,λk ba=>Nat.lt_of_lt_of_le (h.fZ k ba) aN,λg=>hR _ _ (h.gl g)⟩;by_cases cD:o=.gone
 ·subst cD;trivial
 ·exact(h.dF i o hi).mono hR rfl (λk x c hb=>hk k (λe=>ho ⟨i,x,c,⟨o,hi,cD⟩,e▸hb⟩) (h.blt ⟨o,hi,cD⟩ hb))
theorem Fr.zL{os:List Ob}{γ0 γ:Cx}(h:Fr os γ0 σ.aa γ){w':World}{b:Nat}(hb:γ0.w.heap.size<=b)(hk:∀ k,k≠b->k<γ.w.heap.size->w'.heap[k]?=γ.w.heap[k]?)(aN:γ.w.heap.size<=w'.heap.size)(h1:w'.os=γ.w.os)(h2:w'.tape=γ.w.tape)(h3:w'.output=γ.w.output)(h4:γ.w.drawn<=w'.drawn:=by first|exact Nat.le_refl _|(simp;done)|omega):Fr os γ0 σ.aa { γ with w:=w' } :=
 ⟨h1.trans h.kJ,h2.trans h.tape,h3.trans h.output,Nat.le_trans h.size aN,fun k ba ho=>(hk k (by omega) (Nat.lt_of_lt_of_le ba h.size)).trans (h.dV k ba ho),h.z0,h.z1,h.own,h.len,h.dY,Nat.le_trans h.drawn h4⟩
def oD.zL{μ:Mem}{o0 os:List Ob}{γ0 γ:Cx}(h:oD μ o0 os γ0 γ){w':World}{b:Nat}{g:Gh}(hm:g.vC)(hz:¬ γ.Z b)(ho:¬ oc os γ.blk b)(hb:γ0.w.heap.size<=b)(hk:∀ k,k≠b->k<γ.w.heap.size->w'.heap[k]?=γ.w.heap[k]?)(hg:g.At w' b):oD (gP μ b g) o0 os γ0 { γ with w:=w' }:=by
 have one:∀ k g',gP μ b g k=some g'->(k=b/\g'=g)\/(k≠b/\μ k=some g'):=λk g' h'=>by
  by_cases e:k=b
  ·subst e;rw[rm]at h';exact .inl ⟨rfl,by simpa using h'.symm⟩
  ·rw[px μ g e]at h';exact .inr ⟨e,h'⟩
 refine⟨λk g' h'=>?_,λk g' h' qz=>?_,λk g' h' qz=>?_,λk g' h' qz=>?_,λk i h'=>?_⟩<;>rcases one k _ h' with⟨rfl,e⟩|⟨e,h2⟩
 ·subst e;exact hg
 ·by_cases qz:g'.vC
  ·exact(h.gh k g' h2).heap (hk k e ((h.gh k g' h2).lt qz))
  ·cases g'<;>first|trivial|exact(qz trivial).elim
 ·exact hb
 ·exact h.fresh k g' h2 qz
 ·exact hz
 ·exact h.Bw k g' h2 qz
 ·exact ho
 ·exact h.w6 k g' h2 qz
 ·subst e;exact hm.elim
 ·exact h.iB k i h2
variable {μ:Mem}
def kA(ag:Nat)(l:List Int):AV:=if ag=0 then .lit (kV ag l) else .agg (l.map λn=>N0 n)
def Ve{os:List Ob}{w:World}{Z:Nat->Prop}{blk:fX}(ag:Nat)(l:List Int):aw os w Z blk (kA ag l) (kV ag l):=by
 unfold kA;split
 ·exact .lit _
 ·rename_i h;rw[kV,if_neg h];refine .agg _ _ Iy λj x hx=>?_;simp only[b9,Option.map_eq_some_iff]at hx;obtain⟨n,hn,rfl⟩:=hx;have:(l.map λn=>Value.int .i64 n).toArray.getD j Go.undef=.int .i64 n:=by simp[ek,hn]
  rw[this];exact .lit _
def F9(P:Program)(t:TypeId):Prop:=∃ kt et,P.underlying t=some (.map kt et)/\P.underlying kt=some (.int .i64)
def sP(P:Program)(t:TypeId):Prop:=∃ kt et,P.underlying t=some (.map kt et)
def F8(P:Program)(t:TypeId)(z:Value):Prop:=∃ kt et,P.underlying t=some (.map kt et)/\P.underlying kt=some (.int .i64)/\∀ w:World,(zeroValue et).run P w=.ok z w
def sX(P:Program)(o:Oper)(op:BinOp)(t:TypeId)(x y:AV)(σ:St)(μ:Mem)(K:St->Mem->Prop):Prop :=
 match x with
 |.lit (.map a)=>sP P t/\y=.lit (.map none)/\match op with|.eql=>K (σ.put o.dst (.lit (.bool a.isNone))) μ|.neq=>K (σ.put o.dst (.lit (.bool (!a.isNone)))) μ|_=>False
 |_=>aI P o σ λs=>K s μ
def ym(P:Program)(o:Oper)(args:List AV)(cp:List TypeId)(σ:St)(μ:Mem)(K:St->Mem->Prop):Prop :=
 match args with
 |[.lit (.map (some b))]=>∃ t ents,cp=[t]/\sP P t/\μ b=some (.map ents)/\K (σ.put o.dst (N0 (ents.length:Nat))) μ
 |_=>aI P o σ λs=>K s μ
def eu(P:Program)(o:Oper)(σ:St)(μ:Mem)(K:St->Mem->Prop):Prop :=
 match o.op with
 |.makeMap _ none=>∀ b,μ b=none->K (σ.put o.dst (.lit (.map (some b)))) (gP μ b (.map []))
 |.lookup t x i false=>∃ n z,ev σ i=N0 n/\F8 P t z /\
   ((ev σ x=.lit (.map none)/\K (σ.put o.dst (.lit z)) μ)\/∃ b L,ev σ x=.lit (.map (some b))/\μ b=some (.map (iE L))/\K (σ.put o.dst (.lit ((mW n L).getD z))) μ)
 |.mapUpdate t m k x=>∃ b n L v,F9 P t/\ev σ m=.lit (.map (some b))/\ev σ k=N0 n/\ev σ x=.lit v/\μ b=some (.map (iE L))/\K (σ.put o.dst .undef) (gP μ b (.map (iE (j7 n v L))))
 |.range t x=>(∃ b ents,sP P t/\ev σ x=.lit (.map (some b))/\μ b=some (.map ents)/\∀ r,μ r=none->K (σ.put o.dst (.lit (.pointer (some ⟨r,0,none⟩)))) (gP μ r (.iter b ents.length []))) \/
   ∃ b i ag L,sP P t/\ev σ x=.du i/\σ.aa[i]?=some (.mp ag L)/\μ b=some (.iB i)/\∀ r,μ r=none->K (σ.put o.dst (.lit (.pointer (some ⟨r,0,none⟩)))) (gP μ r (.iter b L.length []))
 |.next x false=>(∃ r b seen ents,ev σ x=.lit (.pointer (some ⟨r,0,none⟩))/\μ r=some (.iter b ents.length seen)/\μ b=some (.map ents) /\
   ((∀ j<ents.length,j∈seen)->K (σ.put o.dst (.bu [.lit (.bool false)])) μ) /\
   ∀ j p,ents[j]?=some p->j ∉ seen->K (σ.put o.dst (.bu [.lit (.bool true),.lit p.1,.lit p.2])) (gP μ r (.iter b ents.length (seen++[j])))) \/
   ∃ r b i ag L seen,ev σ x=.lit (.pointer (some ⟨r,0,none⟩))/\μ r=some (.iter b (kI L) seen)/\μ b=some (.iB i)/\σ.aa[i]?=some (.mp ag L) /\
   ((∀ j<L.length,j∈seen)->K (σ.put o.dst (.bu [.lit (.bool false)])) μ) /\
   ∀ j p,L[j]?=some p->j ∉ seen->K (σ.put o.dst (.bu [.lit (.bool true),kA ag p.1,p.2])) (gP μ r (.iter b L.length (seen++[j])))
 |.entry x=>(∃ r b seen j ents p,ev σ x=.lit (.pointer (some ⟨r,0,none⟩))/\μ r=some (.iter b ents.length (seen++[j]))/\μ b=some (.map ents)/\ents[j]?=some p/\K (σ.put o.dst (.bu [.lit p.1,.lit p.2])) μ) \/
   ∃ r b i ag L seen j p,ev σ x=.lit (.pointer (some ⟨r,0,none⟩))/\μ r=some (.iter b (kI L) (seen++[j]))/\μ b=some (.iB i)/\σ.aa[i]?=some (.mp ag L)/\L[j]?=some p/\K (σ.put o.dst (.bu [kA ag p.1,p.2])) μ
 |.binOp op t x y _=>sX P o op t (ev σ x) (ev σ y) σ μ K
 |.call ⟨.builtin .len,args,cp⟩=>ym P o (args.toList.map (ev σ)) cp.toList σ μ K
 |_=>aI P o σ λs=>K s μ
def gQ.afk{os:List Ob}{γ0:Cx}{a:Act}{w:World}(h:gQ N os γ0 σ μ a w):∃γ:Cx,fq N σ.aa γ σ a w/\∀ σ' a' w',fq N σ.aa γ σ' a' w'->gQ N os γ0 σ' μ a' w':=by
 obtain⟨gI,aN,γ,rfl,ha,hs,hf,hm⟩:=h;refine⟨γ,⟨gI,aN,γ,rfl,ha,hs,Fr.refl _ _⟩,?_⟩;rintro σ' a' w'⟨Km,Kn,az,rfl,oE,iw,eX⟩;exact⟨Km,Kn,az,rfl,oE,iw,hf.trans eX,hm.dV eX⟩
def gQ.vF{os:List Ob}{γ0:Cx}{a:Act}{w:World}(h:gQ N os γ0 σ μ a w){o:Oper}(hd:∀ d,o.dst=some d->d<N){v:AV}{cv:Value}(hv:∀ γ:Cx,γ.w=w->bg σ γ->Fr os γ0 σ.aa γ->oD μ os σ.aa γ0 γ->aw σ.aa γ.w γ.Z γ.blk v cv):gQ N os γ0 (σ.put o.dst v) μ (a.put o.dst cv) w:=by
 obtain⟨gI,aN,γ,rfl,ha,hs,hf,hm⟩:=h;refine⟨by rw[put_defers];exact gI,by rw[tR];exact aN,{ γ with tmps:=(a.put o.dst cv).tmps },rfl,rfl,q6 hs ha (λd h=>by rw[aN];exact hd d h) (hv γ rfl hs hf hm),?_,?_⟩
 ·rw[p6];exact hf.put _
 ·rw[p6];exact⟨hm.gh,hm.fresh,hm.Bw,hm.w6,hm.iB⟩
theorem gQ.block{os:List Ob}{γ0:Cx}{a:Act}{w w':World}(h:gQ N os γ0 σ μ a w){b:Nat}{g:Gh}(Gv:g.vC)(hb:(∃ g',μ b=some g'/\g'.vC)\/b=w.heap.size)(hk:∀ k,k≠b->k<w.heap.size->w'.heap[k]?=w.heap[k]?)(aN:w.heap.size<=w'.heap.size)(h1:w'.os=w.os)(h2:w'.tape=w.tape)(h3:w'.output=w.output)(hg:g.At w' b)(h4:w.drawn<=w'.drawn:=by first|exact Nat.le_refl _|(simp;done)|omega):gQ N os γ0 σ (gP μ b g) a w':=by
 obtain⟨gI,w7,γ,rfl,ha,hs,hf,hm⟩:=h;have aV:¬ γ.Z b/\¬ oc σ.aa γ.blk b/\γ0.w.heap.size<=b:=by
  rcases hb with⟨g',su,Kr⟩|rfl
  ·exact⟨hm.Bw _ _ su Kr,hm.w6 _ _ su Kr,hm.fresh _ _ su Kr⟩
  ·refine⟨fun hz=>Nat.lt_irrefl _ (hs.fZ _ hz),?_,hf.size⟩;rintro⟨i,o,c,hl,hb⟩;exact Nat.lt_irrefl _ (hs.blt hl hb)
 exact⟨gI,w7,{ γ with w:=w' },rfl,ha,hs.zL aV.1 aV.2.1 hk aN,hf.zL aV.2.2 hk aN h1 h2 h3 h4,hm.zL Gv aV.1 aV.2.1 aV.2.2 hk hg⟩
def gQ.ev{os:List Ob}{γ0:Cx}{a:Act}{w:World}(h:gQ N os γ0 σ μ a w){x:Operand}{v:Value}(hx:ev σ x=.lit v):a.eval x=v:=by
 obtain⟨_,_,γ,rfl,ha,hs,_⟩:=h;have:=sv hs ha x;rw[hx]at this;exact this.cz
def gQ.at{os:List Ob}{γ0:Cx}{a:Act}{w:World}(h:gQ N os γ0 σ μ a w){b:Nat}{g:Gh}(hb:μ b=some g):g.At w b:=by
 obtain⟨_,_,γ,rfl,ha,hs,_,hm⟩:=h;exact hm.gh _ _ hb
def gQ.none{os:List Ob}{γ0:Cx}{a:Act}{w:World}(h:gQ N os γ0 σ μ a w):μ w.heap.size=none:=by
 cases hb:μ w.heap.size with
 |none=>rfl
 |some g =>
  by_cases hm:g.vC
  ·exact absurd ((h.at hb).lt hm) (Nat.lt_irrefl _)
  ·cases g<;>first|exact(hm trivial).elim|skip
   obtain⟨_,_,γ,rfl,_,_,hf,wZ⟩:=h;have:=(wZ.iB _ _ hb).2.2;have:=hf.size;omega
def Vf{os:List Ob}{γ0 γ:Cx}(hs:bg σ γ)(hf:Fr os γ0 σ.aa γ)(hm:oD μ os σ.aa γ0 γ){b i ag:Nat}{L:List (List Int×AV)}(hb:μ b=some (.iB i))(hi:σ.aa[i]?=some (.mp ag L)):
  ∃ f:Nat->Value,γ.w.heap[b]?=some (.map (cR (da ag f L)) L.length)/\∀ (j:Nat) p,L[j]?=some p->aw σ.aa γ.w γ.Z γ.blk p.2 (f j):=by
 obtain⟨b',f,h1,h2,_,h3⟩:=hs.dF i _ hi;have:=(hf.dY i (hm.iB _ _ hb).1 ⟨_,hi,Iy⟩).1;rw[this,(hm.iB _ _ hb).2.1]at h1;cases h1;exact⟨f,h2,h3⟩
def afl{x y:List (Value×Value)}(h:cR x=cR y):x=y:=by
 have e:∀ z:List (Value×Value),(cR z).toList.map (λe=>(e.key,e.val))=z:=λz=>by
  rw[sH];apply qS;intro j;simp only[b9,NL];cases z[j]?<;>rfl
 rw[<- e x,<- e y,h]
def Gw{ag:Nat}{f:Nat->Value}{L:List (List Int×AV)}{j:Nat}{q:List Int×AV}(h:L[j]?=some q):(da ag f L)[j]?=some (kV ag q.1,f j):=by simp[da,h]
def gQ.seen{os:List Ob}{γ0:Cx}{a:Act}{w:World}(h:gQ N os γ0 σ μ a w){b i ag:Nat}{L:List (List Int×AV)}(hb:μ b=some (.iB i))(hi:σ.aa[i]?=some (.mp ag L)):
  ∃ f:Nat->Value,w.heap[b]?=some (.map (cR (da ag f L)) (da ag f L).length) /\
   ∀ (γ:Cx) (dw:Mem),γ.w.heap[b]?=w.heap[b]?->dw b=some (.iB i)->bg σ γ->Fr os γ0 σ.aa γ->oD dw os σ.aa γ0 γ->∀ (j:Nat) p,L[j]?=some p->aw σ.aa γ.w γ.Z γ.blk p.2 (f j):=by
 obtain⟨_,_,γ,rfl,ha,hs,hf,hm⟩:=h;obtain⟨f,h1,h2⟩:=Vf hs hf hm hb hi;refine⟨f,by rw[qn];exact h1,?_⟩;intro az dw e aV iw eX qz j p hj;obtain⟨f',h3,h4⟩:=Vf iw eX qz aV hi;rw[e,h1]at h3;simp only[cm.injEq,Obj.map.injEq]at h3;have:=congrArg (λl=>l[j]?) (afl h3.1);rw[Gw hj,Gw hj]at this;simp only[cm.injEq,Prod.mk.injEq]at this;rw[this.2];exact h4 j p hj
def Vg(L:List (Int×Value)):(iE L).length=L.length:=by simp[iE]
def Vh{os:List Ob}{γ0:Cx}{o:Oper}{K:St->Mem->Prop}(h:eu P o σ μ K){a:Act}{w:World}(ay:gQ N os γ0 σ μ a w)(hd:∀ d,o.dst=some d->d<N){Q:Exit->Act->World->Prop}{next:Act->World->Prop}(hn:∀ σ' dw a' w',K σ' dw->gQ N os γ0 σ' dw a' w'->next a' w'):o.wp P a w next Q:=by
 have gen:aI P o σ (λs=>K s μ)->o.wp P a w next Q:=λhg=>by
  obtain⟨γ,h1,h2⟩:=ay.afk;exact wI hg h1 hd (λσ' a' w' hK cP=>hn _ _ _ _ hK (h2 _ _ _ cP))
 have lit:∀ (v:Value) w',(execOp a.eval o).run P w=.ok (.value v) w'->∀ dw,gQ N os γ0 σ dw a w'->K (σ.put o.dst (.lit v)) dw->o.wp P a w next Q:=λv w' hr dw cP hK=>by
  unfold Oper.wp;rw[hr];exact hn _ _ _ _ hK (cP.vF hd (λγ _ _ _ _=>aw.lit v))
 obtain⟨dst,op,type,pos,after,guard⟩:=o;unfold eu at h;cases op
 case makeMap t r =>
  cases r with
  |some r=>exact gen h
  |none =>
   refine lit (.map (some w.heap.size)) (w.alloc (.map #[] 0)) (by simp[execOp,Instr.makeMap]) _ ?_ (h w.heap.size ay.none);exact ay.block trivial (.inr rfl) (λk _ hk=>by rw[heap_alloc_old _ _ hk]) (by show w.heap.size<=(w.heap.push _).size;simp) rfl rfl rfl (by rw[Gh.At,heap_alloc_new];rfl)
 case lookup t x i ok =>
  cases ok with
  |true=>exact gen h
  |false =>
   obtain⟨n,z,hi,⟨kt,et,ht,hk,hz⟩,h⟩:=h;rcases h with⟨hx,hK⟩|⟨b,L,hx,hb,hK⟩
   ·exact lit z w (by simp[execOp,ay.ev hx,ay.ev hi,afg ht hk (hz w)]) μ ay hK
   ·exact lit _ w (by simp[execOp,ay.ev hx,ay.ev hi,aff ht hk (hz w) (ay.at hb)]) μ ay hK
 case mapUpdate t m k x =>
  obtain⟨b,n,L,v,⟨kt,et,ht,hk⟩,hm,hi,hx,hb,hK⟩:=h;have nh:=ay.at hb;rw[Gh.At,Vg]at nh;have a6:=(mg.1 nh).1;have hr:=afh (P:=P) ht hk nh n v;unfold Oper.wp;have jL:(execOp a.eval ⟨dst,.mapUpdate t m k x,type,pos,after,guard⟩).run P w=.ok .skip { w with heap:=w.heap.setIfInBounds b (.map (cR (iE (j7 n v L))) (j7 n v L).length) }:=by
   simp[execOp,ay.ev hm,ay.ev hi,ay.ev hx,hr]
  rw[jL];have qh:gQ N os γ0 σ (gP μ b (.map (iE (j7 n v L)))) a { w with heap:=w.heap.setIfInBounds b (.map (cR (iE (j7 n v L))) (j7 n v L).length) }:=by
   refine ay.block trivial (.inl ⟨_,hb,trivial⟩) (λk hk _=>?_) Iy rfl rfl rfl ?_
   ·simp[tM (Ne.symm hk)]
   ·rw[Gh.At,Vg];simp[a6]
  exact hn _ _ _ _ hK (qh.vF hd (λγ _ _ _ _=>.undef _))
 case range t x =>
  rcases h with h|⟨b,i,ag,L,⟨kt,et,ht⟩,hx,hi,hb,hK⟩;rotate_left
  ·obtain⟨f,h1,_⟩:=ay.seen hb hi;rw[qn]at h1;have hev:a.eval x=.map (some b):=by
    obtain⟨_,_,γ,rfl,ha,hs,hf,hm⟩:=ay;have:=sv hs ha x;rw[hx]at this;have e:=(hf.dY i (hm.iB _ _ hb).1 ⟨_,hi,Iy⟩).1;rw[(hm.iB _ _ hb).2.1]at e;generalize a.eval x=v at this ⊢;cases this with
    |cG v cv h=>cases h
    |du id b' iJ L' h aV=>rw[e]at aV;cases aV;rfl
    |p' id cv h h1=>rw[hi]at h;cases h
   refine lit (.pointer (some ⟨w.heap.size,0,none⟩)) (w.alloc (.mapIter (some b) L.length #[] L.length)) (by simp[execOp,hev,U7 ht h1]) _ ?_ (hK w.heap.size ay.none);exact ay.block trivial (.inr rfl) (λk _ hk=>by rw[heap_alloc_old _ _ hk]) (by show w.heap.size<=(w.heap.push _).size;simp) rfl rfl rfl (by rw[Gh.At,heap_alloc_new])
  obtain⟨b,ents,⟨kt,et,ht⟩,hx,hb,hK⟩:=h;refine lit (.pointer (some ⟨w.heap.size,0,none⟩)) (w.alloc (.mapIter (some b) ents.length #[] ents.length)) (by simp[execOp,ay.ev hx,U7 ht (ay.at hb)]) _ ?_ (hK w.heap.size ay.none);exact ay.block trivial (.inr rfl) (λk _ hk=>by rw[heap_alloc_old _ _ hk]) (by show w.heap.size<=(w.heap.push _).size;simp) rfl rfl rfl (by rw[Gh.At,heap_alloc_new])
 case next x s =>
  cases s with
  |true=>exact gen h
  |false =>
   rcases h with h|⟨r,b,i,ag,L,seen,hx,hr,hb,hi,h1,h2⟩;rotate_left
   ·have a6:=(ay.at hr).lt trivial;obtain⟨f,gR,oF⟩:=ay.seen hb hi;have j4:=ay.at hr;rw[Gh.At,<- qn ag f L]at j4;have Dk:r≠b:=λe=>by rw[e,hb]at hr;cases hr
    rcases U9 (P:=P) rfl j4 gR type with⟨k1,k2⟩|⟨j,p,d,k1,k2,k4,k3⟩
    ·have jL:(execOp a.eval ⟨dst,.next x false,type,pos,after,guard⟩).run P w=.ok (.value (.tuple #[.bool false])) w:=by simp[execOp,ay.ev hx,k2]
     unfold Oper.wp;rw[jL];rw[qn]at k1;exact hn _ _ _ _ (h1 k1) (ay.vF hd (λγ _ _ _ _=>.bu _ _ rfl (λi y hi=>by
      cases i with
      |zero=>simp at hi;subst hi;exact aw.lit _
      |succ i=>simp at hi)))
    ·have jL:(execOp a.eval ⟨dst,.next x false,type,pos,after,guard⟩).run P w=.ok (.value (.tuple #[.bool true,p.1,p.2])) { w with heap:=w.heap.setIfInBounds r (.mapIter (some b) L.length (seen++[j]).toArray L.length),drawn:=d }:=by
      rw[qn]at k3;simp[execOp,ay.ev hx,k3]
     unfold Oper.wp;rw[jL];have gA:j<L.length:=by have:=(aR.1 k1).1;rw[qn]at this;exact this
     obtain⟨q,hq⟩:∃q,L[j]?=some q:=⟨_,bT gA⟩;rw[Gw hq]at k1;cases k1;have qh:gQ N os γ0 σ (gP μ r (.iter b L.length (seen++[j]))) a { w with heap:=w.heap.setIfInBounds r (.mapIter (some b) L.length (seen++[j]).toArray L.length),drawn:=d }:=by
      refine ay.block trivial (.inl ⟨_,hr,trivial⟩) (λk hk _=>?_) Iy rfl rfl rfl ?_ k4
      ·simp[tM (Ne.symm hk)]
      ·rw[Gh.At];simp[a6]
     refine hn _ _ _ _ (h2 j q hq k2) (qh.vF hd (λγ hw hs hf hm=>.bu _ _ rfl (λi' y aq=>?_)))
     match i',aq with
     |0,aq=>simp at aq;subst aq;exact aw.lit _
     |1,aq=>simp at aq;subst aq;exact Ve _ _
     |2,aq =>
      simp at aq;subst aq;exact oF γ _ (by rw[hw];simp[tM Dk]) (by rw[px _ _ (Ne.symm Dk)];exact hb) hs hf hm j q hq
     |i'+3,aq=>simp at aq
   obtain⟨r,b,seen,ents,hx,hr,hb,h1,h2⟩:=h;have a6:=(ay.at hr).lt trivial;rcases U9 (P:=P) rfl (ay.at hr) (ay.at hb) type with⟨k1,k2⟩|⟨j,p,d,k1,k2,k4,k3⟩
   ·have jL:(execOp a.eval ⟨dst,.next x false,type,pos,after,guard⟩).run P w=.ok (.value (.tuple #[.bool false])) w:=by simp[execOp,ay.ev hx,k2]
    unfold Oper.wp;rw[jL];exact hn _ _ _ _ (h1 k1) (ay.vF hd (λγ _ _ _ _=>.bu _ _ rfl (λi y hi=>by
     cases i with
     |zero=>simp at hi;subst hi;exact aw.lit _
     |succ i=>simp at hi)))
   ·have jL:(execOp a.eval ⟨dst,.next x false,type,pos,after,guard⟩).run P w=.ok (.value (.tuple #[.bool true,p.1,p.2])) { w with heap:=w.heap.setIfInBounds r (.mapIter (some b) ents.length (seen++[j]).toArray ents.length),drawn:=d }:=by simp[execOp,ay.ev hx,k3]
    unfold Oper.wp;rw[jL];have qh:gQ N os γ0 σ (gP μ r (.iter b ents.length (seen++[j]))) a { w with heap:=w.heap.setIfInBounds r (.mapIter (some b) ents.length (seen++[j]).toArray ents.length),drawn:=d }:=by
     refine ay.block trivial (.inl ⟨_,hr,trivial⟩) (λk hk _=>?_) Iy rfl rfl rfl ?_ k4
     ·simp[tM (Ne.symm hk)]
     ·rw[Gh.At];simp[a6]
    refine hn _ _ _ _ (h2 j p k1 k2) (qh.vF hd (λγ _ _ _ _=>.bu _ _ rfl (λi y hi=>?_)))
    ·match i,hi with
     |0,hi=>simp at hi;subst hi;exact aw.lit _
     |1,hi=>simp at hi;subst hi;exact aw.lit _
     |2,hi=>simp at hi;subst hi;exact aw.lit _
     |i+3,hi=>simp at hi
 case entry x =>
  rcases h with h|⟨r,b,i,ag,L,seen,j,q,hx,hr,hb,hi,hq,hK⟩;rotate_left
  ·obtain⟨f,gR,oF⟩:=ay.seen hb hi;have j4:=ay.at hr;rw[Gh.At,<- qn ag f L]at j4;have jL:(execOp a.eval ⟨dst,.entry x,type,pos,after,guard⟩).run P w=.ok (.value (.tuple #[kV ag q.1,f j])) w:=by simp[execOp,ay.ev hx,U' (P:=P) rfl j4 gR (Gw hq)]
   unfold Oper.wp;rw[jL];exact hn _ _ _ _ hK (ay.vF hd (λγ hw hs hf hm=>.bu _ _ rfl (λi' y aq=>by
    match i',aq with
    |0,aq=>simp at aq;subst aq;exact Ve _ _
    |1,aq=>simp at aq;subst aq;exact oF γ _ (by rw[hw]) hb hs hf hm j q hq
    |i'+2,aq=>simp at aq)))
  obtain⟨r,b,seen,j,ents,p,hx,hr,hb,hp,hK⟩:=h;have jL:(execOp a.eval ⟨dst,.entry x,type,pos,after,guard⟩).run P w=.ok (.value (.tuple #[p.1,p.2])) w:=by simp[execOp,ay.ev hx,U' (P:=P) rfl (ay.at hr) (ay.at hb) hp]
  unfold Oper.wp;rw[jL];exact hn _ _ _ _ hK (ay.vF hd (λγ _ _ _ _=>.bu _ _ rfl (λi y hi=>by
   match i,hi with
   |0,hi=>simp at hi;subst hi;exact aw.lit _
   |1,hi=>simp at hi;subst hi;exact aw.lit _
   |i+2,hi=>simp at hi)))
 case binOp op t x y yt =>
  replace h:sX P _ op t (Am.ev σ x) (Am.ev σ y) σ μ K:=h
  unfold sX at h;split at h
  ·rename_i m hx;obtain⟨⟨kt,et,ht⟩,hy,h⟩:=h;split at h
   ·exact lit _ w (by simp[execOp,ay.ev hx,ay.ev hy,eqGuard_at_map,afi w t kt et m ht]) μ ay h
   ·exact lit _ w (by simp[execOp,ay.ev hx,ay.ev hy,eqGuard_at_map,afj w t kt et m ht]) μ ay h
   ·exact h.elim
  ·exact gen h
 case call c =>
  obtain⟨callee,args,cp⟩:=c;cases callee with
  |value f=>exact gen h
  |invoke r m=>exact gen h
  |builtin b =>
   cases b
   case len =>
    replace h:ym P _ (args.toList.map (Am.ev σ)) cp.toList σ μ K:=h
    unfold ym at h;split at h
    ·rename_i b hx;obtain⟨t,ents,nh,⟨kt,et,ht⟩,hb,hK⟩:=h;obtain⟨x,hax,zj⟩:∃x,args.toList=[x]/\Am.ev σ x=.lit (.map (some b)):=by
      cases ha:args.toList with
      |nil=>rw[ha]at hx;simp at hx
      |cons x r =>
       rw[ha]at hx;cases r with
       |nil=>exact⟨x,rfl,by simpa using hx⟩
       |cons y r=>simp at hx
     have ea:args = #[x]:=by rw[<- Array.toArray_toList (xs:=args),hax]
     have eb:cp = #[t]:=by rw[<- Array.toArray_toList (xs:=cp),nh]
     subst ea;subst eb;have afo:=ay.at hb;exact lit _ w (by simp[execOp,resolve,invoke,builtin,Builtin.len_,ay.ev zj,run_underlying ht,MapKept.run_getObj_map afo,cR,goInt]) μ ay hK
    ·exact gen h
   all_goals exact gen h
 all_goals exact gen h
def oG(P:Program)(o:Oper)(K:St->Mem->Prop)(b want:Bool)(σ:St)(μ:Mem):Prop:=(b=want->eu P o σ μ K)/\(b≠want->K (σ.put o.dst (.lit (.tuple #[]))) μ)
def pz(P:Program)(ops:Array Oper):List Oper->(St->Mem->Prop)->St->Mem->Prop
 |[],K,σ,μ=>K σ μ
 |o::r,K,σ,μ =>
  match o.guard with
  |none=>eu P o σ μ (pz P ops r K)
  |some (j,want) =>
   match (ops[j]?).bind (·.dst) with
   |none=>False
   |some d =>
    match σ.env d with
    |.lit (.bool b)=>oG P o (pz P ops r K) b want σ μ
    |.lit (.tuple vs)=>vs = #[]/\pz P ops r K (σ.put o.dst (.lit (.tuple #[]))) μ
    |_=>False
def Dl{os:List Ob}{γ0:Cx}{ops:Array Oper}(hd:∀ o∈ops.toList,∀ d,o.dst=some d->d<N){K:St->Mem->Prop}{Q:Exit->Act->World->Prop}(hQ:∀ σ' dw a' w',K σ' dw->gQ N os γ0 σ' dw a' w'->Q .normal a' w'):∀ (l:List Oper) (i:Nat) (σ:St) (μ:Mem) (a:Act) (w:World),ops.toList.drop i=l->pz P ops l K σ μ->gQ N os γ0 σ μ a w ->
   wpOps P ops Q (List.range' i l.length) a w
 |[],i,σ,μ,a,w,_,h,ay=>by simpa [wpOps] using hQ _ _ _ _ h ay
 |o::r,i,σ,μ,a,w,hl,h,ay=>by
  have hi:ops[i]?=some o:=by
   have:(ops.toList.drop i)[0]?=some o:=by rw[hl];rfl
   simpa using this
  have hr:ops.toList.drop (i+1)=r:=by
   have:=congrArg List.tail hl;simpa [List.tail_drop] using this
  have cH:o∈ops.toList:=gk (by simpa using hi);rw[List.length_cons,List.range'_succ,wpOps_cons];unfold wpOp;simp only[hi];unfold pz at h;cases hg:o.guard with
  |none =>
   simp only[hg]at h;have hw:Region.wanted o (yielded ops a.tmps)=true:=by simp[Region.wanted,hg]
   rw[if_pos hw];left;exact Vh h ay (hd o cH) (λσ' dw a' w' hK cP=>Dl hd hQ r (i+1) σ' dw a' w' hr hK cP)
  |some jw =>
   obtain⟨j,want⟩:=jw;simp only[hg]at h;cases dW:(ops[j]?).bind (·.dst) with
   |none=>simp[dW]at h
   |some d =>
    simp only[dW]at h;have hv:∀ v,σ.env d=.lit v->a.tmps.getD d Go.undef=v:=λv he=>by
     have:=ay.ev (x:=.tmp d) (v:=v) (by simpa [ev] using he);simpa [Act.eval] using this
    split at h
    ·rename_i b he;have hv:=hv _ he;have hy:yielded ops a.tmps j=some b:=by
      unfold yielded;rw[dW];have:a.tmps[d]?=some (.bool b):=by
       rw[ek]at hv;cases hx:a.tmps[d]? with
       |none=>rw[hx]at hv;simp[Go.undef]at hv
       |some y=>rw[hx]at hv;simp at hv;rw[hv]
      simp[this]
     by_cases gn:b=want
     ·have hw:Region.wanted o (yielded ops a.tmps)=true:=by simp[Region.wanted,hg,hy,gn]
      rw[if_pos hw];left;exact Vh (h.1 gn) ay (hd o cH) (λσ' dw a' w' hK cP=>Dl hd hQ r (i+1) σ' dw a' w' hr hK cP)
     ·have hw:Region.wanted o (yielded ops a.tmps)=false:=by simp[Region.wanted,hg,hy,gn]
      rw[if_neg (by rw[hw];simp)];exact Dl hd hQ r (i+1) _ _ _ _ hr (h.2 gn) (ay.vF (hd o cH) (λγ _ _ _ _=>aw.lit _))
    ·rename_i vs he;have hv:=hv _ he;have hy:yielded ops a.tmps j=none:=by
      unfold yielded;rw[dW];rw[ek]at hv;cases hx:a.tmps[d]? with
      |none=>simp[hx]
      |some y=>rw[hx]at hv;simp at hv;subst hv;simp[hx]
     have hw:Region.wanted o (yielded ops a.tmps)=false:=by simp[Region.wanted,hg,hy]
     rw[if_neg (by rw[hw];simp)];exact Dl hd hQ r (i+1) _ _ _ _ hr h.2 (ay.vF (hd o cH) (λγ _ _ _ _=>aw.lit _))
    ·exact h.elim
def Vi{id:Nat}{ops:Array Oper}{Q:Exit->St->Mem->Prop}(hd:eU N ops=true)(h:pz P ops ops.toList (Q .normal) σ μ):WM P N n0 (.region id ops false) Q σ μ:=by
 intro os γ0 a w _ ay;refine wp_region ?_;have:=Dl (P:=P) (N:=N) (os:=os) (γ0:=γ0) (ops:=ops) (nx hd) (K:=Q .normal) (Q:=λe a' w'=>∃ σ' dw,Q e σ' dw/\gQ N os γ0 σ' dw a' w') (λσ' dw a' w' hK cP=>⟨σ',dw,hK,cP⟩)
  ops.toList 0 σ μ a w rfl h ay
 rw[List.range_eq_range'];simpa using this
end Go.Am
namespace Go.Am
variable {P:Program} {N n0:Nat} {σ:St} {μ:Mem} {Q:Exit->St->Mem->Prop}
theorem mr{id:Nat}{ops:Array Oper}{y:Code}(h:∀ K:St->Mem->Prop,(∀ s m,WM P N n0 y Q s m->K s m)->pz P ops ops.toList K σ μ)(hd:eU N ops=true:=by decide):WM P N n0 (.seq (.region id ops false) y) Q σ μ :=
 nH fun Q' h1 _=>Vi hd (h _ h1)
theorem qu{id:Nat}{ops:Array Oper}(h:∀ K:St->Mem->Prop,(∀ s m,Q .normal s m->K s m)->pz P ops ops.toList K σ μ)(hd:eU N ops=true:=by decide):WM P N n0 (.region id ops false) Q σ μ :=
 Vi hd (h _ fun _ _ h=>h)
theorem mc{c:Operand}{x y:Code}{t:Bool}(ht:t=true->WM P N n0 x Q σ μ)(hf:t=false->WM P N n0 y Q σ μ)(hc:ev σ c=.lit (.bool t):=by(simp only[Go.Am.sM,Go.Am.Lc,↓reduceIte,Nat.reduceEqDiff,Nat.reduceBEq];exact rfl)):WM P N n0 (.cond c x y) Q σ μ:=afc hc ht hf
section
variable {ops:Array Oper} {o:Oper} {l:List Oper} {K:St->Mem->Prop}
instance:Head (pz P ops (o::l) K σ μ):=⟨trivial⟩
def afp{b want:Bool}(h1:b=true->oG P o K true want σ μ)(h2:b=false->oG P o K false want σ μ):oG P o K b want σ μ:=by
 cases b
 ·exact h2 rfl
 ·exact h1 rfl
instance {b want:Bool}:Gi (oG P o K b want σ μ) b (oG P o K true want σ μ) (oG P o K false want σ μ):=⟨afp⟩
def Vj:oG P o K true true σ μ=eu P o σ μ K:=by simp[oG]
def Vk:oG P o K false false σ μ=eu P o σ μ K:=by simp[oG]
def Vl:oG P o K true false σ μ=K (σ.put o.dst (.lit (.tuple #[]))) μ:=by simp[oG]
def Vm:oG P o K false true σ μ=K (σ.put o.dst (.lit (.tuple #[]))) μ:=by simp[oG]
def Vn:pz P ops [] K σ μ=K σ μ:=rfl
variable {dst:Option Tmp} {tt:TypeId} {p:String} {af:Array Edge} {g:Option (Nat×Bool)}
def Vo(x:Operand):eu P ⟨dst,.move x,tt,p,af,g⟩ σ μ K=aI P ⟨dst,.move x,tt,p,af,g⟩ σ (λs=>K s μ):=rfl
def Vp(x:Operand):eu P ⟨dst,.assign x,tt,p,af,g⟩ σ μ K=aI P ⟨dst,.assign x,tt,p,af,g⟩ σ (λs=>K s μ):=rfl
def Vq(x y z:Operand):eu P ⟨dst,.pick x y z,tt,p,af,g⟩ σ μ K=aI P ⟨dst,.pick x y z,tt,p,af,g⟩ σ (λs=>K s μ):=rfl
def Vr(e:TypeId):eu P ⟨dst,.alloc e,tt,p,af,g⟩ σ μ K=aI P ⟨dst,.alloc e,tt,p,af,g⟩ σ (λs=>K s μ):=rfl
def Vs(e:TypeId)(x:Operand):eu P ⟨dst,.box e x,tt,p,af,g⟩ σ μ K=aI P ⟨dst,.box e x,tt,p,af,g⟩ σ (λs=>K s μ):=rfl
def Vt(t:TypeId)(l:Array (Nat×Operand)):eu P ⟨dst,.build t l,tt,p,af,g⟩ σ μ K=aI P ⟨dst,.build t l,tt,p,af,g⟩ σ (λs=>K s μ):=rfl
def Vu(t:TypeId)(n:Nat)(l:Array (Nat×Operand)):eu P ⟨dst,.buildSlice t n l,tt,p,af,g⟩ σ μ K=aI P ⟨dst,.buildSlice t n l,tt,p,af,g⟩ σ (λs=>K s μ):=rfl
def Vv(t:TypeId)(x:Operand):eu P ⟨dst,.load t x,tt,p,af,g⟩ σ μ K=aI P ⟨dst,.load t x,tt,p,af,g⟩ σ (λs=>K s μ):=rfl
def Vw(t:TypeId)(x y:Operand):eu P ⟨dst,.store t x y,tt,p,af,g⟩ σ μ K=aI P ⟨dst,.store t x y,tt,p,af,g⟩ σ (λs=>K s μ):=rfl
def Vx(u:UnOp)(t:TypeId)(x:Operand):eu P ⟨dst,.unOp u t x,tt,p,af,g⟩ σ μ K=aI P ⟨dst,.unOp u t x,tt,p,af,g⟩ σ (λs=>K s μ):=rfl
def Vy(f:Fn)(x y:Array Operand):eu P ⟨dst,.makeFunc f x y,tt,p,af,g⟩ σ μ K=aI P ⟨dst,.makeFunc f x y,tt,p,af,g⟩ σ (λs=>K s μ):=rfl
def Vz(t:TypeId)(x y:Operand):eu P ⟨dst,.makeSlice t x y,tt,p,af,g⟩ σ μ K=aI P ⟨dst,.makeSlice t x y,tt,p,af,g⟩ σ (λs=>K s μ):=rfl
def VA(t:TypeId)(x:Operand)(lo hi mx:Option Operand):eu P ⟨dst,.slice t x lo hi mx,tt,p,af,g⟩ σ μ K=aI P ⟨dst,.slice t x lo hi mx,tt,p,af,g⟩ σ (λs=>K s μ):=rfl
def VB(t:TypeId)(x:Operand)(n:Nat):eu P ⟨dst,.field t x n,tt,p,af,g⟩ σ μ K=aI P ⟨dst,.field t x n,tt,p,af,g⟩ σ (λs=>K s μ):=rfl
def VC(t:TypeId)(x:Operand)(n:Nat):eu P ⟨dst,.fieldAddr t x n,tt,p,af,g⟩ σ μ K=aI P ⟨dst,.fieldAddr t x n,tt,p,af,g⟩ σ (λs=>K s μ):=rfl
def VE(t:TypeId)(x y:Operand):eu P ⟨dst,.indexAddr t x y,tt,p,af,g⟩ σ μ K=aI P ⟨dst,.indexAddr t x y,tt,p,af,g⟩ σ (λs=>K s μ):=rfl
def VF(x:Operand):eu P ⟨dst,.nilCheck x,tt,p,af,g⟩ σ μ K=aI P ⟨dst,.nilCheck x,tt,p,af,g⟩ σ (λs=>K s μ):=rfl
def VG(x:Operand)(n:Nat):eu P ⟨dst,.extract x n,tt,p,af,g⟩ σ μ K=aI P ⟨dst,.extract x n,tt,p,af,g⟩ σ (λs=>K s μ):=rfl
def VH(s d:TypeId)(x:Operand):eu P ⟨dst,.convert s d x,tt,p,af,g⟩ σ μ K=aI P ⟨dst,.convert s d x,tt,p,af,g⟩ σ (λs=>K s μ):=rfl
def VI(f:Operand)(args:Array Operand)(cp:Array TypeId):eu P ⟨dst,.call ⟨.value f,args,cp⟩,tt,p,af,g⟩ σ μ K=aI P ⟨dst,.call ⟨.value f,args,cp⟩,tt,p,af,g⟩ σ (λs=>K s μ):=rfl
def VJ(args:Array Operand)(cp:Array TypeId):eu P ⟨dst,.call ⟨.builtin .append,args,cp⟩,tt,p,af,g⟩ σ μ K=aI P ⟨dst,.call ⟨.builtin .append,args,cp⟩,tt,p,af,g⟩ σ (λs=>K s μ):=rfl
def VK(args:Array Operand)(cp:Array TypeId):eu P ⟨dst,.call ⟨.builtin .min,args,cp⟩,tt,p,af,g⟩ σ μ K=aI P ⟨dst,.call ⟨.builtin .min,args,cp⟩,tt,p,af,g⟩ σ (λs=>K s μ):=rfl
def VL(args:Array Operand)(cp:Array TypeId):eu P ⟨dst,.call ⟨.builtin .max,args,cp⟩,tt,p,af,g⟩ σ μ K=aI P ⟨dst,.call ⟨.builtin .max,args,cp⟩,tt,p,af,g⟩ σ (λs=>K s μ):=rfl
def VN(args:Array Operand)(cp:Array TypeId):eu P ⟨dst,.call ⟨.builtin .copy,args,cp⟩,tt,p,af,g⟩ σ μ K=aI P ⟨dst,.call ⟨.builtin .copy,args,cp⟩,tt,p,af,g⟩ σ (λs=>K s μ):=rfl
def VO(args:Array Operand)(cp:Array TypeId):eu P ⟨dst,.call ⟨.builtin .len,args,cp⟩,tt,p,af,g⟩ σ μ K=ym P ⟨dst,.call ⟨.builtin .len,args,cp⟩,tt,p,af,g⟩ (args.toList.map (ev σ)) cp.toList σ μ K:=rfl
def VP(op:BinOp)(t:TypeId)(x y:Operand)(yt:TypeId):eu P ⟨dst,.binOp op t x y yt,tt,p,af,g⟩ σ μ K=sX P ⟨dst,.binOp op t x y yt,tt,p,af,g⟩ op t (ev σ x) (ev σ y) σ μ K:=rfl
def VQ(k:IntKind)(n:Int)(op:BinOp)(t:TypeId)(y:AV):sX P o op t (.lit (.int k n)) y σ μ K=aI P o σ (λs=>K s μ):=rfl
def VR(b:Bool)(op:BinOp)(t:TypeId)(y:AV):sX P o op t (.lit (.bool b)) y σ μ K=aI P o σ (λs=>K s μ):=rfl
def VS(a:Option Addr)(n c:Nat)(op:BinOp)(t:TypeId)(y:AV):sX P o op t (.lit (.slice a n c)) y σ μ K=aI P o σ (λs=>K s μ):=rfl
def VT(s:Nat)(r:List (List AV))(op:BinOp)(t:TypeId)(y:AV):sX P o op t (.tree s r) y σ μ K=aI P o σ (λs=>K s μ):=rfl
def VU(l:List AV)(op:BinOp)(t:TypeId)(y:AV):sX P o op t (.agg l) y σ μ K=aI P o σ (λs=>K s μ):=rfl
def VV(a b c d:Nat)(op:BinOp)(t:TypeId)(y:AV):sX P o op t (.ref a b c d) y σ μ K=aI P o σ (λs=>K s μ):=rfl
def VW(a:Option Nat)(t:TypeId)(y:AV):sX P o .eql t (.lit (.map a)) y σ μ K=(sP P t/\y=.lit (.map none)/\K (σ.put o.dst (.lit (.bool a.isNone))) μ):=rfl
def VX(a:Option Nat)(t:TypeId)(y:AV):sX P o .neq t (.lit (.map a)) y σ μ K=(sP P t/\y=.lit (.map none)/\K (σ.put o.dst (.lit (.bool (!a.isNone)))) μ):=rfl
def VY(s:Nat)(r:List (List AV))(t:List TypeId):ym P o [.tree s r] t σ μ K=aI P o σ (λs=>K s μ):=rfl
def VZ(a b c d:Nat)(t:List TypeId):ym P o [.ref a b c d] t σ μ K=aI P o σ (λs=>K s μ):=rfl
def V0(a:Option Addr)(n c:Nat)(t:List TypeId):ym P o [.lit (.slice a n c)] t σ μ K=aI P o σ (λs=>K s μ):=rfl
def V3(b:Nat)(t:List TypeId):ym P o [.lit (.map (some b))] t σ μ K =∃t1 ents,t=[t1]/\sP P t1/\μ b=some (.map ents)/\K (σ.put o.dst (N0 (ents.length:Nat))) μ:=rfl
def V4:pz P ops (o::l) K σ μ=(match o.guard with|none=>eu P o σ μ (pz P ops l K)|some (j,want)=>match (ops[j]?).bind (·.dst) with|none=>False|some d=>match σ.env d with|.lit (.bool b)=>oG P o (pz P ops l K) b want σ μ|.lit (.tuple vs)=>vs = #[]/\pz P ops l K (σ.put o.dst (.lit (.tuple #[]))) μ|_=>False):=by rw[pz]<;>rfl
def V5(a:Option Nat):ef (.map a)=.lit (.map a):=rfl
end
def Mc:=aaI @V5 @Vo @Vp @Vq @Vr @Vs @Vt (aaI @Vu @Vv @Vw @Vx @Vy @Vz @VA (aaI @VB @VC @VE @VF @VG @VH @VI (aaI @VJ @VK @VL @VN @VO @VP @VQ (aaI @VR @VS @VT @VU @VV @VW @VX (aaI @VY @VZ @V0 @V3 @V4 @Vn @Vj (N3 @Vk @Vl @Vm))))))
end Go.Am
namespace Go.Am
variable {P:Program} {N n0:Nat} {σ:St} {μ:Mem} {K:St->Mem->Prop} {dst:Option Tmp} {tt:TypeId} {p:String} {af:Array Edge} {g:Option (Nat×Bool)}
def QK{t:TypeId}(h:∀ b,μ b=none->K (σ.put dst (.lit (.map (some b)))) (gP μ b (.map []))):eu P ⟨dst,.makeMap t none,tt,p,af,g⟩ σ μ K:=h
def C4{t:TypeId}{x i:Operand}{b:Nat}{n:Int}{z:Value}(hx:ev σ x=.lit (.map (some b)))(hi:ev σ i=N0 n)(hz:F8 P t z){L:List (Int×Value)}(hb:μ b=some (.map (iE L)))(hK:K (σ.put dst (.lit ((mW n L).getD z))) μ):eu P ⟨dst,.lookup t x i false,tt,p,af,g⟩ σ μ K:=⟨n,z,hi,hz,.inr ⟨b,L,hx,hb,hK⟩⟩
def J5{t:TypeId}{m k x:Operand}{b:Nat}{n:Int}{v:Value}(hm:ev σ m=.lit (.map (some b)))(hi:ev σ k=N0 n)(hx:ev σ x=.lit v)(hk:F9 P t){L:List (Int×Value)}(hb:μ b=some (.map (iE L)))(hK:K (σ.put dst .undef) (gP μ b (.map (iE (j7 n v L))))):eu P ⟨dst,.mapUpdate t m k x,tt,p,af,g⟩ σ μ K:=⟨b,n,L,v,hk,hm,hi,hx,hb,hK⟩
def ad7{t:TypeId}{x:Operand}{b:Nat}(hx:ev σ x=.lit (.map (some b)))(hk:sP P t){ents:List (Value×Value)}(hb:μ b=some (.map ents))(hK:∀ r,μ r=none->K (σ.put dst (.lit (.pointer (some ⟨r,0,none⟩)))) (gP μ r (.iter b ents.length []))):eu P ⟨dst,.range t x,tt,p,af,g⟩ σ μ K:=.inl ⟨b,ents,hk,hx,hb,hK⟩
def afq{t:TypeId}{x:Operand}{b i ag:Nat}{L:List (List Int×AV)}(hx:ev σ x=.du i)(hi:σ.aa[i]?=some (.mp ag L))(hk:sP P t)(hb:μ b=some (.iB i))(hK:∀ r,μ r=none->K (σ.put dst (.lit (.pointer (some ⟨r,0,none⟩)))) (gP μ r (.iter b L.length []))):eu P ⟨dst,.range t x,tt,p,af,g⟩ σ μ K:=.inr ⟨b,i,ag,L,hk,hx,hi,hb,hK⟩
def ad9{x:Operand}{r b:Nat}{seen:List Nat}{ents:List (Value×Value)}(hx:ev σ x=.lit (.pointer (some ⟨r,0,none⟩)))(hr:μ r=some (.iter b ents.length seen))(hb:μ b=some (.map ents))(h1:(∀ j<ents.length,j∈seen)->K (σ.put dst (.bu [.lit (.bool false)])) μ)(h2:∀ j p,ents[j]?=some p->j ∉ seen->K (σ.put dst (.bu [.lit (.bool true),.lit p.1,.lit p.2])) (gP μ r (.iter b ents.length (seen++[j])))):eu P ⟨dst,.next x false,tt,p,af,g⟩ σ μ K:=.inl ⟨r,b,seen,ents,hx,hr,hb,h1,h2⟩
def afr{x:Operand}{r b i ag:Nat}{seen:List Nat}{L:List (List Int×AV)}(hx:ev σ x=.lit (.pointer (some ⟨r,0,none⟩)))(hr:μ r=some (.iter b L.length seen))(hi:σ.aa[i]?=some (.mp ag L))(hb:μ b=some (.iB i))(h1:(∀ j<L.length,j∈seen)->K (σ.put dst (.bu [.lit (.bool false)])) μ)(h2:∀ j q,L[j]?=some q->j ∉ seen->K (σ.put dst (.bu [.lit (.bool true),kA ag q.1,q.2])) (gP μ r (.iter b L.length (seen++[j])))):eu P ⟨dst,.next x false,tt,p,af,g⟩ σ μ K:=.inr ⟨r,b,i,ag,L,seen,hx,hr,hb,hi,h1,h2⟩
def afs{x:Operand}{r b i ag j:Nat}{seen:List Nat}{L:List (List Int×AV)}{q:List Int×AV}(hx:ev σ x=.lit (.pointer (some ⟨r,0,none⟩)))(hr:μ r=some (.iter b L.length (seen++[j])))(hi:σ.aa[i]?=some (.mp ag L))(hb:μ b=some (.iB i))(hq:L[j]?=some q)(hK:K (σ.put dst (.bu [kA ag q.1,q.2])) μ):eu P ⟨dst,.entry x,tt,p,af,g⟩ σ μ K:=.inr ⟨r,b,i,ag,L,seen,j,q,hx,hr,hb,hi,hq,hK⟩
def aef{x:Operand}{r b j:Nat}{seen:List Nat}{ents:List (Value×Value)}{q:Value×Value}(hx:ev σ x=.lit (.pointer (some ⟨r,0,none⟩)))(hr:μ r=some (.iter b ents.length (seen++[j])))(hb:μ b=some (.map ents))(hp:ents[j]?=some q)(hK:K (σ.put dst (.bu [.lit q.1,.lit q.2])) μ):eu P ⟨dst,.entry x,tt,p,af,g⟩ σ μ K:=.inl ⟨r,b,seen,j,ents,q,hx,hr,hb,hp,hK⟩
def kP.refl:kP n0 σ σ:=λos γ0 γ _ hs hf=>⟨γ,rfl,rfl,hs,hf,λ_ h=>.inl h,λ_ h=>h⟩
end Go.Am

