import Derived.Test.YtfoopmojjjpapaaGreatX08
import Derived.Laws.IdiomRangeMap
set_option linter.all false
set_option maxHeartbeats 0
set_option maxRecDepth 20000
open List renaming getElem?_eq_some_iff→aT,mem_of_getElem?→ik,getElem?_eq_getElem→bS,ext_getElem?→pR,getElem?_map→bY,getElem?_mapIdx→OS,length→jB
open Option renaming some→cy
open Array renaming getElem?_eq_some_iff→mM,getD_eq_getD_getElem?→ep,getElem?_setIfInBounds_ne→tL
open Nat renaming le_refl→aU,sub_self→iq
open Bool renaming false_eq_true→jd
namespace Go.Am
variable {P:Program} {N n0:Nat} {σ:St}
def Wp(dst:Option Tmp)(t:TypeId)(a:Operand)(tt:TypeId)(p:String)(af:Array Edge)(g:Option (Nat×Bool))(K:St->Prop):lH true P ⟨dst,.load t a,tt,p,af,g⟩ σ K=tY P t dst K σ (ev σ a):=rfl
def Lq:=OY @Wp @tY.eq_1
def aH.Bz(d id:Nat){cells:List AV}(ho:σ.aa[id]?=some (.var cells))(hd:σ.env d=.ptr id 0 0)(u9:∀ v∈cells,(∃ x,v=.lit x)\/∃ s r,v=.tree s r):aH n0 σ ⟨jn σ.env d (.cj cells),σ.aa.set id .gone⟩:=by
 intro os γ0 γ _ hs hf;have zK:id<σ.aa.length:=(aT.1 ho).1
 let aB:Cx:={ γ with Z:=λb=>γ.Z b\/∃ o cap,γ.blk id=some (b,o,cap) }
 let os2:=σ.aa.set id .gone
 have gw:∀ i,os2[i]?=if i=id then some .gone else σ.aa[i]?:=by
  intro i;show(σ.aa.set id _)[i]?=_;rw[List.getElem?_set];by_cases h1:i=id
  ·subst h1;simp[zK]
  ·simp[Ne.symm h1,h1]
 have hR:∀ v cv,aw σ.aa γ.w γ.Z γ.blk v cv->aw os2 aB.w aB.Z aB.blk v cv:=λv cv hv =>
  hv.mono (λb hb=>⟨.inl hb,rfl⟩) (λi o hi=>by
   rw[gw];by_cases h1:i=id
   ·left;rw[if_pos h1]
   ·rw[if_neg h1];by_cases hg:o=.gone
    ·subst hg;exact .inl hi
    ·exact .inr ⟨rfl,o,hi,Ob.jr hg⟩)
 have bO:∀ i,Live os2 i->Live σ.aa i/\i≠id:=by
  rintro i⟨o,hi,hg⟩;rw[gw]at hi;split at hi
  ·simp at hi;exact absurd hi.symm hg
  ·rename_i h2;exact⟨⟨o,hi,hg⟩,h2⟩
 have ox:Live σ.aa id:=⟨_,ho,Fl⟩;obtain⟨b,cap,cur,t,h1,h2,h3,h4⟩:=hs.dz _ _ ho;have th:=hs.ar d;rw[hd]at th;have jm:aw os2 aB.w aB.Z aB.blk (.cj cells) (γ.tmps.getD d Go.undef):=by
  generalize γ.tmps.getD d Go.undef=cv at th;cases th with
  |cJ _ _ h=>cases h
  |mR _ _ _ _ h=>rw[ho]at h;simp at h
  |nx _ _ b2 anV anW h hb =>
   rw[h1]at hb;simp only[cy.injEq,Prod.mk.injEq]at hb;obtain⟨rfl,_,_⟩:=hb;refine .cj cells b 0 (λj=>cur.getD j Go.undef) (.inr ⟨0,cap,h1⟩) (λj x hx=>?_) (λj x hx=>?_)
   ·rw[Nat.zero_add];exact zo h2 (by rw[h3];exact(aT.1 hx).1)
   ·have cX:dU σ (λy=>y≠id) x x:=by
     rcases u9 x (ik hx) with⟨v,rfl⟩|⟨s,r,rfl⟩
     ·exact .lit v
     ·exact .tree s r
    exact cX.zl hs (γc:=aB) (λb hb=>.inl hb) rfl (λx b o cap bV _ hb=>.inr ⟨o,cap,by rw[show id=x by simpa using(Decidable.not_not.1 bV).symm];exact hb⟩) _ (h4 j x hx)
  |oa _ _ _ _ _ _ _ _ h=>rw[ho]at h;simp at h
 refine⟨aB,rfl,rfl,⟨λk=>?_,?_,λi j b o c o' c' hi hj=>hs.inj i j b o c o' c' (bO i hi).1 (bO j hj).1,?_,?_,λg=>x8 (hs.gl g) λb hb=>⟨.inl hb,rfl⟩⟩,?_⟩
 ·show aw os2 aB.w aB.Z aB.blk (jn σ.env d (.cj cells) k) (γ.tmps.getD k Go.undef);simp only[jn];split
  ·rename_i e;subst e;exact jm
  ·exact hR _ _ (hs.ar k)
 ·intro i o hi;have aq:os2[i]?=some o:=hi;rw[gw]at aq;split at aq
  ·simp only[cy.injEq]at aq;subst aq;trivial
  ·by_cases hg:o=.gone
   ·subst hg;trivial
   ·exact(hs.dz i o aq).mono hR rfl (λ_ _ _ _=>rfl)
 ·rintro b ⟨i,o,c',hi,hb⟩ (hz|⟨o',cap,aV⟩)
  ·exact hs.nz b ⟨i,o,c',(bO i hi).1,hb⟩ hz
  ·exact(bO i hi).2 (hs.inj i id b o c' o' cap (bO i hi).1 ox hb aV)
 ·rintro b (hz|⟨o,cap,hb⟩)
  ·exact hs.gk b hz
  ·exact hs.blt ox hb
 ·refine⟨hf.kM,hf.tape,hf.output,hf.size,hf.dS,λb hb=>.inl (hf.z0 b hb),?_,?_,by show os.length<=os2.length;simp[os2];exact hf.len,?_,hf.drawn⟩
  ·rintro b (hz|⟨o,cap,hb⟩)
   ·exact hf.z1 b hz
   ·exact .inr (hf.own b ⟨id,o,cap,ox,hb⟩)
  ·rintro b ⟨i,o,c',hi,hb⟩;exact hf.own b ⟨i,o,c',(bO i hi).1,hb⟩
  ·intro i hi hl;obtain⟨h1,x,x',hx,bZ,hk⟩:=hf.dV i hi (bO i hl).1;have jR:Live os2 i:=hl;obtain⟨o,dC,nW⟩:=jR;refine⟨h1,x,o,hx,dC,?_⟩;rw[gw]at dC;split at dC
   ·simp at dC;exact absurd dC.symm nW
   ·rw[bZ]at dC;simp only[cy.injEq]at dC;subst dC;exact hk
end Go.Am
namespace Go.Am
variable {P:Program} {N n0:Nat} {σ:St}
inductive Gh where
 |map (ents:List (Value×Value))
 |iter (mb since:Nat) (seen:List Nat)
 |iO (i:Nat)
def Gh.At(w:World)(b:Nat):Gh->Prop
 |.map ents=>w.heap[b]?=some (.map (cL ents) ents.length)
 |.iter mb since seen=>w.heap[b]?=some (.mapIter (some mb) since seen.toArray since)
 |.iO _=>True
def Gh.vY:Gh->Prop
 |.iO _=>False
 |_=>True
def Gh.At.heap{w w':World}{b:Nat}{g:Gh}(h:g.At w b)(e:w'.heap[b]?=w.heap[b]?):g.At w' b:=by
 cases g<;>first|trivial|exact e.trans h
def Gh.At.lt{w:World}{b:Nat}{g:Gh}(h:g.At w b)(hm:g.vY):b<w.heap.size:=by
 cases g<;>first|exact(mM.1 h).1|exact hm.elim
abbrev Mem:=Nat->Option Gh
def gY(μ:Mem)(b:Nat)(g:Gh):Mem:=λk=>if k=b then some g else μ k
def rq(μ:Mem)(b:Nat)(g:Gh):gY μ b g b=some g:=by simp[gY]
def pC(μ:Mem){b c:Nat}(g:Gh)(h:c≠b):gY μ b g c=μ c:=by simp[gY,h]
def vG:Mem:=λ_=>none
structure oK(μ:Mem)(o0 os:List Ob)(γ0 γ:Cx):Prop where
 gh:∀ b g,μ b=some g->g.At γ.w b
 fresh:∀ b g,μ b=some g->g.vY->γ0.w.heap.size<=b
 Cf:∀ b g,μ b=some g->g.vY->¬ γ.Z b
 xq:∀ b g,μ b=some g->g.vY->¬ od os γ.blk b
 iO:∀ b i,μ b=some (.iO i)->i<o0.length/\γ0.blk i=some (b,0,0)/\b<γ0.w.heap.size
def oK.nil(o0 os:List Ob)(γ0 γ:Cx):oK vG o0 os γ0 γ:=⟨by simp[vG],by simp[vG],by simp[vG],by simp[vG],by simp[vG]⟩
def oK.dS{μ:Mem}{o0 os gu:List Ob}{γ0 γ aB:Cx}(h:oK μ o0 os γ0 γ)(hf:Fr os γ gu aB):oK μ o0 gu γ0 aB:=by
 refine⟨λb g hp=>?_,h.fresh,λb g hp hm hz=>?_,λb g hp hm ho=>?_,h.iO⟩
 ·by_cases hm:g.vY
  ·exact(h.gh b g hp).heap (hf.dS _ ((h.gh b g hp).lt hm) (h.xq b g hp hm))
  ·cases g<;>first|trivial|exact(hm trivial).elim
 ·rcases hf.z1 _ hz with h1|h1|h1
  ·exact h.Cf b g hp hm h1
  ·exact h.xq b g hp hm h1
  ·have:=(h.gh b g hp).lt hm;omega
 ·rcases hf.own _ ho with h1|h1
  ·exact h.xq b g hp hm h1
  ·have:=(h.gh b g hp).lt hm;omega
def oK.le{μ dg:Mem}{o0 os:List Ob}{γ0 γ:Cx}(h:oK μ o0 os γ0 γ)(hl:∀ b g,dg b=some g->μ b=some g):oK dg o0 os γ0 γ :=
 ⟨λb g hp=>h.gh b g (hl b g hp),λb g hp=>h.fresh b g (hl b g hp),λb g hp=>h.Cf b g (hl b g hp),λb g hp=>h.xq b g (hl b g hp),λb i hp=>h.iO b i (hl _ _ hp)⟩
def ij(N:Nat)(os:List Ob)(γ0:Cx)(σ:St)(μ:Mem)(a:Act)(w:World):Prop :=
 a.defers=[]/\a.tmps.size=N/\∃ γ,γ.w=w/\γ.tmps=a.tmps/\bk σ γ/\Fr os γ0 σ.aa γ/\oK μ os σ.aa γ0 γ
def WM(P:Program)(N n0:Nat)(c:Code)(Q:Exit->St->Mem->Prop)(σ:St)(μ:Mem):Prop :=
 ∀ (os:List Ob) (γ0:Cx) (a:Act) (w:World),os.length=n0->ij N os γ0 σ μ a w->c.wp P (λe a' w'=>∃ σ' dg,Q e σ' dg/\ij N os γ0 σ' dg a' w') a w
variable {Q:Exit->St->Mem->Prop} {μ:Mem}
def Ud{c:Code}(h:W P N σ.aa.length c (λe s=>Q e s μ) σ):WM P N n0 c Q σ μ:=by
 rintro os γ0 a w hn⟨gP,aO,γ,rfl,ha,hs,hf,hm⟩;refine wp_mono (h σ.aa γ a γ.w rfl ⟨gP,aO,γ,rfl,ha,hs,Fr.refl _ _⟩) ?_;rintro e a' w'⟨σ',hq,Mz,MA,aB,rfl,oJ,iK,eV⟩;exact⟨σ',μ,hq,Mz,MA,aB,rfl,oJ,iK,hf.trans eV,hm.dS eV⟩
def oE{c:Code}{e:Exit}(hc:GF c=some e)(h:Q e σ μ):WM P N n0 c Q σ μ:=by
 cases c<;>simp[GF]at hc;all_goals subst hc
 all_goals first
  |exact λ_ _ _ _ _ aA=>wp_skip ⟨σ,μ,h,aA⟩
  |exact λ_ _ _ _ _ aA=>wp_label ⟨σ,μ,h,aA⟩
  |exact λ_ _ _ _ _ aA=>wp_exit ⟨σ,μ,h,aA⟩
  |exact λ_ _ _ _ _ aA=>wp_ret ⟨σ,μ,h,aA⟩
def aiC{x y:Code}(Q1:Exit->St->Mem->Prop)(h:WM P N n0 x Q1 σ μ)(hn:∀ s m,Q1 .normal s m->WM P N n0 y Q s m)(he:∀ e s m,e≠.normal->Q1 e s m->Q e s m):WM P N n0 (.seq x y) Q σ μ:=by
 intro os γ0 a w hl aA;refine wp_seq (wp_mono (h os γ0 a w hl aA) ?_);rintro e a' w'⟨σ',dg,h1,h2⟩;cases e with
 |normal=>exact hn _ _ h1 os γ0 a' w' hl h2
 |exit id=>exact⟨σ',dg,he _ _ _ Fl h1,h2⟩
 |goto l=>exact⟨σ',dg,he _ _ _ Fl h1,h2⟩
 |ret=>exact⟨σ',dg,he _ _ _ Fl h1,h2⟩
 |panic c=>exact⟨σ',dg,he _ _ _ Fl h1,h2⟩
 |outgrown=>exact⟨σ',dg,he _ _ _ Fl h1,h2⟩
def nH{x y:Code}(h:∀ Q':Exit->St->Mem->Prop,(∀ s m,WM P N n0 y Q s m->Q' .normal s m)->(∀ e s m,uq e=false->Q e s m->Q' e s m)->WM P N n0 x Q' σ μ):WM P N n0 (.seq x y) Q σ μ :=
 aiC (λe s m=>(e=.normal->WM P N n0 y Q s m)/\(e≠.normal->Q e s m)) (h _ (λs m h=>⟨λ_=>h,λh=>absurd rfl h⟩) (λe s m he h=>⟨λe2=>absurd e2 (GC he),λ_=>h⟩)) (λs m h=>h.1 rfl) (λe s m he h=>h.2 he)
def aiD{c:Operand}{x y:Code}{t:Bool}(hc:ev σ c=.lit (.bool t))(ht:t=true->WM P N n0 x Q σ μ)(hf:t=false->WM P N n0 y Q σ μ):WM P N n0 (.cond c x y) Q σ μ:=by
 intro os γ0 a w hn aA;have aR:a.eval c=.bool t:=by
  obtain⟨_,_,γ,rfl,ha,hs,_⟩:=aA;have:=sF hs ha c;rw[hc]at this;exact this.cz
 exact wp_cond_split aR (λh=>ht h os γ0 a w hn aA) (λh=>hf h os γ0 a w hn aA)
def pB{id:Nat}{c:Code}(h:∀ Q':Exit->St->Mem->Prop,(∀ s m,Q .normal s m->Q' .normal s m)->(∀ s m,Q .normal s m->Q' (.exit id) s m)->(∀ e s m,zN id e=false->Q e s m->Q' e s m)->WM P N n0 c Q' σ μ):WM P N n0 (.block id c) Q σ μ:=by
 intro os γ0 a w hn aA;have h':=h (λe s m=>(e=.exit id->Q .normal s m)/\(e≠.exit id->Q e s m)) (λs m h=>⟨λe=>by simp at e,λ_=>h⟩) (λs m h=>⟨λ_=>h,λe=>absurd rfl e⟩) (λe s m he h=>⟨λe2=>absurd e2 (KY he).2,λ_=>h⟩);refine wp_block (wp_mono (h' os γ0 a w hn aA) ?_);rintro e a' w'⟨σ',dg,h1,h2⟩;cases e with
 |exit nZ =>
  simp only[Exit.inBlock];split
  ·rename_i he;exact⟨σ',dg,h1.1 (by rw[he]),h2⟩
  ·rename_i he;exact⟨σ',dg,h1.2 (λe=>he (by simpa using e)),h2⟩
 |normal=>exact⟨σ',dg,h1.2 Fl,h2⟩
 |goto l=>exact⟨σ',dg,h1.2 Fl,h2⟩
 |ret=>exact⟨σ',dg,h1.2 Fl,h2⟩
 |panic c=>exact⟨σ',dg,h1.2 Fl,h2⟩
 |outgrown=>exact⟨σ',dg,h1.2 Fl,h2⟩
def kY(n0:Nat)(σ σ':St):Prop:=∀ (os:List Ob) (γ0 γ:Cx),os.length=n0->bk σ γ->Fr os γ0 σ.aa γ ->
 ∃ aB,aB.w=γ.w/\aB.tmps=γ.tmps/\bk σ' aB/\Fr os γ0 σ'.aa aB/\(∀ b,aB.Z b->γ.Z b\/od σ.aa γ.blk b)/\∀ b,od σ'.aa aB.blk b->od σ.aa γ.blk b
def kY.Wq{σ':St}(h:kY n0 σ σ'){os:List Ob}{γ0:Cx}{a:Act}{w:World}(hn:os.length=n0)(aA:ij N os γ0 σ μ a w):ij N os γ0 σ' μ a w:=by
 obtain⟨h1,h2,γ,rfl,h3,h4,h5,h6⟩:=aA;obtain⟨aB,e1,e2,e3,e4,e5,e6⟩:=h os γ0 γ hn h4 h5;refine⟨h1,h2,aB,e1,e2.trans h3,e3,e4,λb g hp=>(h6.gh b g hp).heap (by rw[e1]),h6.fresh,λb g hp hm hz=>?_,λb g hp hm ho=>h6.xq b g hp hm (e6 _ ho),h6.iO⟩;rcases e5 _ hz with h|h
 ·exact h6.Cf b g hp hm h
 ·exact h6.xq b g hp hm h
def aiE{c:Code}{σ':St}(h:kY n0 σ σ')(hw:WM P N n0 c Q σ' μ):WM P N n0 c Q σ μ :=
 λos γ0 a w hn aA=>hw os γ0 a w hn (h.Wq hn aA)
def kY.ar(l:List (Nat×AV))(os:List Ob)(ho:σ.aa=os)(h:Has σ.env l):kY n0 σ ⟨ar l,os⟩:=by
 subst ho;intro os γ0 γ _ hs hf;refine⟨γ,rfl,rfl,⟨λk=>?_,hs.dz,hs.inj,hs.nz,hs.gk,hs.gl⟩,hf,λ_ h=>.inl h,λ_ h=>h⟩;rcases FN l k with h'|⟨p,hp,rfl,h'⟩
 ·show aw _ _ _ _ (Am.ar l k) _;rw[h'];exact .undef _
 ·show aw _ _ _ _ (Am.ar l p.1) _;rw[h',<- h.mem p hp];exact hs.ar p.1
theorem kY.se(ak:List Nat)(snap:Bool){l:List (Nat×AV)}{co:List Ob}(ho:oY (bq σ.aa.length ak) σ.aa ak co)(h:ss (cC σ (kept ak co) (bq σ.aa.length ak) snap) σ.env l)(bT:ak.Nodup:=by decide)(hn:n0<=ak.length:=by decide)(bV:∀ i,i<n0->ak.getD i 0=i:=by decide):kY n0 σ ⟨Am.ar l,co⟩:=by
 intro os γ0 γ Bj hs hf;obtain⟨h1,h2,h3⟩:=ho.spec;obtain⟨aB,a1,a2,a3,a4⟩:=hs.select ak snap co bT h1 h2 h3 (Am.ar l) γ.tmps (fun k=>by
  rcases FN l k with h'|⟨p,hp,rfl,h'⟩
  ·exact .inl h'
  ·right;rw[h'];exact⟨_,h.mem p hp,hs.ar p.1⟩)
 obtain⟨b1,b2,b3,b4⟩:=a4;refine⟨aB,a1,a2,a3,hf.select (by omega) h1 (fun i hi=>bV i (by omega)) a1 ⟨b1,b2,b3,b4⟩,b3,?_⟩;rintro b⟨i,o,c,hi,hb⟩;have ba:=hi.lt;rw[b1 i ba]at hb;exact⟨_,o,c,(b4 i hi).1,hb⟩
def G0{α:Type}{c:Code}(S:α->St)(I:α->Mem->Prop)(M:α->Nat)(x0:α)(hI:I x0 μ)(h0:kY n0 σ (S x0))(round:∀ x m0,I x m0->∀ Q':Exit->St->Mem->Prop,(∀ s m y,I y m->M y<M x->kY n0 s (S y)->Q' .normal s m)->(∀ e s m,uq e=false->Q e s m->Q' e s m)->WM P N n0 c Q' (S x) m0):WM P N n0 (.loop c) Q σ μ:=by
 refine aiE h0 ?_;intro os γ0 a w hn aA b k cs;have key:∀ n x m0 a w,M x=n->I x m0->ij N os γ0 (S x) m0 a w ->
   ∃ e a' w',(∃ σ' dg,Q e σ' dg/\ij N os γ0 σ' dg a' w')/\Arrives P (lone (b.at a (.code c::.inLoop c::k)) cs w) b k cs e a' w':=by
  intro n
  induction n using Nat.strongRecOn with
  |_ n ih =>
   intro x m0 a w hm hI aA;have hr:=round x m0 hI (λe s m=>(e=.normal->∃ y,I y m/\M y<M x/\kY n0 s (S y))/\(e≠.normal->Q e s m)) (λs m y h1 h2 h3=>⟨λ_=>⟨y,h1,h2,h3⟩,λh=>absurd rfl h⟩)
    (λe s m he h=>⟨λe2=>absurd e2 (GC he),λ_=>h⟩)
   obtain⟨e,q8,su,⟨σ',dg,hq,cW⟩,nv⟩:=hr os γ0 a w hn aA b (.inLoop c::k) cs;cases e with
   |normal =>
    obtain⟨y,JK,ba,ht⟩:=hq.1 rfl;obtain⟨JL,JM,JN,JO,JP⟩:=ih (M y) CZ y _ q8 su rfl JK (ht.Wq hn cW);exact⟨JL,JM,JN,JO,.of_steps (Steps.trans nv (.one step_inLoop)) JP⟩
   |exit id=>exact⟨_,q8,su,⟨σ',dg,hq.2 Fl,cW⟩,.pass (x:=.inLoop c) rfl (λ_ _=>.inl Fl) nv⟩
   |goto l=>exact⟨_,q8,su,⟨σ',dg,hq.2 Fl,cW⟩,.pass (x:=.inLoop c) rfl (λ_ _=>.inl Fl) nv⟩
   |ret=>exact⟨_,q8,su,⟨σ',dg,hq.2 Fl,cW⟩,.pass (x:=.inLoop c) rfl (λ_ _=>.inl Fl) nv⟩
   |panic ch=>exact⟨_,q8,su,⟨σ',dg,hq.2 Fl,cW⟩,.pass (x:=.inLoop c) rfl (λ_ _=>.inl Fl) nv⟩
   |outgrown=>exact⟨_,q8,su,⟨σ',dg,hq.2 Fl,cW⟩,.pass (x:=.inLoop c) rfl (λ_ _=>.inl Fl) nv⟩
 obtain⟨e,a',w',hq,nv⟩:=key _ x0 _ a w rfl hI aA;exact⟨e,a',w',hq,.of_steps (.one step_loop) nv⟩
def aiF{c:Code}{Q:Exit->St->Prop}(h:WM P N n0 c (λe s _=>Q e s) σ vG):W P N n0 c Q σ:=by
 rintro os γ0 a w hn⟨h1,h2,γ,rfl,h3,h4,h5⟩;refine wp_mono (h os γ0 a γ.w hn ⟨h1,h2,γ,rfl,h3,h4,h5,oK.nil _ _ _ _⟩) ?_;rintro e a' w'⟨σ',dg,hq,k1,k2,aB,rfl,k3,k4,k5,k6⟩;exact⟨σ',hq,k1,k2,aB,rfl,k3,k4,k5⟩
def agv{c:Code}{Q:Exit->St->Prop}(i:Nat){ag:Nat}{L:List (List Int×AV)}(hi:σ.aa[i]?=some (.mp ag L))(h:∀ b,WM P N σ.aa.length c (λe s _=>Q e s) σ (gY vG b (.iO i))):W P N n0 c Q σ:=by
 rintro os γ0 a w hn⟨h1,h2,γ,rfl,h3,h4,h5⟩;obtain⟨b,f,hb,hh,_⟩:=h4.dz i _ hi;have hl:=(aT.1 hi).1;refine wp_mono (h b σ.aa γ a γ.w rfl ⟨h1,h2,γ,rfl,h3,h4,Fr.refl _ _,?_⟩) ?_
 ·have one:∀ k g,gY vG b (.iO i) k=some g->k=b/\g=.iO i:=λk g hk=>by
   by_cases e:k=b
   ·subst e;rw[rq]at hk;exact⟨rfl,by simpa using hk.symm⟩
   ·rw[pC _ _ e]at hk;cases hk
  refine⟨λk g hk=>?_,λk g hk hm=>?_,λk g hk hm=>?_,λk g hk hm=>?_,λk j hk=>?_⟩<;>obtain⟨rfl,e⟩:=one _ _ hk
  ·subst e;trivial
  ·subst e;exact hm.elim
  ·subst e;exact hm.elim
  ·subst e;exact hm.elim
  ·cases e;exact⟨hl,hb,(mM.1 hh).1⟩
 rintro e a' w'⟨σ',dg,hq,k1,k2,aB,rfl,k3,k4,k5,k6⟩;exact⟨σ',hq,k1,k2,aB,rfl,k3,k4,h5.trans k5⟩
end Go.Am
namespace Go.Am
variable {P:Program} {N n0:Nat} {σ:St}
def iE(L:List (Int×Value)):List (Value×Value):=L.map λp=>(.int .i64 p.1,p.2)
def ki(x:Int)(v:Value):List (Int×Value)->List (Int×Value)
 |[]=>[(x,v)]
 |p::r=>if p.1=x then(x,v)::r else p::ki x v r
def nj(x:Int):List (Int×Value)->Option Value
 |[]=>none
 |p::r=>if p.1=x then some p.2 else nj x r
def rG(x:Int):List (Int×Value)->Nat->Option (Nat×Value)
 |[],_=>none
 |p::r,i=>if p.1=x then some (i,p.2) else rG x r (i+1)
def Wr(x:Int):∀ (L:List (Int×Value)) (i:Nat),(rG x L i).map (·.2)=nj x L
 |[],_=>rfl
 |p::r,i=>by
  rw[rG,nj];split
  ·rfl
  ·exact Wr x r (i+1)
def Ws(x:Int)(v:Value):∀ (L:List (Int×Value)) (i:Nat),rG x L i=none->ki x v L=L++[(x,v)]
 |[],_,_=>rfl
 |p::r,i,h=>by
  rw[rG]at h;split at h
  ·cases h
  ·rename_i hp;rw[ki,if_neg hp,Ws x v r (i+1) h];rfl
def Wt(x:Int)(v:Value):∀ (L:List (Int×Value)) (i j:Nat) (u:Value),rG x L i=some (j,u)->i<=j/\L[j-i]?=some (x,u)/\ki x v L=L.set (j-i) (x,v)
 |[],_,_,_,h=>by cases h
 |p::r,i,j,u,h=>by
  rw[rG]at h;split at h
  ·rename_i hp;simp only[cy.injEq,Prod.mk.injEq]at h;obtain⟨rfl,rfl⟩:=h;refine⟨aU _,?_,?_⟩
   ·rw[iq];simp[<- hp]
   ·rw[iq,ki,if_pos hp];rfl
  ·rename_i hp;obtain⟨h1,h2,h3⟩:=Wt x v r (i+1) j u h;have e:j-i=(j-(i+1))+1:=CZ;refine⟨CZ,?_,?_⟩
   ·rw[e,List.getElem?_cons_succ];exact h2
   ·rw[e,ki,if_neg hp,h3];rfl
def Wu{k:TypeDesc}(hk:k=.int .i64)(x:Int):∀ (L:List (Int×Value)) (f:Nat->Nat) (i:Nat),Instr.findNow k (.int .i64 x) ((iE L).mapIdx λi p=>(⟨p.1,p.2,f i⟩:MapEntry)) i=some (rG x L i)
 |[],_,_=>rfl
 |p::r,f,i=>by
  subst hk;simp only[iE,List.map_cons,List.mapIdx_cons,Instr.findNow,Instr.sameNow,if_true,rG];by_cases h:p.1=x
  ·rw[if_pos h];subst h;simp
  ·rw[if_neg h];have:(x==p.1)=false:=by simpa using λe=>h e.symm
   rw[this];simpa [iE] using Wu rfl x r (λj=>f (j+1)) (i+1)
def run_findKey{kt:TypeId}(hk:P.underlying kt=some (.int .i64))(x:Int)(L:List (Int×Value))(w:World):(Instr.findKey kt (.int .i64 x) (cL (iE L)).toList).run P w=.ok (rG x L 0) w:=by
 have h:=Wu (k:=.int .i64) rfl x L id 0;simp only[id]at h;simp[Instr.findKey,run_underlying hk,sK,h]
def run_checkKey{kt:TypeId}(hk:P.underlying kt=some (.int .i64))(e:Bool)(x:Int)(w:World):(Instr.checkKey e 10000 kt (.int .i64 x)).run P w=.ok () w:=by
 have h:∀ d:Nat,(Instr.checkKey e (d+1) kt (.int .i64 x)).run P w=.ok () w:=λd=>by simp[Instr.checkKey,run_underlying hk]
 exact h 9999
def aiG{t kt et:TypeId}(ht:P.underlying t=some (.map kt et))(hk:P.underlying kt=some (.int .i64)){z:Value}{w:World}(hz:(zeroValue et).run P w=.ok z w){b n:Nat}{L:List (Int×Value)}(hb:w.heap[b]?=some (.map (cL (iE L)) n))(x:Int):(Instr.lookup t (.map (some b)) (.int .i64 x) false).run P w=.ok ((nj x L).getD z) w:=by
 rw[<- Wr x L 0];simp only[Instr.lookup,Sem.run_bind,run_underlying ht,MapKept.run_getObj_map hb,run_checkKey hk,run_findKey hk,Result.andThen_ok,Sem.run_pure];cases h:rG x L 0 with
 |none=>simp[hz]
 |some q=>simp
def aiH{t kt et:TypeId}(ht:P.underlying t=some (.map kt et))(hk:P.underlying kt=some (.int .i64)){z:Value}{w:World}(hz:(zeroValue et).run P w=.ok z w)(x:Int):
  (Instr.lookup t (.map none) (.int .i64 x) false).run P w=.ok z w:=by
 have h:=run_findKey (P:=P) hk x [] w;have e:(cL (iE [])).toList=(#[]:Array MapEntry).toList:=rfl;rw[e]at h;simp only[Instr.lookup,Sem.run_bind,run_underlying ht,run_checkKey hk,h,Result.andThen_ok,Sem.run_pure];simp[rG,hz]
def aiI{t kt et:TypeId}(ht:P.underlying t=some (.map kt et))(hk:P.underlying kt=some (.int .i64)){w:World}{b:Nat}{L:List (Int×Value)}(hb:w.heap[b]?=some (.map (cL (iE L)) L.length))(x:Int)(v:Value):
  (Instr.mapUpdate t (.map (some b)) (.int .i64 x) v).run P w=.ok () { w with heap:=w.heap.setIfInBounds b (.map (cL (iE (ki x v L))) (ki x v L).length) }:=by
 simp only[Instr.mapUpdate,Sem.run_bind,run_underlying ht,MapKept.run_getObj_map hb,run_checkKey hk,run_findKey hk,Result.andThen_ok];cases h:rG x L 0 with
 |none =>
  have h2:=Ws x v L 0 h;have e:=Ki (iE L) (.int .i64 x,v);rw[show(iE L).length=L.length by simp[iE]]at e;simp only[MapKept.run_setObj_map _ hb,e,h2,show iE (L++[(x,v)])=iE L++[(.int .i64 x,v)] by simp[iE],List.length_append,List.length_singleton]
 |some q =>
  obtain⟨j,u⟩:=q;obtain⟨_,h2,h3⟩:=Wt x v L 0 j u h;rw[Nat.sub_zero]at h2 h3;have Dj:(((cL (iE L))[j]?).map (·.key)).getD (.int .i64 x)=.int .i64 x:=by
   simp[cL,iE,h2]
  have Er:Instr.sameBits 10000 (.int .i64 x) (.int .i64 x)=true:=by simp[Instr.sameBits]
  have dh:(Instr.keyThatStays (.int .i64 x) (.int .i64 x)).run P w=.ok (.int .i64 x) w:=by simp[Instr.keyThatStays,Er]
  have e:=F7 (iE L) j (λe=>{ e with key:=.int .i64 x,val:=v }) (.int .i64 x,v) (λq _=>rfl);have e2:(iE L).set j (.int .i64 x,v)=iE (ki x v L):=by rw[h3];simp[iE,List.map_set]
  simp only[Dj,Sem.run_bind,dh,Result.andThen_ok,MapKept.run_setObj_map _ hb];rw[e,e2,h3,List.length_set]
def Wv{t kt et:TypeId}(ht:P.underlying t=some (.map kt et)){w:World}{b n:Nat}{es:Array MapEntry}(hb:w.heap[b]?=some (.map es n)):
  (Instr.range t (.map (some b))).run P w=.ok (.pointer (some ⟨w.heap.size,0,none⟩)) (w.alloc (.mapIter (some b) n #[] n)):=run_range_map w t kt et b es n ht hb
def Ww{ents:List (Value×Value)}{x:MapEntry}(h:x∈(cL ents).toList):x.born<ents.length/\ents[x.born]?=some (x.key,x.val):=by
 rw[sK]at h;obtain⟨i,hi,rfl⟩:=List.mem_mapIdx.1 h;exact⟨hi,by simp[hi]⟩
def Wx{w:World}{r b n:Nat}{seen:List Nat}{ents:List (Value×Value)}(hn:n=ents.length)(hr:w.heap[r]?=some (.mapIter (some b) n seen.toArray n))(hb:w.heap[b]?=some (.map (cL ents) n))(ty:TypeId):
  ((∀ j<ents.length,j∈seen)/\(Instr.next (.pointer (some ⟨r,0,none⟩)) false ty).run P w=.ok (.tuple #[.bool false]) w) \/
  ∃ j p d,ents[j]?=some p/\j ∉ seen/\w.drawn<=d/\(Instr.next (.pointer (some ⟨r,0,none⟩)) false ty).run P w=.ok (.tuple #[.bool true,p.1,p.2]) { w with heap:=w.heap.setIfInBounds r (.mapIter (some b) n (seen++[j]).toArray n),drawn:=d }:=by
 subst hn;have hold:∀ x∈(cL ents).toList,x.born<ents.length:=λx hx=>(Ww hx).1;simp only[Instr.next,getObj,Sem.run_bind,Sem.run,hr,hb,Result.andThen,next_test_false seen.toArray (cL ents) ents.length ents.length hold (aU _),jd,if_false];have hL:∀ x,x∈((cL ents).filter λe=>!seen.toArray.contains e.born).toList↔x∈(cL ents).toList/\x.born ∉ seen:=by
  intro x;simp
 have cD:∀ x∈((cL ents).filter λe=>!seen.toArray.contains e.born).toList,x.born<ents.length:=λx hx=>hold x ((hL x).1 hx).1;generalize (cL ents).filter (λe=>!seen.toArray.contains e.born)=L at cD hL ⊢;have e1:L.filter (λx=>decide (x.born<ents.length))=L:=Array.filter_eq_self.2 (λx hx=>by simpa using cD x (by simpa using hx));have e2:L.filter (λx=>decide (x.born >= ents.length)) = #[]:=by
  rw[Array.filter_eq_empty_iff];intro x hx;have:=cD x (by simpa using hx);simp;omega
 simp only[e1,e2,Array.append_empty];by_cases h0:L.size=0
 ·left;have:L = #[]:=Array.eq_empty_of_size_eq_zero h0;subst this;refine⟨λj hj=>?_,?_⟩
  ·cases hc:decide (j∈seen) with
   |true=>exact of_decide_eq_true hc
   |false =>
    have vq:=of_decide_eq_false hc;have:=(hL ⟨(ents[j]).1,(ents[j]).2,j⟩).2 ⟨by rw[sK];exact List.mem_mapIdx.2 ⟨j,hj,rfl⟩,vq⟩;simp at this
  ·simp[choose,Sem.run,Question.forced]
 ·right;have bX:L.isEmpty=false:=by simp[Array.isEmpty,h0]
  simp only[bX,jd,if_false,Array.empty_append,Array.size_map];have qF :∃(j:Nat) (d:Nat),j<L.size/\w.drawn<=d/\(choose (Question.mapNext L.size)).run P w=.ok j { w with drawn:=d }:=by
   by_cases hf:L.size<=1
   ·exact⟨0,w.drawn,CZ,aU _,by simp[choose,Sem.run,Question.forced,hf]⟩
   ·exact⟨_,w.drawn+1,Nat.mod_lt _ CZ,Nat.le_succ _,by
     simp only[choose,Sem.run,Question.forced,decide_eq_true_eq,hf,if_false,Question.cut];rfl⟩
  obtain⟨j,d,hj,MC,eG⟩:=qF;have hx:=(hL L[j]).1 Fl;obtain⟨h1,h2⟩:=Ww hx.1;refine⟨L[j].born,_,d,h2,hx.2,MC,?_⟩;simp only[eG,Array.getElem?_map,Array.getElem?_eq_getElem hj,Option.map_some,Sem.run_bind,Result.andThen];simp only[setObj,Sem.run,hr,List.push_toArray];rfl
def Wy{w:World}{r b n j:Nat}{seen:List Nat}{ents:List (Value×Value)}{p:Value×Value}(hn:n=ents.length)(hr:w.heap[r]?=some (.mapIter (some b) n (seen++[j]).toArray n))(hb:w.heap[b]?=some (.map (cL ents) n))(hp:ents[j]?=some p):(Instr.entry (.pointer (some ⟨r,0,none⟩))).run P w=.ok (.tuple #[p.1,p.2]) w:=by
 have hj:=(aT.1 hp).1;have hm:(⟨p.1,p.2,j⟩:MapEntry)∈(cL ents).toList:=by
  rw[sK];refine List.mem_mapIdx.2 ⟨j,hj,?_⟩;rw[bS hj]at hp;simp only[cy.injEq]at hp;rw[hp]
 have bT:((cL ents).toList.map (·.born)).Nodup:=by
  rw[sK];have:(ents.mapIdx λi p=>(⟨p.1,p.2,i⟩:MapEntry)).map (·.born)=List.range ents.length:=by
   apply pR;intro i;simp only[bY,OS];rcases Nat.lt_or_ge i ents.length with h|h
   ·simp[h]
   ·simp[h]
  rw[this];exact List.nodup_range
 have hf:(cL ents).find? (·.born==j)=some ⟨p.1,p.2,j⟩:=by rw[<- Array.find?_toList];exact find_born ⟨p.1,p.2,j⟩ _ bT hm
 simp only[Instr.entry,getObj,Sem.run_bind,Sem.run,hr,hb,Result.andThen,List.back?_toArray,List.getLast?_append,List.getLast?_singleton,Option.some_or,bne_self_eq_false,jd,if_false,hf];rfl
def aiJ(w:World)(t kt et:TypeId)(a:Option Nat)(ht:P.underlying t=some (.map kt et)):(binOp .eql t (.map a) (.map none)).run P w=.ok (.bool a.isNone) w:=by
 have h:∀ d:Nat,(Op.equalIn (d+1) t (.map a) (.map none)).run P w=.ok a.isNone w:=λd=>by
  cases a<;>simp[Op.equalIn,run_underlying ht]
 simp[binOp,Op.equal,Op.maxDepth,h]
def aiK(w:World)(t kt et:TypeId)(a:Option Nat)(ht:P.underlying t=some (.map kt et)):(binOp .neq t (.map a) (.map none)).run P w=.ok (.bool (!a.isNone)) w:=by
 have h:∀ d:Nat,(Op.equalIn (d+1) t (.map a) (.map none)).run P w=.ok a.isNone w:=λd=>by
  cases a<;>simp[Op.equalIn,run_underlying ht]
 simp[binOp,Op.equal,Op.maxDepth,h]
end Go.Am
namespace Go.Am
variable {P:Program} {N n0:Nat} {σ:St}
def bk.zT{γ:Cx}(h:bk σ γ){w':World}{b:Nat}(hz:¬ γ.Z b)(ho:¬ od σ.aa γ.blk b)(hk:∀ k,k≠b->k<γ.w.heap.size->w'.heap[k]?=γ.w.heap[k]?)(aO:γ.w.heap.size<=w'.heap.size):bk σ { γ with w:=w' }:=by
 have hR:∀ v cv,aw σ.aa γ.w γ.Z γ.blk v cv->aw σ.aa w' γ.Z γ.blk v cv:=λv cv hv =>
  hv.mono (λk MD=>⟨MD,hk k (λe=>hz (e▸MD)) (h.gk k MD)⟩) (λi x hx=>by
   by_cases cG:x=.gone
   ·subst cG;exact .inl hx
   ·exact .inr ⟨rfl,x,hx,Ob.jr cG⟩)
 refine⟨λk=>hR _ _ (h.ar k),λi o hi=>?_,h.inj,h.nz,λk bc=>Nat.lt_of_lt_of_le (h.gk k bc) aO,λg=>hR _ _ (h.gl g)⟩;by_cases cG:o=.gone
 ·subst cG;trivial
 ·exact(h.dz i o hi).mono hR rfl (λk x c hb=>hk k (λe=>ho ⟨i,x,c,⟨o,hi,cG⟩,e▸hb⟩) (h.blt ⟨o,hi,cG⟩ hb))
theorem Fr.zT{os:List Ob}{γ0 γ:Cx}(h:Fr os γ0 σ.aa γ){w':World}{b:Nat}(hb:γ0.w.heap.size<=b)(hk:∀ k,k≠b->k<γ.w.heap.size->w'.heap[k]?=γ.w.heap[k]?)(aO:γ.w.heap.size<=w'.heap.size)(h1:w'.os=γ.w.os)(h2:w'.tape=γ.w.tape)(h3:w'.output=γ.w.output)(h4:γ.w.drawn<=w'.drawn:=by first|exact Nat.le_refl _|(simp;done)|omega):Fr os γ0 σ.aa { γ with w:=w' } :=
 ⟨h1.trans h.kM,h2.trans h.tape,h3.trans h.output,Nat.le_trans h.size aO,fun k bc ho=>(hk k (by omega) (Nat.lt_of_lt_of_le bc h.size)).trans (h.dS k bc ho),h.z0,h.z1,h.own,h.len,h.dV,Nat.le_trans h.drawn h4⟩
def oK.zT{μ:Mem}{o0 os:List Ob}{γ0 γ:Cx}(h:oK μ o0 os γ0 γ){w':World}{b:Nat}{g:Gh}(hm:g.vY)(hz:¬ γ.Z b)(ho:¬ od os γ.blk b)(hb:γ0.w.heap.size<=b)(hk:∀ k,k≠b->k<γ.w.heap.size->w'.heap[k]?=γ.w.heap[k]?)(hg:g.At w' b):oK (gY μ b g) o0 os γ0 { γ with w:=w' }:=by
 have one:∀ k g',gY μ b g k=some g'->(k=b/\g'=g)\/(k≠b/\μ k=some g'):=λk g' h'=>by
  by_cases e:k=b
  ·subst e;rw[rq]at h';exact .inl ⟨rfl,by simpa using h'.symm⟩
  ·rw[pC μ g e]at h';exact .inr ⟨e,h'⟩
 refine⟨λk g' h'=>?_,λk g' h' qQ=>?_,λk g' h' qQ=>?_,λk g' h' qQ=>?_,λk i h'=>?_⟩<;>rcases one k _ h' with⟨rfl,e⟩|⟨e,h2⟩
 ·subst e;exact hg
 ·by_cases qQ:g'.vY
  ·exact(h.gh k g' h2).heap (hk k e ((h.gh k g' h2).lt qQ))
  ·cases g'<;>first|trivial|exact(qQ trivial).elim
 ·exact hb
 ·exact h.fresh k g' h2 qQ
 ·exact hz
 ·exact h.Cf k g' h2 qQ
 ·exact ho
 ·exact h.xq k g' h2 qQ
 ·subst e;exact hm.elim
 ·exact h.iO k i h2
variable {μ:Mem}
def kA(ag:Nat)(l:List Int):AV:=if ag=0 then .lit (kV ag l) else .agg (l.map λn=>OJ n)
def WC{os:List Ob}{w:World}{Z:Nat->Prop}{blk:gd}(ag:Nat)(l:List Int):aw os w Z blk (kA ag l) (kV ag l):=by
 unfold kA;split
 ·exact .lit _
 ·rename_i h;rw[kV,if_neg h];refine .agg _ _ Fl λj x hx=>?_;simp only[bY,Option.map_eq_some_iff]at hx;obtain⟨n,hn,rfl⟩:=hx;have:(l.map λn=>Value.int .i64 n).toArray.getD j Go.undef=.int .i64 n:=by simp[ep,hn]
  rw[this];exact .lit _
def HQ(P:Program)(t:TypeId):Prop:=∃ kt et,P.underlying t=some (.map kt et)/\P.underlying kt=some (.int .i64)
def sU(P:Program)(t:TypeId):Prop:=∃ kt et,P.underlying t=some (.map kt et)
def HR(P:Program)(t:TypeId)(z:Value):Prop:=∃ kt et,P.underlying t=some (.map kt et)/\P.underlying kt=some (.int .i64)/\∀ w:World,(zeroValue et).run P w=.ok z w
def tq(P:Program)(o:Oper)(op:BinOp)(t:TypeId)(x y:AV)(σ:St)(μ:Mem)(K:St->Mem->Prop):Prop :=
 match x with
 |.lit (.map a)=>sU P t/\y=.lit (.map none)/\match op with|.eql=>K (σ.put o.dst (.lit (.bool a.isNone))) μ|.neq=>K (σ.put o.dst (.lit (.bool (!a.isNone)))) μ|_=>False
 |_=>aJ P o σ λs=>K s μ
def yK(P:Program)(o:Oper)(args:List AV)(cm:List TypeId)(σ:St)(μ:Mem)(K:St->Mem->Prop):Prop :=
 match args with
 |[.lit (.map (some b))]=>∃ t ents,cm=[t]/\sU P t/\μ b=some (.map ents)/\K (σ.put o.dst (OJ (ents.length:Nat))) μ
 |_=>aJ P o σ λs=>K s μ
def eA(P:Program)(o:Oper)(σ:St)(μ:Mem)(K:St->Mem->Prop):Prop :=
 match o.op with
 |.makeMap _ none=>∀ b,μ b=none->K (σ.put o.dst (.lit (.map (some b)))) (gY μ b (.map []))
 |.lookup t x i false=>∃ n z,ev σ i=OJ n/\HR P t z /\
   ((ev σ x=.lit (.map none)/\K (σ.put o.dst (.lit z)) μ)\/∃ b L,ev σ x=.lit (.map (some b))/\μ b=some (.map (iE L))/\K (σ.put o.dst (.lit ((nj n L).getD z))) μ)
 |.mapUpdate t m k x=>∃ b n L v,HQ P t/\ev σ m=.lit (.map (some b))/\ev σ k=OJ n/\ev σ x=.lit v/\μ b=some (.map (iE L))/\K (σ.put o.dst .undef) (gY μ b (.map (iE (ki n v L))))
 |.range t x=>(∃ b ents,sU P t/\ev σ x=.lit (.map (some b))/\μ b=some (.map ents)/\∀ r,μ r=none->K (σ.put o.dst (.lit (.pointer (some ⟨r,0,none⟩)))) (gY μ r (.iter b ents.length []))) \/
   ∃ b i ag L,sU P t/\ev σ x=.db i/\σ.aa[i]?=some (.mp ag L)/\μ b=some (.iO i)/\∀ r,μ r=none->K (σ.put o.dst (.lit (.pointer (some ⟨r,0,none⟩)))) (gY μ r (.iter b L.length []))
 |.next x false=>(∃ r b seen ents,ev σ x=.lit (.pointer (some ⟨r,0,none⟩))/\μ r=some (.iter b ents.length seen)/\μ b=some (.map ents) /\
   ((∀ j<ents.length,j∈seen)->K (σ.put o.dst (.bx [.lit (.bool false)])) μ) /\
   ∀ j p,ents[j]?=some p->j ∉ seen->K (σ.put o.dst (.bx [.lit (.bool true),.lit p.1,.lit p.2])) (gY μ r (.iter b ents.length (seen++[j])))) \/
   ∃ r b i ag L seen,ev σ x=.lit (.pointer (some ⟨r,0,none⟩))/\μ r=some (.iter b (jB L) seen)/\μ b=some (.iO i)/\σ.aa[i]?=some (.mp ag L) /\
   ((∀ j<L.length,j∈seen)->K (σ.put o.dst (.bx [.lit (.bool false)])) μ) /\
   ∀ j p,L[j]?=some p->j ∉ seen->K (σ.put o.dst (.bx [.lit (.bool true),kA ag p.1,p.2])) (gY μ r (.iter b L.length (seen++[j])))
 |.entry x=>(∃ r b seen j ents p,ev σ x=.lit (.pointer (some ⟨r,0,none⟩))/\μ r=some (.iter b ents.length (seen++[j]))/\μ b=some (.map ents)/\ents[j]?=some p/\K (σ.put o.dst (.bx [.lit p.1,.lit p.2])) μ) \/
   ∃ r b i ag L seen j p,ev σ x=.lit (.pointer (some ⟨r,0,none⟩))/\μ r=some (.iter b (jB L) (seen++[j]))/\μ b=some (.iO i)/\σ.aa[i]?=some (.mp ag L)/\L[j]?=some p/\K (σ.put o.dst (.bx [kA ag p.1,p.2])) μ
 |.binOp op t x y _=>tq P o op t (ev σ x) (ev σ y) σ μ K
 |.call ⟨.builtin .len,args,cm⟩=>yK P o (args.toList.map (ev σ)) cm.toList σ μ K
 |_=>aJ P o σ λs=>K s μ
def ij.aiL{os:List Ob}{γ0:Cx}{a:Act}{w:World}(h:ij N os γ0 σ μ a w):∃γ:Cx,gf N σ.aa γ σ a w/\∀ σ' a' w',gf N σ.aa γ σ' a' w'->ij N os γ0 σ' μ a' w':=by
 obtain⟨gP,aO,γ,rfl,ha,hs,hf,hm⟩:=h;refine⟨γ,⟨gP,aO,γ,rfl,ha,hs,Fr.refl _ _⟩,?_⟩;rintro σ' a' w'⟨Mz,MA,aB,rfl,oJ,iK,eV⟩;exact⟨Mz,MA,aB,rfl,oJ,iK,hf.trans eV,hm.dS eV⟩
def ij.vZ{os:List Ob}{γ0:Cx}{a:Act}{w:World}(h:ij N os γ0 σ μ a w){o:Oper}(hd:∀ d,o.dst=some d->d<N){v:AV}{cv:Value}(hv:∀ γ:Cx,γ.w=w->bk σ γ->Fr os γ0 σ.aa γ->oK μ os σ.aa γ0 γ->aw σ.aa γ.w γ.Z γ.blk v cv):ij N os γ0 (σ.put o.dst v) μ (a.put o.dst cv) w:=by
 obtain⟨gP,aO,γ,rfl,ha,hs,hf,hm⟩:=h;refine⟨by rw[put_defers];exact gP,by rw[tW];exact aO,{ γ with tmps:=(a.put o.dst cv).tmps },rfl,rfl,q6 hs ha (λd h=>by rw[aO];exact hd d h) (hv γ rfl hs hf hm),?_,?_⟩
 ·rw[p6];exact hf.put _
 ·rw[p6];exact⟨hm.gh,hm.fresh,hm.Cf,hm.xq,hm.iO⟩
theorem ij.block{os:List Ob}{γ0:Cx}{a:Act}{w w':World}(h:ij N os γ0 σ μ a w){b:Nat}{g:Gh}(HS:g.vY)(hb:(∃ g',μ b=some g'/\g'.vY)\/b=w.heap.size)(hk:∀ k,k≠b->k<w.heap.size->w'.heap[k]?=w.heap[k]?)(aO:w.heap.size<=w'.heap.size)(h1:w'.os=w.os)(h2:w'.tape=w.tape)(h3:w'.output=w.output)(hg:g.At w' b)(h4:w.drawn<=w'.drawn:=by first|exact Nat.le_refl _|(simp;done)|omega):ij N os γ0 σ (gY μ b g) a w':=by
 obtain⟨gP,xj,γ,rfl,ha,hs,hf,hm⟩:=h;have aV:¬ γ.Z b/\¬ od σ.aa γ.blk b/\γ0.w.heap.size<=b:=by
  rcases hb with⟨g',sw,ME⟩|rfl
  ·exact⟨hm.Cf _ _ sw ME,hm.xq _ _ sw ME,hm.fresh _ _ sw ME⟩
  ·refine⟨fun hz=>Nat.lt_irrefl _ (hs.gk _ hz),?_,hf.size⟩;rintro⟨i,o,c,hl,hb⟩;exact Nat.lt_irrefl _ (hs.blt hl hb)
 exact⟨gP,xj,{ γ with w:=w' },rfl,ha,hs.zT aV.1 aV.2.1 hk aO,hf.zT aV.2.2 hk aO h1 h2 h3 h4,hm.zT HS aV.1 aV.2.1 aV.2.2 hk hg⟩
def ij.ev{os:List Ob}{γ0:Cx}{a:Act}{w:World}(h:ij N os γ0 σ μ a w){x:Operand}{v:Value}(hx:ev σ x=.lit v):a.eval x=v:=by
 obtain⟨_,_,γ,rfl,ha,hs,_⟩:=h;have:=sF hs ha x;rw[hx]at this;exact this.cz
def ij.at{os:List Ob}{γ0:Cx}{a:Act}{w:World}(h:ij N os γ0 σ μ a w){b:Nat}{g:Gh}(hb:μ b=some g):g.At w b:=by
 obtain⟨_,_,γ,rfl,ha,hs,_,hm⟩:=h;exact hm.gh _ _ hb
def ij.none{os:List Ob}{γ0:Cx}{a:Act}{w:World}(h:ij N os γ0 σ μ a w):μ w.heap.size=none:=by
 cases hb:μ w.heap.size with
 |none=>rfl
 |some g =>
  by_cases hm:g.vY
  ·exact absurd ((h.at hb).lt hm) (Nat.lt_irrefl _)
  ·cases g<;>first|exact(hm trivial).elim|skip
   obtain⟨_,_,γ,rfl,_,_,hf,xr⟩:=h;have:=(xr.iO _ _ hb).2.2;have:=hf.size;omega
def WD{os:List Ob}{γ0 γ:Cx}(hs:bk σ γ)(hf:Fr os γ0 σ.aa γ)(hm:oK μ os σ.aa γ0 γ){b i ag:Nat}{L:List (List Int×AV)}(hb:μ b=some (.iO i))(hi:σ.aa[i]?=some (.mp ag L)):
  ∃ f:Nat->Value,γ.w.heap[b]?=some (.map (cL (cY ag f L)) L.length)/\∀ (j:Nat) p,L[j]?=some p->aw σ.aa γ.w γ.Z γ.blk p.2 (f j):=by
 obtain⟨b',f,h1,h2,_,h3⟩:=hs.dz i _ hi;have:=(hf.dV i (hm.iO _ _ hb).1 ⟨_,hi,Fl⟩).1;rw[this,(hm.iO _ _ hb).2.1]at h1;cases h1;exact⟨f,h2,h3⟩
def aiM{x y:List (Value×Value)}(h:cL x=cL y):x=y:=by
 have e:∀ z:List (Value×Value),(cL z).toList.map (λe=>(e.key,e.val))=z:=λz=>by
  rw[sK];apply pR;intro j;simp only[bY,OS];cases z[j]?<;>rfl
 rw[<- e x,<- e y,h]
def HT{ag:Nat}{f:Nat->Value}{L:List (List Int×AV)}{j:Nat}{q:List Int×AV}(h:L[j]?=some q):(cY ag f L)[j]?=some (kV ag q.1,f j):=by simp[cY,h]
def ij.seen{os:List Ob}{γ0:Cx}{a:Act}{w:World}(h:ij N os γ0 σ μ a w){b i ag:Nat}{L:List (List Int×AV)}(hb:μ b=some (.iO i))(hi:σ.aa[i]?=some (.mp ag L)):
  ∃ f:Nat->Value,w.heap[b]?=some (.map (cL (cY ag f L)) (cY ag f L).length) /\
   ∀ (γ:Cx) (dg:Mem),γ.w.heap[b]?=w.heap[b]?->dg b=some (.iO i)->bk σ γ->Fr os γ0 σ.aa γ->oK dg os σ.aa γ0 γ->∀ (j:Nat) p,L[j]?=some p->aw σ.aa γ.w γ.Z γ.blk p.2 (f j):=by
 obtain⟨_,_,γ,rfl,ha,hs,hf,hm⟩:=h;obtain⟨f,h1,h2⟩:=WD hs hf hm hb hi;refine⟨f,by rw[qo];exact h1,?_⟩;intro aB dg e aV iK eV qQ j p hj;obtain⟨f',h3,h4⟩:=WD iK eV qQ aV hi;rw[e,h1]at h3;simp only[cy.injEq,Obj.map.injEq]at h3;have:=congrArg (λl=>l[j]?) (aiM h3.1);rw[HT hj,HT hj]at this;simp only[cy.injEq,Prod.mk.injEq]at this;rw[this.2];exact h4 j p hj
def WE(L:List (Int×Value)):(iE L).length=L.length:=by simp[iE]
def WG{os:List Ob}{γ0:Cx}{o:Oper}{K:St->Mem->Prop}(h:eA P o σ μ K){a:Act}{w:World}(aA:ij N os γ0 σ μ a w)(hd:∀ d,o.dst=some d->d<N){Q:Exit->Act->World->Prop}{next:Act->World->Prop}(hn:∀ σ' dg a' w',K σ' dg->ij N os γ0 σ' dg a' w'->next a' w'):o.wp P a w next Q:=by
 have gen:aJ P o σ (λs=>K s μ)->o.wp P a w next Q:=λhg=>by
  obtain⟨γ,h1,h2⟩:=aA.aiL;exact wJ hg h1 hd (λσ' a' w' hK cW=>hn _ _ _ _ hK (h2 _ _ _ cW))
 have lit:∀ (v:Value) w',(execOp a.eval o).run P w=.ok (.value v) w'->∀ dg,ij N os γ0 σ dg a w'->K (σ.put o.dst (.lit v)) dg->o.wp P a w next Q:=λv w' hr dg cW hK=>by
  unfold Oper.wp;rw[hr];exact hn _ _ _ _ hK (cW.vZ hd (λγ _ _ _ _=>aw.lit v))
 obtain⟨dst,op,type,pos,after,guard⟩:=o;unfold eA at h;cases op
 case makeMap t r =>
  cases r with
  |some r=>exact gen h
  |none =>
   refine lit (.map (some w.heap.size)) (w.alloc (.map #[] 0)) (by simp[execOp,Instr.makeMap]) _ ?_ (h w.heap.size aA.none);exact aA.block trivial (.inr rfl) (λk _ hk=>by rw[heap_alloc_old _ _ hk]) (by show w.heap.size<=(w.heap.push _).size;simp) rfl rfl rfl (by rw[Gh.At,heap_alloc_new];rfl)
 case lookup t x i ok =>
  cases ok with
  |true=>exact gen h
  |false =>
   obtain⟨n,z,hi,⟨kt,et,ht,hk,hz⟩,h⟩:=h;rcases h with⟨hx,hK⟩|⟨b,L,hx,hb,hK⟩
   ·exact lit z w (by simp[execOp,aA.ev hx,aA.ev hi,aiH ht hk (hz w)]) μ aA hK
   ·exact lit _ w (by simp[execOp,aA.ev hx,aA.ev hi,aiG ht hk (hz w) (aA.at hb)]) μ aA hK
 case mapUpdate t m k x =>
  obtain⟨b,n,L,v,⟨kt,et,ht,hk⟩,hm,hi,hx,hb,hK⟩:=h;have ng:=aA.at hb;rw[Gh.At,WE]at ng;have ba:=(mM.1 ng).1;have hr:=aiI (P:=P) ht hk ng n v;unfold Oper.wp;have kv:(execOp a.eval ⟨dst,.mapUpdate t m k x,type,pos,after,guard⟩).run P w=.ok .skip { w with heap:=w.heap.setIfInBounds b (.map (cL (iE (ki n v L))) (ki n v L).length) }:=by
   simp[execOp,aA.ev hm,aA.ev hi,aA.ev hx,hr]
  rw[kv];have qh:ij N os γ0 σ (gY μ b (.map (iE (ki n v L)))) a { w with heap:=w.heap.setIfInBounds b (.map (cL (iE (ki n v L))) (ki n v L).length) }:=by
   refine aA.block trivial (.inl ⟨_,hb,trivial⟩) (λk hk _=>?_) Fl rfl rfl rfl ?_
   ·simp[tL (Ne.symm hk)]
   ·rw[Gh.At,WE];simp[ba]
  exact hn _ _ _ _ hK (qh.vZ hd (λγ _ _ _ _=>.undef _))
 case range t x =>
  rcases h with h|⟨b,i,ag,L,⟨kt,et,ht⟩,hx,hi,hb,hK⟩;rotate_left
  ·obtain⟨f,h1,_⟩:=aA.seen hb hi;rw[qo]at h1;have hev:a.eval x=.map (some b):=by
    obtain⟨_,_,γ,rfl,ha,hs,hf,hm⟩:=aA;have:=sF hs ha x;rw[hx]at this;have e:=(hf.dV i (hm.iO _ _ hb).1 ⟨_,hi,Fl⟩).1;rw[(hm.iO _ _ hb).2.1]at e;generalize a.eval x=v at this ⊢;cases this with
    |cJ v cv h=>cases h
    |db id b' iR L' h aV=>rw[e]at aV;cases aV;rfl
    |qc id cv h h1=>rw[hi]at h;cases h
   refine lit (.pointer (some ⟨w.heap.size,0,none⟩)) (w.alloc (.mapIter (some b) L.length #[] L.length)) (by simp[execOp,hev,Wv ht h1]) _ ?_ (hK w.heap.size aA.none);exact aA.block trivial (.inr rfl) (λk _ hk=>by rw[heap_alloc_old _ _ hk]) (by show w.heap.size<=(w.heap.push _).size;simp) rfl rfl rfl (by rw[Gh.At,heap_alloc_new])
  obtain⟨b,ents,⟨kt,et,ht⟩,hx,hb,hK⟩:=h;refine lit (.pointer (some ⟨w.heap.size,0,none⟩)) (w.alloc (.mapIter (some b) ents.length #[] ents.length)) (by simp[execOp,aA.ev hx,Wv ht (aA.at hb)]) _ ?_ (hK w.heap.size aA.none);exact aA.block trivial (.inr rfl) (λk _ hk=>by rw[heap_alloc_old _ _ hk]) (by show w.heap.size<=(w.heap.push _).size;simp) rfl rfl rfl (by rw[Gh.At,heap_alloc_new])
 case next x s =>
  cases s with
  |true=>exact gen h
  |false =>
   rcases h with h|⟨r,b,i,ag,L,seen,hx,hr,hb,hi,h1,h2⟩;rotate_left
   ·have ba:=(aA.at hr).lt trivial;obtain⟨f,jf,nG⟩:=aA.seen hb hi;have jG:=aA.at hr;rw[Gh.At,<- qo ag f L]at jG;have DU:r≠b:=λe=>by rw[e,hb]at hr;cases hr
    rcases Wx (P:=P) rfl jG jf type with⟨k1,k2⟩|⟨j,p,d,k1,k2,k4,k3⟩
    ·have kv:(execOp a.eval ⟨dst,.next x false,type,pos,after,guard⟩).run P w=.ok (.value (.tuple #[.bool false])) w:=by simp[execOp,aA.ev hx,k2]
     unfold Oper.wp;rw[kv];rw[qo]at k1;exact hn _ _ _ _ (h1 k1) (aA.vZ hd (λγ _ _ _ _=>.bx _ _ rfl (λi y hi=>by
      cases i with
      |zero=>simp at hi;subst hi;exact aw.lit _
      |succ i=>simp at hi)))
    ·have kv:(execOp a.eval ⟨dst,.next x false,type,pos,after,guard⟩).run P w=.ok (.value (.tuple #[.bool true,p.1,p.2])) { w with heap:=w.heap.setIfInBounds r (.mapIter (some b) L.length (seen++[j]).toArray L.length),drawn:=d }:=by
      rw[qo]at k3;simp[execOp,aA.ev hx,k3]
     unfold Oper.wp;rw[kv];have gF:j<L.length:=by have:=(aT.1 k1).1;rw[qo]at this;exact this
     obtain⟨q,hq⟩:∃q,L[j]?=some q:=⟨_,bS gF⟩;rw[HT hq]at k1;cases k1;have qh:ij N os γ0 σ (gY μ r (.iter b L.length (seen++[j]))) a { w with heap:=w.heap.setIfInBounds r (.mapIter (some b) L.length (seen++[j]).toArray L.length),drawn:=d }:=by
      refine aA.block trivial (.inl ⟨_,hr,trivial⟩) (λk hk _=>?_) Fl rfl rfl rfl ?_ k4
      ·simp[tL (Ne.symm hk)]
      ·rw[Gh.At];simp[ba]
     refine hn _ _ _ _ (h2 j q hq k2) (qh.vZ hd (λγ hw hs hf hm=>.bx _ _ rfl (λi' y aq=>?_)))
     match i',aq with
     |0,aq=>simp at aq;subst aq;exact aw.lit _
     |1,aq=>simp at aq;subst aq;exact WC _ _
     |2,aq =>
      simp at aq;subst aq;exact nG γ _ (by rw[hw];simp[tL DU]) (by rw[pC _ _ (Ne.symm DU)];exact hb) hs hf hm j q hq
     |i'+3,aq=>simp at aq
   obtain⟨r,b,seen,ents,hx,hr,hb,h1,h2⟩:=h;have ba:=(aA.at hr).lt trivial;rcases Wx (P:=P) rfl (aA.at hr) (aA.at hb) type with⟨k1,k2⟩|⟨j,p,d,k1,k2,k4,k3⟩
   ·have kv:(execOp a.eval ⟨dst,.next x false,type,pos,after,guard⟩).run P w=.ok (.value (.tuple #[.bool false])) w:=by simp[execOp,aA.ev hx,k2]
    unfold Oper.wp;rw[kv];exact hn _ _ _ _ (h1 k1) (aA.vZ hd (λγ _ _ _ _=>.bx _ _ rfl (λi y hi=>by
     cases i with
     |zero=>simp at hi;subst hi;exact aw.lit _
     |succ i=>simp at hi)))
   ·have kv:(execOp a.eval ⟨dst,.next x false,type,pos,after,guard⟩).run P w=.ok (.value (.tuple #[.bool true,p.1,p.2])) { w with heap:=w.heap.setIfInBounds r (.mapIter (some b) ents.length (seen++[j]).toArray ents.length),drawn:=d }:=by simp[execOp,aA.ev hx,k3]
    unfold Oper.wp;rw[kv];have qh:ij N os γ0 σ (gY μ r (.iter b ents.length (seen++[j]))) a { w with heap:=w.heap.setIfInBounds r (.mapIter (some b) ents.length (seen++[j]).toArray ents.length),drawn:=d }:=by
     refine aA.block trivial (.inl ⟨_,hr,trivial⟩) (λk hk _=>?_) Fl rfl rfl rfl ?_ k4
     ·simp[tL (Ne.symm hk)]
     ·rw[Gh.At];simp[ba]
    refine hn _ _ _ _ (h2 j p k1 k2) (qh.vZ hd (λγ _ _ _ _=>.bx _ _ rfl (λi y hi=>?_)))
    ·match i,hi with
     |0,hi=>simp at hi;subst hi;exact aw.lit _
     |1,hi=>simp at hi;subst hi;exact aw.lit _
     |2,hi=>simp at hi;subst hi;exact aw.lit _
     |i+3,hi=>simp at hi
 case entry x =>
  rcases h with h|⟨r,b,i,ag,L,seen,j,q,hx,hr,hb,hi,hq,hK⟩;rotate_left
  ·obtain⟨f,jf,nG⟩:=aA.seen hb hi;have jG:=aA.at hr;rw[Gh.At,<- qo ag f L]at jG;have kv:(execOp a.eval ⟨dst,.entry x,type,pos,after,guard⟩).run P w=.ok (.value (.tuple #[kV ag q.1,f j])) w:=by simp[execOp,aA.ev hx,Wy (P:=P) rfl jG jf (HT hq)]
   unfold Oper.wp;rw[kv];exact hn _ _ _ _ hK (aA.vZ hd (λγ hw hs hf hm=>.bx _ _ rfl (λi' y aq=>by
    match i',aq with
    |0,aq=>simp at aq;subst aq;exact WC _ _
    |1,aq=>simp at aq;subst aq;exact nG γ _ (by rw[hw]) hb hs hf hm j q hq
    |i'+2,aq=>simp at aq)))
  obtain⟨r,b,seen,j,ents,p,hx,hr,hb,hp,hK⟩:=h;have kv:(execOp a.eval ⟨dst,.entry x,type,pos,after,guard⟩).run P w=.ok (.value (.tuple #[p.1,p.2])) w:=by simp[execOp,aA.ev hx,Wy (P:=P) rfl (aA.at hr) (aA.at hb) hp]
  unfold Oper.wp;rw[kv];exact hn _ _ _ _ hK (aA.vZ hd (λγ _ _ _ _=>.bx _ _ rfl (λi y hi=>by
   match i,hi with
   |0,hi=>simp at hi;subst hi;exact aw.lit _
   |1,hi=>simp at hi;subst hi;exact aw.lit _
   |i+2,hi=>simp at hi)))
 case binOp op t x y yt =>
  replace h:tq P _ op t (Am.ev σ x) (Am.ev σ y) σ μ K:=h
  unfold tq at h;split at h
  ·rename_i m hx;obtain⟨⟨kt,et,ht⟩,hy,h⟩:=h;split at h
   ·exact lit _ w (by simp[execOp,aA.ev hx,aA.ev hy,eqGuard_at_map,aiJ w t kt et m ht]) μ aA h
   ·exact lit _ w (by simp[execOp,aA.ev hx,aA.ev hy,eqGuard_at_map,aiK w t kt et m ht]) μ aA h
   ·exact h.elim
  ·exact gen h
 case call c =>
  obtain⟨callee,args,cm⟩:=c;cases callee with
  |value f=>exact gen h
  |invoke r m=>exact gen h
  |builtin b =>
   cases b
   case len =>
    replace h:yK P _ (args.toList.map (Am.ev σ)) cm.toList σ μ K:=h
    unfold yK at h;split at h
    ·rename_i b hx;obtain⟨t,ents,ng,⟨kt,et,ht⟩,hb,hK⟩:=h;obtain⟨x,hax,zr⟩:∃x,args.toList=[x]/\Am.ev σ x=.lit (.map (some b)):=by
      cases ha:args.toList with
      |nil=>rw[ha]at hx;simp at hx
      |cons x r =>
       rw[ha]at hx;cases r with
       |nil=>exact⟨x,rfl,by simpa using hx⟩
       |cons y r=>simp at hx
     have ea:args = #[x]:=by rw[<- Array.toArray_toList (xs:=args),hax]
     have eb:cm = #[t]:=by rw[<- Array.toArray_toList (xs:=cm),ng]
     subst ea;subst eb;have aiP:=aA.at hb;exact lit _ w (by simp[execOp,resolve,invoke,builtin,Builtin.len_,aA.ev zr,run_underlying ht,MapKept.run_getObj_map aiP,cL,goInt]) μ aA hK
    ·exact gen h
   all_goals exact gen h
 all_goals exact gen h
def oL(P:Program)(o:Oper)(K:St->Mem->Prop)(b want:Bool)(σ:St)(μ:Mem):Prop:=(b=want->eA P o σ μ K)/\(b≠want->K (σ.put o.dst (.lit (.tuple #[]))) μ)
def pI(P:Program)(ops:Array Oper):List Oper->(St->Mem->Prop)->St->Mem->Prop
 |[],K,σ,μ=>K σ μ
 |o::r,K,σ,μ =>
  match o.guard with
  |none=>eA P o σ μ (pI P ops r K)
  |some (j,want) =>
   match (ops[j]?).bind (·.dst) with
   |none=>False
   |some d =>
    match σ.env d with
    |.lit (.bool b)=>oL P o (pI P ops r K) b want σ μ
    |.lit (.tuple vs)=>vs = #[]/\pI P ops r K (σ.put o.dst (.lit (.tuple #[]))) μ
    |_=>False
def Es{os:List Ob}{γ0:Cx}{ops:Array Oper}(hd:∀ o∈ops.toList,∀ d,o.dst=some d->d<N){K:St->Mem->Prop}{Q:Exit->Act->World->Prop}(hQ:∀ σ' dg a' w',K σ' dg->ij N os γ0 σ' dg a' w'->Q .normal a' w'):∀ (l:List Oper) (i:Nat) (σ:St) (μ:Mem) (a:Act) (w:World),ops.toList.drop i=l->pI P ops l K σ μ->ij N os γ0 σ μ a w ->
   wpOps P ops Q (List.range' i l.length) a w
 |[],i,σ,μ,a,w,_,h,aA=>by simpa [wpOps] using hQ _ _ _ _ h aA
 |o::r,i,σ,μ,a,w,hl,h,aA=>by
  have hi:ops[i]?=some o:=by
   have:(ops.toList.drop i)[0]?=some o:=by rw[hl];rfl
   simpa using this
  have hr:ops.toList.drop (i+1)=r:=by
   have:=congrArg List.tail hl;simpa [List.tail_drop] using this
  have cD:o∈ops.toList:=ik (by simpa using hi);rw[List.length_cons,List.range'_succ,wpOps_cons];unfold wpOp;simp only[hi];unfold pI at h;cases hg:o.guard with
  |none =>
   simp only[hg]at h;have hw:Region.wanted o (yielded ops a.tmps)=true:=by simp[Region.wanted,hg]
   rw[if_pos hw];left;exact WG h aA (hd o cD) (λσ' dg a' w' hK cW=>Es hd hQ r (i+1) σ' dg a' w' hr hK cW)
  |some jw =>
   obtain⟨j,want⟩:=jw;simp only[hg]at h;cases dT:(ops[j]?).bind (·.dst) with
   |none=>simp[dT]at h
   |some d =>
    simp only[dT]at h;have hv:∀ v,σ.env d=.lit v->a.tmps.getD d Go.undef=v:=λv he=>by
     have:=aA.ev (x:=.tmp d) (v:=v) (by simpa [ev] using he);simpa [Act.eval] using this
    split at h
    ·rename_i b he;have hv:=hv _ he;have hy:yielded ops a.tmps j=some b:=by
      unfold yielded;rw[dT];have:a.tmps[d]?=some (.bool b):=by
       rw[ep]at hv;cases hx:a.tmps[d]? with
       |none=>rw[hx]at hv;simp[Go.undef]at hv
       |some y=>rw[hx]at hv;simp at hv;rw[hv]
      simp[this]
     by_cases gr:b=want
     ·have hw:Region.wanted o (yielded ops a.tmps)=true:=by simp[Region.wanted,hg,hy,gr]
      rw[if_pos hw];left;exact WG (h.1 gr) aA (hd o cD) (λσ' dg a' w' hK cW=>Es hd hQ r (i+1) σ' dg a' w' hr hK cW)
     ·have hw:Region.wanted o (yielded ops a.tmps)=false:=by simp[Region.wanted,hg,hy,gr]
      rw[if_neg (by rw[hw];simp)];exact Es hd hQ r (i+1) _ _ _ _ hr (h.2 gr) (aA.vZ (hd o cD) (λγ _ _ _ _=>aw.lit _))
    ·rename_i vs he;have hv:=hv _ he;have hy:yielded ops a.tmps j=none:=by
      unfold yielded;rw[dT];rw[ep]at hv;cases hx:a.tmps[d]? with
      |none=>simp[hx]
      |some y=>rw[hx]at hv;simp at hv;subst hv;simp[hx]
     have hw:Region.wanted o (yielded ops a.tmps)=false:=by simp[Region.wanted,hg,hy]
     rw[if_neg (by rw[hw];simp)];exact Es hd hQ r (i+1) _ _ _ _ hr h.2 (aA.vZ (hd o cD) (λγ _ _ _ _=>aw.lit _))
    ·exact h.elim
def WH{id:Nat}{ops:Array Oper}{Q:Exit->St->Mem->Prop}(hd:fJ N ops=true)(h:pI P ops ops.toList (Q .normal) σ μ):WM P N n0 (.region id ops false) Q σ μ:=by
 intro os γ0 a w _ aA;refine wp_region ?_;have:=Es (P:=P) (N:=N) (os:=os) (γ0:=γ0) (ops:=ops) (sr hd) (K:=Q .normal) (Q:=λe a' w'=>∃ σ' dg,Q e σ' dg/\ij N os γ0 σ' dg a' w') (λσ' dg a' w' hK cW=>⟨σ',dg,hK,cW⟩)
  ops.toList 0 σ μ a w rfl h aA
 rw[List.range_eq_range'];simpa using this
end Go.Am
namespace Go.Am
variable {P:Program} {N n0:Nat} {σ:St} {μ:Mem} {Q:Exit->St->Mem->Prop}
theorem mr{id:Nat}{ops:Array Oper}{y:Code}(h:∀ K:St->Mem->Prop,(∀ s m,WM P N n0 y Q s m->K s m)->pI P ops ops.toList K σ μ)(hd:fJ N ops=true:=by decide):WM P N n0 (.seq (.region id ops false) y) Q σ μ :=
 nH fun Q' h1 _=>WH hd (h _ h1)
theorem qD{id:Nat}{ops:Array Oper}(h:∀ K:St->Mem->Prop,(∀ s m,Q .normal s m->K s m)->pI P ops ops.toList K σ μ)(hd:fJ N ops=true:=by decide):WM P N n0 (.region id ops false) Q σ μ :=
 WH hd (h _ fun _ _ h=>h)
theorem mc{c:Operand}{x y:Code}{t:Bool}(ht:t=true->WM P N n0 x Q σ μ)(hf:t=false->WM P N n0 y Q σ μ)(hc:ev σ c=.lit (.bool t):=by(simp only[Go.Am.r8,Go.Am.Lc,↓reduceIte,Nat.reduceEqDiff,Nat.reduceBEq];exact rfl)):WM P N n0 (.cond c x y) Q σ μ:=aiD hc ht hf
section
variable {ops:Array Oper} {o:Oper} {l:List Oper} {K:St->Mem->Prop}
instance:Head (pI P ops (o::l) K σ μ):=⟨trivial⟩
def aiQ{b want:Bool}(h1:b=true->oL P o K true want σ μ)(h2:b=false->oL P o K false want σ μ):oL P o K b want σ μ:=by
 cases b
 ·exact h2 rfl
 ·exact h1 rfl
instance {b want:Bool}:GD (oL P o K b want σ μ) b (oL P o K true want σ μ) (oL P o K false want σ μ):=⟨aiQ⟩
def WI:oL P o K true true σ μ=eA P o σ μ K:=by simp[oL]
def WJ:oL P o K false false σ μ=eA P o σ μ K:=by simp[oL]
def WK:oL P o K true false σ μ=K (σ.put o.dst (.lit (.tuple #[]))) μ:=by simp[oL]
def WL:oL P o K false true σ μ=K (σ.put o.dst (.lit (.tuple #[]))) μ:=by simp[oL]
def WN:pI P ops [] K σ μ=K σ μ:=rfl
variable {dst:Option Tmp} {tt:TypeId} {p:String} {af:Array Edge} {g:Option (Nat×Bool)}
def WO(x:Operand):eA P ⟨dst,.move x,tt,p,af,g⟩ σ μ K=aJ P ⟨dst,.move x,tt,p,af,g⟩ σ (λs=>K s μ):=rfl
def WQ(x:Operand):eA P ⟨dst,.assign x,tt,p,af,g⟩ σ μ K=aJ P ⟨dst,.assign x,tt,p,af,g⟩ σ (λs=>K s μ):=rfl
def WR(x y z:Operand):eA P ⟨dst,.pick x y z,tt,p,af,g⟩ σ μ K=aJ P ⟨dst,.pick x y z,tt,p,af,g⟩ σ (λs=>K s μ):=rfl
def WT(e:TypeId):eA P ⟨dst,.alloc e,tt,p,af,g⟩ σ μ K=aJ P ⟨dst,.alloc e,tt,p,af,g⟩ σ (λs=>K s μ):=rfl
def WU(e:TypeId)(x:Operand):eA P ⟨dst,.box e x,tt,p,af,g⟩ σ μ K=aJ P ⟨dst,.box e x,tt,p,af,g⟩ σ (λs=>K s μ):=rfl
def WV(t:TypeId)(l:Array (Nat×Operand)):eA P ⟨dst,.build t l,tt,p,af,g⟩ σ μ K=aJ P ⟨dst,.build t l,tt,p,af,g⟩ σ (λs=>K s μ):=rfl
def WW(t:TypeId)(n:Nat)(l:Array (Nat×Operand)):eA P ⟨dst,.buildSlice t n l,tt,p,af,g⟩ σ μ K=aJ P ⟨dst,.buildSlice t n l,tt,p,af,g⟩ σ (λs=>K s μ):=rfl
def WX(t:TypeId)(x:Operand):eA P ⟨dst,.load t x,tt,p,af,g⟩ σ μ K=aJ P ⟨dst,.load t x,tt,p,af,g⟩ σ (λs=>K s μ):=rfl
def WY(t:TypeId)(x y:Operand):eA P ⟨dst,.store t x y,tt,p,af,g⟩ σ μ K=aJ P ⟨dst,.store t x y,tt,p,af,g⟩ σ (λs=>K s μ):=rfl
def WZ(u:UnOp)(t:TypeId)(x:Operand):eA P ⟨dst,.unOp u t x,tt,p,af,g⟩ σ μ K=aJ P ⟨dst,.unOp u t x,tt,p,af,g⟩ σ (λs=>K s μ):=rfl
def W2(f:Fn)(x y:Array Operand):eA P ⟨dst,.makeFunc f x y,tt,p,af,g⟩ σ μ K=aJ P ⟨dst,.makeFunc f x y,tt,p,af,g⟩ σ (λs=>K s μ):=rfl
def W3(t:TypeId)(x y:Operand):eA P ⟨dst,.makeSlice t x y,tt,p,af,g⟩ σ μ K=aJ P ⟨dst,.makeSlice t x y,tt,p,af,g⟩ σ (λs=>K s μ):=rfl
def W4(t:TypeId)(x:Operand)(lo hi mx:Option Operand):eA P ⟨dst,.slice t x lo hi mx,tt,p,af,g⟩ σ μ K=aJ P ⟨dst,.slice t x lo hi mx,tt,p,af,g⟩ σ (λs=>K s μ):=rfl
def W5(t:TypeId)(x:Operand)(n:Nat):eA P ⟨dst,.field t x n,tt,p,af,g⟩ σ μ K=aJ P ⟨dst,.field t x n,tt,p,af,g⟩ σ (λs=>K s μ):=rfl
def W6(t:TypeId)(x:Operand)(n:Nat):eA P ⟨dst,.fieldAddr t x n,tt,p,af,g⟩ σ μ K=aJ P ⟨dst,.fieldAddr t x n,tt,p,af,g⟩ σ (λs=>K s μ):=rfl
def W7(t:TypeId)(x y:Operand):eA P ⟨dst,.indexAddr t x y,tt,p,af,g⟩ σ μ K=aJ P ⟨dst,.indexAddr t x y,tt,p,af,g⟩ σ (λs=>K s μ):=rfl
def W8(x:Operand):eA P ⟨dst,.nilCheck x,tt,p,af,g⟩ σ μ K=aJ P ⟨dst,.nilCheck x,tt,p,af,g⟩ σ (λs=>K s μ):=rfl
def W9(x:Operand)(n:Nat):eA P ⟨dst,.extract x n,tt,p,af,g⟩ σ μ K=aJ P ⟨dst,.extract x n,tt,p,af,g⟩ σ (λs=>K s μ):=rfl
def Xa(s d:TypeId)(x:Operand):eA P ⟨dst,.convert s d x,tt,p,af,g⟩ σ μ K=aJ P ⟨dst,.convert s d x,tt,p,af,g⟩ σ (λs=>K s μ):=rfl
def Xf(f:Operand)(args:Array Operand)(cm:Array TypeId):eA P ⟨dst,.call ⟨.value f,args,cm⟩,tt,p,af,g⟩ σ μ K=aJ P ⟨dst,.call ⟨.value f,args,cm⟩,tt,p,af,g⟩ σ (λs=>K s μ):=rfl
def Xj(args:Array Operand)(cm:Array TypeId):eA P ⟨dst,.call ⟨.builtin .append,args,cm⟩,tt,p,af,g⟩ σ μ K=aJ P ⟨dst,.call ⟨.builtin .append,args,cm⟩,tt,p,af,g⟩ σ (λs=>K s μ):=rfl
def Xm(args:Array Operand)(cm:Array TypeId):eA P ⟨dst,.call ⟨.builtin .min,args,cm⟩,tt,p,af,g⟩ σ μ K=aJ P ⟨dst,.call ⟨.builtin .min,args,cm⟩,tt,p,af,g⟩ σ (λs=>K s μ):=rfl
def Xp(args:Array Operand)(cm:Array TypeId):eA P ⟨dst,.call ⟨.builtin .max,args,cm⟩,tt,p,af,g⟩ σ μ K=aJ P ⟨dst,.call ⟨.builtin .max,args,cm⟩,tt,p,af,g⟩ σ (λs=>K s μ):=rfl
def Xt(args:Array Operand)(cm:Array TypeId):eA P ⟨dst,.call ⟨.builtin .copy,args,cm⟩,tt,p,af,g⟩ σ μ K=aJ P ⟨dst,.call ⟨.builtin .copy,args,cm⟩,tt,p,af,g⟩ σ (λs=>K s μ):=rfl
def XA(args:Array Operand)(cm:Array TypeId):eA P ⟨dst,.call ⟨.builtin .len,args,cm⟩,tt,p,af,g⟩ σ μ K=yK P ⟨dst,.call ⟨.builtin .len,args,cm⟩,tt,p,af,g⟩ (args.toList.map (ev σ)) cm.toList σ μ K:=rfl
def XB(op:BinOp)(t:TypeId)(x y:Operand)(yt:TypeId):eA P ⟨dst,.binOp op t x y yt,tt,p,af,g⟩ σ μ K=tq P ⟨dst,.binOp op t x y yt,tt,p,af,g⟩ op t (ev σ x) (ev σ y) σ μ K:=rfl
def XC(k:IntKind)(n:Int)(op:BinOp)(t:TypeId)(y:AV):tq P o op t (.lit (.int k n)) y σ μ K=aJ P o σ (λs=>K s μ):=rfl
def XD(b:Bool)(op:BinOp)(t:TypeId)(y:AV):tq P o op t (.lit (.bool b)) y σ μ K=aJ P o σ (λs=>K s μ):=rfl
def XE(a:Option Addr)(n c:Nat)(op:BinOp)(t:TypeId)(y:AV):tq P o op t (.lit (.slice a n c)) y σ μ K=aJ P o σ (λs=>K s μ):=rfl
def XF(s:Nat)(r:List (List AV))(op:BinOp)(t:TypeId)(y:AV):tq P o op t (.tree s r) y σ μ K=aJ P o σ (λs=>K s μ):=rfl
def XG(l:List AV)(op:BinOp)(t:TypeId)(y:AV):tq P o op t (.agg l) y σ μ K=aJ P o σ (λs=>K s μ):=rfl
def XH(a b c d:Nat)(op:BinOp)(t:TypeId)(y:AV):tq P o op t (.ref a b c d) y σ μ K=aJ P o σ (λs=>K s μ):=rfl
def XI(a:Option Nat)(t:TypeId)(y:AV):tq P o .eql t (.lit (.map a)) y σ μ K=(sU P t/\y=.lit (.map none)/\K (σ.put o.dst (.lit (.bool a.isNone))) μ):=rfl
def XJ(a:Option Nat)(t:TypeId)(y:AV):tq P o .neq t (.lit (.map a)) y σ μ K=(sU P t/\y=.lit (.map none)/\K (σ.put o.dst (.lit (.bool (!a.isNone)))) μ):=rfl
def XK(s:Nat)(r:List (List AV))(t:List TypeId):yK P o [.tree s r] t σ μ K=aJ P o σ (λs=>K s μ):=rfl
def XL(a b c d:Nat)(t:List TypeId):yK P o [.ref a b c d] t σ μ K=aJ P o σ (λs=>K s μ):=rfl
def XM(a:Option Addr)(n c:Nat)(t:List TypeId):yK P o [.lit (.slice a n c)] t σ μ K=aJ P o σ (λs=>K s μ):=rfl
def XN(b:Nat)(t:List TypeId):yK P o [.lit (.map (some b))] t σ μ K =∃t1 ents,t=[t1]/\sU P t1/\μ b=some (.map ents)/\K (σ.put o.dst (OJ (ents.length:Nat))) μ:=rfl
def XO:pI P ops (o::l) K σ μ=(match o.guard with|none=>eA P o σ μ (pI P ops l K)|some (j,want)=>match (ops[j]?).bind (·.dst) with|none=>False|some d=>match σ.env d with|.lit (.bool b)=>oL P o (pI P ops l K) b want σ μ|.lit (.tuple vs)=>vs = #[]/\pI P ops l K (σ.put o.dst (.lit (.tuple #[]))) μ|_=>False):=by rw[pI]<;>rfl
def XP(a:Option Nat):eh (.map a)=.lit (.map a):=rfl
end
def Mc:=aba @XP @WO @WQ @WR @WT @WU @WV (aba @WW @WX @WY @WZ @W2 @W3 @W4 (aba @W5 @W6 @W7 @W8 @W9 @Xa @Xf (aba @Xj @Xm @Xp @Xt @XA @XB @XC (aba @XD @XE @XF @XG @XH @XI @XJ (aba @XK @XL @XM @XN @XO @WN @WI (OZ @WJ @WK @WL))))))
end Go.Am
namespace Go.Am
variable {P:Program} {N n0:Nat} {σ:St} {μ:Mem} {K:St->Mem->Prop} {dst:Option Tmp} {tt:TypeId} {p:String} {af:Array Edge} {g:Option (Nat×Bool)}
def XQ{t:TypeId}(h:∀ b,μ b=none->K (σ.put dst (.lit (.map (some b)))) (gY μ b (.map []))):eA P ⟨dst,.makeMap t none,tt,p,af,g⟩ σ μ K:=h
def Et{t:TypeId}{x i:Operand}{b:Nat}{n:Int}{z:Value}(hx:ev σ x=.lit (.map (some b)))(hi:ev σ i=OJ n)(hz:HR P t z){L:List (Int×Value)}(hb:μ b=some (.map (iE L)))(hK:K (σ.put dst (.lit ((nj n L).getD z))) μ):eA P ⟨dst,.lookup t x i false,tt,p,af,g⟩ σ μ K:=⟨n,z,hi,hz,.inr ⟨b,L,hx,hb,hK⟩⟩
def MF{t:TypeId}{m k x:Operand}{b:Nat}{n:Int}{v:Value}(hm:ev σ m=.lit (.map (some b)))(hi:ev σ k=OJ n)(hx:ev σ x=.lit v)(hk:HQ P t){L:List (Int×Value)}(hb:μ b=some (.map (iE L)))(hK:K (σ.put dst .undef) (gY μ b (.map (iE (ki n v L))))):eA P ⟨dst,.mapUpdate t m k x,tt,p,af,g⟩ σ μ K:=⟨b,n,L,v,hk,hm,hi,hx,hb,hK⟩
def aiR{t:TypeId}{x:Operand}{b:Nat}(hx:ev σ x=.lit (.map (some b)))(hk:sU P t){ents:List (Value×Value)}(hb:μ b=some (.map ents))(hK:∀ r,μ r=none->K (σ.put dst (.lit (.pointer (some ⟨r,0,none⟩)))) (gY μ r (.iter b ents.length []))):eA P ⟨dst,.range t x,tt,p,af,g⟩ σ μ K:=.inl ⟨b,ents,hk,hx,hb,hK⟩
def agw{t:TypeId}{x:Operand}{b i ag:Nat}{L:List (List Int×AV)}(hx:ev σ x=.db i)(hi:σ.aa[i]?=some (.mp ag L))(hk:sU P t)(hb:μ b=some (.iO i))(hK:∀ r,μ r=none->K (σ.put dst (.lit (.pointer (some ⟨r,0,none⟩)))) (gY μ r (.iter b L.length []))):eA P ⟨dst,.range t x,tt,p,af,g⟩ σ μ K:=.inr ⟨b,i,ag,L,hk,hx,hi,hb,hK⟩
def aiS{x:Operand}{r b:Nat}{seen:List Nat}{ents:List (Value×Value)}(hx:ev σ x=.lit (.pointer (some ⟨r,0,none⟩)))(hr:μ r=some (.iter b ents.length seen))(hb:μ b=some (.map ents))(h1:(∀ j<ents.length,j∈seen)->K (σ.put dst (.bx [.lit (.bool false)])) μ)(h2:∀ j p,ents[j]?=some p->j ∉ seen->K (σ.put dst (.bx [.lit (.bool true),.lit p.1,.lit p.2])) (gY μ r (.iter b ents.length (seen++[j])))):eA P ⟨dst,.next x false,tt,p,af,g⟩ σ μ K:=.inl ⟨r,b,seen,ents,hx,hr,hb,h1,h2⟩
def agx{x:Operand}{r b i ag:Nat}{seen:List Nat}{L:List (List Int×AV)}(hx:ev σ x=.lit (.pointer (some ⟨r,0,none⟩)))(hr:μ r=some (.iter b L.length seen))(hi:σ.aa[i]?=some (.mp ag L))(hb:μ b=some (.iO i))(h1:(∀ j<L.length,j∈seen)->K (σ.put dst (.bx [.lit (.bool false)])) μ)(h2:∀ j q,L[j]?=some q->j ∉ seen->K (σ.put dst (.bx [.lit (.bool true),kA ag q.1,q.2])) (gY μ r (.iter b L.length (seen++[j])))):eA P ⟨dst,.next x false,tt,p,af,g⟩ σ μ K:=.inr ⟨r,b,i,ag,L,seen,hx,hr,hb,hi,h1,h2⟩
def agC{x:Operand}{r b i ag j:Nat}{seen:List Nat}{L:List (List Int×AV)}{q:List Int×AV}(hx:ev σ x=.lit (.pointer (some ⟨r,0,none⟩)))(hr:μ r=some (.iter b L.length (seen++[j])))(hi:σ.aa[i]?=some (.mp ag L))(hb:μ b=some (.iO i))(hq:L[j]?=some q)(hK:K (σ.put dst (.bx [kA ag q.1,q.2])) μ):eA P ⟨dst,.entry x,tt,p,af,g⟩ σ μ K:=.inr ⟨r,b,i,ag,L,seen,j,q,hx,hr,hb,hi,hq,hK⟩
def aiT{x:Operand}{r b j:Nat}{seen:List Nat}{ents:List (Value×Value)}{q:Value×Value}(hx:ev σ x=.lit (.pointer (some ⟨r,0,none⟩)))(hr:μ r=some (.iter b ents.length (seen++[j])))(hb:μ b=some (.map ents))(hp:ents[j]?=some q)(hK:K (σ.put dst (.bx [.lit q.1,.lit q.2])) μ):eA P ⟨dst,.entry x,tt,p,af,g⟩ σ μ K:=.inl ⟨r,b,seen,j,ents,q,hx,hr,hb,hp,hK⟩
def kY.refl:kY n0 σ σ:=λos γ0 γ _ hs hf=>⟨γ,rfl,rfl,hs,hf,λ_ h=>.inl h,λ_ h=>h⟩
end Go.Am

