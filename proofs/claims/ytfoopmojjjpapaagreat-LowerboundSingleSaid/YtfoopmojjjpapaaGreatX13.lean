import Derived.Test.YtfoopmojjjpapaaGreatX12
import Derived.Laws.IdiomRangeMap
set_option linter.all false
set_option maxHeartbeats 0
set_option maxRecDepth 20000
open List renaming getElem?_eq_some_iff→aV,mem_of_getElem?→gI,getElem?_eq_getElem→bF,ext_getElem?→kY,getElem?_map→bI,getElem?_mapIdx→PV,length→jB
open Option renaming some→cA
open Array renaming getElem?_eq_some_iff→mW,getD_eq_getD_getElem?→eL,getElem?_setIfInBounds_ne→uZ
open Nat renaming le_refl→aY,sub_self→jz
open Bool renaming false_eq_true→jo
namespace Go.Am
variable {P:Program} {N n0:Nat} {σ:St}
def U'(dst:Option Tmp)(t:TypeId)(a:Operand)(tt:TypeId)(p:String)(af:Array Edge)(g:Option (Nat×Bool))(K:St->Prop):mF true P ⟨dst,.load t a,tt,p,af,g⟩ σ K=vd P t dst K σ (ev σ a):=rfl
def Lq:=aac @U' @vd.eq_1
def aH.CR(d id:Nat){cells:List AV}(ho:σ.aa[id]?=some (.var cells))(hd:σ.env d=.ptr id 0 0)(wH:∀ v∈cells,(∃ x,v=.lit x)\/∃ s r,v=.tree s r):aH n0 σ ⟨jH σ.env d (.cB cells),σ.aa.set id .gone⟩:=by
 intro os γ0 γ _ hs hf;have Ba:id<σ.aa.length:=(aV.1 ho).1
 let aA:Cx:={ γ with Z:=λb=>γ.Z b\/∃ o cap,γ.blk id=some (b,o,cap) }
 let os2:=σ.aa.set id .gone
 have jt:∀ i,os2[i]?=if i=id then some .gone else σ.aa[i]?:=by
  intro i;show(σ.aa.set id _)[i]?=_;rw[List.getElem?_set];by_cases h1:i=id
  ·subst h1;simp[Ba]
  ·simp[Ne.symm h1,h1]
 have hR:∀ v cv,aw σ.aa γ.w γ.Z γ.blk v cv->aw os2 aA.w aA.Z aA.blk v cv:=λv cv hv =>
  hv.mono (λb hb=>⟨.inl hb,rfl⟩) (λi o hi=>by
   rw[jt];by_cases h1:i=id
   ·left;rw[if_pos h1]
   ·rw[if_neg h1];by_cases hg:o=.gone
    ·subst hg;exact .inl hi
    ·exact .inr ⟨rfl,o,hi,Ob.jK hg⟩)
 have bS:∀ i,Live os2 i->Live σ.aa i/\i≠id:=by
  rintro i⟨o,hi,hg⟩;rw[jt]at hi;split at hi
  ·simp at hi;exact absurd hi.symm hg
  ·rename_i h2;exact⟨⟨o,hi,hg⟩,h2⟩
 have pF:Live σ.aa id:=⟨_,ho,GM⟩;obtain⟨b,cap,cur,t,h1,h2,h3,h4⟩:=hs.dT _ _ ho;have uE:=hs.ao d;rw[hd]at uE;have jG:aw os2 aA.w aA.Z aA.blk (.cB cells) (γ.tmps.getD d Go.undef):=by
  generalize γ.tmps.getD d Go.undef=cv at uE;cases uE with
  |cO _ _ h=>cases h
  |nV _ _ _ _ h=>rw[ho]at h;simp at h
  |oN _ _ b2 aoX aoY h hb =>
   rw[h1]at hb;simp only[cA.injEq,Prod.mk.injEq]at hb;obtain⟨rfl,_,_⟩:=hb;refine .cB cells b 0 (λj=>cur.getD j Go.undef) (.inr ⟨0,cap,h1⟩) (λj x hx=>?_) (λj x hx=>?_)
   ·rw[Nat.zero_add];exact AP h2 (by rw[h3];exact(aV.1 hx).1)
   ·have dU:cQ σ (λy=>y≠id) x x:=by
     rcases wH x (gI hx) with⟨v,rfl⟩|⟨s,r,rfl⟩
     ·exact .lit v
     ·exact .tree s r
    exact dU.AM hs (γc:=aA) (λb hb=>.inl hb) rfl (λx b o cap bX _ hb=>.inr ⟨o,cap,by rw[show id=x by simpa using(Decidable.not_not.1 bX).symm];exact hb⟩) _ (h4 j x hx)
  |py _ _ _ _ _ _ _ _ h=>rw[ho]at h;simp at h
 refine⟨aA,rfl,rfl,⟨λk=>?_,?_,λi j b o c o' c' hi hj=>hs.inj i j b o c o' c' (bS i hi).1 (bS j hj).1,?_,?_,λg=>zm (hs.gl g) λb hb=>⟨.inl hb,rfl⟩⟩,?_⟩
 ·show aw os2 aA.w aA.Z aA.blk (jH σ.env d (.cB cells) k) (γ.tmps.getD k Go.undef);simp only[jH];split
  ·rename_i e;subst e;exact jG
  ·exact hR _ _ (hs.ao k)
 ·intro i o hi;have ar:os2[i]?=some o:=hi;rw[jt]at ar;split at ar
  ·simp only[cA.injEq]at ar;subst ar;trivial
  ·by_cases hg:o=.gone
   ·subst hg;trivial
   ·exact(hs.dT i o ar).mono hR rfl (λ_ _ _ _=>rfl)
 ·rintro b ⟨i,o,c',hi,hb⟩ (hz|⟨o',cap,a6⟩)
  ·exact hs.nz b ⟨i,o,c',(bS i hi).1,hb⟩ hz
  ·exact(bS i hi).2 (hs.inj i id b o c' o' cap (bS i hi).1 pF hb a6)
 ·rintro b (hz|⟨o,cap,hb⟩)
  ·exact hs.gG b hz
  ·exact hs.blt pF hb
 ·refine⟨hf.lF,hf.tape,hf.output,hf.size,hf.ek,λb hb=>.inl (hf.z0 b hb),?_,?_,by show os.length<=os2.length;simp[os2];exact hf.len,?_,hf.drawn⟩
  ·rintro b (hz|⟨o,cap,hb⟩)
   ·exact hf.z1 b hz
   ·exact .inr (hf.own b ⟨id,o,cap,pF,hb⟩)
  ·rintro b ⟨i,o,c',hi,hb⟩;exact hf.own b ⟨i,o,c',(bS i hi).1,hb⟩
  ·intro i hi hl;obtain⟨h1,x,x',hx,b6,hk⟩:=hf.eA i hi (bS i hl).1;have kf:Live os2 i:=hl;obtain⟨o,dt,nR⟩:=kf;refine⟨h1,x,o,hx,dt,?_⟩;rw[jt]at dt;split at dt
   ·simp at dt;exact absurd dt.symm nR
   ·rw[b6]at dt;simp only[cA.injEq]at dt;subst dt;exact hk
end Go.Am
namespace Go.Am
variable {P:Program} {N n0:Nat} {σ:St}
inductive Gh where
 |map (ents:List (Value×Value))
 |iter (mb since:Nat) (seen:List Nat)
 |iW (i:Nat)
def Gh.At(w:World)(b:Nat):Gh->Prop
 |.map ents=>w.heap[b]?=some (.map (cY ents) ents.length)
 |.iter mb since seen=>w.heap[b]?=some (.mapIter (some mb) since seen.toArray since)
 |.iW _=>True
def Gh.xi:Gh->Prop
 |.iW _=>False
 |_=>True
def Gh.At.heap{w w':World}{b:Nat}{g:Gh}(h:g.At w b)(e:w'.heap[b]?=w.heap[b]?):g.At w' b:=by
 cases g<;>first|trivial|exact e.trans h
def Gh.At.lt{w:World}{b:Nat}{g:Gh}(h:g.At w b)(hm:g.xi):b<w.heap.size:=by
 cases g<;>first|exact(mW.1 h).1|exact hm.elim
abbrev Mem:=Nat->Option Gh
def iw(μ:Mem)(b:Nat)(g:Gh):Mem:=λk=>if k=b then some g else μ k
def s9(μ:Mem)(b:Nat)(g:Gh):iw μ b g b=some g:=by simp[iw]
def qC(μ:Mem){b c:Nat}(g:Gh)(h:c≠b):iw μ b g c=μ c:=by simp[iw,h]
def xj:Mem:=λ_=>none
structure pO(μ:Mem)(o0 os:List Ob)(γ0 γ:Cx):Prop where
 gh:∀ b g,μ b=some g->g.At γ.w b
 fresh:∀ b g,μ b=some g->g.xi->γ0.w.heap.size<=b
 Dl:∀ b g,μ b=some g->g.xi->¬ γ.Z b
 yz:∀ b g,μ b=some g->g.xi->¬ pA os γ.blk b
 iW:∀ b i,μ b=some (.iW i)->i<o0.length/\γ0.blk i=some (b,0,0)/\b<γ0.w.heap.size
def pO.nil(o0 os:List Ob)(γ0 γ:Cx):pO xj o0 os γ0 γ:=⟨by simp[xj],by simp[xj],by simp[xj],by simp[xj],by simp[xj]⟩
def pO.ek{μ:Mem}{o0 os gN:List Ob}{γ0 γ aA:Cx}(h:pO μ o0 os γ0 γ)(hf:Fr os γ gN aA):pO μ o0 gN γ0 aA:=by
 refine⟨λb g hp=>?_,h.fresh,λb g hp hm hz=>?_,λb g hp hm ho=>?_,h.iW⟩
 ·by_cases hm:g.xi
  ·exact(h.gh b g hp).heap (hf.ek _ ((h.gh b g hp).lt hm) (h.yz b g hp hm))
  ·cases g<;>first|trivial|exact(hm trivial).elim
 ·rcases hf.z1 _ hz with h1|h1|h1
  ·exact h.Dl b g hp hm h1
  ·exact h.yz b g hp hm h1
  ·have:=(h.gh b g hp).lt hm;omega
 ·rcases hf.own _ ho with h1|h1
  ·exact h.yz b g hp hm h1
  ·have:=(h.gh b g hp).lt hm;omega
def pO.le{μ dG:Mem}{o0 os:List Ob}{γ0 γ:Cx}(h:pO μ o0 os γ0 γ)(hl:∀ b g,dG b=some g->μ b=some g):pO dG o0 os γ0 γ :=
 ⟨λb g hp=>h.gh b g (hl b g hp),λb g hp=>h.fresh b g (hl b g hp),λb g hp=>h.Dl b g (hl b g hp),λb g hp=>h.yz b g (hl b g hp),λb i hp=>h.iW b i (hl _ _ hp)⟩
def iz(N:Nat)(os:List Ob)(γ0:Cx)(σ:St)(μ:Mem)(a:Act)(w:World):Prop :=
 a.defers=[]/\a.tmps.size=N/\∃ γ,γ.w=w/\γ.tmps=a.tmps/\bx σ γ/\Fr os γ0 σ.aa γ/\pO μ os σ.aa γ0 γ
def WM(P:Program)(N n0:Nat)(c:Code)(Q:Exit->St->Mem->Prop)(σ:St)(μ:Mem):Prop :=
 ∀ (os:List Ob) (γ0:Cx) (a:Act) (w:World),os.length=n0->iz N os γ0 σ μ a w->c.wp P (λe a' w'=>∃ σ' dG,Q e σ' dG/\iz N os γ0 σ' dG a' w') a w
variable {Q:Exit->St->Mem->Prop} {μ:Mem}
def MX{c:Code}(h:W P N σ.aa.length c (λe s=>Q e s μ) σ):WM P N n0 c Q σ μ:=by
 rintro os γ0 a w hn⟨il,aP,γ,rfl,ha,hs,hf,hm⟩;refine wp_mono (h σ.aa γ a γ.w rfl ⟨il,aP,γ,rfl,ha,hs,Fr.refl _ _⟩) ?_;rintro e a' w'⟨σ',hq,MY,MZ,aA,rfl,nC,iO,fF⟩;exact⟨σ',μ,hq,MY,MZ,aA,rfl,nC,iO,hf.trans fF,hm.ek fF⟩
def pP{c:Code}{e:Exit}(hc:Iz c=some e)(h:Q e σ μ):WM P N n0 c Q σ μ:=by
 cases c<;>simp[Iz]at hc;all_goals subst hc
 all_goals first
  |exact λ_ _ _ _ _ ax=>wp_skip ⟨σ,μ,h,ax⟩
  |exact λ_ _ _ _ _ ax=>wp_label ⟨σ,μ,h,ax⟩
  |exact λ_ _ _ _ _ ax=>wp_exit ⟨σ,μ,h,ax⟩
  |exact λ_ _ _ _ _ ax=>wp_ret ⟨σ,μ,h,ax⟩
def ahM{x y:Code}(Q1:Exit->St->Mem->Prop)(h:WM P N n0 x Q1 σ μ)(hn:∀ s m,Q1 .normal s m->WM P N n0 y Q s m)(he:∀ e s m,e≠.normal->Q1 e s m->Q e s m):WM P N n0 (.seq x y) Q σ μ:=by
 intro os γ0 a w hl ax;refine wp_seq (wp_mono (h os γ0 a w hl ax) ?_);rintro e a' w'⟨σ',dG,h1,h2⟩;cases e with
 |normal=>exact hn _ _ h1 os γ0 a' w' hl h2
 |exit id=>exact⟨σ',dG,he _ _ _ GM h1,h2⟩
 |goto l=>exact⟨σ',dG,he _ _ _ GM h1,h2⟩
 |ret=>exact⟨σ',dG,he _ _ _ GM h1,h2⟩
 |panic c=>exact⟨σ',dG,he _ _ _ GM h1,h2⟩
 |outgrown=>exact⟨σ',dG,he _ _ _ GM h1,h2⟩
def oo{x y:Code}(h:∀ Q':Exit->St->Mem->Prop,(∀ s m,WM P N n0 y Q s m->Q' .normal s m)->(∀ e s m,uF e=false->Q e s m->Q' e s m)->WM P N n0 x Q' σ μ):WM P N n0 (.seq x y) Q σ μ :=
 ahM (λe s m=>(e=.normal->WM P N n0 y Q s m)/\(e≠.normal->Q e s m)) (h _ (λs m h=>⟨λ_=>h,λh=>absurd rfl h⟩) (λe s m he h=>⟨λe2=>absurd e2 (IA he),λ_=>h⟩)) (λs m h=>h.1 rfl) (λe s m he h=>h.2 he)
def ahN{c:Operand}{x y:Code}{t:Bool}(hc:ev σ c=.lit (.bool t))(ht:t=true->WM P N n0 x Q σ μ)(hf:t=false->WM P N n0 y Q σ μ):WM P N n0 (.cond c x y) Q σ μ:=by
 intro os γ0 a w hn ax;have aT:a.eval c=.bool t:=by
  obtain⟨_,_,γ,rfl,ha,hs,_⟩:=ax;have:=tZ hs ha c;rw[hc]at this;exact this.cF
 exact wp_cond_split aT (λh=>ht h os γ0 a w hn ax) (λh=>hf h os γ0 a w hn ax)
def qH{id:Nat}{c:Code}(h:∀ Q':Exit->St->Mem->Prop,(∀ s m,Q .normal s m->Q' .normal s m)->(∀ s m,Q .normal s m->Q' (.exit id) s m)->(∀ e s m,Bv id e=false->Q e s m->Q' e s m)->WM P N n0 c Q' σ μ):WM P N n0 (.block id c) Q σ μ:=by
 intro os γ0 a w hn ax;have h':=h (λe s m=>(e=.exit id->Q .normal s m)/\(e≠.exit id->Q e s m)) (λs m h=>⟨λe=>by simp at e,λ_=>h⟩) (λs m h=>⟨λ_=>h,λe=>absurd rfl e⟩) (λe s m he h=>⟨λe2=>absurd e2 (M0 he).2,λ_=>h⟩);refine wp_block (wp_mono (h' os γ0 a w hn ax) ?_);rintro e a' w'⟨σ',dG,h1,h2⟩;cases e with
 |exit px =>
  simp only[Exit.inBlock];split
  ·rename_i he;exact⟨σ',dG,h1.1 (by rw[he]),h2⟩
  ·rename_i he;exact⟨σ',dG,h1.2 (λe=>he (by simpa using e)),h2⟩
 |normal=>exact⟨σ',dG,h1.2 GM,h2⟩
 |goto l=>exact⟨σ',dG,h1.2 GM,h2⟩
 |ret=>exact⟨σ',dG,h1.2 GM,h2⟩
 |panic c=>exact⟨σ',dG,h1.2 GM,h2⟩
 |outgrown=>exact⟨σ',dG,h1.2 GM,h2⟩
def lP(n0:Nat)(σ σ':St):Prop:=∀ (os:List Ob) (γ0 γ:Cx),os.length=n0->bx σ γ->Fr os γ0 σ.aa γ ->
 ∃ aA,aA.w=γ.w/\aA.tmps=γ.tmps/\bx σ' aA/\Fr os γ0 σ'.aa aA/\(∀ b,aA.Z b->γ.Z b\/pA σ.aa γ.blk b)/\∀ b,pA σ'.aa aA.blk b->pA σ.aa γ.blk b
def lP.Ve{σ':St}(h:lP n0 σ σ'){os:List Ob}{γ0:Cx}{a:Act}{w:World}(hn:os.length=n0)(ax:iz N os γ0 σ μ a w):iz N os γ0 σ' μ a w:=by
 obtain⟨h1,h2,γ,rfl,h3,h4,h5,h6⟩:=ax;obtain⟨aA,e1,e2,e3,e4,e5,e6⟩:=h os γ0 γ hn h4 h5;refine⟨h1,h2,aA,e1,e2.trans h3,e3,e4,λb g hp=>(h6.gh b g hp).heap (by rw[e1]),h6.fresh,λb g hp hm hz=>?_,λb g hp hm ho=>h6.yz b g hp hm (e6 _ ho),h6.iW⟩;rcases e5 _ hz with h|h
 ·exact h6.Dl b g hp hm h
 ·exact h6.yz b g hp hm h
def ahO{c:Code}{σ':St}(h:lP n0 σ σ')(hw:WM P N n0 c Q σ' μ):WM P N n0 c Q σ μ :=
 λos γ0 a w hn ax=>hw os γ0 a w hn (h.Ve hn ax)
def lP.ao(l:List (Nat×AV))(os:List Ob)(ho:σ.aa=os)(h:Has σ.env l):lP n0 σ ⟨ao l,os⟩:=by
 subst ho;intro os γ0 γ _ hs hf;refine⟨γ,rfl,rfl,⟨λk=>?_,hs.dT,hs.inj,hs.nz,hs.gG,hs.gl⟩,hf,λ_ h=>.inl h,λ_ h=>h⟩;rcases G5 l k with h'|⟨p,hp,rfl,h'⟩
 ·show aw _ _ _ _ (Am.ao l k) _;rw[h'];exact .undef _
 ·show aw _ _ _ _ (Am.ao l p.1) _;rw[h',<- h.mem p hp];exact hs.ao p.1
theorem lP.se(aj:List Nat)(snap:Bool){l:List (Nat×AV)}{co:List Ob}(ho:qh (bq σ.aa.length aj) σ.aa aj co)(h:tU (aZ σ (kept aj co) (bq σ.aa.length aj) snap) σ.env l)(bV:aj.Nodup:=by decide)(hn:n0<=aj.length:=by decide)(bX:∀ i,i<n0->aj.getD i 0=i:=by decide):lP n0 σ ⟨Am.ao l,co⟩:=by
 intro os γ0 γ Cz hs hf;obtain⟨h1,h2,h3⟩:=ho.spec;obtain⟨aA,a1,a2,a3,a4⟩:=hs.select aj snap co bV h1 h2 h3 (Am.ao l) γ.tmps (fun k=>by
  rcases G5 l k with h'|⟨p,hp,rfl,h'⟩
  ·exact .inl h'
  ·right;rw[h'];exact⟨_,h.mem p hp,hs.ao p.1⟩)
 obtain⟨b1,b2,b3,b4⟩:=a4;refine⟨aA,a1,a2,a3,hf.select (by omega) h1 (fun i hi=>bX i (by omega)) a1 ⟨b1,b2,b3,b4⟩,b3,?_⟩;rintro b⟨i,o,c,hi,hb⟩;have aX:=hi.lt;rw[b1 i aX]at hb;exact⟨_,o,c,(b4 i hi).1,hb⟩
def IB{α:Type}{c:Code}(S:α->St)(I:α->Mem->Prop)(M:α->Nat)(x0:α)(hI:I x0 μ)(h0:lP n0 σ (S x0))(round:∀ x m0,I x m0->∀ Q':Exit->St->Mem->Prop,(∀ s m y,I y m->M y<M x->lP n0 s (S y)->Q' .normal s m)->(∀ e s m,uF e=false->Q e s m->Q' e s m)->WM P N n0 c Q' (S x) m0):WM P N n0 (.loop c) Q σ μ:=by
 refine ahO h0 ?_;intro os γ0 a w hn ax b k cs;have key:∀ n x m0 a w,M x=n->I x m0->iz N os γ0 (S x) m0 a w ->
   ∃ e a' w',(∃ σ' dG,Q e σ' dG/\iz N os γ0 σ' dG a' w')/\Arrives P (lone (b.at a (.code c::.inLoop c::k)) cs w) b k cs e a' w':=by
  intro n
  induction n using Nat.strongRecOn with
  |_ n ih =>
   intro x m0 a w hm hI ax;have hr:=round x m0 hI (λe s m=>(e=.normal->∃ y,I y m/\M y<M x/\lP n0 s (S y))/\(e≠.normal->Q e s m)) (λs m y h1 h2 h3=>⟨λ_=>⟨y,h1,h2,h3⟩,λh=>absurd rfl h⟩)
    (λe s m he h=>⟨λe2=>absurd e2 (IA he),λ_=>h⟩)
   obtain⟨e,sJ,tV,⟨σ',dG,hq,cW⟩,oM⟩:=hr os γ0 a w hn ax b (.inLoop c::k) cs;cases e with
   |normal =>
    obtain⟨y,KI,aX,ht⟩:=hq.1 rfl;obtain⟨KJ,KK,KL,KM,KO⟩:=ih (M y) GK y _ sJ tV rfl KI (ht.Ve hn cW);exact⟨KJ,KK,KL,KM,.of_steps (Steps.trans oM (.one step_inLoop)) KO⟩
   |exit id=>exact⟨_,sJ,tV,⟨σ',dG,hq.2 GM,cW⟩,.pass (x:=.inLoop c) rfl (λ_ _=>.inl GM) oM⟩
   |goto l=>exact⟨_,sJ,tV,⟨σ',dG,hq.2 GM,cW⟩,.pass (x:=.inLoop c) rfl (λ_ _=>.inl GM) oM⟩
   |ret=>exact⟨_,sJ,tV,⟨σ',dG,hq.2 GM,cW⟩,.pass (x:=.inLoop c) rfl (λ_ _=>.inl GM) oM⟩
   |panic ch=>exact⟨_,sJ,tV,⟨σ',dG,hq.2 GM,cW⟩,.pass (x:=.inLoop c) rfl (λ_ _=>.inl GM) oM⟩
   |outgrown=>exact⟨_,sJ,tV,⟨σ',dG,hq.2 GM,cW⟩,.pass (x:=.inLoop c) rfl (λ_ _=>.inl GM) oM⟩
 obtain⟨e,a',w',hq,oM⟩:=key _ x0 _ a w rfl hI ax;exact⟨e,a',w',hq,.of_steps (.one step_loop) oM⟩
def ahP{c:Code}{Q:Exit->St->Prop}(h:WM P N n0 c (λe s _=>Q e s) σ xj):W P N n0 c Q σ:=by
 rintro os γ0 a w hn⟨h1,h2,γ,rfl,h3,h4,h5⟩;refine wp_mono (h os γ0 a γ.w hn ⟨h1,h2,γ,rfl,h3,h4,h5,pO.nil _ _ _ _⟩) ?_;rintro e a' w'⟨σ',dG,hq,k1,k2,aA,rfl,k3,k4,k5,k6⟩;exact⟨σ',hq,k1,k2,aA,rfl,k3,k4,k5⟩
def ahQ{c:Code}{Q:Exit->St->Prop}(i:Nat){ag:Nat}{L:List (List Int×AV)}(hi:σ.aa[i]?=some (.mp ag L))(h:∀ b,WM P N σ.aa.length c (λe s _=>Q e s) σ (iw xj b (.iW i))):W P N n0 c Q σ:=by
 rintro os γ0 a w hn⟨h1,h2,γ,rfl,h3,h4,h5⟩;obtain⟨b,f,hb,hh,_⟩:=h4.dT i _ hi;have hl:=(aV.1 hi).1;refine wp_mono (h b σ.aa γ a γ.w rfl ⟨h1,h2,γ,rfl,h3,h4,Fr.refl _ _,?_⟩) ?_
 ·have one:∀ k g,iw xj b (.iW i) k=some g->k=b/\g=.iW i:=λk g hk=>by
   by_cases e:k=b
   ·subst e;rw[s9]at hk;exact⟨rfl,by simpa using hk.symm⟩
   ·rw[qC _ _ e]at hk;cases hk
  refine⟨λk g hk=>?_,λk g hk hm=>?_,λk g hk hm=>?_,λk g hk hm=>?_,λk j hk=>?_⟩<;>obtain⟨rfl,e⟩:=one _ _ hk
  ·subst e;trivial
  ·subst e;exact hm.elim
  ·subst e;exact hm.elim
  ·subst e;exact hm.elim
  ·cases e;exact⟨hl,hb,(mW.1 hh).1⟩
 rintro e a' w'⟨σ',dG,hq,k1,k2,aA,rfl,k3,k4,k5,k6⟩;exact⟨σ',hq,k1,k2,aA,rfl,k3,k4,h5.trans k5⟩
end Go.Am
namespace Go.Am
variable {P:Program} {N n0:Nat} {σ:St}
def iE(L:List (Int×Value)):List (Value×Value):=L.map λp=>(.int .i64 p.1,p.2)
def kO(x:Int)(v:Value):List (Int×Value)->List (Int×Value)
 |[]=>[(x,v)]
 |p::r=>if p.1=x then(x,v)::r else p::kO x v r
def od(x:Int):List (Int×Value)->Option Value
 |[]=>none
 |p::r=>if p.1=x then some p.2 else od x r
def td(x:Int):List (Int×Value)->Nat->Option (Nat×Value)
 |[],_=>none
 |p::r,i=>if p.1=x then some (i,p.2) else td x r (i+1)
def Vf(x:Int):∀ (L:List (Int×Value)) (i:Nat),(td x L i).map (·.2)=od x L
 |[],_=>rfl
 |p::r,i=>by
  rw[td,od];split
  ·rfl
  ·exact Vf x r (i+1)
def Vg(x:Int)(v:Value):∀ (L:List (Int×Value)) (i:Nat),td x L i=none->kO x v L=L++[(x,v)]
 |[],_,_=>rfl
 |p::r,i,h=>by
  rw[td]at h;split at h
  ·cases h
  ·rename_i hp;rw[kO,if_neg hp,Vg x v r (i+1) h];rfl
def Vh(x:Int)(v:Value):∀ (L:List (Int×Value)) (i j:Nat) (u:Value),td x L i=some (j,u)->i<=j/\L[j-i]?=some (x,u)/\kO x v L=L.set (j-i) (x,v)
 |[],_,_,_,h=>by cases h
 |p::r,i,j,u,h=>by
  rw[td]at h;split at h
  ·rename_i hp;simp only[cA.injEq,Prod.mk.injEq]at h;obtain⟨rfl,rfl⟩:=h;refine⟨aY _,?_,?_⟩
   ·rw[jz];simp[<- hp]
   ·rw[jz,kO,if_pos hp];rfl
  ·rename_i hp;obtain⟨h1,h2,h3⟩:=Vh x v r (i+1) j u h;have e:j-i=(j-(i+1))+1:=GK;refine⟨GK,?_,?_⟩
   ·rw[e,List.getElem?_cons_succ];exact h2
   ·rw[e,kO,if_neg hp,h3];rfl
def Vi{k:TypeDesc}(hk:k=.int .i64)(x:Int):∀ (L:List (Int×Value)) (f:Nat->Nat) (i:Nat),Instr.findNow k (.int .i64 x) ((iE L).mapIdx λi p=>(⟨p.1,p.2,f i⟩:MapEntry)) i=some (td x L i)
 |[],_,_=>rfl
 |p::r,f,i=>by
  subst hk;simp only[iE,List.map_cons,List.mapIdx_cons,Instr.findNow,Instr.sameNow,if_true,td];by_cases h:p.1=x
  ·rw[if_pos h];subst h;simp
  ·rw[if_neg h];have:(x==p.1)=false:=by simpa using λe=>h e.symm
   rw[this];simpa [iE] using Vi rfl x r (λj=>f (j+1)) (i+1)
def run_findKey{kt:TypeId}(hk:P.underlying kt=some (.int .i64))(x:Int)(L:List (Int×Value))(w:World):(Instr.findKey kt (.int .i64 x) (cY (iE L)).toList).run P w=.ok (td x L 0) w:=by
 have h:=Vi (k:=.int .i64) rfl x L id 0;simp only[id]at h;simp[Instr.findKey,run_underlying hk,ue,h]
def run_checkKey{kt:TypeId}(hk:P.underlying kt=some (.int .i64))(e:Bool)(x:Int)(w:World):(Instr.checkKey e 10000 kt (.int .i64 x)).run P w=.ok () w:=by
 have h:∀ d:Nat,(Instr.checkKey e (d+1) kt (.int .i64 x)).run P w=.ok () w:=λd=>by simp[Instr.checkKey,run_underlying hk]
 exact h 9999
def ahR{t kt et:TypeId}(ht:P.underlying t=some (.map kt et))(hk:P.underlying kt=some (.int .i64)){z:Value}{w:World}(hz:(zeroValue et).run P w=.ok z w){b n:Nat}{L:List (Int×Value)}(hb:w.heap[b]?=some (.map (cY (iE L)) n))(x:Int):(Instr.lookup t (.map (some b)) (.int .i64 x) false).run P w=.ok ((od x L).getD z) w:=by
 rw[<- Vf x L 0];simp only[Instr.lookup,Sem.run_bind,run_underlying ht,MapKept.run_getObj_map hb,run_checkKey hk,run_findKey hk,Result.andThen_ok,Sem.run_pure];cases h:td x L 0 with
 |none=>simp[hz]
 |some q=>simp
def ahS{t kt et:TypeId}(ht:P.underlying t=some (.map kt et))(hk:P.underlying kt=some (.int .i64)){z:Value}{w:World}(hz:(zeroValue et).run P w=.ok z w)(x:Int):
  (Instr.lookup t (.map none) (.int .i64 x) false).run P w=.ok z w:=by
 have h:=run_findKey (P:=P) hk x [] w;have e:(cY (iE [])).toList=(#[]:Array MapEntry).toList:=rfl;rw[e]at h;simp only[Instr.lookup,Sem.run_bind,run_underlying ht,run_checkKey hk,h,Result.andThen_ok,Sem.run_pure];simp[td,hz]
def ahT{t kt et:TypeId}(ht:P.underlying t=some (.map kt et))(hk:P.underlying kt=some (.int .i64)){w:World}{b:Nat}{L:List (Int×Value)}(hb:w.heap[b]?=some (.map (cY (iE L)) L.length))(x:Int)(v:Value):
  (Instr.mapUpdate t (.map (some b)) (.int .i64 x) v).run P w=.ok () { w with heap:=w.heap.setIfInBounds b (.map (cY (iE (kO x v L))) (kO x v L).length) }:=by
 simp only[Instr.mapUpdate,Sem.run_bind,run_underlying ht,MapKept.run_getObj_map hb,run_checkKey hk,run_findKey hk,Result.andThen_ok];cases h:td x L 0 with
 |none =>
  have h2:=Vg x v L 0 h;have e:=Ln (iE L) (.int .i64 x,v);rw[show(iE L).length=L.length by simp[iE]]at e;simp only[MapKept.run_setObj_map _ hb,e,h2,show iE (L++[(x,v)])=iE L++[(.int .i64 x,v)] by simp[iE],List.length_append,List.length_singleton]
 |some q =>
  obtain⟨j,u⟩:=q;obtain⟨_,h2,h3⟩:=Vh x v L 0 j u h;rw[Nat.sub_zero]at h2 h3;have Ej:(((cY (iE L))[j]?).map (·.key)).getD (.int .i64 x)=.int .i64 x:=by
   simp[cY,iE,h2]
  have E9:Instr.sameBits 10000 (.int .i64 x) (.int .i64 x)=true:=by simp[Instr.sameBits]
  have dV:(Instr.keyThatStays (.int .i64 x) (.int .i64 x)).run P w=.ok (.int .i64 x) w:=by simp[Instr.keyThatStays,E9]
  have e:=Ho (iE L) j (λe=>{ e with key:=.int .i64 x,val:=v }) (.int .i64 x,v) (λq _=>rfl);have e2:(iE L).set j (.int .i64 x,v)=iE (kO x v L):=by rw[h3];simp[iE,List.map_set]
  simp only[Ej,Sem.run_bind,dV,Result.andThen_ok,MapKept.run_setObj_map _ hb];rw[e,e2,h3,List.length_set]
def Vj{t kt et:TypeId}(ht:P.underlying t=some (.map kt et)){w:World}{b n:Nat}{es:Array MapEntry}(hb:w.heap[b]?=some (.map es n)):
  (Instr.range t (.map (some b))).run P w=.ok (.pointer (some ⟨w.heap.size,0,none⟩)) (w.alloc (.mapIter (some b) n #[] n)):=run_range_map w t kt et b es n ht hb
def Vk{ents:List (Value×Value)}{x:MapEntry}(h:x∈(cY ents).toList):x.born<ents.length/\ents[x.born]?=some (x.key,x.val):=by
 rw[ue]at h;obtain⟨i,hi,rfl⟩:=List.mem_mapIdx.1 h;exact⟨hi,by simp[hi]⟩
def Vl{w:World}{r b n:Nat}{seen:List Nat}{ents:List (Value×Value)}(hn:n=ents.length)(hr:w.heap[r]?=some (.mapIter (some b) n seen.toArray n))(hb:w.heap[b]?=some (.map (cY ents) n))(ty:TypeId):
  ((∀ j<ents.length,j∈seen)/\(Instr.next (.pointer (some ⟨r,0,none⟩)) false ty).run P w=.ok (.tuple #[.bool false]) w) \/
  ∃ j p d,ents[j]?=some p/\j ∉ seen/\w.drawn<=d/\(Instr.next (.pointer (some ⟨r,0,none⟩)) false ty).run P w=.ok (.tuple #[.bool true,p.1,p.2]) { w with heap:=w.heap.setIfInBounds r (.mapIter (some b) n (seen++[j]).toArray n),drawn:=d }:=by
 subst hn;have hold:∀ x∈(cY ents).toList,x.born<ents.length:=λx hx=>(Vk hx).1;simp only[Instr.next,getObj,Sem.run_bind,Sem.run,hr,hb,Result.andThen,next_test_false seen.toArray (cY ents) ents.length ents.length hold (aY _),jo,if_false];have hL:∀ x,x∈((cY ents).filter λe=>!seen.toArray.contains e.born).toList↔x∈(cY ents).toList/\x.born ∉ seen:=by
  intro x;simp
 have bR:∀ x∈((cY ents).filter λe=>!seen.toArray.contains e.born).toList,x.born<ents.length:=λx hx=>hold x ((hL x).1 hx).1;generalize (cY ents).filter (λe=>!seen.toArray.contains e.born)=L at bR hL ⊢;have e1:L.filter (λx=>decide (x.born<ents.length))=L:=Array.filter_eq_self.2 (λx hx=>by simpa using bR x (by simpa using hx));have e2:L.filter (λx=>decide (x.born >= ents.length)) = #[]:=by
  rw[Array.filter_eq_empty_iff];intro x hx;have:=bR x (by simpa using hx);simp;omega
 simp only[e1,e2,Array.append_empty];by_cases h0:L.size=0
 ·left;have:L = #[]:=Array.eq_empty_of_size_eq_zero h0;subst this;refine⟨λj hj=>?_,?_⟩
  ·cases hc:decide (j∈seen) with
   |true=>exact of_decide_eq_true hc
   |false =>
    have zn:=of_decide_eq_false hc;have:=(hL ⟨(ents[j]).1,(ents[j]).2,j⟩).2 ⟨by rw[ue];exact List.mem_mapIdx.2 ⟨j,hj,rfl⟩,zn⟩;simp at this
  ·simp[choose,Sem.run,Question.forced]
 ·right;have cy:L.isEmpty=false:=by simp[Array.isEmpty,h0]
  simp only[cy,jo,if_false,Array.empty_append,Array.size_map];have l7 :∃(j:Nat) (d:Nat),j<L.size/\w.drawn<=d/\(choose (Question.mapNext L.size)).run P w=.ok j { w with drawn:=d }:=by
   by_cases hf:L.size<=1
   ·exact⟨0,w.drawn,GK,aY _,by simp[choose,Sem.run,Question.forced,hf]⟩
   ·exact⟨_,w.drawn+1,Nat.mod_lt _ GK,Nat.le_succ _,by
     simp only[choose,Sem.run,Question.forced,decide_eq_true_eq,hf,if_false,Question.cut];rfl⟩
  obtain⟨j,d,hj,M1,eT⟩:=l7;have hx:=(hL L[j]).1 GM;obtain⟨h1,h2⟩:=Vk hx.1;refine⟨L[j].born,_,d,h2,hx.2,M1,?_⟩;simp only[eT,Array.getElem?_map,Array.getElem?_eq_getElem hj,Option.map_some,Sem.run_bind,Result.andThen];simp only[setObj,Sem.run,hr,List.push_toArray];rfl
def Vm{w:World}{r b n j:Nat}{seen:List Nat}{ents:List (Value×Value)}{p:Value×Value}(hn:n=ents.length)(hr:w.heap[r]?=some (.mapIter (some b) n (seen++[j]).toArray n))(hb:w.heap[b]?=some (.map (cY ents) n))(hp:ents[j]?=some p):(Instr.entry (.pointer (some ⟨r,0,none⟩))).run P w=.ok (.tuple #[p.1,p.2]) w:=by
 have hj:=(aV.1 hp).1;have hm:(⟨p.1,p.2,j⟩:MapEntry)∈(cY ents).toList:=by
  rw[ue];refine List.mem_mapIdx.2 ⟨j,hj,?_⟩;rw[bF hj]at hp;simp only[cA.injEq]at hp;rw[hp]
 have bV:((cY ents).toList.map (·.born)).Nodup:=by
  rw[ue];have:(ents.mapIdx λi p=>(⟨p.1,p.2,i⟩:MapEntry)).map (·.born)=List.range ents.length:=by
   apply kY;intro i;simp only[bI,PV];rcases Nat.lt_or_ge i ents.length with h|h
   ·simp[h]
   ·simp[h]
  rw[this];exact List.nodup_range
 have hf:(cY ents).find? (·.born==j)=some ⟨p.1,p.2,j⟩:=by rw[<- Array.find?_toList];exact find_born ⟨p.1,p.2,j⟩ _ bV hm
 simp only[Instr.entry,getObj,Sem.run_bind,Sem.run,hr,hb,Result.andThen,List.back?_toArray,List.getLast?_append,List.getLast?_singleton,Option.some_or,bne_self_eq_false,jo,if_false,hf];rfl
def ahU(w:World)(t kt et:TypeId)(a:Option Nat)(ht:P.underlying t=some (.map kt et)):(binOp .eql t (.map a) (.map none)).run P w=.ok (.bool a.isNone) w:=by
 have h:∀ d:Nat,(Op.equalIn (d+1) t (.map a) (.map none)).run P w=.ok a.isNone w:=λd=>by
  cases a<;>simp[Op.equalIn,run_underlying ht]
 simp[binOp,Op.equal,Op.maxDepth,h]
def ahV(w:World)(t kt et:TypeId)(a:Option Nat)(ht:P.underlying t=some (.map kt et)):(binOp .neq t (.map a) (.map none)).run P w=.ok (.bool (!a.isNone)) w:=by
 have h:∀ d:Nat,(Op.equalIn (d+1) t (.map a) (.map none)).run P w=.ok a.isNone w:=λd=>by
  cases a<;>simp[Op.equalIn,run_underlying ht]
 simp[binOp,Op.equal,Op.maxDepth,h]
end Go.Am
namespace Go.Am
variable {P:Program} {N n0:Nat} {σ:St}
def bx.Bw{γ:Cx}(h:bx σ γ){w':World}{b:Nat}(hz:¬ γ.Z b)(ho:¬ pA σ.aa γ.blk b)(hk:∀ k,k≠b->k<γ.w.heap.size->w'.heap[k]?=γ.w.heap[k]?)(aP:γ.w.heap.size<=w'.heap.size):bx σ { γ with w:=w' }:=by
 have hR:∀ v cv,aw σ.aa γ.w γ.Z γ.blk v cv->aw σ.aa w' γ.Z γ.blk v cv:=λv cv hv =>
  hv.mono (λk M3=>⟨M3,hk k (λe=>hz (e▸M3)) (h.gG k M3)⟩) (λi x hx=>by
   by_cases bG:x=.gone
   ·subst bG;exact .inl hx
   ·exact .inr ⟨rfl,x,hx,Ob.jK bG⟩)
 refine⟨λk=>hR _ _ (h.ao k),λi o hi=>?_,h.inj,h.nz,λk bg=>Nat.lt_of_lt_of_le (h.gG k bg) aP,λg=>hR _ _ (h.gl g)⟩;by_cases bG:o=.gone
 ·subst bG;trivial
 ·exact(h.dT i o hi).mono hR rfl (λk x c hb=>hk k (λe=>ho ⟨i,x,c,⟨o,hi,bG⟩,e▸hb⟩) (h.blt ⟨o,hi,bG⟩ hb))
theorem Fr.Bw{os:List Ob}{γ0 γ:Cx}(h:Fr os γ0 σ.aa γ){w':World}{b:Nat}(hb:γ0.w.heap.size<=b)(hk:∀ k,k≠b->k<γ.w.heap.size->w'.heap[k]?=γ.w.heap[k]?)(aP:γ.w.heap.size<=w'.heap.size)(h1:w'.os=γ.w.os)(h2:w'.tape=γ.w.tape)(h3:w'.output=γ.w.output)(h4:γ.w.drawn<=w'.drawn:=by first|exact Nat.le_refl _|(simp;done)|omega):Fr os γ0 σ.aa { γ with w:=w' } :=
 ⟨h1.trans h.lF,h2.trans h.tape,h3.trans h.output,Nat.le_trans h.size aP,fun k bg ho=>(hk k (by omega) (Nat.lt_of_lt_of_le bg h.size)).trans (h.ek k bg ho),h.z0,h.z1,h.own,h.len,h.eA,Nat.le_trans h.drawn h4⟩
def pO.Bw{μ:Mem}{o0 os:List Ob}{γ0 γ:Cx}(h:pO μ o0 os γ0 γ){w':World}{b:Nat}{g:Gh}(hm:g.xi)(hz:¬ γ.Z b)(ho:¬ pA os γ.blk b)(hb:γ0.w.heap.size<=b)(hk:∀ k,k≠b->k<γ.w.heap.size->w'.heap[k]?=γ.w.heap[k]?)(hg:g.At w' b):pO (iw μ b g) o0 os γ0 { γ with w:=w' }:=by
 have one:∀ k g',iw μ b g k=some g'->(k=b/\g'=g)\/(k≠b/\μ k=some g'):=λk g' h'=>by
  by_cases e:k=b
  ·subst e;rw[s9]at h';exact .inl ⟨rfl,by simpa using h'.symm⟩
  ·rw[qC μ g e]at h';exact .inr ⟨e,h'⟩
 refine⟨λk g' h'=>?_,λk g' h' rP=>?_,λk g' h' rP=>?_,λk g' h' rP=>?_,λk i h'=>?_⟩<;>rcases one k _ h' with⟨rfl,e⟩|⟨e,h2⟩
 ·subst e;exact hg
 ·by_cases rP:g'.xi
  ·exact(h.gh k g' h2).heap (hk k e ((h.gh k g' h2).lt rP))
  ·cases g'<;>first|trivial|exact(rP trivial).elim
 ·exact hb
 ·exact h.fresh k g' h2 rP
 ·exact hz
 ·exact h.Dl k g' h2 rP
 ·exact ho
 ·exact h.yz k g' h2 rP
 ·subst e;exact hm.elim
 ·exact h.iW k i h2
variable {μ:Mem}
def kA(ag:Nat)(l:List Int):AV:=if ag=0 then .lit (kV ag l) else .agg (l.map λn=>Qf n)
def Vn{os:List Ob}{w:World}{Z:Nat->Prop}{blk:gB}(ag:Nat)(l:List Int):aw os w Z blk (kA ag l) (kV ag l):=by
 unfold kA;split
 ·exact .lit _
 ·rename_i h;rw[kV,if_neg h];refine .agg _ _ GM λj x hx=>?_;simp only[bI,Option.map_eq_some_iff]at hx;obtain⟨n,hn,rfl⟩:=hx;have:(l.map λn=>Value.int .i64 n).toArray.getD j Go.undef=.int .i64 n:=by simp[eL,hn]
  rw[this];exact .lit _
def IC(P:Program)(t:TypeId):Prop:=∃ kt et,P.underlying t=some (.map kt et)/\P.underlying kt=some (.int .i64)
def uG(P:Program)(t:TypeId):Prop:=∃ kt et,P.underlying t=some (.map kt et)
def ID(P:Program)(t:TypeId)(z:Value):Prop:=∃ kt et,P.underlying t=some (.map kt et)/\P.underlying kt=some (.int .i64)/\∀ w:World,(zeroValue et).run P w=.ok z w
def uH(P:Program)(o:Oper)(op:BinOp)(t:TypeId)(x y:AV)(σ:St)(μ:Mem)(K:St->Mem->Prop):Prop :=
 match x with
 |.lit (.map a)=>uG P t/\y=.lit (.map none)/\match op with|.eql=>K (σ.put o.dst (.lit (.bool a.isNone))) μ|.neq=>K (σ.put o.dst (.lit (.bool (!a.isNone)))) μ|_=>False
 |_=>aL P o σ λs=>K s μ
def zU(P:Program)(o:Oper)(args:List AV)(cC:List TypeId)(σ:St)(μ:Mem)(K:St->Mem->Prop):Prop :=
 match args with
 |[.lit (.map (some b))]=>∃ t ents,cC=[t]/\uG P t/\μ b=some (.map ents)/\K (σ.put o.dst (Qf (ents.length:Nat))) μ
 |_=>aL P o σ λs=>K s μ
def eQ(P:Program)(o:Oper)(σ:St)(μ:Mem)(K:St->Mem->Prop):Prop :=
 match o.op with
 |.makeMap _ none=>∀ b,μ b=none->K (σ.put o.dst (.lit (.map (some b)))) (iw μ b (.map []))
 |.lookup t x i false=>∃ n z,ev σ i=Qf n/\ID P t z /\
   ((ev σ x=.lit (.map none)/\K (σ.put o.dst (.lit z)) μ)\/∃ b L,ev σ x=.lit (.map (some b))/\μ b=some (.map (iE L))/\K (σ.put o.dst (.lit ((od n L).getD z))) μ)
 |.mapUpdate t m k x=>∃ b n L v,IC P t/\ev σ m=.lit (.map (some b))/\ev σ k=Qf n/\ev σ x=.lit v/\μ b=some (.map (iE L))/\K (σ.put o.dst .undef) (iw μ b (.map (iE (kO n v L))))
 |.range t x=>(∃ b ents,uG P t/\ev σ x=.lit (.map (some b))/\μ b=some (.map ents)/\∀ r,μ r=none->K (σ.put o.dst (.lit (.pointer (some ⟨r,0,none⟩)))) (iw μ r (.iter b ents.length []))) \/
   ∃ b i ag L,uG P t/\ev σ x=.dD i/\σ.aa[i]?=some (.mp ag L)/\μ b=some (.iW i)/\∀ r,μ r=none->K (σ.put o.dst (.lit (.pointer (some ⟨r,0,none⟩)))) (iw μ r (.iter b L.length []))
 |.next x false=>(∃ r b seen ents,ev σ x=.lit (.pointer (some ⟨r,0,none⟩))/\μ r=some (.iter b ents.length seen)/\μ b=some (.map ents) /\
   ((∀ j<ents.length,j∈seen)->K (σ.put o.dst (.bD [.lit (.bool false)])) μ) /\
   ∀ j p,ents[j]?=some p->j ∉ seen->K (σ.put o.dst (.bD [.lit (.bool true),.lit p.1,.lit p.2])) (iw μ r (.iter b ents.length (seen++[j])))) \/
   ∃ r b i ag L seen,ev σ x=.lit (.pointer (some ⟨r,0,none⟩))/\μ r=some (.iter b (jB L) seen)/\μ b=some (.iW i)/\σ.aa[i]?=some (.mp ag L) /\
   ((∀ j<L.length,j∈seen)->K (σ.put o.dst (.bD [.lit (.bool false)])) μ) /\
   ∀ j p,L[j]?=some p->j ∉ seen->K (σ.put o.dst (.bD [.lit (.bool true),kA ag p.1,p.2])) (iw μ r (.iter b L.length (seen++[j])))
 |.entry x=>(∃ r b seen j ents p,ev σ x=.lit (.pointer (some ⟨r,0,none⟩))/\μ r=some (.iter b ents.length (seen++[j]))/\μ b=some (.map ents)/\ents[j]?=some p/\K (σ.put o.dst (.bD [.lit p.1,.lit p.2])) μ) \/
   ∃ r b i ag L seen j p,ev σ x=.lit (.pointer (some ⟨r,0,none⟩))/\μ r=some (.iter b (jB L) (seen++[j]))/\μ b=some (.iW i)/\σ.aa[i]?=some (.mp ag L)/\L[j]?=some p/\K (σ.put o.dst (.bD [kA ag p.1,p.2])) μ
 |.binOp op t x y _=>uH P o op t (ev σ x) (ev σ y) σ μ K
 |.call ⟨.builtin .len,args,cC⟩=>zU P o (args.toList.map (ev σ)) cC.toList σ μ K
 |_=>aL P o σ λs=>K s μ
def iz.ahW{os:List Ob}{γ0:Cx}{a:Act}{w:World}(h:iz N os γ0 σ μ a w):∃γ:Cx,fX N σ.aa γ σ a w/\∀ σ' a' w',fX N σ.aa γ σ' a' w'->iz N os γ0 σ' μ a' w':=by
 obtain⟨il,aP,γ,rfl,ha,hs,hf,hm⟩:=h;refine⟨γ,⟨il,aP,γ,rfl,ha,hs,Fr.refl _ _⟩,?_⟩;rintro σ' a' w'⟨MY,MZ,aA,rfl,nC,iO,fF⟩;exact⟨MY,MZ,aA,rfl,nC,iO,hf.trans fF,hm.ek fF⟩
def iz.xl{os:List Ob}{γ0:Cx}{a:Act}{w:World}(h:iz N os γ0 σ μ a w){o:Oper}(hd:∀ d,o.dst=some d->d<N){v:AV}{cv:Value}(hv:∀ γ:Cx,γ.w=w->bx σ γ->Fr os γ0 σ.aa γ->pO μ os σ.aa γ0 γ->aw σ.aa γ.w γ.Z γ.blk v cv):iz N os γ0 (σ.put o.dst v) μ (a.put o.dst cv) w:=by
 obtain⟨il,aP,γ,rfl,ha,hs,hf,hm⟩:=h;refine⟨by rw[put_defers];exact il,by rw[vc];exact aP,{ γ with tmps:=(a.put o.dst cv).tmps },rfl,rfl,sI hs ha (λd h=>by rw[aP];exact hd d h) (hv γ rfl hs hf hm),?_,?_⟩
 ·rw[qY];exact hf.put _
 ·rw[qY];exact⟨hm.gh,hm.fresh,hm.Dl,hm.yz,hm.iW⟩
theorem iz.block{os:List Ob}{γ0:Cx}{a:Act}{w w':World}(h:iz N os γ0 σ μ a w){b:Nat}{g:Gh}(Dm:g.xi)(hb:(∃ g',μ b=some g'/\g'.xi)\/b=w.heap.size)(hk:∀ k,k≠b->k<w.heap.size->w'.heap[k]?=w.heap[k]?)(aP:w.heap.size<=w'.heap.size)(h1:w'.os=w.os)(h2:w'.tape=w.tape)(h3:w'.output=w.output)(hg:g.At w' b)(h4:w.drawn<=w'.drawn:=by first|exact Nat.le_refl _|(simp;done)|omega):iz N os γ0 σ (iw μ b g) a w':=by
 obtain⟨il,yo,γ,rfl,ha,hs,hf,hm⟩:=h;have a6:¬ γ.Z b/\¬ pA σ.aa γ.blk b/\γ0.w.heap.size<=b:=by
  rcases hb with⟨g',tX,M4⟩|rfl
  ·exact⟨hm.Dl _ _ tX M4,hm.yz _ _ tX M4,hm.fresh _ _ tX M4⟩
  ·refine⟨fun hz=>Nat.lt_irrefl _ (hs.gG _ hz),?_,hf.size⟩;rintro⟨i,o,c,hl,hb⟩;exact Nat.lt_irrefl _ (hs.blt hl hb)
 exact⟨il,yo,{ γ with w:=w' },rfl,ha,hs.Bw a6.1 a6.2.1 hk aP,hf.Bw a6.2.2 hk aP h1 h2 h3 h4,hm.Bw Dm a6.1 a6.2.1 a6.2.2 hk hg⟩
def iz.ev{os:List Ob}{γ0:Cx}{a:Act}{w:World}(h:iz N os γ0 σ μ a w){x:Operand}{v:Value}(hx:ev σ x=.lit v):a.eval x=v:=by
 obtain⟨_,_,γ,rfl,ha,hs,_⟩:=h;have:=tZ hs ha x;rw[hx]at this;exact this.cF
def iz.at{os:List Ob}{γ0:Cx}{a:Act}{w:World}(h:iz N os γ0 σ μ a w){b:Nat}{g:Gh}(hb:μ b=some g):g.At w b:=by
 obtain⟨_,_,γ,rfl,ha,hs,_,hm⟩:=h;exact hm.gh _ _ hb
def iz.none{os:List Ob}{γ0:Cx}{a:Act}{w:World}(h:iz N os γ0 σ μ a w):μ w.heap.size=none:=by
 cases hb:μ w.heap.size with
 |none=>rfl
 |some g =>
  by_cases hm:g.xi
  ·exact absurd ((h.at hb).lt hm) (Nat.lt_irrefl _)
  ·cases g<;>first|exact(hm trivial).elim|skip
   obtain⟨_,_,γ,rfl,_,_,hf,yA⟩:=h;have:=(yA.iW _ _ hb).2.2;have:=hf.size;omega
def Vo{os:List Ob}{γ0 γ:Cx}(hs:bx σ γ)(hf:Fr os γ0 σ.aa γ)(hm:pO μ os σ.aa γ0 γ){b i ag:Nat}{L:List (List Int×AV)}(hb:μ b=some (.iW i))(hi:σ.aa[i]?=some (.mp ag L)):
  ∃ f:Nat->Value,γ.w.heap[b]?=some (.map (cY (du ag f L)) L.length)/\∀ (j:Nat) p,L[j]?=some p->aw σ.aa γ.w γ.Z γ.blk p.2 (f j):=by
 obtain⟨b',f,h1,h2,_,h3⟩:=hs.dT i _ hi;have:=(hf.eA i (hm.iW _ _ hb).1 ⟨_,hi,GM⟩).1;rw[this,(hm.iW _ _ hb).2.1]at h1;cases h1;exact⟨f,h2,h3⟩
def ahX{x y:List (Value×Value)}(h:cY x=cY y):x=y:=by
 have e:∀ z:List (Value×Value),(cY z).toList.map (λe=>(e.key,e.val))=z:=λz=>by
  rw[ue];apply kY;intro j;simp only[bI,PV];cases z[j]?<;>rfl
 rw[<- e x,<- e y,h]
def IE{ag:Nat}{f:Nat->Value}{L:List (List Int×AV)}{j:Nat}{q:List Int×AV}(h:L[j]?=some q):(du ag f L)[j]?=some (kV ag q.1,f j):=by simp[du,h]
def iz.seen{os:List Ob}{γ0:Cx}{a:Act}{w:World}(h:iz N os γ0 σ μ a w){b i ag:Nat}{L:List (List Int×AV)}(hb:μ b=some (.iW i))(hi:σ.aa[i]?=some (.mp ag L)):
  ∃ f:Nat->Value,w.heap[b]?=some (.map (cY (du ag f L)) (du ag f L).length) /\
   ∀ (γ:Cx) (dG:Mem),γ.w.heap[b]?=w.heap[b]?->dG b=some (.iW i)->bx σ γ->Fr os γ0 σ.aa γ->pO dG os σ.aa γ0 γ->∀ (j:Nat) p,L[j]?=some p->aw σ.aa γ.w γ.Z γ.blk p.2 (f j):=by
 obtain⟨_,_,γ,rfl,ha,hs,hf,hm⟩:=h;obtain⟨f,h1,h2⟩:=Vo hs hf hm hb hi;refine⟨f,by rw[rn];exact h1,?_⟩;intro aA dG e a6 iO fF rP j p hj;obtain⟨f',h3,h4⟩:=Vo iO fF rP a6 hi;rw[e,h1]at h3;simp only[cA.injEq,Obj.map.injEq]at h3;have:=congrArg (λl=>l[j]?) (ahX h3.1);rw[IE hj,IE hj]at this;simp only[cA.injEq,Prod.mk.injEq]at this;rw[this.2];exact h4 j p hj
def Vp(L:List (Int×Value)):(iE L).length=L.length:=by simp[iE]
def Vq{os:List Ob}{γ0:Cx}{o:Oper}{K:St->Mem->Prop}(h:eQ P o σ μ K){a:Act}{w:World}(ax:iz N os γ0 σ μ a w)(hd:∀ d,o.dst=some d->d<N){Q:Exit->Act->World->Prop}{next:Act->World->Prop}(hn:∀ σ' dG a' w',K σ' dG->iz N os γ0 σ' dG a' w'->next a' w'):o.wp P a w next Q:=by
 have gen:aL P o σ (λs=>K s μ)->o.wp P a w next Q:=λhg=>by
  obtain⟨γ,h1,h2⟩:=ax.ahW;exact xX hg h1 hd (λσ' a' w' hK cW=>hn _ _ _ _ hK (h2 _ _ _ cW))
 have lit:∀ (v:Value) w',(execOp a.eval o).run P w=.ok (.value v) w'->∀ dG,iz N os γ0 σ dG a w'->K (σ.put o.dst (.lit v)) dG->o.wp P a w next Q:=λv w' hr dG cW hK=>by
  unfold Oper.wp;rw[hr];exact hn _ _ _ _ hK (cW.xl hd (λγ _ _ _ _=>aw.lit v))
 obtain⟨dst,op,type,pos,after,guard⟩:=o;unfold eQ at h;cases op
 case makeMap t r =>
  cases r with
  |some r=>exact gen h
  |none =>
   refine lit (.map (some w.heap.size)) (w.alloc (.map #[] 0)) (by simp[execOp,Instr.makeMap]) _ ?_ (h w.heap.size ax.none);exact ax.block trivial (.inr rfl) (λk _ hk=>by rw[heap_alloc_old _ _ hk]) (by show w.heap.size<=(w.heap.push _).size;simp) rfl rfl rfl (by rw[Gh.At,heap_alloc_new];rfl)
 case lookup t x i ok =>
  cases ok with
  |true=>exact gen h
  |false =>
   obtain⟨n,z,hi,⟨kt,et,ht,hk,hz⟩,h⟩:=h;rcases h with⟨hx,hK⟩|⟨b,L,hx,hb,hK⟩
   ·exact lit z w (by simp[execOp,ax.ev hx,ax.ev hi,ahS ht hk (hz w)]) μ ax hK
   ·exact lit _ w (by simp[execOp,ax.ev hx,ax.ev hi,ahR ht hk (hz w) (ax.at hb)]) μ ax hK
 case mapUpdate t m k x =>
  obtain⟨b,n,L,v,⟨kt,et,ht,hk⟩,hm,hi,hx,hb,hK⟩:=h;have ot:=ax.at hb;rw[Gh.At,Vp]at ot;have aX:=(mW.1 ot).1;have hr:=ahT (P:=P) ht hk ot n v;unfold Oper.wp;have kh:(execOp a.eval ⟨dst,.mapUpdate t m k x,type,pos,after,guard⟩).run P w=.ok .skip { w with heap:=w.heap.setIfInBounds b (.map (cY (iE (kO n v L))) (kO n v L).length) }:=by
   simp[execOp,ax.ev hm,ax.ev hi,ax.ev hx,hr]
  rw[kh];have rh:iz N os γ0 σ (iw μ b (.map (iE (kO n v L)))) a { w with heap:=w.heap.setIfInBounds b (.map (cY (iE (kO n v L))) (kO n v L).length) }:=by
   refine ax.block trivial (.inl ⟨_,hb,trivial⟩) (λk hk _=>?_) GM rfl rfl rfl ?_
   ·simp[uZ (Ne.symm hk)]
   ·rw[Gh.At,Vp];simp[aX]
  exact hn _ _ _ _ hK (rh.xl hd (λγ _ _ _ _=>.undef _))
 case range t x =>
  rcases h with h|⟨b,i,ag,L,⟨kt,et,ht⟩,hx,hi,hb,hK⟩;rotate_left
  ·obtain⟨f,h1,_⟩:=ax.seen hb hi;rw[rn]at h1;have hev:a.eval x=.map (some b):=by
    obtain⟨_,_,γ,rfl,ha,hs,hf,hm⟩:=ax;have:=tZ hs ha x;rw[hx]at this;have e:=(hf.eA i (hm.iW _ _ hb).1 ⟨_,hi,GM⟩).1;rw[(hm.iW _ _ hb).2.1]at e;generalize a.eval x=v at this ⊢;cases this with
    |cO v cv h=>cases h
    |dD id b' jb L' h a6=>rw[e]at a6;cases a6;rfl
    |q9 id cv h h1=>rw[hi]at h;cases h
   refine lit (.pointer (some ⟨w.heap.size,0,none⟩)) (w.alloc (.mapIter (some b) L.length #[] L.length)) (by simp[execOp,hev,Vj ht h1]) _ ?_ (hK w.heap.size ax.none);exact ax.block trivial (.inr rfl) (λk _ hk=>by rw[heap_alloc_old _ _ hk]) (by show w.heap.size<=(w.heap.push _).size;simp) rfl rfl rfl (by rw[Gh.At,heap_alloc_new])
  obtain⟨b,ents,⟨kt,et,ht⟩,hx,hb,hK⟩:=h;refine lit (.pointer (some ⟨w.heap.size,0,none⟩)) (w.alloc (.mapIter (some b) ents.length #[] ents.length)) (by simp[execOp,ax.ev hx,Vj ht (ax.at hb)]) _ ?_ (hK w.heap.size ax.none);exact ax.block trivial (.inr rfl) (λk _ hk=>by rw[heap_alloc_old _ _ hk]) (by show w.heap.size<=(w.heap.push _).size;simp) rfl rfl rfl (by rw[Gh.At,heap_alloc_new])
 case next x s =>
  cases s with
  |true=>exact gen h
  |false =>
   rcases h with h|⟨r,b,i,ag,L,seen,hx,hr,hb,hi,h1,h2⟩;rotate_left
   ·have aX:=(ax.at hr).lt trivial;obtain⟨f,fN,qw⟩:=ax.seen hb hi;have kI:=ax.at hr;rw[Gh.At,<- rn ag f L]at kI;have E':r≠b:=λe=>by rw[e,hb]at hr;cases hr
    rcases Vl (P:=P) rfl kI fN type with⟨k1,k2⟩|⟨j,p,d,k1,k2,k4,k3⟩
    ·have kh:(execOp a.eval ⟨dst,.next x false,type,pos,after,guard⟩).run P w=.ok (.value (.tuple #[.bool false])) w:=by simp[execOp,ax.ev hx,k2]
     unfold Oper.wp;rw[kh];rw[rn]at k1;exact hn _ _ _ _ (h1 k1) (ax.xl hd (λγ _ _ _ _=>.bD _ _ rfl (λi y hi=>by
      cases i with
      |zero=>simp at hi;subst hi;exact aw.lit _
      |succ i=>simp at hi)))
    ·have kh:(execOp a.eval ⟨dst,.next x false,type,pos,after,guard⟩).run P w=.ok (.value (.tuple #[.bool true,p.1,p.2])) { w with heap:=w.heap.setIfInBounds r (.mapIter (some b) L.length (seen++[j]).toArray L.length),drawn:=d }:=by
      rw[rn]at k3;simp[execOp,ax.ev hx,k3]
     unfold Oper.wp;rw[kh];have gu:j<L.length:=by have:=(aV.1 k1).1;rw[rn]at this;exact this
     obtain⟨q,hq⟩:∃q,L[j]?=some q:=⟨_,bF gu⟩;rw[IE hq]at k1;cases k1;have rh:iz N os γ0 σ (iw μ r (.iter b L.length (seen++[j]))) a { w with heap:=w.heap.setIfInBounds r (.mapIter (some b) L.length (seen++[j]).toArray L.length),drawn:=d }:=by
      refine ax.block trivial (.inl ⟨_,hr,trivial⟩) (λk hk _=>?_) GM rfl rfl rfl ?_ k4
      ·simp[uZ (Ne.symm hk)]
      ·rw[Gh.At];simp[aX]
     refine hn _ _ _ _ (h2 j q hq k2) (rh.xl hd (λγ hw hs hf hm=>.bD _ _ rfl (λi' y ar=>?_)))
     match i',ar with
     |0,ar=>simp at ar;subst ar;exact aw.lit _
     |1,ar=>simp at ar;subst ar;exact Vn _ _
     |2,ar =>
      simp at ar;subst ar;exact qw γ _ (by rw[hw];simp[uZ E']) (by rw[qC _ _ (Ne.symm E')];exact hb) hs hf hm j q hq
     |i'+3,ar=>simp at ar
   obtain⟨r,b,seen,ents,hx,hr,hb,h1,h2⟩:=h;have aX:=(ax.at hr).lt trivial;rcases Vl (P:=P) rfl (ax.at hr) (ax.at hb) type with⟨k1,k2⟩|⟨j,p,d,k1,k2,k4,k3⟩
   ·have kh:(execOp a.eval ⟨dst,.next x false,type,pos,after,guard⟩).run P w=.ok (.value (.tuple #[.bool false])) w:=by simp[execOp,ax.ev hx,k2]
    unfold Oper.wp;rw[kh];exact hn _ _ _ _ (h1 k1) (ax.xl hd (λγ _ _ _ _=>.bD _ _ rfl (λi y hi=>by
     cases i with
     |zero=>simp at hi;subst hi;exact aw.lit _
     |succ i=>simp at hi)))
   ·have kh:(execOp a.eval ⟨dst,.next x false,type,pos,after,guard⟩).run P w=.ok (.value (.tuple #[.bool true,p.1,p.2])) { w with heap:=w.heap.setIfInBounds r (.mapIter (some b) ents.length (seen++[j]).toArray ents.length),drawn:=d }:=by simp[execOp,ax.ev hx,k3]
    unfold Oper.wp;rw[kh];have rh:iz N os γ0 σ (iw μ r (.iter b ents.length (seen++[j]))) a { w with heap:=w.heap.setIfInBounds r (.mapIter (some b) ents.length (seen++[j]).toArray ents.length),drawn:=d }:=by
     refine ax.block trivial (.inl ⟨_,hr,trivial⟩) (λk hk _=>?_) GM rfl rfl rfl ?_ k4
     ·simp[uZ (Ne.symm hk)]
     ·rw[Gh.At];simp[aX]
    refine hn _ _ _ _ (h2 j p k1 k2) (rh.xl hd (λγ _ _ _ _=>.bD _ _ rfl (λi y hi=>?_)))
    ·match i,hi with
     |0,hi=>simp at hi;subst hi;exact aw.lit _
     |1,hi=>simp at hi;subst hi;exact aw.lit _
     |2,hi=>simp at hi;subst hi;exact aw.lit _
     |i+3,hi=>simp at hi
 case entry x =>
  rcases h with h|⟨r,b,i,ag,L,seen,j,q,hx,hr,hb,hi,hq,hK⟩;rotate_left
  ·obtain⟨f,fN,qw⟩:=ax.seen hb hi;have kI:=ax.at hr;rw[Gh.At,<- rn ag f L]at kI;have kh:(execOp a.eval ⟨dst,.entry x,type,pos,after,guard⟩).run P w=.ok (.value (.tuple #[kV ag q.1,f j])) w:=by simp[execOp,ax.ev hx,Vm (P:=P) rfl kI fN (IE hq)]
   unfold Oper.wp;rw[kh];exact hn _ _ _ _ hK (ax.xl hd (λγ hw hs hf hm=>.bD _ _ rfl (λi' y ar=>by
    match i',ar with
    |0,ar=>simp at ar;subst ar;exact Vn _ _
    |1,ar=>simp at ar;subst ar;exact qw γ _ (by rw[hw]) hb hs hf hm j q hq
    |i'+2,ar=>simp at ar)))
  obtain⟨r,b,seen,j,ents,p,hx,hr,hb,hp,hK⟩:=h;have kh:(execOp a.eval ⟨dst,.entry x,type,pos,after,guard⟩).run P w=.ok (.value (.tuple #[p.1,p.2])) w:=by simp[execOp,ax.ev hx,Vm (P:=P) rfl (ax.at hr) (ax.at hb) hp]
  unfold Oper.wp;rw[kh];exact hn _ _ _ _ hK (ax.xl hd (λγ _ _ _ _=>.bD _ _ rfl (λi y hi=>by
   match i,hi with
   |0,hi=>simp at hi;subst hi;exact aw.lit _
   |1,hi=>simp at hi;subst hi;exact aw.lit _
   |i+2,hi=>simp at hi)))
 case binOp op t x y yt =>
  replace h:uH P _ op t (Am.ev σ x) (Am.ev σ y) σ μ K:=h
  unfold uH at h;split at h
  ·rename_i m hx;obtain⟨⟨kt,et,ht⟩,hy,h⟩:=h;split at h
   ·exact lit _ w (by simp[execOp,ax.ev hx,ax.ev hy,eqGuard_at_map,ahU w t kt et m ht]) μ ax h
   ·exact lit _ w (by simp[execOp,ax.ev hx,ax.ev hy,eqGuard_at_map,ahV w t kt et m ht]) μ ax h
   ·exact h.elim
  ·exact gen h
 case call c =>
  obtain⟨callee,args,cC⟩:=c;cases callee with
  |value f=>exact gen h
  |invoke r m=>exact gen h
  |builtin b =>
   cases b
   case len =>
    replace h:zU P _ (args.toList.map (Am.ev σ)) cC.toList σ μ K:=h
    unfold zU at h;split at h
    ·rename_i b hx;obtain⟨t,ents,ot,⟨kt,et,ht⟩,hb,hK⟩:=h;obtain⟨x,hax,AR⟩:∃x,args.toList=[x]/\Am.ev σ x=.lit (.map (some b)):=by
      cases ha:args.toList with
      |nil=>rw[ha]at hx;simp at hx
      |cons x r =>
       rw[ha]at hx;cases r with
       |nil=>exact⟨x,rfl,by simpa using hx⟩
       |cons y r=>simp at hx
     have ea:args = #[x]:=by rw[<- Array.toArray_toList (xs:=args),hax]
     have eb:cC = #[t]:=by rw[<- Array.toArray_toList (xs:=cC),ot]
     subst ea;subst eb;have ah0:=ax.at hb;exact lit _ w (by simp[execOp,resolve,invoke,builtin,Builtin.len_,ax.ev AR,run_underlying ht,MapKept.run_getObj_map ah0,cY,goInt]) μ ax hK
    ·exact gen h
   all_goals exact gen h
 all_goals exact gen h
def pQ(P:Program)(o:Oper)(K:St->Mem->Prop)(b want:Bool)(σ:St)(μ:Mem):Prop:=(b=want->eQ P o σ μ K)/\(b≠want->K (σ.put o.dst (.lit (.tuple #[]))) μ)
def qI(P:Program)(ops:Array Oper):List Oper->(St->Mem->Prop)->St->Mem->Prop
 |[],K,σ,μ=>K σ μ
 |o::r,K,σ,μ =>
  match o.guard with
  |none=>eQ P o σ μ (qI P ops r K)
  |some (j,want) =>
   match (ops[j]?).bind (·.dst) with
   |none=>False
   |some d =>
    match σ.env d with
    |.lit (.bool b)=>pQ P o (qI P ops r K) b want σ μ
    |.lit (.tuple vs)=>vs = #[]/\qI P ops r K (σ.put o.dst (.lit (.tuple #[]))) μ
    |_=>False
def Fa{os:List Ob}{γ0:Cx}{ops:Array Oper}(hd:∀ o∈ops.toList,∀ d,o.dst=some d->d<N){K:St->Mem->Prop}{Q:Exit->Act->World->Prop}(hQ:∀ σ' dG a' w',K σ' dG->iz N os γ0 σ' dG a' w'->Q .normal a' w'):∀ (l:List Oper) (i:Nat) (σ:St) (μ:Mem) (a:Act) (w:World),ops.toList.drop i=l->qI P ops l K σ μ->iz N os γ0 σ μ a w ->
   wpOps P ops Q (List.range' i l.length) a w
 |[],i,σ,μ,a,w,_,h,ax=>by simpa [wpOps] using hQ _ _ _ _ h ax
 |o::r,i,σ,μ,a,w,hl,h,ax=>by
  have hi:ops[i]?=some o:=by
   have:(ops.toList.drop i)[0]?=some o:=by rw[hl];rfl
   simpa using this
  have hr:ops.toList.drop (i+1)=r:=by
   have:=congrArg List.tail hl;simpa [List.tail_drop] using this
  have bR:o∈ops.toList:=gI (by simpa using hi);rw[List.length_cons,List.range'_succ,wpOps_cons];unfold wpOp;simp only[hi];unfold qI at h;cases hg:o.guard with
  |none =>
   simp only[hg]at h;have hw:Region.wanted o (yielded ops a.tmps)=true:=by simp[Region.wanted,hg]
   rw[if_pos hw];left;exact Vq h ax (hd o bR) (λσ' dG a' w' hK cW=>Fa hd hQ r (i+1) σ' dG a' w' hr hK cW)
  |some jw =>
   obtain⟨j,want⟩:=jw;simp only[hg]at h;cases ep:(ops[j]?).bind (·.dst) with
   |none=>simp[ep]at h
   |some d =>
    simp only[ep]at h;have hv:∀ v,σ.env d=.lit v->a.tmps.getD d Go.undef=v:=λv he=>by
     have:=ax.ev (x:=.tmp d) (v:=v) (by simpa [ev] using he);simpa [Act.eval] using this
    split at h
    ·rename_i b he;have hv:=hv _ he;have hy:yielded ops a.tmps j=some b:=by
      unfold yielded;rw[ep];have:a.tmps[d]?=some (.bool b):=by
       rw[eL]at hv;cases hx:a.tmps[d]? with
       |none=>rw[hx]at hv;simp[Go.undef]at hv
       |some y=>rw[hx]at hv;simp at hv;rw[hv]
      simp[this]
     by_cases gM:b=want
     ·have hw:Region.wanted o (yielded ops a.tmps)=true:=by simp[Region.wanted,hg,hy,gM]
      rw[if_pos hw];left;exact Vq (h.1 gM) ax (hd o bR) (λσ' dG a' w' hK cW=>Fa hd hQ r (i+1) σ' dG a' w' hr hK cW)
     ·have hw:Region.wanted o (yielded ops a.tmps)=false:=by simp[Region.wanted,hg,hy,gM]
      rw[if_neg (by rw[hw];simp)];exact Fa hd hQ r (i+1) _ _ _ _ hr (h.2 gM) (ax.xl (hd o bR) (λγ _ _ _ _=>aw.lit _))
    ·rename_i vs he;have hv:=hv _ he;have hy:yielded ops a.tmps j=none:=by
      unfold yielded;rw[ep];rw[eL]at hv;cases hx:a.tmps[d]? with
      |none=>simp[hx]
      |some y=>rw[hx]at hv;simp at hv;subst hv;simp[hx]
     have hw:Region.wanted o (yielded ops a.tmps)=false:=by simp[Region.wanted,hg,hy]
     rw[if_neg (by rw[hw];simp)];exact Fa hd hQ r (i+1) _ _ _ _ hr h.2 (ax.xl (hd o bR) (λγ _ _ _ _=>aw.lit _))
    ·exact h.elim
def Vr{id:Nat}{ops:Array Oper}{Q:Exit->St->Mem->Prop}(hd:fq N ops=true)(h:qI P ops ops.toList (Q .normal) σ μ):WM P N n0 (.region id ops false) Q σ μ:=by
 intro os γ0 a w _ ax;refine wp_region ?_;have:=Fa (P:=P) (N:=N) (os:=os) (γ0:=γ0) (ops:=ops) (oL hd) (K:=Q .normal) (Q:=λe a' w'=>∃ σ' dG,Q e σ' dG/\iz N os γ0 σ' dG a' w') (λσ' dG a' w' hK cW=>⟨σ',dG,hK,cW⟩)
  ops.toList 0 σ μ a w rfl h ax
 rw[List.range_eq_range'];simpa using this
end Go.Am
namespace Go.Am
variable {P:Program} {N n0:Nat} {σ:St} {μ:Mem} {Q:Exit->St->Mem->Prop}
theorem mr{id:Nat}{ops:Array Oper}{y:Code}(h:∀ K:St->Mem->Prop,(∀ s m,WM P N n0 y Q s m->K s m)->qI P ops ops.toList K σ μ)(hd:fq N ops=true:=by decide):WM P N n0 (.seq (.region id ops false) y) Q σ μ :=
 oo fun Q' h1 _=>Vr hd (h _ h1)
theorem rQ{id:Nat}{ops:Array Oper}(h:∀ K:St->Mem->Prop,(∀ s m,Q .normal s m->K s m)->qI P ops ops.toList K σ μ)(hd:fq N ops=true:=by decide):WM P N n0 (.region id ops false) Q σ μ :=
 Vr hd (h _ fun _ _ h=>h)
theorem mc{c:Operand}{x y:Code}{t:Bool}(ht:t=true->WM P N n0 x Q σ μ)(hf:t=false->WM P N n0 y Q σ μ)(hc:ev σ c=.lit (.bool t):=by(simp only[Go.Am.ui,Go.Am.Lc,↓reduceIte,Nat.reduceEqDiff,Nat.reduceBEq];exact rfl)):WM P N n0 (.cond c x y) Q σ μ:=ahN hc ht hf
def ml{c y:Code}(h:∀ Q':Exit->St->Prop,(∀ s,WM P N n0 y Q s μ->Q' .normal s)->(∀ e s,uF e=false->Q e s μ->Q' e s)->W P N σ.aa.length c Q' σ):WM P N n0 (.seq c y) Q σ μ :=
 oo λQ' h1 h2=>MX (h (λe s=>Q' e s μ) (λs=>h1 s μ) (λe s=>h2 e s μ))
section
variable {ops:Array Oper} {o:Oper} {l:List Oper} {K:St->Mem->Prop}
instance:Head (qI P ops (o::l) K σ μ):=⟨trivial⟩
def ah1{b want:Bool}(h1:b=true->pQ P o K true want σ μ)(h2:b=false->pQ P o K false want σ μ):pQ P o K b want σ μ:=by
 cases b
 ·exact h2 rfl
 ·exact h1 rfl
instance {b want:Bool}:IF (pQ P o K b want σ μ) b (pQ P o K true want σ μ) (pQ P o K false want σ μ):=⟨ah1⟩
def Vs:pQ P o K true true σ μ=eQ P o σ μ K:=by simp[pQ]
def Vt:pQ P o K false false σ μ=eQ P o σ μ K:=by simp[pQ]
def Vu:pQ P o K true false σ μ=K (σ.put o.dst (.lit (.tuple #[]))) μ:=by simp[pQ]
def Vv:pQ P o K false true σ μ=K (σ.put o.dst (.lit (.tuple #[]))) μ:=by simp[pQ]
def Vw:qI P ops [] K σ μ=K σ μ:=rfl
variable {dst:Option Tmp} {tt:TypeId} {p:String} {af:Array Edge} {g:Option (Nat×Bool)}
def Vx(x:Operand):eQ P ⟨dst,.move x,tt,p,af,g⟩ σ μ K=aL P ⟨dst,.move x,tt,p,af,g⟩ σ (λs=>K s μ):=rfl
def Vy(x:Operand):eQ P ⟨dst,.assign x,tt,p,af,g⟩ σ μ K=aL P ⟨dst,.assign x,tt,p,af,g⟩ σ (λs=>K s μ):=rfl
def Vz(x y z:Operand):eQ P ⟨dst,.pick x y z,tt,p,af,g⟩ σ μ K=aL P ⟨dst,.pick x y z,tt,p,af,g⟩ σ (λs=>K s μ):=rfl
def VA(e:TypeId):eQ P ⟨dst,.alloc e,tt,p,af,g⟩ σ μ K=aL P ⟨dst,.alloc e,tt,p,af,g⟩ σ (λs=>K s μ):=rfl
def VB(e:TypeId)(x:Operand):eQ P ⟨dst,.box e x,tt,p,af,g⟩ σ μ K=aL P ⟨dst,.box e x,tt,p,af,g⟩ σ (λs=>K s μ):=rfl
def VC(t:TypeId)(l:Array (Nat×Operand)):eQ P ⟨dst,.build t l,tt,p,af,g⟩ σ μ K=aL P ⟨dst,.build t l,tt,p,af,g⟩ σ (λs=>K s μ):=rfl
def VE(t:TypeId)(n:Nat)(l:Array (Nat×Operand)):eQ P ⟨dst,.buildSlice t n l,tt,p,af,g⟩ σ μ K=aL P ⟨dst,.buildSlice t n l,tt,p,af,g⟩ σ (λs=>K s μ):=rfl
def VF(t:TypeId)(x:Operand):eQ P ⟨dst,.load t x,tt,p,af,g⟩ σ μ K=aL P ⟨dst,.load t x,tt,p,af,g⟩ σ (λs=>K s μ):=rfl
def VG(t:TypeId)(x y:Operand):eQ P ⟨dst,.store t x y,tt,p,af,g⟩ σ μ K=aL P ⟨dst,.store t x y,tt,p,af,g⟩ σ (λs=>K s μ):=rfl
def VH(u:UnOp)(t:TypeId)(x:Operand):eQ P ⟨dst,.unOp u t x,tt,p,af,g⟩ σ μ K=aL P ⟨dst,.unOp u t x,tt,p,af,g⟩ σ (λs=>K s μ):=rfl
def VI(f:Fn)(x y:Array Operand):eQ P ⟨dst,.makeFunc f x y,tt,p,af,g⟩ σ μ K=aL P ⟨dst,.makeFunc f x y,tt,p,af,g⟩ σ (λs=>K s μ):=rfl
def VJ(t:TypeId)(x y:Operand):eQ P ⟨dst,.makeSlice t x y,tt,p,af,g⟩ σ μ K=aL P ⟨dst,.makeSlice t x y,tt,p,af,g⟩ σ (λs=>K s μ):=rfl
def VK(t:TypeId)(x:Operand)(lo hi mx:Option Operand):eQ P ⟨dst,.slice t x lo hi mx,tt,p,af,g⟩ σ μ K=aL P ⟨dst,.slice t x lo hi mx,tt,p,af,g⟩ σ (λs=>K s μ):=rfl
def VL(t:TypeId)(x:Operand)(n:Nat):eQ P ⟨dst,.field t x n,tt,p,af,g⟩ σ μ K=aL P ⟨dst,.field t x n,tt,p,af,g⟩ σ (λs=>K s μ):=rfl
def VN(t:TypeId)(x:Operand)(n:Nat):eQ P ⟨dst,.fieldAddr t x n,tt,p,af,g⟩ σ μ K=aL P ⟨dst,.fieldAddr t x n,tt,p,af,g⟩ σ (λs=>K s μ):=rfl
def VO(t:TypeId)(x y:Operand):eQ P ⟨dst,.indexAddr t x y,tt,p,af,g⟩ σ μ K=aL P ⟨dst,.indexAddr t x y,tt,p,af,g⟩ σ (λs=>K s μ):=rfl
def VP(x:Operand):eQ P ⟨dst,.nilCheck x,tt,p,af,g⟩ σ μ K=aL P ⟨dst,.nilCheck x,tt,p,af,g⟩ σ (λs=>K s μ):=rfl
def VQ(x:Operand)(n:Nat):eQ P ⟨dst,.extract x n,tt,p,af,g⟩ σ μ K=aL P ⟨dst,.extract x n,tt,p,af,g⟩ σ (λs=>K s μ):=rfl
def VR(s d:TypeId)(x:Operand):eQ P ⟨dst,.convert s d x,tt,p,af,g⟩ σ μ K=aL P ⟨dst,.convert s d x,tt,p,af,g⟩ σ (λs=>K s μ):=rfl
def VS(f:Operand)(args:Array Operand)(cC:Array TypeId):eQ P ⟨dst,.call ⟨.value f,args,cC⟩,tt,p,af,g⟩ σ μ K=aL P ⟨dst,.call ⟨.value f,args,cC⟩,tt,p,af,g⟩ σ (λs=>K s μ):=rfl
def VT(args:Array Operand)(cC:Array TypeId):eQ P ⟨dst,.call ⟨.builtin .append,args,cC⟩,tt,p,af,g⟩ σ μ K=aL P ⟨dst,.call ⟨.builtin .append,args,cC⟩,tt,p,af,g⟩ σ (λs=>K s μ):=rfl
def VU(args:Array Operand)(cC:Array TypeId):eQ P ⟨dst,.call ⟨.builtin .min,args,cC⟩,tt,p,af,g⟩ σ μ K=aL P ⟨dst,.call ⟨.builtin .min,args,cC⟩,tt,p,af,g⟩ σ (λs=>K s μ):=rfl
def VV(args:Array Operand)(cC:Array TypeId):eQ P ⟨dst,.call ⟨.builtin .max,args,cC⟩,tt,p,af,g⟩ σ μ K=aL P ⟨dst,.call ⟨.builtin .max,args,cC⟩,tt,p,af,g⟩ σ (λs=>K s μ):=rfl
def VW(args:Array Operand)(cC:Array TypeId):eQ P ⟨dst,.call ⟨.builtin .copy,args,cC⟩,tt,p,af,g⟩ σ μ K=aL P ⟨dst,.call ⟨.builtin .copy,args,cC⟩,tt,p,af,g⟩ σ (λs=>K s μ):=rfl
def VX(args:Array Operand)(cC:Array TypeId):eQ P ⟨dst,.call ⟨.builtin .len,args,cC⟩,tt,p,af,g⟩ σ μ K=zU P ⟨dst,.call ⟨.builtin .len,args,cC⟩,tt,p,af,g⟩ (args.toList.map (ev σ)) cC.toList σ μ K:=rfl
def VY(op:BinOp)(t:TypeId)(x y:Operand)(yt:TypeId):eQ P ⟨dst,.binOp op t x y yt,tt,p,af,g⟩ σ μ K=uH P ⟨dst,.binOp op t x y yt,tt,p,af,g⟩ op t (ev σ x) (ev σ y) σ μ K:=rfl
def VZ(k:IntKind)(n:Int)(op:BinOp)(t:TypeId)(y:AV):uH P o op t (.lit (.int k n)) y σ μ K=aL P o σ (λs=>K s μ):=rfl
def V0(b:Bool)(op:BinOp)(t:TypeId)(y:AV):uH P o op t (.lit (.bool b)) y σ μ K=aL P o σ (λs=>K s μ):=rfl
def V3(a:Option Addr)(n c:Nat)(op:BinOp)(t:TypeId)(y:AV):uH P o op t (.lit (.slice a n c)) y σ μ K=aL P o σ (λs=>K s μ):=rfl
def V4(s:Nat)(r:List (List AV))(op:BinOp)(t:TypeId)(y:AV):uH P o op t (.tree s r) y σ μ K=aL P o σ (λs=>K s μ):=rfl
def V5(l:List AV)(op:BinOp)(t:TypeId)(y:AV):uH P o op t (.agg l) y σ μ K=aL P o σ (λs=>K s μ):=rfl
def V6(a b c d:Nat)(op:BinOp)(t:TypeId)(y:AV):uH P o op t (.ref a b c d) y σ μ K=aL P o σ (λs=>K s μ):=rfl
def V7(a:Option Nat)(t:TypeId)(y:AV):uH P o .eql t (.lit (.map a)) y σ μ K=(uG P t/\y=.lit (.map none)/\K (σ.put o.dst (.lit (.bool a.isNone))) μ):=rfl
def V8(a:Option Nat)(t:TypeId)(y:AV):uH P o .neq t (.lit (.map a)) y σ μ K=(uG P t/\y=.lit (.map none)/\K (σ.put o.dst (.lit (.bool (!a.isNone)))) μ):=rfl
def V9(s:Nat)(r:List (List AV))(t:List TypeId):zU P o [.tree s r] t σ μ K=aL P o σ (λs=>K s μ):=rfl
def V'(a b c d:Nat)(t:List TypeId):zU P o [.ref a b c d] t σ μ K=aL P o σ (λs=>K s μ):=rfl
def Wa(a:Option Addr)(n c:Nat)(t:List TypeId):zU P o [.lit (.slice a n c)] t σ μ K=aL P o σ (λs=>K s μ):=rfl
def Wd(b:Nat)(t:List TypeId):zU P o [.lit (.map (some b))] t σ μ K =∃t1 ents,t=[t1]/\uG P t1/\μ b=some (.map ents)/\K (σ.put o.dst (Qf (ents.length:Nat))) μ:=rfl
def We:qI P ops (o::l) K σ μ=(match o.guard with|none=>eQ P o σ μ (qI P ops l K)|some (j,want)=>match (ops[j]?).bind (·.dst) with|none=>False|some d=>match σ.env d with|.lit (.bool b)=>pQ P o (qI P ops l K) b want σ μ|.lit (.tuple vs)=>vs = #[]/\qI P ops l K (σ.put o.dst (.lit (.tuple #[]))) μ|_=>False):=by rw[qI]<;>rfl
def Wf(a:Option Nat):eI (.map a)=.lit (.map a):=rfl
end
def Mc:=aaP @Wf @Vx @Vy @Vz @VA @VB @VC (aaP @VE @VF @VG @VH @VI @VJ @VK (aaP @VL @VN @VO @VP @VQ @VR @VS (aaP @VT @VU @VV @VW @VX @VY @VZ (aaP @V0 @V3 @V4 @V5 @V6 @V7 @V8 (aaP @V9 @V' @Wa @Wd @We @Vw @Vs (aad @Vt @Vu @Vv))))))
end Go.Am
namespace Go.Am
variable {P:Program} {N n0:Nat} {σ:St} {μ:Mem} {K:St->Mem->Prop} {dst:Option Tmp} {tt:TypeId} {p:String} {af:Array Edge} {g:Option (Nat×Bool)}
def Wg{t:TypeId}(h:∀ b,μ b=none->K (σ.put dst (.lit (.map (some b)))) (iw μ b (.map []))):eQ P ⟨dst,.makeMap t none,tt,p,af,g⟩ σ μ K:=h
def Fb{t:TypeId}{x i:Operand}{b:Nat}{n:Int}{z:Value}(hx:ev σ x=.lit (.map (some b)))(hi:ev σ i=Qf n)(hz:ID P t z){L:List (Int×Value)}(hb:μ b=some (.map (iE L)))(hK:K (σ.put dst (.lit ((od n L).getD z))) μ):eQ P ⟨dst,.lookup t x i false,tt,p,af,g⟩ σ μ K:=⟨n,z,hi,hz,.inr ⟨b,L,hx,hb,hK⟩⟩
def M5{t:TypeId}{m k x:Operand}{b:Nat}{n:Int}{v:Value}(hm:ev σ m=.lit (.map (some b)))(hi:ev σ k=Qf n)(hx:ev σ x=.lit v)(hk:IC P t){L:List (Int×Value)}(hb:μ b=some (.map (iE L)))(hK:K (σ.put dst .undef) (iw μ b (.map (iE (kO n v L))))):eQ P ⟨dst,.mapUpdate t m k x,tt,p,af,g⟩ σ μ K:=⟨b,n,L,v,hk,hm,hi,hx,hb,hK⟩
def ah2{t:TypeId}{x:Operand}{b:Nat}(hx:ev σ x=.lit (.map (some b)))(hk:uG P t){ents:List (Value×Value)}(hb:μ b=some (.map ents))(hK:∀ r,μ r=none->K (σ.put dst (.lit (.pointer (some ⟨r,0,none⟩)))) (iw μ r (.iter b ents.length []))):eQ P ⟨dst,.range t x,tt,p,af,g⟩ σ μ K:=.inl ⟨b,ents,hk,hx,hb,hK⟩
def ah3{t:TypeId}{x:Operand}{b i ag:Nat}{L:List (List Int×AV)}(hx:ev σ x=.dD i)(hi:σ.aa[i]?=some (.mp ag L))(hk:uG P t)(hb:μ b=some (.iW i))(hK:∀ r,μ r=none->K (σ.put dst (.lit (.pointer (some ⟨r,0,none⟩)))) (iw μ r (.iter b L.length []))):eQ P ⟨dst,.range t x,tt,p,af,g⟩ σ μ K:=.inr ⟨b,i,ag,L,hk,hx,hi,hb,hK⟩
def ah4{x:Operand}{r b:Nat}{seen:List Nat}{ents:List (Value×Value)}(hx:ev σ x=.lit (.pointer (some ⟨r,0,none⟩)))(hr:μ r=some (.iter b ents.length seen))(hb:μ b=some (.map ents))(h1:(∀ j<ents.length,j∈seen)->K (σ.put dst (.bD [.lit (.bool false)])) μ)(h2:∀ j p,ents[j]?=some p->j ∉ seen->K (σ.put dst (.bD [.lit (.bool true),.lit p.1,.lit p.2])) (iw μ r (.iter b ents.length (seen++[j])))):eQ P ⟨dst,.next x false,tt,p,af,g⟩ σ μ K:=.inl ⟨r,b,seen,ents,hx,hr,hb,h1,h2⟩
def ah5{x:Operand}{r b i ag:Nat}{seen:List Nat}{L:List (List Int×AV)}(hx:ev σ x=.lit (.pointer (some ⟨r,0,none⟩)))(hr:μ r=some (.iter b L.length seen))(hi:σ.aa[i]?=some (.mp ag L))(hb:μ b=some (.iW i))(h1:(∀ j<L.length,j∈seen)->K (σ.put dst (.bD [.lit (.bool false)])) μ)(h2:∀ j q,L[j]?=some q->j ∉ seen->K (σ.put dst (.bD [.lit (.bool true),kA ag q.1,q.2])) (iw μ r (.iter b L.length (seen++[j])))):eQ P ⟨dst,.next x false,tt,p,af,g⟩ σ μ K:=.inr ⟨r,b,i,ag,L,seen,hx,hr,hb,hi,h1,h2⟩
def ah6{x:Operand}{r b i ag j:Nat}{seen:List Nat}{L:List (List Int×AV)}{q:List Int×AV}(hx:ev σ x=.lit (.pointer (some ⟨r,0,none⟩)))(hr:μ r=some (.iter b L.length (seen++[j])))(hi:σ.aa[i]?=some (.mp ag L))(hb:μ b=some (.iW i))(hq:L[j]?=some q)(hK:K (σ.put dst (.bD [kA ag q.1,q.2])) μ):eQ P ⟨dst,.entry x,tt,p,af,g⟩ σ μ K:=.inr ⟨r,b,i,ag,L,seen,j,q,hx,hr,hb,hi,hq,hK⟩
def ah7{x:Operand}{r b j:Nat}{seen:List Nat}{ents:List (Value×Value)}{q:Value×Value}(hx:ev σ x=.lit (.pointer (some ⟨r,0,none⟩)))(hr:μ r=some (.iter b ents.length (seen++[j])))(hb:μ b=some (.map ents))(hp:ents[j]?=some q)(hK:K (σ.put dst (.bD [.lit q.1,.lit q.2])) μ):eQ P ⟨dst,.entry x,tt,p,af,g⟩ σ μ K:=.inl ⟨r,b,seen,j,ents,q,hx,hr,hb,hp,hK⟩
def lP.refl:lP n0 σ σ:=λos γ0 γ _ hs hf=>⟨γ,rfl,rfl,hs,hf,λ_ h=>.inl h,λ_ h=>h⟩
end Go.Am

