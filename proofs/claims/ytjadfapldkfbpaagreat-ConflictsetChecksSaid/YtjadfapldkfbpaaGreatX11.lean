import Derived.Test.YtjadfapldkfbpaaGreatX08
import Derived.Laws.IdiomRangeMap
set_option linter.all false
set_option maxHeartbeats 0
set_option maxRecDepth 20000
open List renaming getElem?_eq_some_iff→aY,mem_of_getElem?→gY,getElem?_eq_getElem→bT,ext_getElem?→jR,getElem?_map→b6,length→rq
open Option renaming some→dD
open Array renaming getElem?_eq_some_iff→pB,getD_eq_getD_getElem?→fU,getElem?_setIfInBounds_ne→uI
open Nat renaming le_refl→aR,sub_self→jv
open Bool renaming false_eq_true→ju
namespace Go.Am
variable {P:Program} {N n0:Nat} {σ:St}
def WH(dst:Option Tmp)(t:TypeId)(a:Operand)(tt:TypeId)(p:String)(af:Array Edge)(g:Option (Nat×Bool))(K:St->Prop):mT true P ⟨dst,.load t a,tt,p,af,g⟩ σ K=uS P t dst K σ (ev σ a):=rfl
def Lq:=aal @WH @uS.eq_1
def ay.jf(d id:Nat){cells:List AV}(ho:σ.aa[id]?=some (.var cells))(hd:σ.env d=.ptr id 0 0)(mj:∀ v∈cells,(∃ x,v=.lit x)\/∃ s r,v=.tree s r):ay n0 σ ⟨jT σ.env d (.bm cells),σ.aa.set id .gone⟩:=by
 intro os γ0 γ _ hs hf;have AH:id<σ.aa.length:=(aY.1 ho).1
 let aP:Cx:={ γ with Z:=λb=>γ.Z b\/∃ o cap,γ.blk id=some (b,o,cap) }
 let eD:=σ.aa.set id .gone
 have iG:∀ i,eD[i]?=if i=id then some .gone else σ.aa[i]?:=by
  intro i;show(σ.aa.set id _)[i]?=_;rw[List.getElem?_set];by_cases h1:i=id
  ·subst h1;simp[AH]
  ·simp[Ne.symm h1,h1]
 have hR:∀ v cv,aA σ.aa γ.w γ.Z γ.blk v cv->aA eD aP.w aP.Z aP.blk v cv:=λv cv hv =>
  hv.mono (λb hb=>⟨.inl hb,rfl⟩) (λi o hi=>by
   rw[iG];by_cases h1:i=id
   ·left;rw[if_pos h1]
   ·rw[if_neg h1];by_cases hg:o=.gone
    ·subst hg;exact .inl hi
    ·exact .inr ⟨rfl,o,hi,Ob.kK hg⟩)
 have c9:∀ i,Live eD i->Live σ.aa i/\i≠id:=by
  rintro i⟨o,hi,hg⟩;rw[iG]at hi;split at hi
  ·simp at hi;exact absurd hi.symm hg
  ·rename_i h2;exact⟨⟨o,hi,hg⟩,h2⟩
 have o7:Live σ.aa id:=⟨_,ho,G9⟩;obtain⟨b,cap,cur,t,h1,h2,h3,h4⟩:=hs.fF _ _ ho;have tY:=hs.au d;rw[hd]at tY;have kF:aA eD aP.w aP.Z aP.blk (.bm cells) (γ.tmps.getD d Go.undef):=by
  generalize γ.tmps.getD d Go.undef=cv at tY;cases tY with
  |cp _ _ h=>cases h
  |od _ _ _ _ h=>rw[ho]at h;simp at h
  |oS _ _ b2 anP anQ h hb =>
   rw[h1]at hb;simp only[dD.injEq,Prod.mk.injEq]at hb;obtain⟨rfl,_,_⟩:=hb;refine .bm cells b 0 (λj=>cur.getD j Go.undef) (.inr ⟨0,cap,h1⟩) (λj x hx=>?_) (λj x hx=>?_)
   ·rw[Nat.zero_add];exact Cc h2 (by rw[h3];exact(aY.1 hx).1)
   ·have dV:cG σ (λy=>y≠id) x x:=by
     rcases mj x (gY hx) with⟨v,rfl⟩|⟨s,r,rfl⟩
     ·exact .lit v
     ·exact .tree s r
    exact dV.Eb hs (γc:=aP) (λb hb=>.inl hb) rfl (λx b o cap cT _ hb=>.inr ⟨o,cap,by rw[show id=x by simpa using(Decidable.not_not.1 cT).symm];exact hb⟩) _ (h4 j x hx)
  |pM _ _ _ _ _ _ _ _ h=>rw[ho]at h;simp at h
 refine⟨aP,rfl,rfl,⟨λk=>?_,?_,λi j b o c o' c' hi hj=>hs.inj i j b o c o' c' (c9 i hi).1 (c9 j hj).1,?_,?_,λg=>Cd (hs.gl g) λb hb=>⟨.inl hb,rfl⟩⟩,?_⟩
 ·show aA eD aP.w aP.Z aP.blk (jT σ.env d (.bm cells) k) (γ.tmps.getD k Go.undef);simp only[jT];split
  ·rename_i e;subst e;exact kF
  ·exact hR _ _ (hs.au k)
 ·intro i o hi;have hi':eD[i]?=some o:=hi;rw[iG]at hi';split at hi'
  ·simp only[dD.injEq]at hi';subst hi';trivial
  ·by_cases hg:o=.gone
   ·subst hg;trivial
   ·exact(hs.fF i o hi').mono hR rfl (λ_ _ _ _=>rfl)
 ·rintro b ⟨i,o,c',hi,hb⟩ (hz|⟨o',cap,cW⟩)
  ·exact hs.nz b ⟨i,o,c',(c9 i hi).1,hb⟩ hz
  ·exact(c9 i hi).2 (hs.inj i id b o c' o' cap (c9 i hi).1 o7 hb cW)
 ·rintro b (hz|⟨o,cap,hb⟩)
  ·exact hs.jm b hz
  ·exact hs.blt o7 hb
 ·refine⟨hf.nt,hf.tape,hf.output,hf.size,hf.aH,λb hb=>.inl (hf.z0 b hb),?_,?_,by show os.length<=eD.length;simp[eD];exact hf.len,?_,hf.drawn⟩
  ·rintro b (hz|⟨o,cap,hb⟩)
   ·exact hf.z1 b hz
   ·exact .inr (hf.own b ⟨id,o,cap,o7,hb⟩)
  ·rintro b ⟨i,o,c',hi,hb⟩;exact hf.own b ⟨i,o,c',(c9 i hi).1,hb⟩
  ·intro i hi hl;obtain⟨h1,x,x',hx,cV,hk⟩:=hf.lk i hi (c9 i hl).1;have jF:Live eD i:=hl;obtain⟨o,e9,tC⟩:=jF;refine⟨h1,x,o,hx,e9,?_⟩;rw[iG]at e9;split at e9
   ·simp at e9;exact absurd e9.symm tC
   ·rw[cV]at e9;simp only[dD.injEq]at e9;subst e9;exact hk
end Go.Am
namespace Go.Am
variable {P:Program} {N n0:Nat} {σ:St}
inductive Gh where
 |map (ents:List (Value×Value))
 |iter (mb since:Nat) (seen:List Nat)
 |m6 (i:Nat)
def Gh.At(w:World)(b:Nat):Gh->Prop
 |.map ents=>w.heap[b]?=some (.map (dy ents) ents.length)
 |.iter mb since seen=>w.heap[b]?=some (.mapIter (some mb) since seen.toArray since)
 |.m6 _=>True
def Gh.wB:Gh->Prop
 |.m6 _=>False
 |_=>True
def Gh.At.heap{w w':World}{b:Nat}{g:Gh}(h:g.At w b)(e:w'.heap[b]?=w.heap[b]?):g.At w' b:=by
 cases g<;>first|trivial|exact e.trans h
def Gh.At.lt{w:World}{b:Nat}{g:Gh}(h:g.At w b)(hm:g.wB):b<w.heap.size:=by
 cases g<;>first|exact(pB.1 h).1|exact hm.elim
abbrev Mem:=Nat->Option Gh
def kS(μ:Mem)(b:Nat)(g:Gh):Mem:=λk=>if k=b then some g else μ k
def zl(μ:Mem)(b:Nat)(g:Gh):kS μ b g b=some g:=by simp[kS]
def vj(μ:Mem){b c:Nat}(g:Gh)(h:c≠b):kS μ b g c=μ c:=by simp[kS,h]
def AT:Mem:=λ_=>none
structure pY(μ:Mem)(o0 os:List Ob)(γ0 γ:Cx):Prop where
 gh:∀ b g,μ b=some g->g.At γ.w b
 fresh:∀ b g,μ b=some g->g.wB->γ0.w.heap.size<=b
 CK:∀ b g,μ b=some g->g.wB->¬ γ.Z b
 xX:∀ b g,μ b=some g->g.wB->¬ qw os γ.blk b
 m6:∀ b i,μ b=some (.m6 i)->i<o0.length/\γ0.blk i=some (b,0,0)/\b<γ0.w.heap.size
def pY.nil(o0 os:List Ob)(γ0 γ:Cx):pY AT o0 os γ0 γ:=⟨by simp[AT],by simp[AT],by simp[AT],by simp[AT],by simp[AT]⟩
def pY.aH{μ:Mem}{o0 os os':List Ob}{γ0 γ aP:Cx}(h:pY μ o0 os γ0 γ)(hf:Fr os γ os' aP):pY μ o0 os' γ0 aP:=by
 refine⟨λb g hp=>?_,h.fresh,λb g hp hm hz=>?_,λb g hp hm ho=>?_,h.m6⟩
 ·by_cases hm:g.wB
  ·exact(h.gh b g hp).heap (hf.aH _ ((h.gh b g hp).lt hm) (h.xX b g hp hm))
  ·cases g<;>first|trivial|exact(hm trivial).elim
 ·rcases hf.z1 _ hz with h1|h1|h1
  ·exact h.CK b g hp hm h1
  ·exact h.xX b g hp hm h1
  ·have:=(h.gh b g hp).lt hm;omega
 ·rcases hf.own _ ho with h1|h1
  ·exact h.xX b g hp hm h1
  ·have:=(h.gh b g hp).lt hm;omega
def pY.le{μ eo:Mem}{o0 os:List Ob}{γ0 γ:Cx}(h:pY μ o0 os γ0 γ)(hl:∀ b g,eo b=some g->μ b=some g):pY eo o0 os γ0 γ :=
 ⟨λb g hp=>h.gh b g (hl b g hp),λb g hp=>h.fresh b g (hl b g hp),λb g hp=>h.CK b g (hl b g hp),λb g hp=>h.xX b g (hl b g hp),λb i hp=>h.m6 b i (hl _ _ hp)⟩
def iX(N:Nat)(os:List Ob)(γ0:Cx)(σ:St)(μ:Mem)(a:Act)(w:World):Prop :=
 a.defers=[]/\a.tmps.size=N/\∃ γ,γ.w=w/\γ.tmps=a.tmps/\bC σ γ/\Fr os γ0 σ.aa γ/\pY μ os σ.aa γ0 γ
def WM(P:Program)(N n0:Nat)(c:Code)(Q:Exit->St->Mem->Prop)(σ:St)(μ:Mem):Prop :=
 ∀ (os:List Ob) (γ0:Cx) (a:Act) (w:World),os.length=n0->iX N os γ0 σ μ a w->c.wp P (λe a' w'=>∃ σ' eo,Q e σ' eo/\iX N os γ0 σ' eo a' w') a w
variable {Q:Exit->St->Mem->Prop} {μ:Mem}
def age{c:Code}(h:W P N σ.aa.length c (λe s=>Q e s μ) σ):WM P N n0 c Q σ μ:=by
 rintro os γ0 a w hn⟨iP,bg,γ,rfl,ha,hs,hf,hm⟩;refine wp_mono (h σ.aa γ a γ.w rfl ⟨iP,bg,γ,rfl,ha,hs,Fr.refl _ _⟩) ?_;rintro e a' w'⟨σ',hq,MH,MI,aP,rfl,m7,iB,gn⟩;exact⟨σ',μ,hq,MH,MI,aP,rfl,m7,iB,hf.trans gn,hm.aH gn⟩
def xY{c:Code}{e:Exit}(hc:Ig c=some e)(h:Q e σ μ):WM P N n0 c Q σ μ:=by
 cases c<;>simp[Ig]at hc;all_goals subst hc
 all_goals first
  |exact λ_ _ _ _ _ aw=>wp_skip ⟨σ,μ,h,aw⟩
  |exact λ_ _ _ _ _ aw=>wp_label ⟨σ,μ,h,aw⟩
  |exact λ_ _ _ _ _ aw=>wp_exit ⟨σ,μ,h,aw⟩
  |exact λ_ _ _ _ _ aw=>wp_ret ⟨σ,μ,h,aw⟩
def agf{x y:Code}(Q1:Exit->St->Mem->Prop)(h:WM P N n0 x Q1 σ μ)(hn:∀ s m,Q1 .normal s m->WM P N n0 y Q s m)(he:∀ e s m,e≠.normal->Q1 e s m->Q e s m):WM P N n0 (.seq x y) Q σ μ:=by
 intro os γ0 a w hl aw;refine wp_seq (wp_mono (h os γ0 a w hl aw) ?_);rintro e a' w'⟨σ',eo,h1,h2⟩;cases e with
 |normal=>exact hn _ _ h1 os γ0 a' w' hl h2
 |exit id=>exact⟨σ',eo,he _ _ _ G9 h1,h2⟩
 |goto l=>exact⟨σ',eo,he _ _ _ G9 h1,h2⟩
 |ret=>exact⟨σ',eo,he _ _ _ G9 h1,h2⟩
 |panic c=>exact⟨σ',eo,he _ _ _ G9 h1,h2⟩
 |outgrown=>exact⟨σ',eo,he _ _ _ G9 h1,h2⟩
def vn{x y:Code}(h:∀ Q':Exit->St->Mem->Prop,(∀ s m,WM P N n0 y Q s m->Q' .normal s m)->(∀ e s m,tT e=false->Q e s m->Q' e s m)->WM P N n0 x Q' σ μ):WM P N n0 (.seq x y) Q σ μ :=
 agf (λe s m=>(e=.normal->WM P N n0 y Q s m)/\(e≠.normal->Q e s m)) (h _ (λs m h=>⟨λ_=>h,λh=>absurd rfl h⟩) (λe s m he h=>⟨λe2=>absurd e2 (Ib he),λ_=>h⟩)) (λs m h=>h.1 rfl) (λe s m he h=>h.2 he)
def agh{c:Operand}{x y:Code}{t:Bool}(hc:ev σ c=.lit (.bool t))(ht:t=true->WM P N n0 x Q σ μ)(hf:t=false->WM P N n0 y Q σ μ):WM P N n0 (.cond c x y) Q σ μ:=by
 intro os γ0 a w hn aw;have bu:a.eval c=.bool t:=by
  obtain⟨_,_,γ,rfl,ha,hs,_⟩:=aw;have:=tK hs ha c;rw[hc]at this;exact this.dm
 exact wp_cond_split bu (λh=>ht h os γ0 a w hn aw) (λh=>hf h os γ0 a w hn aw)
def zm{id:Nat}{c:Code}(h:∀ Q':Exit->St->Mem->Prop,(∀ s m,Q .normal s m->Q' .normal s m)->(∀ s m,Q .normal s m->Q' (.exit id) s m)->(∀ e s m,AL id e=false->Q e s m->Q' e s m)->WM P N n0 c Q' σ μ):WM P N n0 (.block id c) Q σ μ:=by
 intro os γ0 a w hn aw;have h':=h (λe s m=>(e=.exit id->Q .normal s m)/\(e≠.exit id->Q e s m)) (λs m h=>⟨λe=>by simp at e,λ_=>h⟩) (λs m h=>⟨λ_=>h,λe=>absurd rfl e⟩) (λe s m he h=>⟨λe2=>absurd e2 (L9 he).2,λ_=>h⟩);refine wp_block (wp_mono (h' os γ0 a w hn aw) ?_);rintro e a' w'⟨σ',eo,h1,h2⟩;cases e with
 |exit pL =>
  simp only[Exit.inBlock];split
  ·rename_i he;exact⟨σ',eo,h1.1 (by rw[he]),h2⟩
  ·rename_i he;exact⟨σ',eo,h1.2 (λe=>he (by simpa using e)),h2⟩
 |normal=>exact⟨σ',eo,h1.2 G9,h2⟩
 |goto l=>exact⟨σ',eo,h1.2 G9,h2⟩
 |ret=>exact⟨σ',eo,h1.2 G9,h2⟩
 |panic c=>exact⟨σ',eo,h1.2 G9,h2⟩
 |outgrown=>exact⟨σ',eo,h1.2 G9,h2⟩
def nH(n0:Nat)(σ σ':St):Prop:=∀ (os:List Ob) (γ0 γ:Cx),os.length=n0->bC σ γ->Fr os γ0 σ.aa γ ->
 ∃ aP,aP.w=γ.w/\aP.tmps=γ.tmps/\bC σ' aP/\Fr os γ0 σ'.aa aP/\(∀ b,aP.Z b->γ.Z b\/qw σ.aa γ.blk b)/\∀ b,qw σ'.aa aP.blk b->qw σ.aa γ.blk b
def nH.WI{σ':St}(h:nH n0 σ σ'){os:List Ob}{γ0:Cx}{a:Act}{w:World}(hn:os.length=n0)(aw:iX N os γ0 σ μ a w):iX N os γ0 σ' μ a w:=by
 obtain⟨h1,h2,γ,rfl,h3,h4,h5,h6⟩:=aw;obtain⟨aP,e1,e2,e3,e4,e5,e6⟩:=h os γ0 γ hn h4 h5;refine⟨h1,h2,aP,e1,e2.trans h3,e3,e4,λb g hp=>(h6.gh b g hp).heap (by rw[e1]),h6.fresh,λb g hp hm hz=>?_,λb g hp hm ho=>h6.xX b g hp hm (e6 _ ho),h6.m6⟩;rcases e5 _ hz with h|h
 ·exact h6.CK b g hp hm h
 ·exact h6.xX b g hp hm h
def agi{c:Code}{σ':St}(h:nH n0 σ σ')(hw:WM P N n0 c Q σ' μ):WM P N n0 c Q σ μ :=
 λos γ0 a w hn aw=>hw os γ0 a w hn (h.WI hn aw)
def nH.au(l:List (Nat×AV))(os:List Ob)(ho:σ.aa=os)(h:Has σ.env l):nH n0 σ ⟨au l,os⟩:=by
 subst ho;intro os γ0 γ _ hs hf;refine⟨γ,rfl,rfl,⟨λk=>?_,hs.fF,hs.inj,hs.nz,hs.jm,hs.gl⟩,hf,λ_ h=>.inl h,λ_ h=>h⟩;rcases Hv l k with h'|⟨p,hp,rfl,h'⟩
 ·show aA _ _ _ _ (Am.au l k) _;rw[h'];exact .undef _
 ·show aA _ _ _ _ (Am.au l p.1) _;rw[h',<- h.mem p hp];exact hs.au p.1
theorem nH.se(aq:List Nat)(snap:Bool){l:List (Nat×AV)}{co:List Ob}(ho:qn (bA σ.aa.length aq) σ.aa aq co)(h:tF (aI σ (kept aq co) (bA σ.aa.length aq) snap) σ.env l)(b7:aq.Nodup:=by decide)(hn:n0<=aq.length:=by decide)(cT:∀ i,i<n0->aq.getD i 0=i:=by decide):nH n0 σ ⟨Am.au l,co⟩:=by
 intro os γ0 γ xM hs hf;obtain⟨h1,h2,h3⟩:=ho.spec;obtain⟨aP,a1,a2,a3,a4⟩:=hs.select aq snap co b7 h1 h2 h3 (Am.au l) γ.tmps (fun k=>by
  rcases Hv l k with h'|⟨p,hp,rfl,h'⟩
  ·exact .inl h'
  ·right;rw[h'];exact⟨_,h.mem p hp,hs.au p.1⟩)
 obtain⟨b1,b2,b3,b4⟩:=a4;refine⟨aP,a1,a2,a3,hf.select (by omega) h1 (fun i hi=>cT i (by omega)) a1 ⟨b1,b2,b3,b4⟩,b3,?_⟩;rintro b⟨i,o,c,hi,hb⟩;have bx:=hi.lt;rw[b1 i bx]at hb;exact⟨_,o,c,(b4 i hi).1,hb⟩
def MJ{α:Type}{c:Code}(S:α->St)(I:α->Mem->Prop)(M:α->Nat)(x0:α)(hI:I x0 μ)(h0:nH n0 σ (S x0))(round:∀ x m0,I x m0->∀ Q':Exit->St->Mem->Prop,(∀ s m y,I y m->M y<M x->nH n0 s (S y)->Q' .normal s m)->(∀ e s m,tT e=false->Q e s m->Q' e s m)->WM P N n0 c Q' (S x) m0):WM P N n0 (.loop c) Q σ μ:=by
 refine agi h0 ?_;intro os γ0 a w hn aw b k cs;have key:∀ n x m0 a w,M x=n->I x m0->iX N os γ0 (S x) m0 a w ->
   ∃ e a' w',(∃ σ' eo,Q e σ' eo/\iX N os γ0 σ' eo a' w')/\Arrives P (lone (b.at a (.code c::.inLoop c::k)) cs w) b k cs e a' w':=by
  intro n
  induction n using Nat.strongRecOn with
  |_ n ih =>
   intro x m0 a w hm hI aw;have hr:=round x m0 hI (λe s m=>(e=.normal->∃ y,I y m/\M y<M x/\nH n0 s (S y))/\(e≠.normal->Q e s m)) (λs m y h1 h2 h3=>⟨λ_=>⟨y,h1,h2,h3⟩,λh=>absurd rfl h⟩)
    (λe s m he h=>⟨λe2=>absurd e2 (Ib he),λ_=>h⟩)
   obtain⟨e,sK,tG,⟨σ',eo,hq,dG⟩,jc⟩:=hr os γ0 a w hn aw b (.inLoop c::k) cs;cases e with
   |normal =>
    obtain⟨y,KX,bx,ht⟩:=hq.1 rfl;obtain⟨KY,KZ,K3,K4,K5⟩:=ih (M y) G3 y _ sK tG rfl KX (ht.WI hn dG);exact⟨KY,KZ,K3,K4,.of_steps (Steps.trans jc (.one step_inLoop)) K5⟩
   |exit id=>exact⟨_,sK,tG,⟨σ',eo,hq.2 G9,dG⟩,.pass (x:=.inLoop c) rfl (λ_ _=>.inl G9) jc⟩
   |goto l=>exact⟨_,sK,tG,⟨σ',eo,hq.2 G9,dG⟩,.pass (x:=.inLoop c) rfl (λ_ _=>.inl G9) jc⟩
   |ret=>exact⟨_,sK,tG,⟨σ',eo,hq.2 G9,dG⟩,.pass (x:=.inLoop c) rfl (λ_ _=>.inl G9) jc⟩
   |panic ch=>exact⟨_,sK,tG,⟨σ',eo,hq.2 G9,dG⟩,.pass (x:=.inLoop c) rfl (λ_ _=>.inl G9) jc⟩
   |outgrown=>exact⟨_,sK,tG,⟨σ',eo,hq.2 G9,dG⟩,.pass (x:=.inLoop c) rfl (λ_ _=>.inl G9) jc⟩
 obtain⟨e,a',w',hq,jc⟩:=key _ x0 _ a w rfl hI aw;exact⟨e,a',w',hq,.of_steps (.one step_loop) jc⟩
def agj{c:Code}{Q:Exit->St->Prop}(h:WM P N n0 c (λe s _=>Q e s) σ AT):W P N n0 c Q σ:=by
 rintro os γ0 a w hn⟨h1,h2,γ,rfl,h3,h4,h5⟩;refine wp_mono (h os γ0 a γ.w hn ⟨h1,h2,γ,rfl,h3,h4,h5,pY.nil _ _ _ _⟩) ?_;rintro e a' w'⟨σ',eo,hq,k1,k2,aP,rfl,k3,k4,k5,k6⟩;exact⟨σ',hq,k1,k2,aP,rfl,k3,k4,k5⟩
end Go.Am
namespace Go.Am
variable {P:Program} {N n0:Nat} {σ:St}
def iE(L:List (Int×Value)):List (Value×Value):=L.map λp=>(.int .i64 p.1,p.2)
def lA(x:Int)(v:Value):List (Int×Value)->List (Int×Value)
 |[]=>[(x,v)]
 |p::r=>if p.1=x then(x,v)::r else p::lA x v r
def oE(x:Int):List (Int×Value)->Option Value
 |[]=>none
 |p::r=>if p.1=x then some p.2 else oE x r
def sT(x:Int):List (Int×Value)->Nat->Option (Nat×Value)
 |[],_=>none
 |p::r,i=>if p.1=x then some (i,p.2) else sT x r (i+1)
def WJ(x:Int):∀ (L:List (Int×Value)) (i:Nat),(sT x L i).map (·.2)=oE x L
 |[],_=>rfl
 |p::r,i=>by
  rw[sT,oE];split
  ·rfl
  ·exact WJ x r (i+1)
def WK(x:Int)(v:Value):∀ (L:List (Int×Value)) (i:Nat),sT x L i=none->lA x v L=L++[(x,v)]
 |[],_,_=>rfl
 |p::r,i,h=>by
  rw[sT]at h;split at h
  ·cases h
  ·rename_i hp;rw[lA,if_neg hp,WK x v r (i+1) h];rfl
def WL(x:Int)(v:Value):∀ (L:List (Int×Value)) (i j:Nat) (u:Value),sT x L i=some (j,u)->i<=j/\L[j-i]?=some (x,u)/\lA x v L=L.set (j-i) (x,v)
 |[],_,_,_,h=>by cases h
 |p::r,i,j,u,h=>by
  rw[sT]at h;split at h
  ·rename_i hp;simp only[dD.injEq,Prod.mk.injEq]at h;obtain⟨rfl,rfl⟩:=h;refine⟨aR _,?_,?_⟩
   ·rw[jv];simp[<- hp]
   ·rw[jv,lA,if_pos hp];rfl
  ·rename_i hp;obtain⟨h1,h2,h3⟩:=WL x v r (i+1) j u h;have e:j-i=(j-(i+1))+1:=G3;refine⟨G3,?_,?_⟩
   ·rw[e,List.getElem?_cons_succ];exact h2
   ·rw[e,lA,if_neg hp,h3];rfl
def WN{k:TypeDesc}(hk:k=.int .i64)(x:Int):∀ (L:List (Int×Value)) (f:Nat->Nat) (i:Nat),Instr.findNow k (.int .i64 x) ((iE L).mapIdx λi p=>(⟨p.1,p.2,f i⟩:MapEntry)) i=some (sT x L i)
 |[],_,_=>rfl
 |p::r,f,i=>by
  subst hk;simp only[iE,List.map_cons,List.mapIdx_cons,Instr.findNow,Instr.sameNow,if_true,sT];by_cases h:p.1=x
  ·rw[if_pos h];subst h;simp
  ·rw[if_neg h];have:(x==p.1)=false:=by simpa using λe=>h e.symm
   rw[this];simpa [iE] using WN rfl x r (λj=>f (j+1)) (i+1)
def run_findKey{kt:TypeId}(hk:P.underlying kt=some (.int .i64))(x:Int)(L:List (Int×Value))(w:World):(Instr.findKey kt (.int .i64 x) (dy (iE L)).toList).run P w=.ok (sT x L 0) w:=by
 have h:=WN (k:=.int .i64) rfl x L id 0;simp only[id]at h;simp[Instr.findKey,run_underlying hk,tM,h]
def run_checkKey{kt:TypeId}(hk:P.underlying kt=some (.int .i64))(e:Bool)(x:Int)(w:World):(Instr.checkKey e 10000 kt (.int .i64 x)).run P w=.ok () w:=by
 have h:∀ d:Nat,(Instr.checkKey e (d+1) kt (.int .i64 x)).run P w=.ok () w:=λd=>by simp[Instr.checkKey,run_underlying hk]
 exact h 9999
def agk{t kt et:TypeId}(ht:P.underlying t=some (.map kt et))(hk:P.underlying kt=some (.int .i64)){z:Value}{w:World}(hz:(zeroValue et).run P w=.ok z w){b n:Nat}{L:List (Int×Value)}(hb:w.heap[b]?=some (.map (dy (iE L)) n))(x:Int):(Instr.lookup t (.map (some b)) (.int .i64 x) false).run P w=.ok ((oE x L).getD z) w:=by
 rw[<- WJ x L 0];simp only[Instr.lookup,Sem.run_bind,run_underlying ht,MapKept.run_getObj_map hb,run_checkKey hk,run_findKey hk,Result.andThen_ok,Sem.run_pure];cases h:sT x L 0 with
 |none=>simp[hz]
 |some q=>simp
def agl{t kt et:TypeId}(ht:P.underlying t=some (.map kt et))(hk:P.underlying kt=some (.int .i64)){z:Value}{w:World}(hz:(zeroValue et).run P w=.ok z w)(x:Int):
  (Instr.lookup t (.map none) (.int .i64 x) false).run P w=.ok z w:=by
 have h:=run_findKey (P:=P) hk x [] w;have e:(dy (iE [])).toList=(#[]:Array MapEntry).toList:=rfl;rw[e]at h;simp only[Instr.lookup,Sem.run_bind,run_underlying ht,run_checkKey hk,h,Result.andThen_ok,Sem.run_pure];simp[sT,hz]
def agm{t kt et:TypeId}(ht:P.underlying t=some (.map kt et))(hk:P.underlying kt=some (.int .i64)){w:World}{b:Nat}{L:List (Int×Value)}(hb:w.heap[b]?=some (.map (dy (iE L)) L.length))(x:Int)(v:Value):
  (Instr.mapUpdate t (.map (some b)) (.int .i64 x) v).run P w=.ok () { w with heap:=w.heap.setIfInBounds b (.map (dy (iE (lA x v L))) (lA x v L).length) }:=by
 simp only[Instr.mapUpdate,Sem.run_bind,run_underlying ht,MapKept.run_getObj_map hb,run_checkKey hk,run_findKey hk,Result.andThen_ok];cases h:sT x L 0 with
 |none =>
  have h2:=WK x v L 0 h;have e:=Lw (iE L) (.int .i64 x,v);rw[show(iE L).length=L.length by simp[iE]]at e;simp only[MapKept.run_setObj_map _ hb,e,h2,show iE (L++[(x,v)])=iE L++[(.int .i64 x,v)] by simp[iE],List.length_append,List.length_singleton]
 |some q =>
  obtain⟨j,u⟩:=q;obtain⟨_,h2,h3⟩:=WL x v L 0 j u h;rw[Nat.sub_zero]at h2 h3;have En:(((dy (iE L))[j]?).map (·.key)).getD (.int .i64 x)=.int .i64 x:=by
   simp[dy,iE,h2]
  have E4:Instr.sameBits 10000 (.int .i64 x) (.int .i64 x)=true:=by simp[Instr.sameBits]
  have dX:(Instr.keyThatStays (.int .i64 x) (.int .i64 x)).run P w=.ok (.int .i64 x) w:=by simp[Instr.keyThatStays,E4]
  have e:=HL (iE L) j (λe=>{ e with key:=.int .i64 x,val:=v }) (.int .i64 x,v) (λq _=>rfl);have e2:(iE L).set j (.int .i64 x,v)=iE (lA x v L):=by rw[h3];simp[iE,List.map_set]
  simp only[En,Sem.run_bind,dX,Result.andThen_ok,MapKept.run_setObj_map _ hb];rw[e,e2,h3,List.length_set]
def WO{t kt et:TypeId}(ht:P.underlying t=some (.map kt et)){w:World}{b n:Nat}{es:Array MapEntry}(hb:w.heap[b]?=some (.map es n)):
  (Instr.range t (.map (some b))).run P w=.ok (.pointer (some ⟨w.heap.size,0,none⟩)) (w.alloc (.mapIter (some b) n #[] n)):=run_range_map w t kt et b es n ht hb
def WQ{ents:List (Value×Value)}{x:MapEntry}(h:x∈(dy ents).toList):x.born<ents.length/\ents[x.born]?=some (x.key,x.val):=by
 rw[tM]at h;obtain⟨i,hi,rfl⟩:=List.mem_mapIdx.1 h;exact⟨hi,by simp[hi]⟩
def WR{w:World}{r b n:Nat}{seen:List Nat}{ents:List (Value×Value)}(hn:n=ents.length)(hr:w.heap[r]?=some (.mapIter (some b) n seen.toArray n))(hb:w.heap[b]?=some (.map (dy ents) n))(ty:TypeId):
  ((∀ j<ents.length,j∈seen)/\(Instr.next (.pointer (some ⟨r,0,none⟩)) false ty).run P w=.ok (.tuple #[.bool false]) w) \/
  ∃ j p d,ents[j]?=some p/\j ∉ seen/\w.drawn<=d/\(Instr.next (.pointer (some ⟨r,0,none⟩)) false ty).run P w=.ok (.tuple #[.bool true,p.1,p.2]) { w with heap:=w.heap.setIfInBounds r (.mapIter (some b) n (seen++[j]).toArray n),drawn:=d }:=by
 subst hn;have hold:∀ x∈(dy ents).toList,x.born<ents.length:=λx hx=>(WQ hx).1;simp only[Instr.next,getObj,Sem.run_bind,Sem.run,hr,hb,Result.andThen,next_test_false seen.toArray (dy ents) ents.length ents.length hold (aR _),ju,if_false];have hL:∀ x,x∈((dy ents).filter λe=>!seen.toArray.contains e.born).toList↔x∈(dy ents).toList/\x.born ∉ seen:=by
  intro x;simp
 have bJ:∀ x∈((dy ents).filter λe=>!seen.toArray.contains e.born).toList,x.born<ents.length:=λx hx=>hold x ((hL x).1 hx).1;generalize (dy ents).filter (λe=>!seen.toArray.contains e.born)=L at bJ hL ⊢;have e1:L.filter (λx=>decide (x.born<ents.length))=L:=Array.filter_eq_self.2 (λx hx=>by simpa using bJ x (by simpa using hx));have e2:L.filter (λx=>decide (x.born >= ents.length)) = #[]:=by
  rw[Array.filter_eq_empty_iff];intro x hx;have:=bJ x (by simpa using hx);simp;omega
 simp only[e1,e2,Array.append_empty];by_cases h0:L.size=0
 ·left;have:L = #[]:=Array.eq_empty_of_size_eq_zero h0;subst this;refine⟨λj hj=>?_,?_⟩
  ·cases hc:decide (j∈seen) with
   |true=>exact of_decide_eq_true hc
   |false =>
    have wg:=of_decide_eq_false hc;have:=(hL ⟨(ents[j]).1,(ents[j]).2,j⟩).2 ⟨by rw[tM];exact List.mem_mapIdx.2 ⟨j,hj,rfl⟩,wg⟩;simp at this
  ·simp[choose,Sem.run,Question.forced]
 ·right;have ew:L.isEmpty=false:=by simp[Array.isEmpty,h0]
  simp only[ew,ju,if_false,Array.empty_append,Array.size_map];have fC :∃(j:Nat) (d:Nat),j<L.size/\w.drawn<=d/\(choose (Question.mapNext L.size)).run P w=.ok j { w with drawn:=d }:=by
   by_cases hf:L.size<=1
   ·exact⟨0,w.drawn,G3,aR _,by simp[choose,Sem.run,Question.forced,hf]⟩
   ·exact⟨_,w.drawn+1,Nat.mod_lt _ G3,Nat.le_succ _,by
     simp only[choose,Sem.run,Question.forced,decide_eq_true_eq,hf,if_false,Question.cut];rfl⟩
  obtain⟨j,d,hj,oF,fP⟩:=fC;have hx:=(hL L[j]).1 G9;obtain⟨h1,h2⟩:=WQ hx.1;refine⟨L[j].born,_,d,h2,hx.2,oF,?_⟩;simp only[fP,Array.getElem?_map,Array.getElem?_eq_getElem hj,Option.map_some,Sem.run_bind,Result.andThen];simp only[setObj,Sem.run,hr,List.push_toArray];rfl
def WS{w:World}{r b n j:Nat}{seen:List Nat}{ents:List (Value×Value)}{p:Value×Value}(hn:n=ents.length)(hr:w.heap[r]?=some (.mapIter (some b) n (seen++[j]).toArray n))(hb:w.heap[b]?=some (.map (dy ents) n))(hp:ents[j]?=some p):(Instr.entry (.pointer (some ⟨r,0,none⟩))).run P w=.ok (.tuple #[p.1,p.2]) w:=by
 have hj:=(aY.1 hp).1;have hm:(⟨p.1,p.2,j⟩:MapEntry)∈(dy ents).toList:=by
  rw[tM];refine List.mem_mapIdx.2 ⟨j,hj,?_⟩;rw[bT hj]at hp;simp only[dD.injEq]at hp;rw[hp]
 have b7:((dy ents).toList.map (·.born)).Nodup:=by
  rw[tM];have:(ents.mapIdx λi p=>(⟨p.1,p.2,i⟩:MapEntry)).map (·.born)=List.range ents.length:=by
   apply jR;intro i;simp only[b6,List.getElem?_mapIdx];rcases Nat.lt_or_ge i ents.length with h|h
   ·simp[h]
   ·simp[h]
  rw[this];exact List.nodup_range
 have hf:(dy ents).find? (·.born==j)=some ⟨p.1,p.2,j⟩:=by rw[<- Array.find?_toList];exact find_born ⟨p.1,p.2,j⟩ _ b7 hm
 simp only[Instr.entry,getObj,Sem.run_bind,Sem.run,hr,hb,Result.andThen,List.back?_toArray,List.getLast?_append,List.getLast?_singleton,Option.some_or,bne_self_eq_false,ju,if_false,hf];rfl
def agn(w:World)(t kt et:TypeId)(a:Option Nat)(ht:P.underlying t=some (.map kt et)):(binOp .eql t (.map a) (.map none)).run P w=.ok (.bool a.isNone) w:=by
 have h:∀ d:Nat,(Op.equalIn (d+1) t (.map a) (.map none)).run P w=.ok a.isNone w:=λd=>by
  cases a<;>simp[Op.equalIn,run_underlying ht]
 simp[binOp,Op.equal,Op.maxDepth,h]
def ago(w:World)(t kt et:TypeId)(a:Option Nat)(ht:P.underlying t=some (.map kt et)):(binOp .neq t (.map a) (.map none)).run P w=.ok (.bool (!a.isNone)) w:=by
 have h:∀ d:Nat,(Op.equalIn (d+1) t (.map a) (.map none)).run P w=.ok a.isNone w:=λd=>by
  cases a<;>simp[Op.equalIn,run_underlying ht]
 simp[binOp,Op.equal,Op.maxDepth,h]
end Go.Am
namespace Go.Am
variable {P:Program} {N n0:Nat} {σ:St}
def bC.E6{γ:Cx}(h:bC σ γ){w':World}{b:Nat}(hz:¬ γ.Z b)(ho:¬ qw σ.aa γ.blk b)(hk:∀ k,k≠b->k<γ.w.heap.size->w'.heap[k]?=γ.w.heap[k]?)(bg:γ.w.heap.size<=w'.heap.size):bC σ { γ with w:=w' }:=by
 have hR:∀ v cv,aA σ.aa γ.w γ.Z γ.blk v cv->aA σ.aa w' γ.Z γ.blk v cv:=λv cv hv =>
  hv.mono (λk MK=>⟨MK,hk k (λe=>hz (e▸MK)) (h.jm k MK)⟩) (λi x hx=>by
   by_cases bE:x=.gone
   ·subst bE;exact .inl hx
   ·exact .inr ⟨rfl,x,hx,Ob.kK bE⟩)
 refine⟨λk=>hR _ _ (h.au k),λi o hi=>?_,h.inj,h.nz,λk aL=>Nat.lt_of_lt_of_le (h.jm k aL) bg,λg=>hR _ _ (h.gl g)⟩;by_cases bE:o=.gone
 ·subst bE;trivial
 ·exact(h.fF i o hi).mono hR rfl (λk x c hb=>hk k (λe=>ho ⟨i,x,c,⟨o,hi,bE⟩,e▸hb⟩) (h.blt ⟨o,hi,bE⟩ hb))
theorem Fr.E6{os:List Ob}{γ0 γ:Cx}(h:Fr os γ0 σ.aa γ){w':World}{b:Nat}(hb:γ0.w.heap.size<=b)(hk:∀ k,k≠b->k<γ.w.heap.size->w'.heap[k]?=γ.w.heap[k]?)(bg:γ.w.heap.size<=w'.heap.size)(h1:w'.os=γ.w.os)(h2:w'.tape=γ.w.tape)(h3:w'.output=γ.w.output)(h4:γ.w.drawn<=w'.drawn:=by first|exact Nat.le_refl _|(simp;done)|omega):Fr os γ0 σ.aa { γ with w:=w' } :=
 ⟨h1.trans h.nt,h2.trans h.tape,h3.trans h.output,Nat.le_trans h.size bg,fun k aL ho=>(hk k (by omega) (Nat.lt_of_lt_of_le aL h.size)).trans (h.aH k aL ho),h.z0,h.z1,h.own,h.len,h.lk,Nat.le_trans h.drawn h4⟩
def pY.E6{μ:Mem}{o0 os:List Ob}{γ0 γ:Cx}(h:pY μ o0 os γ0 γ){w':World}{b:Nat}{g:Gh}(hm:g.wB)(hz:¬ γ.Z b)(ho:¬ qw os γ.blk b)(hb:γ0.w.heap.size<=b)(hk:∀ k,k≠b->k<γ.w.heap.size->w'.heap[k]?=γ.w.heap[k]?)(hg:g.At w' b):pY (kS μ b g) o0 os γ0 { γ with w:=w' }:=by
 have one:∀ k g',kS μ b g k=some g'->(k=b/\g'=g)\/(k≠b/\μ k=some g'):=λk g' h'=>by
  by_cases e:k=b
  ·subst e;rw[zl]at h';exact .inl ⟨rfl,by simpa using h'.symm⟩
  ·rw[vj μ g e]at h';exact .inr ⟨e,h'⟩
 refine⟨λk g' h'=>?_,λk g' h' rU=>?_,λk g' h' rU=>?_,λk g' h' rU=>?_,λk i h'=>?_⟩<;>rcases one k _ h' with⟨rfl,e⟩|⟨e,h2⟩
 ·subst e;exact hg
 ·by_cases rU:g'.wB
  ·exact(h.gh k g' h2).heap (hk k e ((h.gh k g' h2).lt rU))
  ·cases g'<;>first|trivial|exact(rU trivial).elim
 ·exact hb
 ·exact h.fresh k g' h2 rU
 ·exact hz
 ·exact h.CK k g' h2 rU
 ·exact ho
 ·exact h.xX k g' h2 rU
 ·subst e;exact hm.elim
 ·exact h.m6 k i h2
variable {μ:Mem}
def kA(ag:Nat)(l:List Int):AV:=if ag=0 then .lit (kV ag l) else .agg (l.map λn=>aaa n)
def WT{os:List Ob}{w:World}{Z:Nat->Prop}{blk:ij}(ag:Nat)(l:List Int):aA os w Z blk (kA ag l) (kV ag l):=by
 unfold kA;split
 ·exact .lit _
 ·rename_i h;rw[kV,if_neg h];refine .agg _ _ G9 λj x hx=>?_;simp only[b6,Option.map_eq_some_iff]at hx;obtain⟨n,hn,rfl⟩:=hx;have:(l.map λn=>Value.int .i64 n).toArray.getD j Go.undef=.int .i64 n:=by simp[fU,hn]
  rw[this];exact .lit _
def Iy(P:Program)(t:TypeId):Prop:=∃ kt et,P.underlying t=some (.map kt et)/\P.underlying kt=some (.int .i64)
def wC(P:Program)(t:TypeId):Prop:=∃ kt et,P.underlying t=some (.map kt et)
def Iz(P:Program)(t:TypeId)(z:Value):Prop:=∃ kt et,P.underlying t=some (.map kt et)/\P.underlying kt=some (.int .i64)/\∀ w:World,(zeroValue et).run P w=.ok z w
def tZ(P:Program)(o:Oper)(op:BinOp)(t:TypeId)(x y:AV)(σ:St)(μ:Mem)(K:St->Mem->Prop):Prop :=
 match x with
 |.lit (.map a)=>wC P t/\y=.lit (.map none)/\match op with|.eql=>K (σ.put o.dst (.lit (.bool a.isNone))) μ|.neq=>K (σ.put o.dst (.lit (.bool (!a.isNone)))) μ|_=>False
 |_=>aW P o σ λs=>K s μ
def zn(P:Program)(o:Oper)(args:List AV)(cQ:List TypeId)(σ:St)(μ:Mem)(K:St->Mem->Prop):Prop :=
 match args with
 |[.lit (.map (some b))]=>∃ t ents,cQ=[t]/\wC P t/\μ b=some (.map ents)/\K (σ.put o.dst (aaa (ents.length:Nat))) μ
 |_=>aW P o σ λs=>K s μ
def gu(P:Program)(o:Oper)(σ:St)(μ:Mem)(K:St->Mem->Prop):Prop :=
 match o.op with
 |.makeMap _ none=>∀ b,μ b=none->K (σ.put o.dst (.lit (.map (some b)))) (kS μ b (.map []))
 |.lookup t x i false=>∃ n z,ev σ i=aaa n/\Iz P t z /\
   ((ev σ x=.lit (.map none)/\K (σ.put o.dst (.lit z)) μ)\/∃ b L,ev σ x=.lit (.map (some b))/\μ b=some (.map (iE L))/\K (σ.put o.dst (.lit ((oE n L).getD z))) μ)
 |.mapUpdate t m k x=>∃ b n L v,Iy P t/\ev σ m=.lit (.map (some b))/\ev σ k=aaa n/\ev σ x=.lit v/\μ b=some (.map (iE L))/\K (σ.put o.dst .undef) (kS μ b (.map (iE (lA n v L))))
 |.range t x=>(∃ b ents,wC P t/\ev σ x=.lit (.map (some b))/\μ b=some (.map ents)/\∀ r,μ r=none->K (σ.put o.dst (.lit (.pointer (some ⟨r,0,none⟩)))) (kS μ r (.iter b ents.length []))) \/
   ∃ b i ag L,wC P t/\ev σ x=.g6 i/\σ.aa[i]?=some (.mp ag L)/\μ b=some (.m6 i)/\∀ r,μ r=none->K (σ.put o.dst (.lit (.pointer (some ⟨r,0,none⟩)))) (kS μ r (.iter b L.length []))
 |.next x false=>(∃ r b seen ents,ev σ x=.lit (.pointer (some ⟨r,0,none⟩))/\μ r=some (.iter b ents.length seen)/\μ b=some (.map ents) /\
   ((∀ j<ents.length,j∈seen)->K (σ.put o.dst (.bH [.lit (.bool false)])) μ) /\
   ∀ j p,ents[j]?=some p->j ∉ seen->K (σ.put o.dst (.bH [.lit (.bool true),.lit p.1,.lit p.2])) (kS μ r (.iter b ents.length (seen++[j])))) \/
   ∃ r b i ag L seen,ev σ x=.lit (.pointer (some ⟨r,0,none⟩))/\μ r=some (.iter b (rq L) seen)/\μ b=some (.m6 i)/\σ.aa[i]?=some (.mp ag L) /\
   ((∀ j<L.length,j∈seen)->K (σ.put o.dst (.bH [.lit (.bool false)])) μ) /\
   ∀ j p,L[j]?=some p->j ∉ seen->K (σ.put o.dst (.bH [.lit (.bool true),kA ag p.1,p.2])) (kS μ r (.iter b L.length (seen++[j])))
 |.entry x=>(∃ r b seen j ents p,ev σ x=.lit (.pointer (some ⟨r,0,none⟩))/\μ r=some (.iter b ents.length (seen++[j]))/\μ b=some (.map ents)/\ents[j]?=some p/\K (σ.put o.dst (.bH [.lit p.1,.lit p.2])) μ) \/
   ∃ r b i ag L seen j p,ev σ x=.lit (.pointer (some ⟨r,0,none⟩))/\μ r=some (.iter b (rq L) (seen++[j]))/\μ b=some (.m6 i)/\σ.aa[i]?=some (.mp ag L)/\L[j]?=some p/\K (σ.put o.dst (.bH [kA ag p.1,p.2])) μ
 |.binOp op t x y _=>tZ P o op t (ev σ x) (ev σ y) σ μ K
 |.call ⟨.builtin .len,args,cQ⟩=>zn P o (args.toList.map (ev σ)) cQ.toList σ μ K
 |_=>aW P o σ λs=>K s μ
def iX.agp{os:List Ob}{γ0:Cx}{a:Act}{w:World}(h:iX N os γ0 σ μ a w):∃γ:Cx,gP N σ.aa γ σ a w/\∀ σ' a' w',gP N σ.aa γ σ' a' w'->iX N os γ0 σ' μ a' w':=by
 obtain⟨iP,bg,γ,rfl,ha,hs,hf,hm⟩:=h;refine⟨γ,⟨iP,bg,γ,rfl,ha,hs,Fr.refl _ _⟩,?_⟩;rintro σ' a' w'⟨MH,MI,aP,rfl,m7,iB,gn⟩;exact⟨MH,MI,aP,rfl,m7,iB,hf.trans gn,hm.aH gn⟩
def iX.wD{os:List Ob}{γ0:Cx}{a:Act}{w:World}(h:iX N os γ0 σ μ a w){o:Oper}(hd:∀ d,o.dst=some d->d<N){v:AV}{cv:Value}(hv:∀ γ:Cx,γ.w=w->bC σ γ->Fr os γ0 σ.aa γ->pY μ os σ.aa γ0 γ->aA σ.aa γ.w γ.Z γ.blk v cv):iX N os γ0 (σ.put o.dst v) μ (a.put o.dst cv) w:=by
 obtain⟨iP,bg,γ,rfl,ha,hs,hf,hm⟩:=h;refine⟨by rw[put_defers];exact iP,by rw[uO];exact bg,{ γ with tmps:=(a.put o.dst cv).tmps },rfl,rfl,sJ hs ha (λd h=>by rw[bg];exact hd d h) (hv γ rfl hs hf hm),?_,?_⟩
 ·rw[rB];exact hf.put _
 ·rw[rB];exact⟨hm.gh,hm.fresh,hm.CK,hm.xX,hm.m6⟩
theorem iX.block{os:List Ob}{γ0:Cx}{a:Act}{w w':World}(h:iX N os γ0 σ μ a w){b:Nat}{g:Gh}(uc:g.wB)(hb:(∃ g',μ b=some g'/\g'.wB)\/b=w.heap.size)(hk:∀ k,k≠b->k<w.heap.size->w'.heap[k]?=w.heap[k]?)(bg:w.heap.size<=w'.heap.size)(h1:w'.os=w.os)(h2:w'.tape=w.tape)(h3:w'.output=w.output)(hg:g.At w' b)(h4:w.drawn<=w'.drawn:=by first|exact Nat.le_refl _|(simp;done)|omega):iX N os γ0 σ (kS μ b g) a w':=by
 obtain⟨iP,xZ,γ,rfl,ha,hs,hf,hm⟩:=h;have cW:¬ γ.Z b/\¬ qw σ.aa γ.blk b/\γ0.w.heap.size<=b:=by
  rcases hb with⟨g',tI,ML⟩|rfl
  ·exact⟨hm.CK _ _ tI ML,hm.xX _ _ tI ML,hm.fresh _ _ tI ML⟩
  ·refine⟨fun hz=>Nat.lt_irrefl _ (hs.jm _ hz),?_,hf.size⟩;rintro⟨i,o,c,hl,hb⟩;exact Nat.lt_irrefl _ (hs.blt hl hb)
 exact⟨iP,xZ,{ γ with w:=w' },rfl,ha,hs.E6 cW.1 cW.2.1 hk bg,hf.E6 cW.2.2 hk bg h1 h2 h3 h4,hm.E6 uc cW.1 cW.2.1 cW.2.2 hk hg⟩
def iX.ev{os:List Ob}{γ0:Cx}{a:Act}{w:World}(h:iX N os γ0 σ μ a w){x:Operand}{v:Value}(hx:ev σ x=.lit v):a.eval x=v:=by
 obtain⟨_,_,γ,rfl,ha,hs,_⟩:=h;have:=tK hs ha x;rw[hx]at this;exact this.dm
def iX.at{os:List Ob}{γ0:Cx}{a:Act}{w:World}(h:iX N os γ0 σ μ a w){b:Nat}{g:Gh}(hb:μ b=some g):g.At w b:=by
 obtain⟨_,_,γ,rfl,ha,hs,_,hm⟩:=h;exact hm.gh _ _ hb
def iX.none{os:List Ob}{γ0:Cx}{a:Act}{w:World}(h:iX N os γ0 σ μ a w):μ w.heap.size=none:=by
 cases hb:μ w.heap.size with
 |none=>rfl
 |some g =>
  by_cases hm:g.wB
  ·exact absurd ((h.at hb).lt hm) (Nat.lt_irrefl _)
  ·cases g<;>first|exact(hm trivial).elim|skip
   obtain⟨_,_,γ,rfl,_,_,hf,vp⟩:=h;have:=(vp.m6 _ _ hb).2.2;have:=hf.size;omega
def WU{os:List Ob}{γ0 γ:Cx}(hs:bC σ γ)(hf:Fr os γ0 σ.aa γ)(hm:pY μ os σ.aa γ0 γ){b i ag:Nat}{L:List (List Int×AV)}(hb:μ b=some (.m6 i))(hi:σ.aa[i]?=some (.mp ag L)):
  ∃ f:Nat->Value,γ.w.heap[b]?=some (.map (dy (dR ag f L)) L.length)/\∀ (j:Nat) p,L[j]?=some p->aA σ.aa γ.w γ.Z γ.blk p.2 (f j):=by
 obtain⟨b',f,h1,h2,_,h3⟩:=hs.fF i _ hi;have:=(hf.lk i (hm.m6 _ _ hb).1 ⟨_,hi,G9⟩).1;rw[this,(hm.m6 _ _ hb).2.1]at h1;cases h1;exact⟨f,h2,h3⟩
def agq{x y:List (Value×Value)}(h:dy x=dy y):x=y:=by
 have e:∀ z:List (Value×Value),(dy z).toList.map (λe=>(e.key,e.val))=z:=λz=>by
  rw[tM];apply jR;intro j;simp only[b6,List.getElem?_mapIdx];cases z[j]?<;>rfl
 rw[<- e x,<- e y,h]
def IA{ag:Nat}{f:Nat->Value}{L:List (List Int×AV)}{j:Nat}{q:List Int×AV}(h:L[j]?=some q):(dR ag f L)[j]?=some (kV ag q.1,f j):=by simp[dR,h]
def iX.seen{os:List Ob}{γ0:Cx}{a:Act}{w:World}(h:iX N os γ0 σ μ a w){b i ag:Nat}{L:List (List Int×AV)}(hb:μ b=some (.m6 i))(hi:σ.aa[i]?=some (.mp ag L)):
  ∃ f:Nat->Value,w.heap[b]?=some (.map (dy (dR ag f L)) (dR ag f L).length) /\
   ∀ (γ:Cx) (eo:Mem),γ.w.heap[b]?=w.heap[b]?->eo b=some (.m6 i)->bC σ γ->Fr os γ0 σ.aa γ->pY eo os σ.aa γ0 γ->∀ (j:Nat) p,L[j]?=some p->aA σ.aa γ.w γ.Z γ.blk p.2 (f j):=by
 obtain⟨_,_,γ,rfl,ha,hs,hf,hm⟩:=h;obtain⟨f,h1,h2⟩:=WU hs hf hm hb hi;refine⟨f,by rw[rK];exact h1,?_⟩;intro aP eo e cW iB gn rU j p hj;obtain⟨f',h3,h4⟩:=WU iB gn rU cW hi;rw[e,h1]at h3;simp only[dD.injEq,Obj.map.injEq]at h3;have:=congrArg (λl=>l[j]?) (agq h3.1);rw[IA hj,IA hj]at this;simp only[dD.injEq,Prod.mk.injEq]at this;rw[this.2];exact h4 j p hj
def WV(L:List (Int×Value)):(iE L).length=L.length:=by simp[iE]
def WW{os:List Ob}{γ0:Cx}{o:Oper}{K:St->Mem->Prop}(h:gu P o σ μ K){a:Act}{w:World}(aw:iX N os γ0 σ μ a w)(hd:∀ d,o.dst=some d->d<N){Q:Exit->Act->World->Prop}{next:Act->World->Prop}(hn:∀ σ' eo a' w',K σ' eo->iX N os γ0 σ' eo a' w'->next a' w'):o.wp P a w next Q:=by
 have gen:aW P o σ (λs=>K s μ)->o.wp P a w next Q:=λhg=>by
  obtain⟨γ,h1,h2⟩:=aw.agp;exact xD hg h1 hd (λσ' a' w' hK dG=>hn _ _ _ _ hK (h2 _ _ _ dG))
 have lit:∀ (v:Value) w',(execOp a.eval o).run P w=.ok (.value v) w'->∀ eo,iX N os γ0 σ eo a w'->K (σ.put o.dst (.lit v)) eo->o.wp P a w next Q:=λv w' hr eo dG hK=>by
  unfold Oper.wp;rw[hr];exact hn _ _ _ _ hK (dG.wD hd (λγ _ _ _ _=>aA.lit v))
 obtain⟨dst,op,type,pos,after,guard⟩:=o;unfold gu at h;cases op
 case makeMap t r =>
  cases r with
  |some r=>exact gen h
  |none =>
   refine lit (.map (some w.heap.size)) (w.alloc (.map #[] 0)) (by simp[execOp,Instr.makeMap]) _ ?_ (h w.heap.size aw.none);exact aw.block trivial (.inr rfl) (λk _ hk=>by rw[heap_alloc_old _ _ hk]) (by show w.heap.size<=(w.heap.push _).size;simp) rfl rfl rfl (by rw[Gh.At,heap_alloc_new];rfl)
 case lookup t x i ok =>
  cases ok with
  |true=>exact gen h
  |false =>
   obtain⟨n,z,hi,⟨kt,et,ht,hk,hz⟩,h⟩:=h;rcases h with⟨hx,hK⟩|⟨b,L,hx,hb,hK⟩
   ·exact lit z w (by simp[execOp,aw.ev hx,aw.ev hi,agl ht hk (hz w)]) μ aw hK
   ·exact lit _ w (by simp[execOp,aw.ev hx,aw.ev hi,agk ht hk (hz w) (aw.at hb)]) μ aw hK
 case mapUpdate t m k x =>
  obtain⟨b,n,L,v,⟨kt,et,ht,hk⟩,hm,hi,hx,hb,hK⟩:=h;have CL:=aw.at hb;rw[Gh.At,WV]at CL;have bx:=(pB.1 CL).1;have hr:=agm (P:=P) ht hk CL n v;unfold Oper.wp;have fB:(execOp a.eval ⟨dst,.mapUpdate t m k x,type,pos,after,guard⟩).run P w=.ok .skip { w with heap:=w.heap.setIfInBounds b (.map (dy (iE (lA n v L))) (lA n v L).length) }:=by
   simp[execOp,aw.ev hm,aw.ev hi,aw.ev hx,hr]
  rw[fB];have lW:iX N os γ0 σ (kS μ b (.map (iE (lA n v L)))) a { w with heap:=w.heap.setIfInBounds b (.map (dy (iE (lA n v L))) (lA n v L).length) }:=by
   refine aw.block trivial (.inl ⟨_,hb,trivial⟩) (λk hk _=>?_) G9 rfl rfl rfl ?_
   ·simp[uI (Ne.symm hk)]
   ·rw[Gh.At,WV];simp[bx]
  exact hn _ _ _ _ hK (lW.wD hd (λγ _ _ _ _=>.undef _))
 case range t x =>
  rcases h with h|⟨b,i,ag,L,⟨kt,et,ht⟩,hx,hi,hb,hK⟩;rotate_left
  ·obtain⟨f,h1,_⟩:=aw.seen hb hi;rw[rK]at h1;have MN:a.eval x=.map (some b):=by
    obtain⟨_,_,γ,rfl,ha,hs,hf,hm⟩:=aw;have:=tK hs ha x;rw[hx]at this;have e:=(hf.lk i (hm.m6 _ _ hb).1 ⟨_,hi,G9⟩).1;rw[(hm.m6 _ _ hb).2.1]at e;generalize a.eval x=v at this ⊢;cases this with
    |cp v cv h=>cases h
    |g6 id b' jx L' h cW=>rw[e]at cW;cases cW;rfl
    |rG id cv h h1=>rw[hi]at h;cases h
   refine lit (.pointer (some ⟨w.heap.size,0,none⟩)) (w.alloc (.mapIter (some b) L.length #[] L.length)) (by simp[execOp,MN,WO ht h1]) _ ?_ (hK w.heap.size aw.none);exact aw.block trivial (.inr rfl) (λk _ hk=>by rw[heap_alloc_old _ _ hk]) (by show w.heap.size<=(w.heap.push _).size;simp) rfl rfl rfl (by rw[Gh.At,heap_alloc_new])
  obtain⟨b,ents,⟨kt,et,ht⟩,hx,hb,hK⟩:=h;refine lit (.pointer (some ⟨w.heap.size,0,none⟩)) (w.alloc (.mapIter (some b) ents.length #[] ents.length)) (by simp[execOp,aw.ev hx,WO ht (aw.at hb)]) _ ?_ (hK w.heap.size aw.none);exact aw.block trivial (.inr rfl) (λk _ hk=>by rw[heap_alloc_old _ _ hk]) (by show w.heap.size<=(w.heap.push _).size;simp) rfl rfl rfl (by rw[Gh.At,heap_alloc_new])
 case next x s =>
  cases s with
  |true=>exact gen h
  |false =>
   rcases h with h|⟨r,b,i,ag,L,seen,hx,hr,hb,hi,h1,h2⟩;rotate_left
   ·have bx:=(aw.at hr).lt trivial;obtain⟨f,nI,rV⟩:=aw.seen hb hi;have rL:=aw.at hr;rw[Gh.At,<- rK ag f L]at rL;have E7:r≠b:=λe=>by rw[e,hb]at hr;cases hr
    rcases WR (P:=P) rfl rL nI type with⟨k1,k2⟩|⟨j,p,d,k1,k2,k4,k3⟩
    ·have fB:(execOp a.eval ⟨dst,.next x false,type,pos,after,guard⟩).run P w=.ok (.value (.tuple #[.bool false])) w:=by simp[execOp,aw.ev hx,k2]
     unfold Oper.wp;rw[fB];rw[rK]at k1;exact hn _ _ _ _ (h1 k1) (aw.wD hd (λγ _ _ _ _=>.bH _ _ rfl (λi y hi=>by
      cases i with
      |zero=>simp at hi;subst hi;exact aA.lit _
      |succ i=>simp at hi)))
    ·have fB:(execOp a.eval ⟨dst,.next x false,type,pos,after,guard⟩).run P w=.ok (.value (.tuple #[.bool true,p.1,p.2])) { w with heap:=w.heap.setIfInBounds r (.mapIter (some b) L.length (seen++[j]).toArray L.length),drawn:=d }:=by
      rw[rK]at k3;simp[execOp,aw.ev hx,k3]
     unfold Oper.wp;rw[fB];have kL:j<L.length:=by have:=(aY.1 k1).1;rw[rK]at this;exact this
     obtain⟨q,hq⟩:∃q,L[j]?=some q:=⟨_,bT kL⟩;rw[IA hq]at k1;cases k1;have lW:iX N os γ0 σ (kS μ r (.iter b L.length (seen++[j]))) a { w with heap:=w.heap.setIfInBounds r (.mapIter (some b) L.length (seen++[j]).toArray L.length),drawn:=d }:=by
      refine aw.block trivial (.inl ⟨_,hr,trivial⟩) (λk hk _=>?_) G9 rfl rfl rfl ?_ k4
      ·simp[uI (Ne.symm hk)]
      ·rw[Gh.At];simp[bx]
     refine hn _ _ _ _ (h2 j q hq k2) (lW.wD hd (λγ hw hs hf hm=>.bH _ _ rfl (λi' y hi'=>?_)))
     match i',hi' with
     |0,hi'=>simp at hi';subst hi';exact aA.lit _
     |1,hi'=>simp at hi';subst hi';exact WT _ _
     |2,hi' =>
      simp at hi';subst hi';exact rV γ _ (by rw[hw];simp[uI E7]) (by rw[vj _ _ (Ne.symm E7)];exact hb) hs hf hm j q hq
     |i'+3,hi'=>simp at hi'
   obtain⟨r,b,seen,ents,hx,hr,hb,h1,h2⟩:=h;have bx:=(aw.at hr).lt trivial;rcases WR (P:=P) rfl (aw.at hr) (aw.at hb) type with⟨k1,k2⟩|⟨j,p,d,k1,k2,k4,k3⟩
   ·have fB:(execOp a.eval ⟨dst,.next x false,type,pos,after,guard⟩).run P w=.ok (.value (.tuple #[.bool false])) w:=by simp[execOp,aw.ev hx,k2]
    unfold Oper.wp;rw[fB];exact hn _ _ _ _ (h1 k1) (aw.wD hd (λγ _ _ _ _=>.bH _ _ rfl (λi y hi=>by
     cases i with
     |zero=>simp at hi;subst hi;exact aA.lit _
     |succ i=>simp at hi)))
   ·have fB:(execOp a.eval ⟨dst,.next x false,type,pos,after,guard⟩).run P w=.ok (.value (.tuple #[.bool true,p.1,p.2])) { w with heap:=w.heap.setIfInBounds r (.mapIter (some b) ents.length (seen++[j]).toArray ents.length),drawn:=d }:=by simp[execOp,aw.ev hx,k3]
    unfold Oper.wp;rw[fB];have lW:iX N os γ0 σ (kS μ r (.iter b ents.length (seen++[j]))) a { w with heap:=w.heap.setIfInBounds r (.mapIter (some b) ents.length (seen++[j]).toArray ents.length),drawn:=d }:=by
     refine aw.block trivial (.inl ⟨_,hr,trivial⟩) (λk hk _=>?_) G9 rfl rfl rfl ?_ k4
     ·simp[uI (Ne.symm hk)]
     ·rw[Gh.At];simp[bx]
    refine hn _ _ _ _ (h2 j p k1 k2) (lW.wD hd (λγ _ _ _ _=>.bH _ _ rfl (λi y hi=>?_)))
    ·match i,hi with
     |0,hi=>simp at hi;subst hi;exact aA.lit _
     |1,hi=>simp at hi;subst hi;exact aA.lit _
     |2,hi=>simp at hi;subst hi;exact aA.lit _
     |i+3,hi=>simp at hi
 case entry x =>
  rcases h with h|⟨r,b,i,ag,L,seen,j,q,hx,hr,hb,hi,hq,hK⟩;rotate_left
  ·obtain⟨f,nI,rV⟩:=aw.seen hb hi;have rL:=aw.at hr;rw[Gh.At,<- rK ag f L]at rL;have fB:(execOp a.eval ⟨dst,.entry x,type,pos,after,guard⟩).run P w=.ok (.value (.tuple #[kV ag q.1,f j])) w:=by simp[execOp,aw.ev hx,WS (P:=P) rfl rL nI (IA hq)]
   unfold Oper.wp;rw[fB];exact hn _ _ _ _ hK (aw.wD hd (λγ hw hs hf hm=>.bH _ _ rfl (λi' y hi'=>by
    match i',hi' with
    |0,hi'=>simp at hi';subst hi';exact WT _ _
    |1,hi'=>simp at hi';subst hi';exact rV γ _ (by rw[hw]) hb hs hf hm j q hq
    |i'+2,hi'=>simp at hi')))
  obtain⟨r,b,seen,j,ents,p,hx,hr,hb,hp,hK⟩:=h;have fB:(execOp a.eval ⟨dst,.entry x,type,pos,after,guard⟩).run P w=.ok (.value (.tuple #[p.1,p.2])) w:=by simp[execOp,aw.ev hx,WS (P:=P) rfl (aw.at hr) (aw.at hb) hp]
  unfold Oper.wp;rw[fB];exact hn _ _ _ _ hK (aw.wD hd (λγ _ _ _ _=>.bH _ _ rfl (λi y hi=>by
   match i,hi with
   |0,hi=>simp at hi;subst hi;exact aA.lit _
   |1,hi=>simp at hi;subst hi;exact aA.lit _
   |i+2,hi=>simp at hi)))
 case binOp op t x y yt =>
  replace h:tZ P _ op t (Am.ev σ x) (Am.ev σ y) σ μ K:=h
  unfold tZ at h;split at h
  ·rename_i m hx;obtain⟨⟨kt,et,ht⟩,hy,h⟩:=h;split at h
   ·exact lit _ w (by simp[execOp,aw.ev hx,aw.ev hy,eqGuard_at_map,agn w t kt et m ht]) μ aw h
   ·exact lit _ w (by simp[execOp,aw.ev hx,aw.ev hy,eqGuard_at_map,ago w t kt et m ht]) μ aw h
   ·exact h.elim
  ·exact gen h
 case call c =>
  obtain⟨callee,args,cQ⟩:=c;cases callee with
  |value f=>exact gen h
  |invoke r m=>exact gen h
  |builtin b =>
   cases b
   case len =>
    replace h:zn P _ (args.toList.map (Am.ev σ)) cQ.toList σ μ K:=h
    unfold zn at h;split at h
    ·rename_i b hx;obtain⟨t,ents,CL,⟨kt,et,ht⟩,hb,hK⟩:=h;obtain⟨x,hax,Lk⟩:∃x,args.toList=[x]/\Am.ev σ x=.lit (.map (some b)):=by
      cases ha:args.toList with
      |nil=>rw[ha]at hx;simp at hx
      |cons x r =>
       rw[ha]at hx;cases r with
       |nil=>exact⟨x,rfl,by simpa using hx⟩
       |cons y r=>simp at hx
     have ea:args = #[x]:=by rw[<- Array.toArray_toList (xs:=args),hax]
     have eb:cQ = #[t]:=by rw[<- Array.toArray_toList (xs:=cQ),CL]
     subst ea;subst eb;have ags:=aw.at hb;exact lit _ w (by simp[execOp,resolve,invoke,builtin,Builtin.len_,aw.ev Lk,run_underlying ht,MapKept.run_getObj_map ags,dy,goInt]) μ aw hK
    ·exact gen h
   all_goals exact gen h
 all_goals exact gen h
def pZ(P:Program)(o:Oper)(K:St->Mem->Prop)(b want:Bool)(σ:St)(μ:Mem):Prop:=(b=want->gu P o σ μ K)/\(b≠want->K (σ.put o.dst (.lit (.tuple #[]))) μ)
def qK(P:Program)(ops:Array Oper):List Oper->(St->Mem->Prop)->St->Mem->Prop
 |[],K,σ,μ=>K σ μ
 |o::r,K,σ,μ =>
  match o.guard with
  |none=>gu P o σ μ (qK P ops r K)
  |some (j,want) =>
   match (ops[j]?).bind (·.dst) with
   |none=>False
   |some d =>
    match σ.env d with
    |.lit (.bool b)=>pZ P o (qK P ops r K) b want σ μ
    |.lit (.tuple vs)=>vs = #[]/\qK P ops r K (σ.put o.dst (.lit (.tuple #[]))) μ
    |_=>False
def E8{os:List Ob}{γ0:Cx}{ops:Array Oper}(hd:∀ o∈ops.toList,∀ d,o.dst=some d->d<N){K:St->Mem->Prop}{Q:Exit->Act->World->Prop}(hQ:∀ σ' eo a' w',K σ' eo->iX N os γ0 σ' eo a' w'->Q .normal a' w'):∀ (l:List Oper) (i:Nat) (σ:St) (μ:Mem) (a:Act) (w:World),ops.toList.drop i=l->qK P ops l K σ μ->iX N os γ0 σ μ a w ->
   wpOps P ops Q (List.range' i l.length) a w
 |[],i,σ,μ,a,w,_,h,aw=>by simpa [wpOps] using hQ _ _ _ _ h aw
 |o::r,i,σ,μ,a,w,hl,h,aw=>by
  have hi:ops[i]?=some o:=by
   have:(ops.toList.drop i)[0]?=some o:=by rw[hl];rfl
   simpa using this
  have hr:ops.toList.drop (i+1)=r:=by
   have:=congrArg List.tail hl;simpa [List.tail_drop] using this
  have bJ:o∈ops.toList:=gY (by simpa using hi);rw[List.length_cons,List.range'_succ,wpOps_cons];unfold wpOp;simp only[hi];unfold qK at h;cases hg:o.guard with
  |none =>
   simp only[hg]at h;have hw:Region.wanted o (yielded ops a.tmps)=true:=by simp[Region.wanted,hg]
   rw[if_pos hw];left;exact WW h aw (hd o bJ) (λσ' eo a' w' hK dG=>E8 hd hQ r (i+1) σ' eo a' w' hr hK dG)
  |some jw =>
   obtain⟨j,want⟩:=jw;simp only[hg]at h;cases eZ:(ops[j]?).bind (·.dst) with
   |none=>simp[eZ]at h
   |some d =>
    simp only[eZ]at h;have hv:∀ v,σ.env d=.lit v->a.tmps.getD d Go.undef=v:=λv he=>by
     have:=aw.ev (x:=.tmp d) (v:=v) (by simpa [ev] using he);simpa [Act.eval] using this
    split at h
    ·rename_i b he;have hv:=hv _ he;have hy:yielded ops a.tmps j=some b:=by
      unfold yielded;rw[eZ];have:a.tmps[d]?=some (.bool b):=by
       rw[fU]at hv;cases hx:a.tmps[d]? with
       |none=>rw[hx]at hv;simp[Go.undef]at hv
       |some y=>rw[hx]at hv;simp at hv;rw[hv]
      simp[this]
     by_cases ik:b=want
     ·have hw:Region.wanted o (yielded ops a.tmps)=true:=by simp[Region.wanted,hg,hy,ik]
      rw[if_pos hw];left;exact WW (h.1 ik) aw (hd o bJ) (λσ' eo a' w' hK dG=>E8 hd hQ r (i+1) σ' eo a' w' hr hK dG)
     ·have hw:Region.wanted o (yielded ops a.tmps)=false:=by simp[Region.wanted,hg,hy,ik]
      rw[if_neg (by rw[hw];simp)];exact E8 hd hQ r (i+1) _ _ _ _ hr (h.2 ik) (aw.wD (hd o bJ) (λγ _ _ _ _=>aA.lit _))
    ·rename_i vs he;have hv:=hv _ he;have hy:yielded ops a.tmps j=none:=by
      unfold yielded;rw[eZ];rw[fU]at hv;cases hx:a.tmps[d]? with
      |none=>simp[hx]
      |some y=>rw[hx]at hv;simp at hv;subst hv;simp[hx]
     have hw:Region.wanted o (yielded ops a.tmps)=false:=by simp[Region.wanted,hg,hy]
     rw[if_neg (by rw[hw];simp)];exact E8 hd hQ r (i+1) _ _ _ _ hr h.2 (aw.wD (hd o bJ) (λγ _ _ _ _=>aA.lit _))
    ·exact h.elim
def WX{id:Nat}{ops:Array Oper}{Q:Exit->St->Mem->Prop}(hd:gH N ops=true)(h:qK P ops ops.toList (Q .normal) σ μ):WM P N n0 (.region id ops false) Q σ μ:=by
 intro os γ0 a w _ aw;refine wp_region ?_;have:=E8 (P:=P) (N:=N) (os:=os) (γ0:=γ0) (ops:=ops) (rC hd) (K:=Q .normal) (Q:=λe a' w'=>∃ σ' eo,Q e σ' eo/\iX N os γ0 σ' eo a' w') (λσ' eo a' w' hK dG=>⟨σ',eo,hK,dG⟩)
  ops.toList 0 σ μ a w rfl h aw
 rw[List.range_eq_range'];simpa using this
end Go.Am
namespace Go.Am
variable {P:Program} {N n0:Nat} {σ:St} {μ:Mem} {Q:Exit->St->Mem->Prop}
theorem mr{id:Nat}{ops:Array Oper}{y:Code}(h:∀ K:St->Mem->Prop,(∀ s m,WM P N n0 y Q s m->K s m)->qK P ops ops.toList K σ μ)(hd:gH N ops=true:=by decide):WM P N n0 (.seq (.region id ops false) y) Q σ μ :=
 vn fun Q' h1 _=>WX hd (h _ h1)
theorem AU{id:Nat}{ops:Array Oper}(h:∀ K:St->Mem->Prop,(∀ s m,Q .normal s m->K s m)->qK P ops ops.toList K σ μ)(hd:gH N ops=true:=by decide):WM P N n0 (.region id ops false) Q σ μ :=
 WX hd (h _ fun _ _ h=>h)
theorem mc{c:Operand}{x y:Code}{t:Bool}(ht:t=true->WM P N n0 x Q σ μ)(hf:t=false->WM P N n0 y Q σ μ)(hc:ev σ c=.lit (.bool t):=by(simp only[Go.Am.n8,Go.Am.Lc,↓reduceIte,Nat.reduceEqDiff,Nat.reduceBEq];exact rfl)):WM P N n0 (.cond c x y) Q σ μ:=agh hc ht hf
def ml{c y:Code}(h:∀ Q':Exit->St->Prop,(∀ s,WM P N n0 y Q s μ->Q' .normal s)->(∀ e s,tT e=false->Q e s μ->Q' e s)->W P N σ.aa.length c Q' σ):WM P N n0 (.seq c y) Q σ μ :=
 vn λQ' h1 h2=>age (h (λe s=>Q' e s μ) (λs=>h1 s μ) (λe s=>h2 e s μ))
section
variable {ops:Array Oper} {o:Oper} {l:List Oper} {K:St->Mem->Prop}
instance:Head (qK P ops (o::l) K σ μ):=⟨trivial⟩
def agt{b want:Bool}(h1:b=true->pZ P o K true want σ μ)(h2:b=false->pZ P o K false want σ μ):pZ P o K b want σ μ:=by
 cases b
 ·exact h2 rfl
 ·exact h1 rfl
instance {b want:Bool}:Ie (pZ P o K b want σ μ) b (pZ P o K true want σ μ) (pZ P o K false want σ μ):=⟨agt⟩
def WY:pZ P o K true true σ μ=gu P o σ μ K:=by simp[pZ]
def WZ:pZ P o K false false σ μ=gu P o σ μ K:=by simp[pZ]
def W0:pZ P o K true false σ μ=K (σ.put o.dst (.lit (.tuple #[]))) μ:=by simp[pZ]
def W1:pZ P o K false true σ μ=K (σ.put o.dst (.lit (.tuple #[]))) μ:=by simp[pZ]
def W2:qK P ops [] K σ μ=K σ μ:=rfl
variable {dst:Option Tmp} {tt:TypeId} {p:String} {af:Array Edge} {g:Option (Nat×Bool)}
def W3(x:Operand):gu P ⟨dst,.move x,tt,p,af,g⟩ σ μ K=aW P ⟨dst,.move x,tt,p,af,g⟩ σ (λs=>K s μ):=rfl
def W4(x:Operand):gu P ⟨dst,.assign x,tt,p,af,g⟩ σ μ K=aW P ⟨dst,.assign x,tt,p,af,g⟩ σ (λs=>K s μ):=rfl
def W5(x y z:Operand):gu P ⟨dst,.pick x y z,tt,p,af,g⟩ σ μ K=aW P ⟨dst,.pick x y z,tt,p,af,g⟩ σ (λs=>K s μ):=rfl
def W6(e:TypeId):gu P ⟨dst,.alloc e,tt,p,af,g⟩ σ μ K=aW P ⟨dst,.alloc e,tt,p,af,g⟩ σ (λs=>K s μ):=rfl
def W7(e:TypeId)(x:Operand):gu P ⟨dst,.box e x,tt,p,af,g⟩ σ μ K=aW P ⟨dst,.box e x,tt,p,af,g⟩ σ (λs=>K s μ):=rfl
def W8(t:TypeId)(l:Array (Nat×Operand)):gu P ⟨dst,.build t l,tt,p,af,g⟩ σ μ K=aW P ⟨dst,.build t l,tt,p,af,g⟩ σ (λs=>K s μ):=rfl
def W9(t:TypeId)(n:Nat)(l:Array (Nat×Operand)):gu P ⟨dst,.buildSlice t n l,tt,p,af,g⟩ σ μ K=aW P ⟨dst,.buildSlice t n l,tt,p,af,g⟩ σ (λs=>K s μ):=rfl
def Xa(t:TypeId)(x:Operand):gu P ⟨dst,.load t x,tt,p,af,g⟩ σ μ K=aW P ⟨dst,.load t x,tt,p,af,g⟩ σ (λs=>K s μ):=rfl
def Xj(t:TypeId)(x y:Operand):gu P ⟨dst,.store t x y,tt,p,af,g⟩ σ μ K=aW P ⟨dst,.store t x y,tt,p,af,g⟩ σ (λs=>K s μ):=rfl
def Xm(u:UnOp)(t:TypeId)(x:Operand):gu P ⟨dst,.unOp u t x,tt,p,af,g⟩ σ μ K=aW P ⟨dst,.unOp u t x,tt,p,af,g⟩ σ (λs=>K s μ):=rfl
def Xp(f:Fn)(x y:Array Operand):gu P ⟨dst,.makeFunc f x y,tt,p,af,g⟩ σ μ K=aW P ⟨dst,.makeFunc f x y,tt,p,af,g⟩ σ (λs=>K s μ):=rfl
def Xt(t:TypeId)(x y:Operand):gu P ⟨dst,.makeSlice t x y,tt,p,af,g⟩ σ μ K=aW P ⟨dst,.makeSlice t x y,tt,p,af,g⟩ σ (λs=>K s μ):=rfl
def XA(t:TypeId)(x:Operand)(lo hi mx:Option Operand):gu P ⟨dst,.slice t x lo hi mx,tt,p,af,g⟩ σ μ K=aW P ⟨dst,.slice t x lo hi mx,tt,p,af,g⟩ σ (λs=>K s μ):=rfl
def XB(t:TypeId)(x:Operand)(n:Nat):gu P ⟨dst,.field t x n,tt,p,af,g⟩ σ μ K=aW P ⟨dst,.field t x n,tt,p,af,g⟩ σ (λs=>K s μ):=rfl
def XC(t:TypeId)(x:Operand)(n:Nat):gu P ⟨dst,.fieldAddr t x n,tt,p,af,g⟩ σ μ K=aW P ⟨dst,.fieldAddr t x n,tt,p,af,g⟩ σ (λs=>K s μ):=rfl
def XD(t:TypeId)(x y:Operand):gu P ⟨dst,.indexAddr t x y,tt,p,af,g⟩ σ μ K=aW P ⟨dst,.indexAddr t x y,tt,p,af,g⟩ σ (λs=>K s μ):=rfl
def XE(x:Operand):gu P ⟨dst,.nilCheck x,tt,p,af,g⟩ σ μ K=aW P ⟨dst,.nilCheck x,tt,p,af,g⟩ σ (λs=>K s μ):=rfl
def XF(x:Operand)(n:Nat):gu P ⟨dst,.extract x n,tt,p,af,g⟩ σ μ K=aW P ⟨dst,.extract x n,tt,p,af,g⟩ σ (λs=>K s μ):=rfl
def XG(s d:TypeId)(x:Operand):gu P ⟨dst,.convert s d x,tt,p,af,g⟩ σ μ K=aW P ⟨dst,.convert s d x,tt,p,af,g⟩ σ (λs=>K s μ):=rfl
def XH(f:Operand)(args:Array Operand)(cQ:Array TypeId):gu P ⟨dst,.call ⟨.value f,args,cQ⟩,tt,p,af,g⟩ σ μ K=aW P ⟨dst,.call ⟨.value f,args,cQ⟩,tt,p,af,g⟩ σ (λs=>K s μ):=rfl
def XI(args:Array Operand)(cQ:Array TypeId):gu P ⟨dst,.call ⟨.builtin .append,args,cQ⟩,tt,p,af,g⟩ σ μ K=aW P ⟨dst,.call ⟨.builtin .append,args,cQ⟩,tt,p,af,g⟩ σ (λs=>K s μ):=rfl
def XJ(args:Array Operand)(cQ:Array TypeId):gu P ⟨dst,.call ⟨.builtin .min,args,cQ⟩,tt,p,af,g⟩ σ μ K=aW P ⟨dst,.call ⟨.builtin .min,args,cQ⟩,tt,p,af,g⟩ σ (λs=>K s μ):=rfl
def XK(args:Array Operand)(cQ:Array TypeId):gu P ⟨dst,.call ⟨.builtin .max,args,cQ⟩,tt,p,af,g⟩ σ μ K=aW P ⟨dst,.call ⟨.builtin .max,args,cQ⟩,tt,p,af,g⟩ σ (λs=>K s μ):=rfl
def XL(args:Array Operand)(cQ:Array TypeId):gu P ⟨dst,.call ⟨.builtin .copy,args,cQ⟩,tt,p,af,g⟩ σ μ K=aW P ⟨dst,.call ⟨.builtin .copy,args,cQ⟩,tt,p,af,g⟩ σ (λs=>K s μ):=rfl
def XM(args:Array Operand)(cQ:Array TypeId):gu P ⟨dst,.call ⟨.builtin .len,args,cQ⟩,tt,p,af,g⟩ σ μ K=zn P ⟨dst,.call ⟨.builtin .len,args,cQ⟩,tt,p,af,g⟩ (args.toList.map (ev σ)) cQ.toList σ μ K:=rfl
def XN(op:BinOp)(t:TypeId)(x y:Operand)(yt:TypeId):gu P ⟨dst,.binOp op t x y yt,tt,p,af,g⟩ σ μ K=tZ P ⟨dst,.binOp op t x y yt,tt,p,af,g⟩ op t (ev σ x) (ev σ y) σ μ K:=rfl
def XO(k:IntKind)(n:Int)(op:BinOp)(t:TypeId)(y:AV):tZ P o op t (.lit (.int k n)) y σ μ K=aW P o σ (λs=>K s μ):=rfl
def XP(b:Bool)(op:BinOp)(t:TypeId)(y:AV):tZ P o op t (.lit (.bool b)) y σ μ K=aW P o σ (λs=>K s μ):=rfl
def XQ(a:Option Addr)(n c:Nat)(op:BinOp)(t:TypeId)(y:AV):tZ P o op t (.lit (.slice a n c)) y σ μ K=aW P o σ (λs=>K s μ):=rfl
def XR(s:Nat)(r:List (List AV))(op:BinOp)(t:TypeId)(y:AV):tZ P o op t (.tree s r) y σ μ K=aW P o σ (λs=>K s μ):=rfl
def XS(l:List AV)(op:BinOp)(t:TypeId)(y:AV):tZ P o op t (.agg l) y σ μ K=aW P o σ (λs=>K s μ):=rfl
def XT(a b c d:Nat)(op:BinOp)(t:TypeId)(y:AV):tZ P o op t (.ref a b c d) y σ μ K=aW P o σ (λs=>K s μ):=rfl
def XU(a:Option Nat)(t:TypeId)(y:AV):tZ P o .eql t (.lit (.map a)) y σ μ K=(wC P t/\y=.lit (.map none)/\K (σ.put o.dst (.lit (.bool a.isNone))) μ):=rfl
def XV(a:Option Nat)(t:TypeId)(y:AV):tZ P o .neq t (.lit (.map a)) y σ μ K=(wC P t/\y=.lit (.map none)/\K (σ.put o.dst (.lit (.bool (!a.isNone)))) μ):=rfl
def XW(s:Nat)(r:List (List AV))(t:List TypeId):zn P o [.tree s r] t σ μ K=aW P o σ (λs=>K s μ):=rfl
def XX(a b c d:Nat)(t:List TypeId):zn P o [.ref a b c d] t σ μ K=aW P o σ (λs=>K s μ):=rfl
def XZ(a:Option Addr)(n c:Nat)(t:List TypeId):zn P o [.lit (.slice a n c)] t σ μ K=aW P o σ (λs=>K s μ):=rfl
def X1(b:Nat)(t:List TypeId):zn P o [.lit (.map (some b))] t σ μ K =∃t1 ents,t=[t1]/\wC P t1/\μ b=some (.map ents)/\K (σ.put o.dst (aaa (ents.length:Nat))) μ:=rfl
def X6:qK P ops (o::l) K σ μ=(match o.guard with|none=>gu P o σ μ (qK P ops l K)|some (j,want)=>match (ops[j]?).bind (·.dst) with|none=>False|some d=>match σ.env d with|.lit (.bool b)=>pZ P o (qK P ops l K) b want σ μ|.lit (.tuple vs)=>vs = #[]/\qK P ops l K (σ.put o.dst (.lit (.tuple #[]))) μ|_=>False):=by rw[qK]<;>rfl
def X7(a:Option Nat):fc (.map a)=.lit (.map a):=rfl
end
def Mc:=aau @X7 @W3 @W4 @W5 @W6 @W7 @W8 (aau @W9 @Xa @Xj @Xm @Xp @Xt @XA (aau @XB @XC @XD @XE @XF @XG @XH (aau @XI @XJ @XK @XL @XM @XN @XO (aau @XP @XQ @XR @XS @XT @XU @XV (aau @XW @XX @XZ @X1 @X6 @W2 @WY (aam @WZ @W0 @W1))))))
end Go.Am
namespace Go.Am
variable {P:Program} {N n0:Nat} {σ:St} {μ:Mem} {K:St->Mem->Prop} {dst:Option Tmp} {tt:TypeId} {p:String} {af:Array Edge} {g:Option (Nat×Bool)}
def X8{t:TypeId}(h:∀ b,μ b=none->K (σ.put dst (.lit (.map (some b)))) (kS μ b (.map []))):gu P ⟨dst,.makeMap t none,tt,p,af,g⟩ σ μ K:=h
def E9{t:TypeId}{x i:Operand}{b:Nat}{n:Int}{z:Value}(hx:ev σ x=.lit (.map (some b)))(hi:ev σ i=aaa n)(hz:Iz P t z){L:List (Int×Value)}(hb:μ b=some (.map (iE L)))(hK:K (σ.put dst (.lit ((oE n L).getD z))) μ):gu P ⟨dst,.lookup t x i false,tt,p,af,g⟩ σ μ K:=⟨n,z,hi,hz,.inr ⟨b,L,hx,hb,hK⟩⟩
def MO{t:TypeId}{m k x:Operand}{b:Nat}{n:Int}{v:Value}(hm:ev σ m=.lit (.map (some b)))(hi:ev σ k=aaa n)(hx:ev σ x=.lit v)(hk:Iy P t){L:List (Int×Value)}(hb:μ b=some (.map (iE L)))(hK:K (σ.put dst .undef) (kS μ b (.map (iE (lA n v L))))):gu P ⟨dst,.mapUpdate t m k x,tt,p,af,g⟩ σ μ K:=⟨b,n,L,v,hk,hm,hi,hx,hb,hK⟩
def agu{t:TypeId}{x:Operand}{b:Nat}(hx:ev σ x=.lit (.map (some b)))(hk:wC P t){ents:List (Value×Value)}(hb:μ b=some (.map ents))(hK:∀ r,μ r=none->K (σ.put dst (.lit (.pointer (some ⟨r,0,none⟩)))) (kS μ r (.iter b ents.length []))):gu P ⟨dst,.range t x,tt,p,af,g⟩ σ μ K:=.inl ⟨b,ents,hk,hx,hb,hK⟩
def agv{x:Operand}{r b:Nat}{seen:List Nat}{ents:List (Value×Value)}(hx:ev σ x=.lit (.pointer (some ⟨r,0,none⟩)))(hr:μ r=some (.iter b ents.length seen))(hb:μ b=some (.map ents))(h1:(∀ j<ents.length,j∈seen)->K (σ.put dst (.bH [.lit (.bool false)])) μ)(h2:∀ j p,ents[j]?=some p->j ∉ seen->K (σ.put dst (.bH [.lit (.bool true),.lit p.1,.lit p.2])) (kS μ r (.iter b ents.length (seen++[j])))):gu P ⟨dst,.next x false,tt,p,af,g⟩ σ μ K:=.inl ⟨r,b,seen,ents,hx,hr,hb,h1,h2⟩
def agw{x:Operand}{r b j:Nat}{seen:List Nat}{ents:List (Value×Value)}{q:Value×Value}(hx:ev σ x=.lit (.pointer (some ⟨r,0,none⟩)))(hr:μ r=some (.iter b ents.length (seen++[j])))(hb:μ b=some (.map ents))(hp:ents[j]?=some q)(hK:K (σ.put dst (.bH [.lit q.1,.lit q.2])) μ):gu P ⟨dst,.entry x,tt,p,af,g⟩ σ μ K:=.inl ⟨r,b,seen,j,ents,q,hx,hr,hb,hp,hK⟩
def nH.refl:nH n0 σ σ:=λos γ0 γ _ hs hf=>⟨γ,rfl,rfl,hs,hf,λ_ h=>.inl h,λ_ h=>h⟩
end Go.Am

