import Derived.Test.YtodilglobhifaaaGreatDoorX09
import Derived.Laws.IdiomRangeMap
set_option linter.all false
set_option maxHeartbeats 0
set_option maxRecDepth 20000
open List renaming getElem?_eq_some_iff→aN,mem_of_getElem?→fq
open Option renaming some→cL
open Array renaming getElem?_eq_some_iff→lT,getElem?_setIfInBounds_ne→sE,getD_eq_getD_getElem?→dJ
open Nat renaming le_refl→aM,sub_self→lU,lt_of_lt_of_le→E0
open Bool renaming false_eq_true→iT
namespace Go.Am
variable {P:Program} {N n0:Nat} {σ:St}
def P1(dst:Option Tmp)(t:TypeId)(a:Operand)(tt:TypeId)(p:String)(af:Array Edge)(g:Option (Nat×Bool))(K:St->Prop):lq true P ⟨dst,.load t a,tt,p,af,g⟩ σ K=ql P t dst K σ (ev σ a):=rfl
def Lq:=aan @P1 @ql.eq_1
def aC.z6(d id:Nat){cells:List AV}(ho:σ.aa[id]?=some (.var cells))(hd:σ.env d=.ptr id 0 0)(ux:∀ v∈cells,(∃ x,v=.lit x)\/∃ s r,v=.tree s r):aC n0 σ ⟨iL σ.env d (.bU cells),σ.aa.set id .gone⟩:=by
 intro os γ0 γ _ hs hf;have vG:id<σ.aa.length:=(aN.1 ho).1
 let ay:Cx:={ γ with Z:=λb=>γ.Z b\/∃ o cap,γ.blk id=some (b,o,cap) }
 let cj:=σ.aa.set id .gone
 have h9:∀ i,cj[i]?=if i=id then some .gone else σ.aa[i]?:=by
  intro i;show(σ.aa.set id _)[i]?=_;rw[List.getElem?_set];by_cases h1:i=id
  ·subst h1;simp[vG]
  ·simp[Ne.symm h1,h1]
 have hR:∀ v cv,au σ.aa γ.w γ.Z γ.blk v cv->au cj ay.w ay.Z ay.blk v cv:=λv cv hv =>
  hv.mono (λb hb=>⟨.inl hb,rfl⟩) (λi o hi=>by
   rw[h9];by_cases h1:i=id
   ·left;rw[if_pos h1]
   ·rw[if_neg h1];by_cases hg:o=.gone
    ·subst hg;exact .inl hi
    ·exact .inr ⟨rfl,o,hi,Ob.iC hg⟩)
 have bI:∀ i,Live cj i->Live σ.aa i/\i≠id:=by
  rintro i⟨o,hi,hg⟩;rw[h9]at hi;split at hi
  ·simp at hi;exact absurd hi.symm hg
  ·rename_i h2;exact⟨⟨o,hi,hg⟩,h2⟩
 have mX:Live σ.aa id:=⟨_,ho,Jy⟩;obtain⟨b,cap,cur,t,h1,h2,h3,h4⟩:=hs.dQ _ _ ho;have rM:=hs.ao d;rw[hd]at rM;have ic:au cj ay.w ay.Z ay.blk (.bU cells) (γ.tmps.getD d Go.undef):=by
  generalize γ.tmps.getD d Go.undef=cv at rM;cases rM with
  |bV _ _ h=>cases h
  |kQ _ _ _ _ h=>rw[ho]at h;simp at h
  |lv _ _ b2 aey aez h hb =>
   rw[h1]at hb;simp only[cL.injEq,Prod.mk.injEq]at hb;obtain⟨rfl,_,_⟩:=hb;refine .bU cells b 0 (λj=>cur.getD j Go.undef) (.inr ⟨0,cap,h1⟩) (λj x hx=>?_) (λj x hx=>?_)
   ·rw[Nat.zero_add];exact xD h2 (by rw[h3];exact(aN.1 hx).1)
   ·have dC:df σ (λy=>y≠id) x x:=by
     rcases ux x (fq hx) with⟨v,rfl⟩|⟨s,r,rfl⟩
     ·exact .lit v
     ·exact .tree s r
    exact dC.xr hs (γc:=ay) (λb hb=>.inl hb) rfl (λx b o cap cO _ hb=>.inr ⟨o,cap,by rw[show id=x by simpa using(Decidable.not_not.1 cO).symm];exact hb⟩) _ (h4 j x hx)
  |ma _ _ _ _ _ _ _ _ h=>rw[ho]at h;simp at h
 refine⟨ay,rfl,rfl,⟨λk=>?_,?_,λi j b o c o' c' hi hj=>hs.inj i j b o c o' c' (bI i hi).1 (bI j hj).1,?_,?_,λg=>vH (hs.gl g) λb hb=>⟨.inl hb,rfl⟩⟩,?_⟩
 ·show au cj ay.w ay.Z ay.blk (iL σ.env d (.bU cells) k) (γ.tmps.getD k Go.undef);simp only[iL];split
  ·rename_i e;subst e;exact ic
  ·exact hR _ _ (hs.ao k)
 ·intro i o hi;have hi':cj[i]?=some o:=hi;rw[h9]at hi';split at hi'
  ·simp only[cL.injEq]at hi';subst hi';trivial
  ·by_cases hg:o=.gone
   ·subst hg;trivial
   ·exact(hs.dQ i o hi').mono hR rfl (λ_ _ _ _=>rfl)
 ·rintro b ⟨i,o,c',hi,hb⟩ (hz|⟨o',cap,bO⟩)
  ·exact hs.nz b ⟨i,o,c',(bI i hi).1,hb⟩ hz
  ·exact(bI i hi).2 (hs.inj i id b o c' o' cap (bI i hi).1 mX hb bO)
 ·rintro b (hz|⟨o,cap,hb⟩)
  ·exact hs.fY b hz
  ·exact hs.blt mX hb
 ·refine⟨hf.kl,hf.tape,hf.output,hf.size,hf.cW,λb hb=>.inl (hf.z0 b hb),?_,?_,by show os.length<=cj.length;simp[cj];exact hf.len,?_⟩
  ·rintro b (hz|⟨o,cap,hb⟩)
   ·exact hf.z1 b hz
   ·exact .inr (hf.own b ⟨id,o,cap,mX,hb⟩)
  ·rintro b ⟨i,o,c',hi,hb⟩;exact hf.own b ⟨i,o,c',(bI i hi).1,hb⟩
  ·intro i hi hl;obtain⟨h1,x,x',hx,bR,hk⟩:=hf.jn i hi (bI i hl).1;have iX:Live cj i:=hl;obtain⟨o,dw,dc⟩:=iX;refine⟨h1,x,o,hx,dw,?_⟩;rw[h9]at dw;split at dw
   ·simp at dw;exact absurd dw.symm dc
   ·rw[bR]at dw;simp only[cL.injEq]at dw;subst dw;exact hk
end Go.Am
namespace Go.Am
variable {P:Program} {N n0:Nat} {σ:St}
inductive Gh where
 |map (ents:List (Value×Value))
 |iter (mb since:Nat) (seen:List Nat)
def Gh.At(w:World)(b:Nat):Gh->Prop
 |.map ents=>w.heap[b]?=some (.map (cE ents) ents.length)
 |.iter mb since seen=>w.heap[b]?=some (.mapIter (some mb) since seen.toArray since)
def Gh.At.heap{w w':World}{b:Nat}{g:Gh}(h:g.At w b)(e:w'.heap[b]?=w.heap[b]?):g.At w' b:=by
 cases g<;>exact e.trans h
def Gh.At.lt{w:World}{b:Nat}{g:Gh}(h:g.At w b):b<w.heap.size:=by
 cases g<;>exact(lT.1 h).1
abbrev Mem:=Nat->Option Gh
def jh(μ:Mem)(b:Nat)(g:Gh):Mem:=λk=>if k=b then some g else μ k
def uh(μ:Mem)(b:Nat)(g:Gh):jh μ b g b=some g:=by simp[jh]
def q9(μ:Mem){b c:Nat}(g:Gh)(h:c≠b):jh μ b g c=μ c:=by simp[jh,h]
def xM:Mem:=λ_=>none
structure oB(μ:Mem)(os:List Ob)(γ0 γ:Cx):Prop where
 gh:∀ b g,μ b=some g->g.At γ.w b
 fresh:∀ b g,μ b=some g->γ0.w.heap.size<=b
 xN:∀ b g,μ b=some g->¬ γ.Z b
 td:∀ b g,μ b=some g->¬ m4 os γ.blk b
def oB.nil(os:List Ob)(γ0 γ:Cx):oB xM os γ0 γ:=⟨by simp[xM],by simp[xM],by simp[xM],by simp[xM]⟩
def oB.cW{μ:Mem}{os os':List Ob}{γ0 γ ay:Cx}(h:oB μ os γ0 γ)(hf:Fr os γ os' ay):oB μ os' γ0 ay :=
 ⟨λb g hp=>(h.gh b g hp).heap (hf.cW _ (h.gh b g hp).lt (h.td b g hp)),h.fresh,λb g hp hz=>by
  rcases hf.z1 _ hz with h1|h1|h1
  ·exact h.xN b g hp h1
  ·exact h.td b g hp h1
  ·have:=(h.gh b g hp).lt;omega,λb g hp ho=>by
  rcases hf.own _ ho with h1|h1
  ·exact h.td b g hp h1
  ·have:=(h.gh b g hp).lt;omega⟩
def oB.le{μ cX:Mem}{os:List Ob}{γ0 γ:Cx}(h:oB μ os γ0 γ)(hl:∀ b g,cX b=some g->μ b=some g):oB cX os γ0 γ :=
 ⟨λb g hp=>h.gh b g (hl b g hp),λb g hp=>h.fresh b g (hl b g hp),λb g hp=>h.xN b g (hl b g hp),λb g hp=>h.td b g (hl b g hp)⟩
def fZ(N:Nat)(os:List Ob)(γ0:Cx)(σ:St)(μ:Mem)(a:Act)(w:World):Prop :=
 a.defers=[]/\a.tmps.size=N/\∃ γ,γ.w=w/\γ.tmps=a.tmps/\ba σ γ/\Fr os γ0 σ.aa γ/\oB μ σ.aa γ0 γ
def WM(P:Program)(N n0:Nat)(c:Code)(Q:Exit->St->Mem->Prop)(σ:St)(μ:Mem):Prop :=
 ∀ (os:List Ob) (γ0:Cx) (a:Act) (w:World),os.length=n0->fZ N os γ0 σ μ a w->c.wp P (λe a' w'=>∃ σ' cX,Q e σ' cX/\fZ N os γ0 σ' cX a' w') a w
variable {Q:Exit->St->Mem->Prop} {μ:Mem}
def sL{c:Code}{e:Exit}(hc:Ca c=some e)(h:Q e σ μ):WM P N n0 c Q σ μ:=by
 cases c<;>simp[Ca]at hc;all_goals subst hc
 all_goals first
  |exact λ_ _ _ _ _ az=>wp_skip ⟨σ,μ,h,az⟩
  |exact λ_ _ _ _ _ az=>wp_label ⟨σ,μ,h,az⟩
  |exact λ_ _ _ _ _ az=>wp_exit ⟨σ,μ,h,az⟩
  |exact λ_ _ _ _ _ az=>wp_ret ⟨σ,μ,h,az⟩
def YM{x y:Code}(Q1:Exit->St->Mem->Prop)(h:WM P N n0 x Q1 σ μ)(hn:∀ s m,Q1 .normal s m->WM P N n0 y Q s m)(he:∀ e s m,e≠.normal->Q1 e s m->Q e s m):WM P N n0 (.seq x y) Q σ μ:=by
 intro os γ0 a w hl az;refine wp_seq (wp_mono (h os γ0 a w hl az) ?_);rintro e a' w'⟨σ',cX,h1,h2⟩;cases e with
 |normal=>exact hn _ _ h1 os γ0 a' w' hl h2
 |exit id=>exact⟨σ',cX,he _ _ _ Jy h1,h2⟩
 |goto l=>exact⟨σ',cX,he _ _ _ Jy h1,h2⟩
 |ret=>exact⟨σ',cX,he _ _ _ Jy h1,h2⟩
 |panic c=>exact⟨σ',cX,he _ _ _ Jy h1,h2⟩
 |outgrown=>exact⟨σ',cX,he _ _ _ Jy h1,h2⟩
def q8{x y:Code}(h:∀ Q':Exit->St->Mem->Prop,(∀ s m,WM P N n0 y Q s m->Q' .normal s m)->(∀ e s m,p6 e=false->Q e s m->Q' e s m)->WM P N n0 x Q' σ μ):WM P N n0 (.seq x y) Q σ μ :=
 YM (λe s m=>(e=.normal->WM P N n0 y Q s m)/\(e≠.normal->Q e s m)) (h _ (λs m h=>⟨λ_=>h,λh=>absurd rfl h⟩) (λe s m he h=>⟨λe2=>absurd e2 (B7 he),λ_=>h⟩)) (λs m h=>h.1 rfl) (λe s m he h=>h.2 he)
def YN{c:Operand}{x y:Code}{t:Bool}(hc:ev σ c=.lit (.bool t))(ht:t=true->WM P N n0 x Q σ μ)(hf:t=false->WM P N n0 y Q σ μ):WM P N n0 (.cond c x y) Q σ μ:=by
 intro os γ0 a w hn az;have aV:a.eval c=.bool t:=by
  obtain⟨_,_,γ,rfl,ha,hs,_⟩:=az;have:=mV hs ha c;rw[hc]at this;exact this.bX
 exact wp_cond_split aV (λh=>ht h os γ0 a w hn az) (λh=>hf h os γ0 a w hn az)
def ug{id:Nat}{c:Code}(h:∀ Q':Exit->St->Mem->Prop,(∀ s m,Q .normal s m->Q' .normal s m)->(∀ s m,Q .normal s m->Q' (.exit id) s m)->(∀ e s m,vy id e=false->Q e s m->Q' e s m)->WM P N n0 c Q' σ μ):WM P N n0 (.block id c) Q σ μ:=by
 intro os γ0 a w hn az;have h':=h (λe s m=>(e=.exit id->Q .normal s m)/\(e≠.exit id->Q e s m)) (λs m h=>⟨λe=>by simp at e,λ_=>h⟩) (λs m h=>⟨λ_=>h,λe=>absurd rfl e⟩) (λe s m he h=>⟨λe2=>absurd e2 (FA he).2,λ_=>h⟩);refine wp_block (wp_mono (h' os γ0 a w hn az) ?_);rintro e a' w'⟨σ',cX,h1,h2⟩;cases e with
 |exit uC =>
  simp only[Exit.inBlock];split
  ·rename_i he;exact⟨σ',cX,h1.1 (by rw[he]),h2⟩
  ·rename_i he;exact⟨σ',cX,h1.2 (λe=>he (by simpa using e)),h2⟩
 |normal=>exact⟨σ',cX,h1.2 Jy,h2⟩
 |goto l=>exact⟨σ',cX,h1.2 Jy,h2⟩
 |ret=>exact⟨σ',cX,h1.2 Jy,h2⟩
 |panic c=>exact⟨σ',cX,h1.2 Jy,h2⟩
 |outgrown=>exact⟨σ',cX,h1.2 Jy,h2⟩
def j8(n0:Nat)(σ σ':St):Prop:=∀ (os:List Ob) (γ0 γ:Cx),os.length=n0->ba σ γ->Fr os γ0 σ.aa γ ->
 ∃ ay,ay.w=γ.w/\ay.tmps=γ.tmps/\ba σ' ay/\Fr os γ0 σ'.aa ay/\(∀ b,ay.Z b->γ.Z b\/m4 σ.aa γ.blk b)/\∀ b,m4 σ'.aa ay.blk b->m4 σ.aa γ.blk b
def j8.P2{σ':St}(h:j8 n0 σ σ'){os:List Ob}{γ0:Cx}{a:Act}{w:World}(hn:os.length=n0)(az:fZ N os γ0 σ μ a w):fZ N os γ0 σ' μ a w:=by
 obtain⟨h1,h2,γ,rfl,h3,h4,h5,h6⟩:=az;obtain⟨ay,e1,e2,e3,e4,e5,e6⟩:=h os γ0 γ hn h4 h5;refine⟨h1,h2,ay,e1,e2.trans h3,e3,e4,λb g hp=>(h6.gh b g hp).heap (by rw[e1]),h6.fresh,λb g hp hz=>?_,λb g hp ho=>h6.td b g hp (e6 _ ho)⟩;rcases e5 _ hz with h|h
 ·exact h6.xN b g hp h
 ·exact h6.td b g hp h
def YO{c:Code}{σ':St}(h:j8 n0 σ σ')(hw:WM P N n0 c Q σ' μ):WM P N n0 c Q σ μ :=
 λos γ0 a w hn az=>hw os γ0 a w hn (h.P2 hn az)
def j8.ao(l:List (Nat×AV))(os:List Ob)(ho:σ.aa=os)(h:Has σ.env l):j8 n0 σ ⟨ao l,os⟩:=by
 subst ho;intro os γ0 γ _ hs hf;refine⟨γ,rfl,rfl,⟨λk=>?_,hs.dQ,hs.inj,hs.nz,hs.fY,hs.gl⟩,hf,λ_ h=>.inl h,λ_ h=>h⟩;rcases CA l k with h'|⟨p,hp,rfl,h'⟩
 ·show au _ _ _ _ (Am.ao l k) _;rw[h'];exact .undef _
 ·show au _ _ _ _ (Am.ao l p.1) _;rw[h',<- h.mem p hp];exact hs.ao p.1
theorem j8.se(ae:List Nat)(snap:Bool){l:List (Nat×AV)}{co:List Ob}(ho:mJ (bu σ.aa.length ae) σ.aa ae co)(h:pd (bt σ (kept ae co) (bu σ.aa.length ae) snap) σ.env l)(cp:ae.Nodup:=by decide)(hn:n0<=ae.length:=by decide)(cO:∀ i,i<n0->ae.getD i 0=i:=by decide):j8 n0 σ ⟨Am.ao l,co⟩:=by
 intro os γ0 γ CN hs hf;obtain⟨h1,h2,h3⟩:=ho.spec;obtain⟨ay,a1,a2,a3,a4⟩:=hs.select ae snap co cp h1 h2 h3 (Am.ao l) γ.tmps (fun k=>by
  rcases CA l k with h'|⟨p,hp,rfl,h'⟩
  ·exact .inl h'
  ·right;rw[h'];exact⟨_,h.mem p hp,hs.ao p.1⟩)
 obtain⟨b1,b2,b3,b4⟩:=a4;refine⟨ay,a1,a2,a3,hf.select (by omega) h1 (fun i hi=>cO i (by omega)) a1 ⟨b1,b2,b3,b4⟩,b3,?_⟩;rintro b⟨i,o,c,hi,hb⟩;have bq:=hi.lt;rw[b1 i bq]at hb;exact⟨_,o,c,(b4 i hi).1,hb⟩
def E8{α:Type}{c:Code}(S:α->St)(I:α->Mem->Prop)(M:α->Nat)(x0:α)(hI:I x0 μ)(h0:j8 n0 σ (S x0))(round:∀ x m0,I x m0->∀ Q':Exit->St->Mem->Prop,(∀ s m y,I y m->M y<M x->j8 n0 s (S y)->Q' .normal s m)->(∀ e s m,p6 e=false->Q e s m->Q' e s m)->WM P N n0 c Q' (S x) m0):WM P N n0 (.loop c) Q σ μ:=by
 refine YO h0 ?_;intro os γ0 a w hn az b k cs;have key:∀ n x m0 a w,M x=n->I x m0->fZ N os γ0 (S x) m0 a w ->
   ∃ e a' w',(∃ σ' cX,Q e σ' cX/\fZ N os γ0 σ' cX a' w')/\Arrives P (lone (b.at a (.code c::.inLoop c::k)) cs w) b k cs e a' w':=by
  intro n
  induction n using Nat.strongRecOn with
  |_ n ih =>
   intro x m0 a w hm hI az;have hr:=round x m0 hI (λe s m=>(e=.normal->∃ y,I y m/\M y<M x/\j8 n0 s (S y))/\(e≠.normal->Q e s m)) (λs m y h1 h2 h3=>⟨λ_=>⟨y,h1,h2,h3⟩,λh=>absurd rfl h⟩)
    (λe s m he h=>⟨λe2=>absurd e2 (B7 he),λ_=>h⟩)
   obtain⟨e,og,pk,⟨σ',cX,hq,cr⟩,km⟩:=hr os γ0 a w hn az b (.inLoop c::k) cs;cases e with
   |normal =>
    obtain⟨y,F0,bq,ht⟩:=hq.1 rfl;obtain⟨F1,F2,F3,F4,F5⟩:=ih (M y) Bv y _ og pk rfl F0 (ht.P2 hn cr);exact⟨F1,F2,F3,F4,.of_steps (Steps.trans km (.one step_inLoop)) F5⟩
   |exit id=>exact⟨_,og,pk,⟨σ',cX,hq.2 Jy,cr⟩,.pass (x:=.inLoop c) rfl (λ_ _=>.inl Jy) km⟩
   |goto l=>exact⟨_,og,pk,⟨σ',cX,hq.2 Jy,cr⟩,.pass (x:=.inLoop c) rfl (λ_ _=>.inl Jy) km⟩
   |ret=>exact⟨_,og,pk,⟨σ',cX,hq.2 Jy,cr⟩,.pass (x:=.inLoop c) rfl (λ_ _=>.inl Jy) km⟩
   |panic ch=>exact⟨_,og,pk,⟨σ',cX,hq.2 Jy,cr⟩,.pass (x:=.inLoop c) rfl (λ_ _=>.inl Jy) km⟩
   |outgrown=>exact⟨_,og,pk,⟨σ',cX,hq.2 Jy,cr⟩,.pass (x:=.inLoop c) rfl (λ_ _=>.inl Jy) km⟩
 obtain⟨e,a',w',hq,km⟩:=key _ x0 _ a w rfl hI az;exact⟨e,a',w',hq,.of_steps (.one step_loop) km⟩
def U'{c:Code}{Q:Exit->St->Prop}(h:WM P N n0 c (λe s _=>Q e s) σ xM):W P N n0 c Q σ:=by
 rintro os γ0 a w hn⟨h1,h2,γ,rfl,h3,h4,h5⟩;refine wp_mono (h os γ0 a γ.w hn ⟨h1,h2,γ,rfl,h3,h4,h5,oB.nil _ _ _⟩) ?_;rintro e a' w'⟨σ',cX,hq,k1,k2,ay,rfl,k3,k4,k5,k6⟩;exact⟨σ',hq,k1,k2,ay,rfl,k3,k4,k5⟩
end Go.Am
namespace Go.Am
variable {P:Program} {N n0:Nat} {σ:St}
def iE(L:List (Int×Value)):List (Value×Value):=L.map λp=>(.int .i64 p.1,p.2)
def iN(x:Int)(v:Value):List (Int×Value)->List (Int×Value)
 |[]=>[(x,v)]
 |p::r=>if p.1=x then(x,v)::r else p::iN x v r
def kI(x:Int):List (Int×Value)->Option Value
 |[]=>none
 |p::r=>if p.1=x then some p.2 else kI x r
def oC(x:Int):List (Int×Value)->Nat->Option (Nat×Value)
 |[],_=>none
 |p::r,i=>if p.1=x then some (i,p.2) else oC x r (i+1)
def P3(x:Int):∀ (L:List (Int×Value)) (i:Nat),(oC x L i).map (·.2)=kI x L
 |[],_=>rfl
 |p::r,i=>by
  rw[oC,kI];split
  ·rfl
  ·exact P3 x r (i+1)
def P4(x:Int)(v:Value):∀ (L:List (Int×Value)) (i:Nat),oC x L i=none->iN x v L=L++[(x,v)]
 |[],_,_=>rfl
 |p::r,i,h=>by
  rw[oC]at h;split at h
  ·cases h
  ·rename_i hp;rw[iN,if_neg hp,P4 x v r (i+1) h];rfl
def P5(x:Int)(v:Value):∀ (L:List (Int×Value)) (i j:Nat) (u:Value),oC x L i=some (j,u)->i<=j/\L[j-i]?=some (x,u)/\iN x v L=L.set (j-i) (x,v)
 |[],_,_,_,h=>by cases h
 |p::r,i,j,u,h=>by
  rw[oC]at h;split at h
  ·rename_i hp;simp only[cL.injEq,Prod.mk.injEq]at h;obtain⟨rfl,rfl⟩:=h;refine⟨aM _,?_,?_⟩
   ·rw[lU];simp[<- hp]
   ·rw[lU,iN,if_pos hp];rfl
  ·rename_i hp;obtain⟨h1,h2,h3⟩:=P5 x v r (i+1) j u h;have e:j-i=(j-(i+1))+1:=Bv;refine⟨Bv,?_,?_⟩
   ·rw[e,List.getElem?_cons_succ];exact h2
   ·rw[e,iN,if_neg hp,h3];rfl
def P6{k:TypeDesc}(hk:k=.int .i64)(x:Int):∀ (L:List (Int×Value)) (f:Nat->Nat) (i:Nat),Instr.findNow k (.int .i64 x) ((iE L).mapIdx λi p=>(⟨p.1,p.2,f i⟩:MapEntry)) i=some (oC x L i)
 |[],_,_=>rfl
 |p::r,f,i=>by
  subst hk;simp only[iE,List.map_cons,List.mapIdx_cons,Instr.findNow,Instr.sameNow,if_true,oC];by_cases h:p.1=x
  ·rw[if_pos h];subst h;simp
  ·rw[if_neg h];have:(x==p.1)=false:=by simpa using λe=>h e.symm
   rw[this];simpa [iE] using P6 rfl x r (λj=>f (j+1)) (i+1)
def run_findKey{kt:TypeId}(hk:P.underlying kt=some (.int .i64))(x:Int)(L:List (Int×Value))(w:World):(Instr.findKey kt (.int .i64 x) (cE (iE L)).toList).run P w=.ok (oC x L 0) w:=by
 have h:=P6 (k:=.int .i64) rfl x L id 0;simp only[id]at h;simp[Instr.findKey,run_underlying hk,nL,h]
def run_checkKey{kt:TypeId}(hk:P.underlying kt=some (.int .i64))(e:Bool)(x:Int)(w:World):(Instr.checkKey e 10000 kt (.int .i64 x)).run P w=.ok () w:=by
 have h:∀ d:Nat,(Instr.checkKey e (d+1) kt (.int .i64 x)).run P w=.ok () w:=λd=>by simp[Instr.checkKey,run_underlying hk]
 exact h 9999
def YP{t kt et:TypeId}(ht:P.underlying t=some (.map kt et))(hk:P.underlying kt=some (.int .i64)){z:Value}{w:World}(hz:(zeroValue et).run P w=.ok z w){b n:Nat}{L:List (Int×Value)}(hb:w.heap[b]?=some (.map (cE (iE L)) n))(x:Int):(Instr.lookup t (.map (some b)) (.int .i64 x) false).run P w=.ok ((kI x L).getD z) w:=by
 rw[<- P3 x L 0];simp only[Instr.lookup,Sem.run_bind,run_underlying ht,MapKept.run_getObj_map hb,run_checkKey hk,run_findKey hk,Result.andThen_ok,Sem.run_pure];cases h:oC x L 0 with
 |none=>simp[hz]
 |some q=>simp
def YQ{t kt et:TypeId}(ht:P.underlying t=some (.map kt et))(hk:P.underlying kt=some (.int .i64)){z:Value}{w:World}(hz:(zeroValue et).run P w=.ok z w)(x:Int):
  (Instr.lookup t (.map none) (.int .i64 x) false).run P w=.ok z w:=by
 have h:=run_findKey (P:=P) hk x [] w;have e:(cE (iE [])).toList=(#[]:Array MapEntry).toList:=rfl;rw[e]at h;simp only[Instr.lookup,Sem.run_bind,run_underlying ht,run_checkKey hk,h,Result.andThen_ok,Sem.run_pure];simp[oC,hz]
def YR{t kt et:TypeId}(ht:P.underlying t=some (.map kt et))(hk:P.underlying kt=some (.int .i64)){w:World}{b:Nat}{L:List (Int×Value)}(hb:w.heap[b]?=some (.map (cE (iE L)) L.length))(x:Int)(v:Value):
  (Instr.mapUpdate t (.map (some b)) (.int .i64 x) v).run P w=.ok () { w with heap:=w.heap.setIfInBounds b (.map (cE (iE (iN x v L))) (iN x v L).length) }:=by
 simp only[Instr.mapUpdate,Sem.run_bind,run_underlying ht,MapKept.run_getObj_map hb,run_checkKey hk,run_findKey hk,Result.andThen_ok];cases h:oC x L 0 with
 |none =>
  have h2:=P4 x v L 0 h;have e:=Gp (iE L) (.int .i64 x,v);rw[show(iE L).length=L.length by simp[iE]]at e;simp only[MapKept.run_setObj_map _ hb,e,h2,show iE (L++[(x,v)])=iE L++[(.int .i64 x,v)] by simp[iE],List.length_append,List.length_singleton]
 |some q =>
  obtain⟨j,u⟩:=q;obtain⟨_,h2,h3⟩:=P5 x v L 0 j u h;rw[Nat.sub_zero]at h2 h3;have uE:(((cE (iE L))[j]?).map (·.key)).getD (.int .i64 x)=.int .i64 x:=by
   simp[cE,iE,h2]
  have vZ:Instr.sameBits 10000 (.int .i64 x) (.int .i64 x)=true:=by simp[Instr.sameBits]
  have c9:(Instr.keyThatStays (.int .i64 x) (.int .i64 x)).run P w=.ok (.int .i64 x) w:=by simp[Instr.keyThatStays,vZ]
  have e:=CR (iE L) j (λe=>{ e with key:=.int .i64 x,val:=v }) (.int .i64 x,v) (λq _=>rfl);have e2:(iE L).set j (.int .i64 x,v)=iE (iN x v L):=by rw[h3];simp[iE,List.map_set]
  simp only[uE,Sem.run_bind,c9,Result.andThen_ok,MapKept.run_setObj_map _ hb];rw[e,e2,h3,List.length_set]
def YS{t kt et:TypeId}(ht:P.underlying t=some (.map kt et)){w:World}{b n:Nat}{es:Array MapEntry}(hb:w.heap[b]?=some (.map es n)):
  (Instr.range t (.map (some b))).run P w=.ok (.pointer (some ⟨w.heap.size,0,none⟩)) (w.alloc (.mapIter (some b) n #[] n)):=run_range_map w t kt et b es n ht hb
def P7{ents:List (Value×Value)}{x:MapEntry}(h:x∈(cE ents).toList):x.born<ents.length/\ents[x.born]?=some (x.key,x.val):=by
 rw[nL]at h;obtain⟨i,hi,rfl⟩:=List.mem_mapIdx.1 h;exact⟨hi,by simp[hi]⟩
def YT{w:World}{r b n:Nat}{seen:List Nat}{ents:List (Value×Value)}(hn:n=ents.length)(hr:w.heap[r]?=some (.mapIter (some b) n seen.toArray n))(hb:w.heap[b]?=some (.map (cE ents) n))(ty:TypeId):
  ((∀ j<ents.length,j∈seen)/\(Instr.next (.pointer (some ⟨r,0,none⟩)) false ty).run P w=.ok (.tuple #[.bool false]) w) \/
  ∃ j p d,ents[j]?=some p/\j ∉ seen/\(Instr.next (.pointer (some ⟨r,0,none⟩)) false ty).run P w=.ok (.tuple #[.bool true,p.1,p.2]) { w with heap:=w.heap.setIfInBounds r (.mapIter (some b) n (seen++[j]).toArray n),drawn:=d }:=by
 subst hn;have hold:∀ x∈(cE ents).toList,x.born<ents.length:=λx hx=>(P7 hx).1;simp only[Instr.next,getObj,Sem.run_bind,Sem.run,hr,hb,Result.andThen,next_test_false seen.toArray (cE ents) ents.length ents.length hold (aM _),iT,if_false];have hL:∀ x,x∈((cE ents).filter λe=>!seen.toArray.contains e.born).toList↔x∈(cE ents).toList/\x.born ∉ seen:=by
  intro x;simp
 have bP:∀ x∈((cE ents).filter λe=>!seen.toArray.contains e.born).toList,x.born<ents.length:=λx hx=>hold x ((hL x).1 hx).1;generalize (cE ents).filter (λe=>!seen.toArray.contains e.born)=L at bP hL ⊢;have e1:L.filter (λx=>decide (x.born<ents.length))=L:=Array.filter_eq_self.2 (λx hx=>by simpa using bP x (by simpa using hx));have e2:L.filter (λx=>decide (x.born >= ents.length)) = #[]:=by
  rw[Array.filter_eq_empty_iff];intro x hx;have:=bP x (by simpa using hx);simp;omega
 simp only[e1,e2,Array.append_empty];by_cases h0:L.size=0
 ·left;have:L = #[]:=Array.eq_empty_of_size_eq_zero h0;subst this;refine⟨λj hj=>?_,?_⟩
  ·cases hc:decide (j∈seen) with
   |true=>exact of_decide_eq_true hc
   |false =>
    have zI:=of_decide_eq_false hc;have:=(hL ⟨(ents[j]).1,(ents[j]).2,j⟩).2 ⟨by rw[nL];exact List.mem_mapIdx.2 ⟨j,hj,rfl⟩,zI⟩;simp at this
  ·simp[choose,Sem.run,Question.forced]
 ·right;have cC:L.isEmpty=false:=by simp[Array.isEmpty,h0]
  simp only[cC,iT,if_false,Array.empty_append,Array.size_map];have nA :∃(j:Nat) (d:Nat),j<L.size/\(choose (Question.mapNext L.size)).run P w=.ok j { w with drawn:=d }:=by
   by_cases hf:L.size<=1
   ·exact⟨0,w.drawn,Bv,by simp[choose,Sem.run,Question.forced,hf]⟩
   ·exact⟨_,w.drawn+1,Nat.mod_lt _ Bv,by
     simp only[choose,Sem.run,Question.forced,decide_eq_true_eq,hf,if_false,Question.cut];rfl⟩
  obtain⟨j,d,hj,dG⟩:=nA;have hx:=(hL L[j]).1 Jy;obtain⟨h1,h2⟩:=P7 hx.1;refine⟨L[j].born,_,d,h2,hx.2,?_⟩;simp only[dG,Array.getElem?_map,Array.getElem?_eq_getElem hj,Option.map_some,Sem.run_bind,Result.andThen];simp only[setObj,Sem.run,hr,List.push_toArray];rfl
def YU{w:World}{r b n j:Nat}{seen:List Nat}{ents:List (Value×Value)}{p:Value×Value}(hn:n=ents.length)(hr:w.heap[r]?=some (.mapIter (some b) n (seen++[j]).toArray n))(hb:w.heap[b]?=some (.map (cE ents) n))(hp:ents[j]?=some p):(Instr.entry (.pointer (some ⟨r,0,none⟩))).run P w=.ok (.tuple #[p.1,p.2]) w:=by
 have hj:=(aN.1 hp).1;have hm:(⟨p.1,p.2,j⟩:MapEntry)∈(cE ents).toList:=by
  rw[nL];refine List.mem_mapIdx.2 ⟨j,hj,?_⟩;rw[List.getElem?_eq_getElem hj]at hp;simp only[cL.injEq]at hp;rw[hp]
 have cp:((cE ents).toList.map (·.born)).Nodup:=by
  rw[nL];have:(ents.mapIdx λi p=>(⟨p.1,p.2,i⟩:MapEntry)).map (·.born)=List.range ents.length:=by
   apply List.ext_getElem?;intro i;simp only[List.getElem?_map,List.getElem?_mapIdx];rcases Nat.lt_or_ge i ents.length with h|h
   ·simp[h]
   ·simp[h]
  rw[this];exact List.nodup_range
 have hf:(cE ents).find? (·.born==j)=some ⟨p.1,p.2,j⟩:=by rw[<- Array.find?_toList];exact find_born ⟨p.1,p.2,j⟩ _ cp hm
 simp only[Instr.entry,getObj,Sem.run_bind,Sem.run,hr,hb,Result.andThen,List.back?_toArray,List.getLast?_append,List.getLast?_singleton,Option.some_or,bne_self_eq_false,iT,if_false,hf];rfl
def YV(w:World)(t kt et:TypeId)(a:Option Nat)(ht:P.underlying t=some (.map kt et)):(binOp .eql t (.map a) (.map none)).run P w=.ok (.bool a.isNone) w:=by
 have h:∀ d:Nat,(Op.equalIn (d+1) t (.map a) (.map none)).run P w=.ok a.isNone w:=λd=>by
  cases a<;>simp[Op.equalIn,run_underlying ht]
 simp[binOp,Op.equal,Op.maxDepth,h]
def YW(w:World)(t kt et:TypeId)(a:Option Nat)(ht:P.underlying t=some (.map kt et)):(binOp .neq t (.map a) (.map none)).run P w=.ok (.bool (!a.isNone)) w:=by
 have h:∀ d:Nat,(Op.equalIn (d+1) t (.map a) (.map none)).run P w=.ok a.isNone w:=λd=>by
  cases a<;>simp[Op.equalIn,run_underlying ht]
 simp[binOp,Op.equal,Op.maxDepth,h]
end Go.Am
namespace Go.Am
variable {P:Program} {N n0:Nat} {σ:St}
def ba.z7{γ:Cx}(h:ba σ γ){w':World}{b:Nat}(hz:¬ γ.Z b)(ho:¬ m4 σ.aa γ.blk b)(hk:∀ k,k≠b->k<γ.w.heap.size->w'.heap[k]?=γ.w.heap[k]?)(aH:γ.w.heap.size<=w'.heap.size):ba σ { γ with w:=w' }:=by
 have hR:∀ v cv,au σ.aa γ.w γ.Z γ.blk v cv->au σ.aa w' γ.Z γ.blk v cv:=λv cv hv =>
  hv.mono (λk GZ=>⟨GZ,hk k (λe=>hz (e▸GZ)) (h.fY k GZ)⟩) (λi x hx=>by
   by_cases bS:x=.gone
   ·subst bS;exact .inl hx
   ·exact .inr ⟨rfl,x,hx,Ob.iC bS⟩)
 refine⟨λk=>hR _ _ (h.ao k),λi o hi=>?_,h.inj,h.nz,λk aY=>E0 (h.fY k aY) aH,λg=>hR _ _ (h.gl g)⟩;by_cases bS:o=.gone
 ·subst bS;trivial
 ·exact(h.dQ i o hi).mono hR rfl (λk x c hb=>hk k (λe=>ho ⟨i,x,c,⟨o,hi,bS⟩,e▸hb⟩) (h.blt ⟨o,hi,bS⟩ hb))
def Fr.z7{os:List Ob}{γ0 γ:Cx}(h:Fr os γ0 σ.aa γ){w':World}{b:Nat}(hb:γ0.w.heap.size<=b)(hk:∀ k,k≠b->k<γ.w.heap.size->w'.heap[k]?=γ.w.heap[k]?)(aH:γ.w.heap.size<=w'.heap.size)(h1:w'.os=γ.w.os)(h2:w'.tape=γ.w.tape)(h3:w'.output=γ.w.output):Fr os γ0 σ.aa { γ with w:=w' } :=
 ⟨h1.trans h.kl,h2.trans h.tape,h3.trans h.output,Nat.le_trans h.size aH,λk aY ho=>(hk k Bv (E0 aY h.size)).trans (h.cW k aY ho),h.z0,h.z1,h.own,h.len,h.jn⟩
def oB.z7{μ:Mem}{os:List Ob}{γ0 γ:Cx}(h:oB μ os γ0 γ){w':World}{b:Nat}{g:Gh}(hz:¬ γ.Z b)(ho:¬ m4 os γ.blk b)(hb:γ0.w.heap.size<=b)(hk:∀ k,k≠b->k<γ.w.heap.size->w'.heap[k]?=γ.w.heap[k]?)(hg:g.At w' b):oB (jh μ b g) os γ0 { γ with w:=w' }:=by
 have one:∀ k g',jh μ b g k=some g'->(k=b/\g'=g)\/(k≠b/\μ k=some g'):=λk g' h'=>by
  by_cases e:k=b
  ·subst e;rw[uh]at h';exact .inl ⟨rfl,by simpa using h'.symm⟩
  ·rw[q9 μ g e]at h';exact .inr ⟨e,h'⟩
 refine⟨λk g' h'=>?_,λk g' h'=>?_,λk g' h'=>?_,λk g' h'=>?_⟩<;>rcases one k g' h' with⟨rfl,rfl⟩|⟨e,h2⟩
 ·exact hg
 ·exact(h.gh k g' h2).heap (hk k e (h.gh k g' h2).lt)
 ·exact hb
 ·exact h.fresh k g' h2
 ·exact hz
 ·exact h.xN k g' h2
 ·exact ho
 ·exact h.td k g' h2
variable {μ:Mem}
def BN(P:Program)(t:TypeId):Prop:=∃ kt et,P.underlying t=some (.map kt et)/\P.underlying kt=some (.int .i64)
def sJ(P:Program)(t:TypeId):Prop:=∃ kt et,P.underlying t=some (.map kt et)
def BM(P:Program)(t:TypeId)(z:Value):Prop:=∃ kt et,P.underlying t=some (.map kt et)/\P.underlying kt=some (.int .i64)/\∀ w:World,(zeroValue et).run P w=.ok z w
def pA(P:Program)(o:Oper)(op:BinOp)(t:TypeId)(x y:AV)(σ:St)(μ:Mem)(K:St->Mem->Prop):Prop :=
 match x with
 |.lit (.map a)=>sJ P t/\y=.lit (.map none)/\match op with|.eql=>K (σ.put o.dst (.lit (.bool a.isNone))) μ|.neq=>K (σ.put o.dst (.lit (.bool (!a.isNone)))) μ|_=>False
 |_=>aG P o σ λs=>K s μ
def uI(P:Program)(o:Oper)(args:List AV)(dv:List TypeId)(σ:St)(μ:Mem)(K:St->Mem->Prop):Prop :=
 match args with
 |[.lit (.map (some b))]=>∃ t ents,dv=[t]/\sJ P t/\μ b=some (.map ents)/\K (σ.put o.dst (aam (ents.length:Nat))) μ
 |_=>aG P o σ λs=>K s μ
def dT(P:Program)(o:Oper)(σ:St)(μ:Mem)(K:St->Mem->Prop):Prop :=
 match o.op with
 |.makeMap _ none=>∀ b,μ b=none->K (σ.put o.dst (.lit (.map (some b)))) (jh μ b (.map []))
 |.lookup t x i false=>∃ n z,ev σ i=aam n/\BM P t z /\
   ((ev σ x=.lit (.map none)/\K (σ.put o.dst (.lit z)) μ)\/∃ b L,ev σ x=.lit (.map (some b))/\μ b=some (.map (iE L))/\K (σ.put o.dst (.lit ((kI n L).getD z))) μ)
 |.mapUpdate t m k x=>∃ b n L v,BN P t/\ev σ m=.lit (.map (some b))/\ev σ k=aam n/\ev σ x=.lit v/\μ b=some (.map (iE L))/\K (σ.put o.dst .undef) (jh μ b (.map (iE (iN n v L))))
 |.range t x=>∃ b ents,sJ P t/\ev σ x=.lit (.map (some b))/\μ b=some (.map ents)/\∀ r,μ r=none->K (σ.put o.dst (.lit (.pointer (some ⟨r,0,none⟩)))) (jh μ r (.iter b ents.length []))
 |.next x false=>∃ r b seen ents,ev σ x=.lit (.pointer (some ⟨r,0,none⟩))/\μ r=some (.iter b ents.length seen)/\μ b=some (.map ents) /\
   ((∀ j<ents.length,j∈seen)->K (σ.put o.dst (.bH [.lit (.bool false)])) μ) /\
   ∀ j p,ents[j]?=some p->j ∉ seen->K (σ.put o.dst (.bH [.lit (.bool true),.lit p.1,.lit p.2])) (jh μ r (.iter b ents.length (seen++[j])))
 |.entry x=>∃ r b seen j ents p,ev σ x=.lit (.pointer (some ⟨r,0,none⟩))/\μ r=some (.iter b ents.length (seen++[j]))/\μ b=some (.map ents)/\ents[j]?=some p/\K (σ.put o.dst (.bH [.lit p.1,.lit p.2])) μ
 |.binOp op t x y _=>pA P o op t (ev σ x) (ev σ y) σ μ K
 |.call ⟨.builtin .len,args,dv⟩=>uI P o (args.toList.map (ev σ)) dv.toList σ μ K
 |_=>aG P o σ λs=>K s μ
def fZ.YX{os:List Ob}{γ0:Cx}{a:Act}{w:World}(h:fZ N os γ0 σ μ a w):∃γ:Cx,eH N σ.aa γ σ a w/\∀ σ' a' w',eH N σ.aa γ σ' a' w'->fZ N os γ0 σ' μ a' w':=by
 obtain⟨eI,aH,γ,rfl,ha,hs,hf,hm⟩:=h;refine⟨γ,⟨eI,aH,γ,rfl,ha,hs,Fr.refl _ _⟩,?_⟩;rintro σ' a' w'⟨YY,YZ,ay,rfl,oD,gM,dU⟩;exact⟨YY,YZ,ay,rfl,oD,gM,hf.trans dU,hm.cW dU⟩
def fZ.v3{os:List Ob}{γ0:Cx}{a:Act}{w:World}(h:fZ N os γ0 σ μ a w){o:Oper}(hd:∀ d,o.dst=some d->d<N){v:AV}{cv:Value}(hv:∀ γ:Cx,γ.w=w->ba σ γ->au σ.aa γ.w γ.Z γ.blk v cv):fZ N os γ0 (σ.put o.dst v) μ (a.put o.dst cv) w:=by
 obtain⟨eI,aH,γ,rfl,ha,hs,hf,hm⟩:=h;refine⟨by rw[put_defers];exact eI,by rw[nG];exact aH,{ γ with tmps:=(a.put o.dst cv).tmps },rfl,rfl,mW hs ha (λd h=>by rw[aH];exact hd d h) (hv γ rfl hs),?_,?_⟩
 ·rw[l7];exact hf.put _
 ·rw[l7];exact⟨hm.gh,hm.fresh,hm.xN,hm.td⟩
def fZ.block{os:List Ob}{γ0:Cx}{a:Act}{w w':World}(h:fZ N os γ0 σ μ a w){b:Nat}{g:Gh}(hb:(∃ g',μ b=some g')\/b=w.heap.size)(hk:∀ k,k≠b->k<w.heap.size->w'.heap[k]?=w.heap[k]?)(aH:w.heap.size<=w'.heap.size)(h1:w'.os=w.os)(h2:w'.tape=w.tape)(h3:w'.output=w.output)(hg:g.At w' b):fZ N os γ0 σ (jh μ b g) a w':=by
 obtain⟨eI,xO,γ,rfl,ha,hs,hf,hm⟩:=h;have bO:¬ γ.Z b/\¬ m4 σ.aa γ.blk b/\γ0.w.heap.size<=b:=by
  rcases hb with⟨g',bB⟩|rfl
  ·exact⟨hm.xN _ _ bB,hm.td _ _ bB,hm.fresh _ _ bB⟩
  ·refine⟨λhz=>Nat.lt_irrefl _ (hs.fY _ hz),?_,hf.size⟩;rintro⟨i,o,c,hl,hb⟩;exact Nat.lt_irrefl _ (hs.blt hl hb)
 exact⟨eI,xO,{ γ with w:=w' },rfl,ha,hs.z7 bO.1 bO.2.1 hk aH,hf.z7 bO.2.2 hk aH h1 h2 h3,hm.z7 bO.1 bO.2.1 bO.2.2 hk hg⟩
def fZ.ev{os:List Ob}{γ0:Cx}{a:Act}{w:World}(h:fZ N os γ0 σ μ a w){x:Operand}{v:Value}(hx:ev σ x=.lit v):a.eval x=v:=by
 obtain⟨_,_,γ,rfl,ha,hs,_⟩:=h;have:=mV hs ha x;rw[hx]at this;exact this.bX
def fZ.at{os:List Ob}{γ0:Cx}{a:Act}{w:World}(h:fZ N os γ0 σ μ a w){b:Nat}{g:Gh}(hb:μ b=some g):g.At w b:=by
 obtain⟨_,_,γ,rfl,ha,hs,_,hm⟩:=h;exact hm.gh _ _ hb
def fZ.none{os:List Ob}{γ0:Cx}{a:Act}{w:World}(h:fZ N os γ0 σ μ a w):μ w.heap.size=none:=by
 cases hb:μ w.heap.size with
 |none=>rfl
 |some g=>exact absurd (h.at hb).lt (Nat.lt_irrefl _)
def P8(L:List (Int×Value)):(iE L).length=L.length:=by simp[iE]
def P9{os:List Ob}{γ0:Cx}{o:Oper}{K:St->Mem->Prop}(h:dT P o σ μ K){a:Act}{w:World}(az:fZ N os γ0 σ μ a w)(hd:∀ d,o.dst=some d->d<N){Q:Exit->Act->World->Prop}{next:Act->World->Prop}(hn:∀ σ' cX a' w',K σ' cX->fZ N os γ0 σ' cX a' w'->next a' w'):o.wp P a w next Q:=by
 have gen:aG P o σ (λs=>K s μ)->o.wp P a w next Q:=λhg=>by
  obtain⟨γ,h1,h2⟩:=az.YX;exact vJ hg h1 hd (λσ' a' w' hK cr=>hn _ _ _ _ hK (h2 _ _ _ cr))
 have lit:∀ (v:Value) w',(execOp a.eval o).run P w=.ok (.value v) w'->∀ cX,fZ N os γ0 σ cX a w'->K (σ.put o.dst (.lit v)) cX->o.wp P a w next Q:=λv w' hr cX cr hK=>by
  unfold Oper.wp;rw[hr];exact hn _ _ _ _ hK (cr.v3 hd (λγ _ _=>au.lit v))
 obtain⟨dst,op,type,pos,after,guard⟩:=o;unfold dT at h;cases op
 case makeMap t r =>
  cases r with
  |some r=>exact gen h
  |none =>
   refine lit (.map (some w.heap.size)) (w.alloc (.map #[] 0)) (by simp[execOp,Instr.makeMap]) _ ?_ (h w.heap.size az.none);exact az.block (.inr rfl) (λk _ hk=>by rw[heap_alloc_old _ _ hk]) (by show w.heap.size<=(w.heap.push _).size;simp) rfl rfl rfl (by rw[Gh.At,heap_alloc_new];rfl)
 case lookup t x i ok =>
  cases ok with
  |true=>exact gen h
  |false =>
   obtain⟨n,z,hi,⟨kt,et,ht,hk,hz⟩,h⟩:=h;rcases h with⟨hx,hK⟩|⟨b,L,hx,hb,hK⟩
   ·exact lit z w (by simp[execOp,az.ev hx,az.ev hi,YQ ht hk (hz w)]) μ az hK
   ·exact lit _ w (by simp[execOp,az.ev hx,az.ev hi,YP ht hk (hz w) (az.at hb)]) μ az hK
 case mapUpdate t m k x =>
  obtain⟨b,n,L,v,⟨kt,et,ht,hk⟩,hm,hi,hx,hb,hK⟩:=h;have xP:=az.at hb;rw[Gh.At,P8]at xP;have bq:=(lT.1 xP).1;have hr:=YR (P:=P) ht hk xP n v;unfold Oper.wp;have gZ:(execOp a.eval ⟨dst,.mapUpdate t m k x,type,pos,after,guard⟩).run P w=.ok .skip { w with heap:=w.heap.setIfInBounds b (.map (cE (iE (iN n v L))) (iN n v L).length) }:=by
   simp[execOp,az.ev hm,az.ev hi,az.ev hx,hr]
  rw[gZ];have ox:fZ N os γ0 σ (jh μ b (.map (iE (iN n v L)))) a { w with heap:=w.heap.setIfInBounds b (.map (cE (iE (iN n v L))) (iN n v L).length) }:=by
   refine az.block (.inl ⟨_,hb⟩) (λk hk _=>?_) Jy rfl rfl rfl ?_
   ·simp[sE (Ne.symm hk)]
   ·rw[Gh.At,P8];simp[bq]
  exact hn _ _ _ _ hK (ox.v3 hd (λγ _ _=>.undef _))
 case range t x =>
  obtain⟨b,ents,⟨kt,et,ht⟩,hx,hb,hK⟩:=h;refine lit (.pointer (some ⟨w.heap.size,0,none⟩)) (w.alloc (.mapIter (some b) ents.length #[] ents.length)) (by simp[execOp,az.ev hx,YS ht (az.at hb)]) _ ?_ (hK w.heap.size az.none);exact az.block (.inr rfl) (λk _ hk=>by rw[heap_alloc_old _ _ hk]) (by show w.heap.size<=(w.heap.push _).size;simp) rfl rfl rfl (by rw[Gh.At,heap_alloc_new])
 case next x s =>
  cases s with
  |true=>exact gen h
  |false =>
   obtain⟨r,b,seen,ents,hx,hr,hb,h1,h2⟩:=h;have bq:=(az.at hr).lt;rcases YT (P:=P) rfl (az.at hr) (az.at hb) type with⟨k1,k2⟩|⟨j,p,d,k1,k2,k3⟩
   ·have gZ:(execOp a.eval ⟨dst,.next x false,type,pos,after,guard⟩).run P w=.ok (.value (.tuple #[.bool false])) w:=by simp[execOp,az.ev hx,k2]
    unfold Oper.wp;rw[gZ];exact hn _ _ _ _ (h1 k1) (az.v3 hd (λγ _ _=>.bH _ _ rfl (λi y hi=>by
     cases i with
     |zero=>simp at hi;subst hi;exact au.lit _
     |succ i=>simp at hi)))
   ·have gZ:(execOp a.eval ⟨dst,.next x false,type,pos,after,guard⟩).run P w=.ok (.value (.tuple #[.bool true,p.1,p.2])) { w with heap:=w.heap.setIfInBounds r (.mapIter (some b) ents.length (seen++[j]).toArray ents.length),drawn:=d }:=by simp[execOp,az.ev hx,k3]
    unfold Oper.wp;rw[gZ];have ox:fZ N os γ0 σ (jh μ r (.iter b ents.length (seen++[j]))) a { w with heap:=w.heap.setIfInBounds r (.mapIter (some b) ents.length (seen++[j]).toArray ents.length),drawn:=d }:=by
     refine az.block (.inl ⟨_,hr⟩) (λk hk _=>?_) Jy rfl rfl rfl ?_
     ·simp[sE (Ne.symm hk)]
     ·rw[Gh.At];simp[bq]
    refine hn _ _ _ _ (h2 j p k1 k2) (ox.v3 hd (λγ _ _=>.bH _ _ rfl (λi y hi=>?_)))
    ·match i,hi with
     |0,hi=>simp at hi;subst hi;exact au.lit _
     |1,hi=>simp at hi;subst hi;exact au.lit _
     |2,hi=>simp at hi;subst hi;exact au.lit _
     |i+3,hi=>simp at hi
 case entry x =>
  obtain⟨r,b,seen,j,ents,p,hx,hr,hb,hp,hK⟩:=h;have gZ:(execOp a.eval ⟨dst,.entry x,type,pos,after,guard⟩).run P w=.ok (.value (.tuple #[p.1,p.2])) w:=by simp[execOp,az.ev hx,YU (P:=P) rfl (az.at hr) (az.at hb) hp]
  unfold Oper.wp;rw[gZ];exact hn _ _ _ _ hK (az.v3 hd (λγ _ _=>.bH _ _ rfl (λi y hi=>by
   match i,hi with
   |0,hi=>simp at hi;subst hi;exact au.lit _
   |1,hi=>simp at hi;subst hi;exact au.lit _
   |i+2,hi=>simp at hi)))
 case binOp op t x y yt =>
  replace h:pA P _ op t (Am.ev σ x) (Am.ev σ y) σ μ K:=h
  unfold pA at h;split at h
  ·rename_i m hx;obtain⟨⟨kt,et,ht⟩,hy,h⟩:=h;split at h
   ·exact lit _ w (by simp[execOp,az.ev hx,az.ev hy,eqGuard_at_map,YV w t kt et m ht]) μ az h
   ·exact lit _ w (by simp[execOp,az.ev hx,az.ev hy,eqGuard_at_map,YW w t kt et m ht]) μ az h
   ·exact h.elim
  ·exact gen h
 case call c =>
  obtain⟨callee,args,dv⟩:=c;cases callee with
  |value f=>exact gen h
  |invoke r m=>exact gen h
  |builtin b =>
   cases b
   case len =>
    replace h:uI P _ (args.toList.map (Am.ev σ)) dv.toList σ μ K:=h
    unfold uI at h;split at h
    ·rename_i b hx;obtain⟨t,ents,xP,⟨kt,et,ht⟩,hb,hK⟩:=h;obtain⟨x,Y0,vN⟩:∃x,args.toList=[x]/\Am.ev σ x=.lit (.map (some b)):=by
      cases ha:args.toList with
      |nil=>rw[ha]at hx;simp at hx
      |cons x r =>
       rw[ha]at hx;cases r with
       |nil=>exact⟨x,rfl,by simpa using hx⟩
       |cons y r=>simp at hx
     have ea:args = #[x]:=by rw[<- Array.toArray_toList (xs:=args),Y0]
     have eb:dv = #[t]:=by rw[<- Array.toArray_toList (xs:=dv),xP]
     subst ea;subst eb;have Y1:=az.at hb;exact lit _ w (by simp[execOp,resolve,invoke,builtin,Builtin.len_,az.ev vN,run_underlying ht,MapKept.run_getObj_map Y1,cE,goInt]) μ az hK
    ·exact gen h
   all_goals exact gen h
 all_goals exact gen h
def mi(P:Program)(o:Oper)(K:St->Mem->Prop)(b want:Bool)(σ:St)(μ:Mem):Prop:=(b=want->dT P o σ μ K)/\(b≠want->K (σ.put o.dst (.lit (.tuple #[]))) μ)
def m8(P:Program)(ops:Array Oper):List Oper->(St->Mem->Prop)->St->Mem->Prop
 |[],K,σ,μ=>K σ μ
 |o::r,K,σ,μ =>
  match o.guard with
  |none=>dT P o σ μ (m8 P ops r K)
  |some (j,want) =>
   match (ops[j]?).bind (·.dst) with
   |none=>False
   |some d =>
    match σ.env d with
    |.lit (.bool b)=>mi P o (m8 P ops r K) b want σ μ
    |.lit (.tuple vs)=>vs = #[]/\m8 P ops r K (σ.put o.dst (.lit (.tuple #[]))) μ
    |_=>False
def z8{os:List Ob}{γ0:Cx}{ops:Array Oper}(hd:∀ o∈ops.toList,∀ d,o.dst=some d->d<N){K:St->Mem->Prop}{Q:Exit->Act->World->Prop}(hQ:∀ σ' cX a' w',K σ' cX->fZ N os γ0 σ' cX a' w'->Q .normal a' w'):∀ (l:List Oper) (i:Nat) (σ:St) (μ:Mem) (a:Act) (w:World),ops.toList.drop i=l->m8 P ops l K σ μ->fZ N os γ0 σ μ a w ->
   wpOps P ops Q (List.range' i l.length) a w
 |[],i,σ,μ,a,w,_,h,az=>by simpa [wpOps] using hQ _ _ _ _ h az
 |o::r,i,σ,μ,a,w,hl,h,az=>by
  have hi:ops[i]?=some o:=by
   have:(ops.toList.drop i)[0]?=some o:=by rw[hl];rfl
   simpa using this
  have hr:ops.toList.drop (i+1)=r:=by
   have:=congrArg List.tail hl;simpa [List.tail_drop] using this
  have bP:o∈ops.toList:=fq (by simpa using hi);rw[List.length_cons,List.range'_succ,wpOps_cons];unfold wpOp;simp only[hi];unfold m8 at h;cases hg:o.guard with
  |none =>
   simp only[hg]at h;have hw:Region.wanted o (yielded ops a.tmps)=true:=by simp[Region.wanted,hg]
   rw[if_pos hw];left;exact P9 h az (hd o bP) (λσ' cX a' w' hK cr=>z8 hd hQ r (i+1) σ' cX a' w' hr hK cr)
  |some jw =>
   obtain⟨j,want⟩:=jw;simp only[hg]at h;cases dR:(ops[j]?).bind (·.dst) with
   |none=>simp[dR]at h
   |some d =>
    simp only[dR]at h;have hv:∀ v,σ.env d=.lit v->a.tmps.getD d Go.undef=v:=λv he=>by
     have:=az.ev (x:=.tmp d) (v:=v) (by simpa [ev] using he);simpa [Act.eval] using this
    split at h
    ·rename_i b he;have hv:=hv _ he;have hy:yielded ops a.tmps j=some b:=by
      unfold yielded;rw[dR];have:a.tmps[d]?=some (.bool b):=by
       rw[dJ]at hv;cases hx:a.tmps[d]? with
       |none=>rw[hx]at hv;simp[Go.undef]at hv
       |some y=>rw[hx]at hv;simp at hv;rw[hv]
      simp[this]
     by_cases eV:b=want
     ·have hw:Region.wanted o (yielded ops a.tmps)=true:=by simp[Region.wanted,hg,hy,eV]
      rw[if_pos hw];left;exact P9 (h.1 eV) az (hd o bP) (λσ' cX a' w' hK cr=>z8 hd hQ r (i+1) σ' cX a' w' hr hK cr)
     ·have hw:Region.wanted o (yielded ops a.tmps)=false:=by simp[Region.wanted,hg,hy,eV]
      rw[if_neg (by rw[hw];simp)];exact z8 hd hQ r (i+1) _ _ _ _ hr (h.2 eV) (az.v3 (hd o bP) (λγ _ _=>au.lit _))
    ·rename_i vs he;have hv:=hv _ he;have hy:yielded ops a.tmps j=none:=by
      unfold yielded;rw[dR];rw[dJ]at hv;cases hx:a.tmps[d]? with
      |none=>simp[hx]
      |some y=>rw[hx]at hv;simp at hv;subst hv;simp[hx]
     have hw:Region.wanted o (yielded ops a.tmps)=false:=by simp[Region.wanted,hg,hy]
     rw[if_neg (by rw[hw];simp)];exact z8 hd hQ r (i+1) _ _ _ _ hr h.2 (az.v3 (hd o bP) (λγ _ _=>au.lit _))
    ·exact h.elim
def P'{id:Nat}{ops:Array Oper}{Q:Exit->St->Mem->Prop}(hd:dY N ops=true)(h:m8 P ops ops.toList (Q .normal) σ μ):WM P N n0 (.region id ops false) Q σ μ:=by
 intro os γ0 a w _ az;refine wp_region ?_;have:=z8 (P:=P) (N:=N) (os:=os) (γ0:=γ0) (ops:=ops) (kL hd) (K:=Q .normal) (Q:=λe a' w'=>∃ σ' cX,Q e σ' cX/\fZ N os γ0 σ' cX a' w') (λσ' cX a' w' hK cr=>⟨σ',cX,hK,cr⟩)
  ops.toList 0 σ μ a w rfl h az
 rw[List.range_eq_range'];simpa using this
end Go.Am
namespace Go.Am
variable {P:Program} {N n0:Nat} {σ:St} {μ:Mem} {Q:Exit->St->Mem->Prop}
theorem mr{id:Nat}{ops:Array Oper}{y:Code}(h:∀ K:St->Mem->Prop,(∀ s m,WM P N n0 y Q s m->K s m)->m8 P ops ops.toList K σ μ)(hd:dY N ops=true:=by decide):WM P N n0 (.seq (.region id ops false) y) Q σ μ :=
 q8 fun Q' h1 _=>P' hd (h _ h1)
theorem vt{id:Nat}{ops:Array Oper}(h:∀ K:St->Mem->Prop,(∀ s m,Q .normal s m->K s m)->m8 P ops ops.toList K σ μ)(hd:dY N ops=true:=by decide):WM P N n0 (.region id ops false) Q σ μ :=
 P' hd (h _ fun _ _ h=>h)
theorem mc{c:Operand}{x y:Code}{t:Bool}(ht:t=true->WM P N n0 x Q σ μ)(hf:t=false->WM P N n0 y Q σ μ)(hc:ev σ c=.lit (.bool t):=by(simp only[Go.Am.rh,Go.Am.Lc,↓reduceIte,Nat.reduceEqDiff,Nat.reduceBEq];exact rfl)):WM P N n0 (.cond c x y) Q σ μ:=YN hc ht hf
section
variable {ops:Array Oper} {o:Oper} {l:List Oper} {K:St->Mem->Prop}
instance:Head (m8 P ops (o::l) K σ μ):=⟨trivial⟩
def Y2{b want:Bool}(h1:b=true->mi P o K true want σ μ)(h2:b=false->mi P o K false want σ μ):mi P o K b want σ μ:=by
 cases b
 ·exact h2 rfl
 ·exact h1 rfl
instance {b want:Bool}:B' (mi P o K b want σ μ) b (mi P o K true want σ μ) (mi P o K false want σ μ):=⟨Y2⟩
def Qa:mi P o K true true σ μ=dT P o σ μ K:=by simp[mi]
def Qd:mi P o K false false σ μ=dT P o σ μ K:=by simp[mi]
def Qe:mi P o K true false σ μ=K (σ.put o.dst (.lit (.tuple #[]))) μ:=by simp[mi]
def Qf:mi P o K false true σ μ=K (σ.put o.dst (.lit (.tuple #[]))) μ:=by simp[mi]
def Qg:m8 P ops [] K σ μ=K σ μ:=rfl
variable {dst:Option Tmp} {tt:TypeId} {p:String} {af:Array Edge} {g:Option (Nat×Bool)}
def Qh(x:Operand):dT P ⟨dst,.move x,tt,p,af,g⟩ σ μ K=aG P ⟨dst,.move x,tt,p,af,g⟩ σ (λs=>K s μ):=rfl
def Qi(x:Operand):dT P ⟨dst,.assign x,tt,p,af,g⟩ σ μ K=aG P ⟨dst,.assign x,tt,p,af,g⟩ σ (λs=>K s μ):=rfl
def Qj(x y z:Operand):dT P ⟨dst,.pick x y z,tt,p,af,g⟩ σ μ K=aG P ⟨dst,.pick x y z,tt,p,af,g⟩ σ (λs=>K s μ):=rfl
def Qk(e:TypeId):dT P ⟨dst,.alloc e,tt,p,af,g⟩ σ μ K=aG P ⟨dst,.alloc e,tt,p,af,g⟩ σ (λs=>K s μ):=rfl
def Qm(e:TypeId)(x:Operand):dT P ⟨dst,.box e x,tt,p,af,g⟩ σ μ K=aG P ⟨dst,.box e x,tt,p,af,g⟩ σ (λs=>K s μ):=rfl
def Qn(t:TypeId)(l:Array (Nat×Operand)):dT P ⟨dst,.build t l,tt,p,af,g⟩ σ μ K=aG P ⟨dst,.build t l,tt,p,af,g⟩ σ (λs=>K s μ):=rfl
def Qo(t:TypeId)(n:Nat)(l:Array (Nat×Operand)):dT P ⟨dst,.buildSlice t n l,tt,p,af,g⟩ σ μ K=aG P ⟨dst,.buildSlice t n l,tt,p,af,g⟩ σ (λs=>K s μ):=rfl
def Qp(t:TypeId)(x:Operand):dT P ⟨dst,.load t x,tt,p,af,g⟩ σ μ K=aG P ⟨dst,.load t x,tt,p,af,g⟩ σ (λs=>K s μ):=rfl
def Qq(t:TypeId)(x y:Operand):dT P ⟨dst,.store t x y,tt,p,af,g⟩ σ μ K=aG P ⟨dst,.store t x y,tt,p,af,g⟩ σ (λs=>K s μ):=rfl
def Qr(u:UnOp)(t:TypeId)(x:Operand):dT P ⟨dst,.unOp u t x,tt,p,af,g⟩ σ μ K=aG P ⟨dst,.unOp u t x,tt,p,af,g⟩ σ (λs=>K s μ):=rfl
def Qs(f:Fn)(x y:Array Operand):dT P ⟨dst,.makeFunc f x y,tt,p,af,g⟩ σ μ K=aG P ⟨dst,.makeFunc f x y,tt,p,af,g⟩ σ (λs=>K s μ):=rfl
def Qt(t:TypeId)(x y:Operand):dT P ⟨dst,.makeSlice t x y,tt,p,af,g⟩ σ μ K=aG P ⟨dst,.makeSlice t x y,tt,p,af,g⟩ σ (λs=>K s μ):=rfl
def Qu(t:TypeId)(x:Operand)(lo hi mx:Option Operand):dT P ⟨dst,.slice t x lo hi mx,tt,p,af,g⟩ σ μ K=aG P ⟨dst,.slice t x lo hi mx,tt,p,af,g⟩ σ (λs=>K s μ):=rfl
def Qv(t:TypeId)(x:Operand)(n:Nat):dT P ⟨dst,.field t x n,tt,p,af,g⟩ σ μ K=aG P ⟨dst,.field t x n,tt,p,af,g⟩ σ (λs=>K s μ):=rfl
def Qw(t:TypeId)(x:Operand)(n:Nat):dT P ⟨dst,.fieldAddr t x n,tt,p,af,g⟩ σ μ K=aG P ⟨dst,.fieldAddr t x n,tt,p,af,g⟩ σ (λs=>K s μ):=rfl
def Qx(t:TypeId)(x y:Operand):dT P ⟨dst,.indexAddr t x y,tt,p,af,g⟩ σ μ K=aG P ⟨dst,.indexAddr t x y,tt,p,af,g⟩ σ (λs=>K s μ):=rfl
def Qy(x:Operand):dT P ⟨dst,.nilCheck x,tt,p,af,g⟩ σ μ K=aG P ⟨dst,.nilCheck x,tt,p,af,g⟩ σ (λs=>K s μ):=rfl
def Qz(x:Operand)(n:Nat):dT P ⟨dst,.extract x n,tt,p,af,g⟩ σ μ K=aG P ⟨dst,.extract x n,tt,p,af,g⟩ σ (λs=>K s μ):=rfl
def QA(s d:TypeId)(x:Operand):dT P ⟨dst,.convert s d x,tt,p,af,g⟩ σ μ K=aG P ⟨dst,.convert s d x,tt,p,af,g⟩ σ (λs=>K s μ):=rfl
def QB(f:Operand)(args:Array Operand)(dv:Array TypeId):dT P ⟨dst,.call ⟨.value f,args,dv⟩,tt,p,af,g⟩ σ μ K=aG P ⟨dst,.call ⟨.value f,args,dv⟩,tt,p,af,g⟩ σ (λs=>K s μ):=rfl
def QC(args:Array Operand)(dv:Array TypeId):dT P ⟨dst,.call ⟨.builtin .append,args,dv⟩,tt,p,af,g⟩ σ μ K=aG P ⟨dst,.call ⟨.builtin .append,args,dv⟩,tt,p,af,g⟩ σ (λs=>K s μ):=rfl
def QD(args:Array Operand)(dv:Array TypeId):dT P ⟨dst,.call ⟨.builtin .min,args,dv⟩,tt,p,af,g⟩ σ μ K=aG P ⟨dst,.call ⟨.builtin .min,args,dv⟩,tt,p,af,g⟩ σ (λs=>K s μ):=rfl
def QE(args:Array Operand)(dv:Array TypeId):dT P ⟨dst,.call ⟨.builtin .max,args,dv⟩,tt,p,af,g⟩ σ μ K=aG P ⟨dst,.call ⟨.builtin .max,args,dv⟩,tt,p,af,g⟩ σ (λs=>K s μ):=rfl
def QF(args:Array Operand)(dv:Array TypeId):dT P ⟨dst,.call ⟨.builtin .copy,args,dv⟩,tt,p,af,g⟩ σ μ K=aG P ⟨dst,.call ⟨.builtin .copy,args,dv⟩,tt,p,af,g⟩ σ (λs=>K s μ):=rfl
def QG(args:Array Operand)(dv:Array TypeId):dT P ⟨dst,.call ⟨.builtin .len,args,dv⟩,tt,p,af,g⟩ σ μ K=uI P ⟨dst,.call ⟨.builtin .len,args,dv⟩,tt,p,af,g⟩ (args.toList.map (ev σ)) dv.toList σ μ K:=rfl
def QH(op:BinOp)(t:TypeId)(x y:Operand)(yt:TypeId):dT P ⟨dst,.binOp op t x y yt,tt,p,af,g⟩ σ μ K=pA P ⟨dst,.binOp op t x y yt,tt,p,af,g⟩ op t (ev σ x) (ev σ y) σ μ K:=rfl
def QI(k:IntKind)(n:Int)(op:BinOp)(t:TypeId)(y:AV):pA P o op t (.lit (.int k n)) y σ μ K=aG P o σ (λs=>K s μ):=rfl
def QJ(b:Bool)(op:BinOp)(t:TypeId)(y:AV):pA P o op t (.lit (.bool b)) y σ μ K=aG P o σ (λs=>K s μ):=rfl
def QK(a:Option Addr)(n c:Nat)(op:BinOp)(t:TypeId)(y:AV):pA P o op t (.lit (.slice a n c)) y σ μ K=aG P o σ (λs=>K s μ):=rfl
def QL(s:Nat)(r:List (List AV))(op:BinOp)(t:TypeId)(y:AV):pA P o op t (.tree s r) y σ μ K=aG P o σ (λs=>K s μ):=rfl
def QM(l:List AV)(op:BinOp)(t:TypeId)(y:AV):pA P o op t (.agg l) y σ μ K=aG P o σ (λs=>K s μ):=rfl
def QN(a b c d:Nat)(op:BinOp)(t:TypeId)(y:AV):pA P o op t (.ref a b c d) y σ μ K=aG P o σ (λs=>K s μ):=rfl
def QO(a:Option Nat)(t:TypeId)(y:AV):pA P o .eql t (.lit (.map a)) y σ μ K=(sJ P t/\y=.lit (.map none)/\K (σ.put o.dst (.lit (.bool a.isNone))) μ):=rfl
def QP(a:Option Nat)(t:TypeId)(y:AV):pA P o .neq t (.lit (.map a)) y σ μ K=(sJ P t/\y=.lit (.map none)/\K (σ.put o.dst (.lit (.bool (!a.isNone)))) μ):=rfl
def QQ(s:Nat)(r:List (List AV))(t:List TypeId):uI P o [.tree s r] t σ μ K=aG P o σ (λs=>K s μ):=rfl
def QR(a b c d:Nat)(t:List TypeId):uI P o [.ref a b c d] t σ μ K=aG P o σ (λs=>K s μ):=rfl
def QS(a:Option Addr)(n c:Nat)(t:List TypeId):uI P o [.lit (.slice a n c)] t σ μ K=aG P o σ (λs=>K s μ):=rfl
def QT(b:Nat)(t:List TypeId):uI P o [.lit (.map (some b))] t σ μ K =∃t1 ents,t=[t1]/\sJ P t1/\μ b=some (.map ents)/\K (σ.put o.dst (aam (ents.length:Nat))) μ:=rfl
def QU:m8 P ops (o::l) K σ μ=(match o.guard with|none=>dT P o σ μ (m8 P ops l K)|some (j,want)=>match (ops[j]?).bind (·.dst) with|none=>False|some d=>match σ.env d with|.lit (.bool b)=>mi P o (m8 P ops l K) b want σ μ|.lit (.tuple vs)=>vs = #[]/\m8 P ops l K (σ.put o.dst (.lit (.tuple #[]))) μ|_=>False):=by rw[m8]<;>rfl
def QV(a:Option Nat):dD (.map a)=.lit (.map a):=rfl
end
def Mc:=aaK @QV @Qh @Qi @Qj @Qk @Qm @Qn (aaK @Qo @Qp @Qq @Qr @Qs @Qt @Qu (aaK @Qv @Qw @Qx @Qy @Qz @QA @QB (aaK @QC @QD @QE @QF @QG @QH @QI (aaK @QJ @QK @QL @QM @QN @QO @QP (aaK @QQ @QR @QS @QT @QU @Qg @Qa (aaq @Qd @Qe @Qf))))))
end Go.Am
namespace Go.Am
variable {P:Program} {N n0:Nat} {σ:St} {μ:Mem} {K:St->Mem->Prop} {dst:Option Tmp} {tt:TypeId} {p:String} {af:Array Edge} {g:Option (Nat×Bool)}
def JR{t:TypeId}(h:∀ b,μ b=none->K (σ.put dst (.lit (.map (some b)))) (jh μ b (.map []))):dT P ⟨dst,.makeMap t none,tt,p,af,g⟩ σ μ K:=h
def za{t:TypeId}{x i:Operand}{b:Nat}{n:Int}{z:Value}(hx:ev σ x=.lit (.map (some b)))(hi:ev σ i=aam n)(hz:BM P t z){L:List (Int×Value)}(hb:μ b=some (.map (iE L)))(hK:K (σ.put dst (.lit ((kI n L).getD z))) μ):dT P ⟨dst,.lookup t x i false,tt,p,af,g⟩ σ μ K:=⟨n,z,hi,hz,.inr ⟨b,L,hx,hb,hK⟩⟩
def E'{t:TypeId}{m k x:Operand}{b:Nat}{n:Int}{v:Value}(hm:ev σ m=.lit (.map (some b)))(hi:ev σ k=aam n)(hx:ev σ x=.lit v)(hk:BN P t){L:List (Int×Value)}(hb:μ b=some (.map (iE L)))(hK:K (σ.put dst .undef) (jh μ b (.map (iE (iN n v L))))):dT P ⟨dst,.mapUpdate t m k x,tt,p,af,g⟩ σ μ K:=⟨b,n,L,v,hk,hm,hi,hx,hb,hK⟩
def Vh{t:TypeId}{x:Operand}{b:Nat}(hx:ev σ x=.lit (.map (some b)))(hk:sJ P t){ents:List (Value×Value)}(hb:μ b=some (.map ents))(hK:∀ r,μ r=none->K (σ.put dst (.lit (.pointer (some ⟨r,0,none⟩)))) (jh μ r (.iter b ents.length []))):dT P ⟨dst,.range t x,tt,p,af,g⟩ σ μ K:=⟨b,ents,hk,hx,hb,hK⟩
def Vj{x:Operand}{r b:Nat}{seen:List Nat}{ents:List (Value×Value)}(hx:ev σ x=.lit (.pointer (some ⟨r,0,none⟩)))(hr:μ r=some (.iter b ents.length seen))(hb:μ b=some (.map ents))(h1:(∀ j<ents.length,j∈seen)->K (σ.put dst (.bH [.lit (.bool false)])) μ)(h2:∀ j p,ents[j]?=some p->j ∉ seen->K (σ.put dst (.bH [.lit (.bool true),.lit p.1,.lit p.2])) (jh μ r (.iter b ents.length (seen++[j])))):dT P ⟨dst,.next x false,tt,p,af,g⟩ σ μ K:=⟨r,b,seen,ents,hx,hr,hb,h1,h2⟩
def Vq{x:Operand}{r b j:Nat}{seen:List Nat}{ents:List (Value×Value)}{q:Value×Value}(hx:ev σ x=.lit (.pointer (some ⟨r,0,none⟩)))(hr:μ r=some (.iter b ents.length (seen++[j])))(hb:μ b=some (.map ents))(hp:ents[j]?=some q)(hK:K (σ.put dst (.bH [.lit q.1,.lit q.2])) μ):dT P ⟨dst,.entry x,tt,p,af,g⟩ σ μ K:=⟨r,b,seen,j,ents,q,hx,hr,hb,hp,hK⟩
def j8.refl:j8 n0 σ σ:=λos γ0 γ _ hs hf=>⟨γ,rfl,rfl,hs,hf,λ_ h=>.inl h,λ_ h=>h⟩
end Go.Am

