import Derived.Test.YtfoopmojjjpapaaGreatX10
import Derived.Laws.IdiomRangeMap
set_option linter.all false
set_option maxHeartbeats 0
set_option maxRecDepth 20000
open List renaming getElem?_eq_some_iff→aY,mem_of_getElem?→hZ,getElem?_eq_getElem→bx,ext_getElem?→lq,getElem?_map→bM,getElem?_mapIdx→QL,length→nF
open Option renaming some→cH
open Array renaming getElem?_eq_some_iff→nA,getD_eq_getD_getElem?→eU,getElem?_setIfInBounds_ne→vC
open Nat renaming le_refl→aZ,sub_self→jC
open Bool renaming false_eq_true→jB
namespace Go.Am
variable {P:Program} {N n0:Nat} {σ:St}
def ZH(dst:Option Tmp)(t:TypeId)(a:Operand)(tt:TypeId)(p:String)(af:Array Edge)(g:Option (Nat×Bool))(K:St->Prop):mV true P ⟨dst,.load t a,tt,p,af,g⟩ σ K=vL P t dst K σ (ev σ a):=rfl
def Lq:=QP @ZH @vL.eq_1
def aD.uK(d id:Nat){cells:List AV}(ho:σ.aa[id]?=some (.var cells))(hd:σ.env d=.ptr id 0 0)(xe:∀ v∈cells,(∃ x,v=.lit x)\/∃ s r,v=.tree s r):aD n0 σ ⟨jP σ.env d (.b6 cells),σ.aa.set id .gone⟩:=by
 intro os γ0 γ _ hs hf;have Bz:id<σ.aa.length:=(aY.1 ho).1
 let aC:Cx:={ γ with Z:=λb=>γ.Z b\/∃ o cap,γ.blk id=some (b,o,cap) }
 let os2:=σ.aa.set id .gone
 have jF:∀ i,os2[i]?=if i=id then some .gone else σ.aa[i]?:=by
  intro i;show(σ.aa.set id _)[i]?=_;rw[List.getElem?_set];by_cases h1:i=id
  ·subst h1;simp[Bz]
  ·simp[Ne.symm h1,h1]
 have hR:∀ v cv,aw σ.aa γ.w γ.Z γ.blk v cv->aw os2 aC.w aC.Z aC.blk v cv:=λv cv hv =>
  hv.mono (λb hb=>⟨.inl hb,rfl⟩) (λi o hi=>by
   rw[jF];by_cases h1:i=id
   ·left;rw[if_pos h1]
   ·rw[if_neg h1];by_cases hg:o=.gone
    ·subst hg;exact .inl hi
    ·exact .inr ⟨rfl,o,hi,Ob.jS hg⟩)
 have bW:∀ i,Live os2 i->Live σ.aa i/\i≠id:=by
  rintro i⟨o,hi,hg⟩;rw[jF]at hi;split at hi
  ·simp at hi;exact absurd hi.symm hg
  ·rename_i h2;exact⟨⟨o,hi,hg⟩,h2⟩
 have pU:Live σ.aa id:=⟨_,ho,G9⟩;obtain⟨b,cap,cur,t,h1,h2,h3,h4⟩:=hs.ec _ _ ho;have u5:=hs.ar d;rw[hd]at u5;have jO:aw os2 aC.w aC.Z aC.blk (.b6 cells) (γ.tmps.getD d Go.undef):=by
  generalize γ.tmps.getD d Go.undef=cv at u5;cases u5 with
  |cN _ _ h=>cases h
  |og _ _ _ _ h=>rw[ho]at h;simp at h
  |oX _ _ b2 aqj aqk h hb =>
   rw[h1]at hb;simp only[cH.injEq,Prod.mk.injEq]at hb;obtain⟨rfl,_,_⟩:=hb;refine .b6 cells b 0 (λj=>cur.getD j Go.undef) (.inr ⟨0,cap,h1⟩) (λj x hx=>?_) (λj x hx=>?_)
   ·rw[Nat.zero_add];exact Be h2 (by rw[h3];exact(aY.1 hx).1)
   ·have eG:cX σ (λy=>y≠id) x x:=by
     rcases xe x (hZ hx) with⟨v,rfl⟩|⟨s,r,rfl⟩
     ·exact .lit v
     ·exact .tree s r
    exact eG.Ba hs (γc:=aC) (λb hb=>.inl hb) rfl (λx b o cap bZ _ hb=>.inr ⟨o,cap,by rw[show id=x by simpa using(Decidable.not_not.1 bZ).symm];exact hb⟩) _ (h4 j x hx)
  |pM _ _ _ _ _ _ _ _ h=>rw[ho]at h;simp at h
 refine⟨aC,rfl,rfl,⟨λk=>?_,?_,λi j b o c o' c' hi hj=>hs.inj i j b o c o' c' (bW i hi).1 (bW j hj).1,?_,?_,λg=>zK (hs.gl g) λb hb=>⟨.inl hb,rfl⟩⟩,?_⟩
 ·show aw os2 aC.w aC.Z aC.blk (jP σ.env d (.b6 cells) k) (γ.tmps.getD k Go.undef);simp only[jP];split
  ·rename_i e;subst e;exact jO
  ·exact hR _ _ (hs.ar k)
 ·intro i o hi;have au:os2[i]?=some o:=hi;rw[jF]at au;split at au
  ·simp only[cH.injEq]at au;subst au;trivial
  ·by_cases hg:o=.gone
   ·subst hg;trivial
   ·exact(hs.ec i o au).mono hR rfl (λ_ _ _ _=>rfl)
 ·rintro b ⟨i,o,c',hi,hb⟩ (hz|⟨o',cap,ba⟩)
  ·exact hs.nz b ⟨i,o,c',(bW i hi).1,hb⟩ hz
  ·exact(bW i hi).2 (hs.inj i id b o c' o' cap (bW i hi).1 pU hb ba)
 ·rintro b (hz|⟨o,cap,hb⟩)
  ·exact hs.gV b hz
  ·exact hs.blt pU hb
 ·refine⟨hf.lS,hf.tape,hf.output,hf.size,hf.eA,λb hb=>.inl (hf.z0 b hb),?_,?_,by show os.length<=os2.length;simp[os2];exact hf.len,?_,hf.drawn⟩
  ·rintro b (hz|⟨o,cap,hb⟩)
   ·exact hf.z1 b hz
   ·exact .inr (hf.own b ⟨id,o,cap,pU,hb⟩)
  ·rintro b ⟨i,o,c',hi,hb⟩;exact hf.own b ⟨i,o,c',(bW i hi).1,hb⟩
  ·intro i hi hl;obtain⟨h1,x,x',hx,cf,hk⟩:=hf.eK i hi (bW i hl).1;have kx:Live os2 i:=hl;obtain⟨o,dx,pI⟩:=kx;refine⟨h1,x,o,hx,dx,?_⟩;rw[jF]at dx;split at dx
   ·simp at dx;exact absurd dx.symm pI
   ·rw[cf]at dx;simp only[cH.injEq]at dx;subst dx;exact hk
end Go.Am
namespace Go.Am
variable {P:Program} {N n0:Nat} {σ:St}
inductive Gh where
 |map (ents:List (Value×Value))
 |iter (mb since:Nat) (seen:List Nat)
 |jl (i:Nat)
def Gh.At(w:World)(b:Nat):Gh->Prop
 |.map ents=>w.heap[b]?=some (.map (c9 ents) ents.length)
 |.iter mb since seen=>w.heap[b]?=some (.mapIter (some mb) since seen.toArray since)
 |.jl _=>True
def Gh.xN:Gh->Prop
 |.jl _=>False
 |_=>True
def Gh.At.heap{w w':World}{b:Nat}{g:Gh}(h:g.At w b)(e:w'.heap[b]?=w.heap[b]?):g.At w' b:=by
 cases g<;>first|trivial|exact e.trans h
def Gh.At.lt{w:World}{b:Nat}{g:Gh}(h:g.At w b)(hm:g.xN):b<w.heap.size:=by
 cases g<;>first|exact(nA.1 h).1|exact hm.elim
abbrev Mem:=Nat->Option Gh
def iQ(μ:Mem)(b:Nat)(g:Gh):Mem:=λk=>if k=b then some g else μ k
def tB(μ:Mem)(b:Nat)(g:Gh):iQ μ b g b=some g:=by simp[iQ]
def qZ(μ:Mem){b c:Nat}(g:Gh)(h:c≠b):iQ μ b g c=μ c:=by simp[iQ,h]
def xO:Mem:=λ_=>none
structure qf(μ:Mem)(o0 os:List Ob)(γ0 γ:Cx):Prop where
 gh:∀ b g,μ b=some g->g.At γ.w b
 fresh:∀ b g,μ b=some g->g.xN->γ0.w.heap.size<=b
 DB:∀ b g,μ b=some g->g.xN->¬ γ.Z b
 yP:∀ b g,μ b=some g->g.xN->¬ pO os γ.blk b
 jl:∀ b i,μ b=some (.jl i)->i<o0.length/\γ0.blk i=some (b,0,0)/\b<γ0.w.heap.size
def qf.nil(o0 os:List Ob)(γ0 γ:Cx):qf xO o0 os γ0 γ:=⟨by simp[xO],by simp[xO],by simp[xO],by simp[xO],by simp[xO]⟩
def qf.eA{μ:Mem}{o0 os ij:List Ob}{γ0 γ aC:Cx}(h:qf μ o0 os γ0 γ)(hf:Fr os γ ij aC):qf μ o0 ij γ0 aC:=by
 refine⟨λb g hp=>?_,h.fresh,λb g hp hm hz=>?_,λb g hp hm ho=>?_,h.jl⟩
 ·by_cases hm:g.xN
  ·exact(h.gh b g hp).heap (hf.eA _ ((h.gh b g hp).lt hm) (h.yP b g hp hm))
  ·cases g<;>first|trivial|exact(hm trivial).elim
 ·rcases hf.z1 _ hz with h1|h1|h1
  ·exact h.DB b g hp hm h1
  ·exact h.yP b g hp hm h1
  ·have:=(h.gh b g hp).lt hm;omega
 ·rcases hf.own _ ho with h1|h1
  ·exact h.yP b g hp hm h1
  ·have:=(h.gh b g hp).lt hm;omega
def qf.le{μ dH:Mem}{o0 os:List Ob}{γ0 γ:Cx}(h:qf μ o0 os γ0 γ)(hl:∀ b g,dH b=some g->μ b=some g):qf dH o0 os γ0 γ :=
 ⟨λb g hp=>h.gh b g (hl b g hp),λb g hp=>h.fresh b g (hl b g hp),λb g hp=>h.DB b g (hl b g hp),λb g hp=>h.yP b g (hl b g hp),λb i hp=>h.jl b i (hl _ _ hp)⟩
def iR(N:Nat)(os:List Ob)(γ0:Cx)(σ:St)(μ:Mem)(a:Act)(w:World):Prop :=
 a.defers=[]/\a.tmps.size=N/\∃ γ,γ.w=w/\γ.tmps=a.tmps/\bz σ γ/\Fr os γ0 σ.aa γ/\qf μ os σ.aa γ0 γ
def WM(P:Program)(N n0:Nat)(c:Code)(Q:Exit->St->Mem->Prop)(σ:St)(μ:Mem):Prop :=
 ∀ (os:List Ob) (γ0:Cx) (a:Act) (w:World),os.length=n0->iR N os γ0 σ μ a w->c.wp P (λe a' w'=>∃ σ' dH,Q e σ' dH/\iR N os γ0 σ' dH a' w') a w
variable {Q:Exit->St->Mem->Prop} {μ:Mem}
def Nr{c:Code}(h:W P N σ.aa.length c (λe s=>Q e s μ) σ):WM P N n0 c Q σ μ:=by
 rintro os γ0 a w hn⟨iK,aO,γ,rfl,ha,hs,hf,hm⟩;refine wp_mono (h σ.aa γ a γ.w rfl ⟨iK,aO,γ,rfl,ha,hs,Fr.refl _ _⟩) ?_;rintro e a' w'⟨σ',hq,Nt,Nu,aC,rfl,nQ,je,fS⟩;exact⟨σ',μ,hq,Nt,Nu,aC,rfl,nQ,je,hf.trans fS,hm.eA fS⟩
def qg{c:Code}{e:Exit}(hc:IB c=some e)(h:Q e σ μ):WM P N n0 c Q σ μ:=by
 cases c<;>simp[IB]at hc;all_goals subst hc
 all_goals first
  |exact λ_ _ _ _ _ az=>wp_skip ⟨σ,μ,h,az⟩
  |exact λ_ _ _ _ _ az=>wp_label ⟨σ,μ,h,az⟩
  |exact λ_ _ _ _ _ az=>wp_exit ⟨σ,μ,h,az⟩
  |exact λ_ _ _ _ _ az=>wp_ret ⟨σ,μ,h,az⟩
def aiO{x y:Code}(Q1:Exit->St->Mem->Prop)(h:WM P N n0 x Q1 σ μ)(hn:∀ s m,Q1 .normal s m->WM P N n0 y Q s m)(he:∀ e s m,e≠.normal->Q1 e s m->Q e s m):WM P N n0 (.seq x y) Q σ μ:=by
 intro os γ0 a w hl az;refine wp_seq (wp_mono (h os γ0 a w hl az) ?_);rintro e a' w'⟨σ',dH,h1,h2⟩;cases e with
 |normal=>exact hn _ _ h1 os γ0 a' w' hl h2
 |exit id=>exact⟨σ',dH,he _ _ _ G9 h1,h2⟩
 |goto l=>exact⟨σ',dH,he _ _ _ G9 h1,h2⟩
 |ret=>exact⟨σ',dH,he _ _ _ G9 h1,h2⟩
 |panic c=>exact⟨σ',dH,he _ _ _ G9 h1,h2⟩
 |outgrown=>exact⟨σ',dH,he _ _ _ G9 h1,h2⟩
def oG{x y:Code}(h:∀ Q':Exit->St->Mem->Prop,(∀ s m,WM P N n0 y Q s m->Q' .normal s m)->(∀ e s m,uX e=false->Q e s m->Q' e s m)->WM P N n0 x Q' σ μ):WM P N n0 (.seq x y) Q σ μ :=
 aiO (λe s m=>(e=.normal->WM P N n0 y Q s m)/\(e≠.normal->Q e s m)) (h _ (λs m h=>⟨λ_=>h,λh=>absurd rfl h⟩) (λe s m he h=>⟨λe2=>absurd e2 (Iz he),λ_=>h⟩)) (λs m h=>h.1 rfl) (λe s m he h=>h.2 he)
def aiE{c:Operand}{x y:Code}{t:Bool}(hc:ev σ c=.lit (.bool t))(ht:t=true->WM P N n0 x Q σ μ)(hf:t=false->WM P N n0 y Q σ μ):WM P N n0 (.cond c x y) Q σ μ:=by
 intro os γ0 a w hn az;have aW:a.eval c=.bool t:=by
  obtain⟨_,_,γ,rfl,ha,hs,_⟩:=az;have:=uA hs ha c;rw[hc]at this;exact this.cO
 exact wp_cond_split aW (λh=>ht h os γ0 a w hn az) (λh=>hf h os γ0 a w hn az)
def q6{id:Nat}{c:Code}(h:∀ Q':Exit->St->Mem->Prop,(∀ s m,Q .normal s m->Q' .normal s m)->(∀ s m,Q .normal s m->Q' (.exit id) s m)->(∀ e s m,BL id e=false->Q e s m->Q' e s m)->WM P N n0 c Q' σ μ):WM P N n0 (.block id c) Q σ μ:=by
 intro os γ0 a w hn az;have h':=h (λe s m=>(e=.exit id->Q .normal s m)/\(e≠.exit id->Q e s m)) (λs m h=>⟨λe=>by simp at e,λ_=>h⟩) (λs m h=>⟨λ_=>h,λe=>absurd rfl e⟩) (λe s m he h=>⟨λe2=>absurd e2 (Nn he).2,λ_=>h⟩);refine wp_block (wp_mono (h' os γ0 a w hn az) ?_);rintro e a' w'⟨σ',dH,h1,h2⟩;cases e with
 |exit pK =>
  simp only[Exit.inBlock];split
  ·rename_i he;exact⟨σ',dH,h1.1 (by rw[he]),h2⟩
  ·rename_i he;exact⟨σ',dH,h1.2 (λe=>he (by simpa using e)),h2⟩
 |normal=>exact⟨σ',dH,h1.2 G9,h2⟩
 |goto l=>exact⟨σ',dH,h1.2 G9,h2⟩
 |ret=>exact⟨σ',dH,h1.2 G9,h2⟩
 |panic c=>exact⟨σ',dH,h1.2 G9,h2⟩
 |outgrown=>exact⟨σ',dH,h1.2 G9,h2⟩
def l8(n0:Nat)(σ σ':St):Prop:=∀ (os:List Ob) (γ0 γ:Cx),os.length=n0->bz σ γ->Fr os γ0 σ.aa γ ->
 ∃ aC,aC.w=γ.w/\aC.tmps=γ.tmps/\bz σ' aC/\Fr os γ0 σ'.aa aC/\(∀ b,aC.Z b->γ.Z b\/pO σ.aa γ.blk b)/\∀ b,pO σ'.aa aC.blk b->pO σ.aa γ.blk b
def l8.ZI{σ':St}(h:l8 n0 σ σ'){os:List Ob}{γ0:Cx}{a:Act}{w:World}(hn:os.length=n0)(az:iR N os γ0 σ μ a w):iR N os γ0 σ' μ a w:=by
 obtain⟨h1,h2,γ,rfl,h3,h4,h5,h6⟩:=az;obtain⟨aC,e1,e2,e3,e4,e5,e6⟩:=h os γ0 γ hn h4 h5;refine⟨h1,h2,aC,e1,e2.trans h3,e3,e4,λb g hp=>(h6.gh b g hp).heap (by rw[e1]),h6.fresh,λb g hp hm hz=>?_,λb g hp hm ho=>h6.yP b g hp hm (e6 _ ho),h6.jl⟩;rcases e5 _ hz with h|h
 ·exact h6.DB b g hp hm h
 ·exact h6.yP b g hp hm h
def aiP{c:Code}{σ':St}(h:l8 n0 σ σ')(hw:WM P N n0 c Q σ' μ):WM P N n0 c Q σ μ :=
 λos γ0 a w hn az=>hw os γ0 a w hn (h.ZI hn az)
def l8.ar(l:List (Nat×AV))(os:List Ob)(ho:σ.aa=os)(h:Has σ.env l):l8 n0 σ ⟨ar l,os⟩:=by
 subst ho;intro os γ0 γ _ hs hf;refine⟨γ,rfl,rfl,⟨λk=>?_,hs.ec,hs.inj,hs.nz,hs.gV,hs.gl⟩,hf,λ_ h=>.inl h,λ_ h=>h⟩;rcases HB l k with h'|⟨p,hp,rfl,h'⟩
 ·show aw _ _ _ _ (Am.ar l k) _;rw[h'];exact .undef _
 ·show aw _ _ _ _ (Am.ar l p.1) _;rw[h',<- h.mem p hp];exact hs.ar p.1
theorem l8.se(aj:List Nat)(snap:Bool){l:List (Nat×AV)}{co:List Ob}(ho:qL (bE σ.aa.length aj) σ.aa aj co)(h:uu (a7 σ (kept aj co) (bE σ.aa.length aj) snap) σ.env l)(bG:aj.Nodup:=by decide)(hn:n0<=aj.length:=by decide)(bZ:∀ i,i<n0->aj.getD i 0=i:=by decide):l8 n0 σ ⟨Am.ar l,co⟩:=by
 intro os γ0 γ C8 hs hf;obtain⟨h1,h2,h3⟩:=ho.spec;obtain⟨aC,a1,a2,a3,a4⟩:=hs.select aj snap co bG h1 h2 h3 (Am.ar l) γ.tmps (fun k=>by
  rcases HB l k with h'|⟨p,hp,rfl,h'⟩
  ·exact .inl h'
  ·right;rw[h'];exact⟨_,h.mem p hp,hs.ar p.1⟩)
 obtain⟨b1,b2,b3,b4⟩:=a4;refine⟨aC,a1,a2,a3,hf.select (by omega) h1 (fun i hi=>bZ i (by omega)) a1 ⟨b1,b2,b3,b4⟩,b3,?_⟩;rintro b⟨i,o,c,hi,hb⟩;have aX:=hi.lt;rw[b1 i aX]at hb;exact⟨_,o,c,(b4 i hi).1,hb⟩
def IK{α:Type}{c:Code}(S:α->St)(I:α->Mem->Prop)(M:α->Nat)(x0:α)(hI:I x0 μ)(h0:l8 n0 σ (S x0))(round:∀ x m0,I x m0->∀ Q':Exit->St->Mem->Prop,(∀ s m y,I y m->M y<M x->l8 n0 s (S y)->Q' .normal s m)->(∀ e s m,uX e=false->Q e s m->Q' e s m)->WM P N n0 c Q' (S x) m0):WM P N n0 (.loop c) Q σ μ:=by
 refine aiP h0 ?_;intro os γ0 a w hn az b k cs;have key:∀ n x m0 a w,M x=n->I x m0->iR N os γ0 (S x) m0 a w ->
   ∃ e a' w',(∃ σ' dH,Q e σ' dH/\iR N os γ0 σ' dH a' w')/\Arrives P (lone (b.at a (.code c::.inLoop c::k)) cs w) b k cs e a' w':=by
  intro n
  induction n using Nat.strongRecOn with
  |_ n ih =>
   intro x m0 a w hm hI az;have hr:=round x m0 hI (λe s m=>(e=.normal->∃ y,I y m/\M y<M x/\l8 n0 s (S y))/\(e≠.normal->Q e s m)) (λs m y h1 h2 h3=>⟨λ_=>⟨y,h1,h2,h3⟩,λh=>absurd rfl h⟩)
    (λe s m he h=>⟨λe2=>absurd e2 (Iz he),λ_=>h⟩)
   obtain⟨e,ta,uv,⟨σ',dH,hq,c8⟩,oW⟩:=hr os γ0 a w hn az b (.inLoop c::k) cs;cases e with
   |normal =>
    obtain⟨y,Lp,aX,ht⟩:=hq.1 rfl;obtain⟨Lr,Ls,Lt,Lu,Lv⟩:=ih (M y) Ey y _ ta uv rfl Lp (ht.ZI hn c8);exact⟨Lr,Ls,Lt,Lu,.of_steps (Steps.trans oW (.one step_inLoop)) Lv⟩
   |exit id=>exact⟨_,ta,uv,⟨σ',dH,hq.2 G9,c8⟩,.pass (x:=.inLoop c) rfl (λ_ _=>.inl G9) oW⟩
   |goto l=>exact⟨_,ta,uv,⟨σ',dH,hq.2 G9,c8⟩,.pass (x:=.inLoop c) rfl (λ_ _=>.inl G9) oW⟩
   |ret=>exact⟨_,ta,uv,⟨σ',dH,hq.2 G9,c8⟩,.pass (x:=.inLoop c) rfl (λ_ _=>.inl G9) oW⟩
   |panic ch=>exact⟨_,ta,uv,⟨σ',dH,hq.2 G9,c8⟩,.pass (x:=.inLoop c) rfl (λ_ _=>.inl G9) oW⟩
   |outgrown=>exact⟨_,ta,uv,⟨σ',dH,hq.2 G9,c8⟩,.pass (x:=.inLoop c) rfl (λ_ _=>.inl G9) oW⟩
 obtain⟨e,a',w',hq,oW⟩:=key _ x0 _ a w rfl hI az;exact⟨e,a',w',hq,.of_steps (.one step_loop) oW⟩
def aiQ{c:Code}{Q:Exit->St->Prop}(h:WM P N n0 c (λe s _=>Q e s) σ xO):W P N n0 c Q σ:=by
 rintro os γ0 a w hn⟨h1,h2,γ,rfl,h3,h4,h5⟩;refine wp_mono (h os γ0 a γ.w hn ⟨h1,h2,γ,rfl,h3,h4,h5,qf.nil _ _ _ _⟩) ?_;rintro e a' w'⟨σ',dH,hq,k1,k2,aC,rfl,k3,k4,k5,k6⟩;exact⟨σ',hq,k1,k2,aC,rfl,k3,k4,k5⟩
def aiR{c:Code}{Q:Exit->St->Prop}(i:Nat){ag:Nat}{L:List (List Int×AV)}(hi:σ.aa[i]?=some (.mp ag L))(h:∀ b,WM P N σ.aa.length c (λe s _=>Q e s) σ (iQ xO b (.jl i))):W P N n0 c Q σ:=by
 rintro os γ0 a w hn⟨h1,h2,γ,rfl,h3,h4,h5⟩;obtain⟨b,f,hb,hh,_⟩:=h4.ec i _ hi;have hl:=(aY.1 hi).1;refine wp_mono (h b σ.aa γ a γ.w rfl ⟨h1,h2,γ,rfl,h3,h4,Fr.refl _ _,?_⟩) ?_
 ·have one:∀ k g,iQ xO b (.jl i) k=some g->k=b/\g=.jl i:=λk g hk=>by
   by_cases e:k=b
   ·subst e;rw[tB]at hk;exact⟨rfl,by simpa using hk.symm⟩
   ·rw[qZ _ _ e]at hk;cases hk
  refine⟨λk g hk=>?_,λk g hk hm=>?_,λk g hk hm=>?_,λk g hk hm=>?_,λk j hk=>?_⟩<;>obtain⟨rfl,e⟩:=one _ _ hk
  ·subst e;trivial
  ·subst e;exact hm.elim
  ·subst e;exact hm.elim
  ·subst e;exact hm.elim
  ·cases e;exact⟨hl,hb,(nA.1 hh).1⟩
 rintro e a' w'⟨σ',dH,hq,k1,k2,aC,rfl,k3,k4,k5,k6⟩;exact⟨σ',hq,k1,k2,aC,rfl,k3,k4,h5.trans k5⟩
end Go.Am
namespace Go.Am
variable {P:Program} {N n0:Nat} {σ:St}
def iE(L:List (Int×Value)):List (Value×Value):=L.map λp=>(.int .i64 p.1,p.2)
def kZ(x:Int)(v:Value):List (Int×Value)->List (Int×Value)
 |[]=>[(x,v)]
 |p::r=>if p.1=x then(x,v)::r else p::kZ x v r
def oH(x:Int):List (Int×Value)->Option Value
 |[]=>none
 |p::r=>if p.1=x then some p.2 else oH x r
def tD(x:Int):List (Int×Value)->Nat->Option (Nat×Value)
 |[],_=>none
 |p::r,i=>if p.1=x then some (i,p.2) else tD x r (i+1)
def ZJ(x:Int):∀ (L:List (Int×Value)) (i:Nat),(tD x L i).map (·.2)=oH x L
 |[],_=>rfl
 |p::r,i=>by
  rw[tD,oH];split
  ·rfl
  ·exact ZJ x r (i+1)
def ZK(x:Int)(v:Value):∀ (L:List (Int×Value)) (i:Nat),tD x L i=none->kZ x v L=L++[(x,v)]
 |[],_,_=>rfl
 |p::r,i,h=>by
  rw[tD]at h;split at h
  ·cases h
  ·rename_i hp;rw[kZ,if_neg hp,ZK x v r (i+1) h];rfl
def ZL(x:Int)(v:Value):∀ (L:List (Int×Value)) (i j:Nat) (u:Value),tD x L i=some (j,u)->i<=j/\L[j-i]?=some (x,u)/\kZ x v L=L.set (j-i) (x,v)
 |[],_,_,_,h=>by cases h
 |p::r,i,j,u,h=>by
  rw[tD]at h;split at h
  ·rename_i hp;simp only[cH.injEq,Prod.mk.injEq]at h;obtain⟨rfl,rfl⟩:=h;refine⟨aZ _,?_,?_⟩
   ·rw[jC];simp[<- hp]
   ·rw[jC,kZ,if_pos hp];rfl
  ·rename_i hp;obtain⟨h1,h2,h3⟩:=ZL x v r (i+1) j u h;have e:j-i=(j-(i+1))+1:=Ey;refine⟨Ey,?_,?_⟩
   ·rw[e,List.getElem?_cons_succ];exact h2
   ·rw[e,kZ,if_neg hp,h3];rfl
def ZM{k:TypeDesc}(hk:k=.int .i64)(x:Int):∀ (L:List (Int×Value)) (f:Nat->Nat) (i:Nat),Instr.findNow k (.int .i64 x) ((iE L).mapIdx λi p=>(⟨p.1,p.2,f i⟩:MapEntry)) i=some (tD x L i)
 |[],_,_=>rfl
 |p::r,f,i=>by
  subst hk;simp only[iE,List.map_cons,List.mapIdx_cons,Instr.findNow,Instr.sameNow,if_true,tD];by_cases h:p.1=x
  ·rw[if_pos h];subst h;simp
  ·rw[if_neg h];have:(x==p.1)=false:=by simpa using λe=>h e.symm
   rw[this];simpa [iE] using ZM rfl x r (λj=>f (j+1)) (i+1)
def run_findKey{kt:TypeId}(hk:P.underlying kt=some (.int .i64))(x:Int)(L:List (Int×Value))(w:World):(Instr.findKey kt (.int .i64 x) (c9 (iE L)).toList).run P w=.ok (tD x L 0) w:=by
 have h:=ZM (k:=.int .i64) rfl x L id 0;simp only[id]at h;simp[Instr.findKey,run_underlying hk,uD,h]
def run_checkKey{kt:TypeId}(hk:P.underlying kt=some (.int .i64))(e:Bool)(x:Int)(w:World):(Instr.checkKey e 10000 kt (.int .i64 x)).run P w=.ok () w:=by
 have h:∀ d:Nat,(Instr.checkKey e (d+1) kt (.int .i64 x)).run P w=.ok () w:=λd=>by simp[Instr.checkKey,run_underlying hk]
 exact h 9999
def aiS{t kt et:TypeId}(ht:P.underlying t=some (.map kt et))(hk:P.underlying kt=some (.int .i64)){z:Value}{w:World}(hz:(zeroValue et).run P w=.ok z w){b n:Nat}{L:List (Int×Value)}(hb:w.heap[b]?=some (.map (c9 (iE L)) n))(x:Int):(Instr.lookup t (.map (some b)) (.int .i64 x) false).run P w=.ok ((oH x L).getD z) w:=by
 rw[<- ZJ x L 0];simp only[Instr.lookup,Sem.run_bind,run_underlying ht,MapKept.run_getObj_map hb,run_checkKey hk,run_findKey hk,Result.andThen_ok,Sem.run_pure];cases h:tD x L 0 with
 |none=>simp[hz]
 |some q=>simp
def aiT{t kt et:TypeId}(ht:P.underlying t=some (.map kt et))(hk:P.underlying kt=some (.int .i64)){z:Value}{w:World}(hz:(zeroValue et).run P w=.ok z w)(x:Int):
  (Instr.lookup t (.map none) (.int .i64 x) false).run P w=.ok z w:=by
 have h:=run_findKey (P:=P) hk x [] w;have e:(c9 (iE [])).toList=(#[]:Array MapEntry).toList:=rfl;rw[e]at h;simp only[Instr.lookup,Sem.run_bind,run_underlying ht,run_checkKey hk,h,Result.andThen_ok,Sem.run_pure];simp[tD,hz]
def aiU{t kt et:TypeId}(ht:P.underlying t=some (.map kt et))(hk:P.underlying kt=some (.int .i64)){w:World}{b:Nat}{L:List (Int×Value)}(hb:w.heap[b]?=some (.map (c9 (iE L)) L.length))(x:Int)(v:Value):
  (Instr.mapUpdate t (.map (some b)) (.int .i64 x) v).run P w=.ok () { w with heap:=w.heap.setIfInBounds b (.map (c9 (iE (kZ x v L))) (kZ x v L).length) }:=by
 simp only[Instr.mapUpdate,Sem.run_bind,run_underlying ht,MapKept.run_getObj_map hb,run_checkKey hk,run_findKey hk,Result.andThen_ok];cases h:tD x L 0 with
 |none =>
  have h2:=ZK x v L 0 h;have e:=L1 (iE L) (.int .i64 x,v);rw[show(iE L).length=L.length by simp[iE]]at e;simp only[MapKept.run_setObj_map _ hb,e,h2,show iE (L++[(x,v)])=iE L++[(.int .i64 x,v)] by simp[iE],List.length_append,List.length_singleton]
 |some q =>
  obtain⟨j,u⟩:=q;obtain⟨_,h2,h3⟩:=ZL x v L 0 j u h;rw[Nat.sub_zero]at h2 h3;have EX:(((c9 (iE L))[j]?).map (·.key)).getD (.int .i64 x)=.int .i64 x:=by
   simp[c9,iE,h2]
  have Fy:Instr.sameBits 10000 (.int .i64 x) (.int .i64 x)=true:=by simp[Instr.sameBits]
  have dF:(Instr.keyThatStays (.int .i64 x) (.int .i64 x)).run P w=.ok (.int .i64 x) w:=by simp[Instr.keyThatStays,Fy]
  have e:=HP (iE L) j (λe=>{ e with key:=.int .i64 x,val:=v }) (.int .i64 x,v) (λq _=>rfl);have e2:(iE L).set j (.int .i64 x,v)=iE (kZ x v L):=by rw[h3];simp[iE,List.map_set]
  simp only[EX,Sem.run_bind,dF,Result.andThen_ok,MapKept.run_setObj_map _ hb];rw[e,e2,h3,List.length_set]
def ZN{t kt et:TypeId}(ht:P.underlying t=some (.map kt et)){w:World}{b n:Nat}{es:Array MapEntry}(hb:w.heap[b]?=some (.map es n)):
  (Instr.range t (.map (some b))).run P w=.ok (.pointer (some ⟨w.heap.size,0,none⟩)) (w.alloc (.mapIter (some b) n #[] n)):=run_range_map w t kt et b es n ht hb
def ZO{ents:List (Value×Value)}{x:MapEntry}(h:x∈(c9 ents).toList):x.born<ents.length/\ents[x.born]?=some (x.key,x.val):=by
 rw[uD]at h;obtain⟨i,hi,rfl⟩:=List.mem_mapIdx.1 h;exact⟨hi,by simp[hi]⟩
def ZP{w:World}{r b n:Nat}{seen:List Nat}{ents:List (Value×Value)}(hn:n=ents.length)(hr:w.heap[r]?=some (.mapIter (some b) n seen.toArray n))(hb:w.heap[b]?=some (.map (c9 ents) n))(ty:TypeId):
  ((∀ j<ents.length,j∈seen)/\(Instr.next (.pointer (some ⟨r,0,none⟩)) false ty).run P w=.ok (.tuple #[.bool false]) w) \/
  ∃ j p d,ents[j]?=some p/\j ∉ seen/\w.drawn<=d/\(Instr.next (.pointer (some ⟨r,0,none⟩)) false ty).run P w=.ok (.tuple #[.bool true,p.1,p.2]) { w with heap:=w.heap.setIfInBounds r (.mapIter (some b) n (seen++[j]).toArray n),drawn:=d }:=by
 subst hn;have hold:∀ x∈(c9 ents).toList,x.born<ents.length:=λx hx=>(ZO hx).1;simp only[Instr.next,getObj,Sem.run_bind,Sem.run,hr,hb,Result.andThen,next_test_false seen.toArray (c9 ents) ents.length ents.length hold (aZ _),jB,if_false];have hL:∀ x,x∈((c9 ents).filter λe=>!seen.toArray.contains e.born).toList↔x∈(c9 ents).toList/\x.born ∉ seen:=by
  intro x;simp
 have bR:∀ x∈((c9 ents).filter λe=>!seen.toArray.contains e.born).toList,x.born<ents.length:=λx hx=>hold x ((hL x).1 hx).1;generalize (c9 ents).filter (λe=>!seen.toArray.contains e.born)=L at bR hL ⊢;have e1:L.filter (λx=>decide (x.born<ents.length))=L:=Array.filter_eq_self.2 (λx hx=>by simpa using bR x (by simpa using hx));have e2:L.filter (λx=>decide (x.born >= ents.length)) = #[]:=by
  rw[Array.filter_eq_empty_iff];intro x hx;have:=bR x (by simpa using hx);simp;omega
 simp only[e1,e2,Array.append_empty];by_cases h0:L.size=0
 ·left;have:L = #[]:=Array.eq_empty_of_size_eq_zero h0;subst this;refine⟨λj hj=>?_,?_⟩
  ·cases hc:decide (j∈seen) with
   |true=>exact of_decide_eq_true hc
   |false =>
    have zL:=of_decide_eq_false hc;have:=(hL ⟨(ents[j]).1,(ents[j]).2,j⟩).2 ⟨by rw[uD];exact List.mem_mapIdx.2 ⟨j,hj,rfl⟩,zL⟩;simp at this
  ·simp[choose,Sem.run,Question.forced]
 ·right;have cE:L.isEmpty=false:=by simp[Array.isEmpty,h0]
  simp only[cE,jB,if_false,Array.empty_append,Array.size_map];have lZ :∃(j:Nat) (d:Nat),j<L.size/\w.drawn<=d/\(choose (Question.mapNext L.size)).run P w=.ok j { w with drawn:=d }:=by
   by_cases hf:L.size<=1
   ·exact⟨0,w.drawn,Ey,aZ _,by simp[choose,Sem.run,Question.forced,hf]⟩
   ·exact⟨_,w.drawn+1,Nat.mod_lt _ Ey,Nat.le_succ _,by
     simp only[choose,Sem.run,Question.forced,decide_eq_true_eq,hf,if_false,Question.cut];rfl⟩
  obtain⟨j,d,hj,Nj,fj⟩:=lZ;have hx:=(hL L[j]).1 G9;obtain⟨h1,h2⟩:=ZO hx.1;refine⟨L[j].born,_,d,h2,hx.2,Nj,?_⟩;simp only[fj,Array.getElem?_map,Array.getElem?_eq_getElem hj,Option.map_some,Sem.run_bind,Result.andThen];simp only[setObj,Sem.run,hr,List.push_toArray];rfl
def ZQ{w:World}{r b n j:Nat}{seen:List Nat}{ents:List (Value×Value)}{p:Value×Value}(hn:n=ents.length)(hr:w.heap[r]?=some (.mapIter (some b) n (seen++[j]).toArray n))(hb:w.heap[b]?=some (.map (c9 ents) n))(hp:ents[j]?=some p):(Instr.entry (.pointer (some ⟨r,0,none⟩))).run P w=.ok (.tuple #[p.1,p.2]) w:=by
 have hj:=(aY.1 hp).1;have hm:(⟨p.1,p.2,j⟩:MapEntry)∈(c9 ents).toList:=by
  rw[uD];refine List.mem_mapIdx.2 ⟨j,hj,?_⟩;rw[bx hj]at hp;simp only[cH.injEq]at hp;rw[hp]
 have bG:((c9 ents).toList.map (·.born)).Nodup:=by
  rw[uD];have:(ents.mapIdx λi p=>(⟨p.1,p.2,i⟩:MapEntry)).map (·.born)=List.range ents.length:=by
   apply lq;intro i;simp only[bM,QL];rcases Nat.lt_or_ge i ents.length with h|h
   ·simp[h]
   ·simp[h]
  rw[this];exact List.nodup_range
 have hf:(c9 ents).find? (·.born==j)=some ⟨p.1,p.2,j⟩:=by rw[<- Array.find?_toList];exact find_born ⟨p.1,p.2,j⟩ _ bG hm
 simp only[Instr.entry,getObj,Sem.run_bind,Sem.run,hr,hb,Result.andThen,List.back?_toArray,List.getLast?_append,List.getLast?_singleton,Option.some_or,bne_self_eq_false,jB,if_false,hf];rfl
def aiV(w:World)(t kt et:TypeId)(a:Option Nat)(ht:P.underlying t=some (.map kt et)):(binOp .eql t (.map a) (.map none)).run P w=.ok (.bool a.isNone) w:=by
 have h:∀ d:Nat,(Op.equalIn (d+1) t (.map a) (.map none)).run P w=.ok a.isNone w:=λd=>by
  cases a<;>simp[Op.equalIn,run_underlying ht]
 simp[binOp,Op.equal,Op.maxDepth,h]
def aiW(w:World)(t kt et:TypeId)(a:Option Nat)(ht:P.underlying t=some (.map kt et)):(binOp .neq t (.map a) (.map none)).run P w=.ok (.bool (!a.isNone)) w:=by
 have h:∀ d:Nat,(Op.equalIn (d+1) t (.map a) (.map none)).run P w=.ok a.isNone w:=λd=>by
  cases a<;>simp[Op.equalIn,run_underlying ht]
 simp[binOp,Op.equal,Op.maxDepth,h]
end Go.Am
namespace Go.Am
variable {P:Program} {N n0:Nat} {σ:St}
def bz.BM{γ:Cx}(h:bz σ γ){w':World}{b:Nat}(hz:¬ γ.Z b)(ho:¬ pO σ.aa γ.blk b)(hk:∀ k,k≠b->k<γ.w.heap.size->w'.heap[k]?=γ.w.heap[k]?)(aO:γ.w.heap.size<=w'.heap.size):bz σ { γ with w:=w' }:=by
 have hR:∀ v cv,aw σ.aa γ.w γ.Z γ.blk v cv->aw σ.aa w' γ.Z γ.blk v cv:=λv cv hv =>
  hv.mono (λk Nv=>⟨Nv,hk k (λe=>hz (e▸Nv)) (h.gV k Nv)⟩) (λi x hx=>by
   by_cases bL:x=.gone
   ·subst bL;exact .inl hx
   ·exact .inr ⟨rfl,x,hx,Ob.jS bL⟩)
 refine⟨λk=>hR _ _ (h.ar k),λi o hi=>?_,h.inj,h.nz,λk bj=>Nat.lt_of_lt_of_le (h.gV k bj) aO,λg=>hR _ _ (h.gl g)⟩;by_cases bL:o=.gone
 ·subst bL;trivial
 ·exact(h.ec i o hi).mono hR rfl (λk x c hb=>hk k (λe=>ho ⟨i,x,c,⟨o,hi,bL⟩,e▸hb⟩) (h.blt ⟨o,hi,bL⟩ hb))
theorem Fr.BM{os:List Ob}{γ0 γ:Cx}(h:Fr os γ0 σ.aa γ){w':World}{b:Nat}(hb:γ0.w.heap.size<=b)(hk:∀ k,k≠b->k<γ.w.heap.size->w'.heap[k]?=γ.w.heap[k]?)(aO:γ.w.heap.size<=w'.heap.size)(h1:w'.os=γ.w.os)(h2:w'.tape=γ.w.tape)(h3:w'.output=γ.w.output)(h4:γ.w.drawn<=w'.drawn:=by first|exact Nat.le_refl _|(simp;done)|omega):Fr os γ0 σ.aa { γ with w:=w' } :=
 ⟨h1.trans h.lS,h2.trans h.tape,h3.trans h.output,Nat.le_trans h.size aO,fun k bj ho=>(hk k (by omega) (Nat.lt_of_lt_of_le bj h.size)).trans (h.eA k bj ho),h.z0,h.z1,h.own,h.len,h.eK,Nat.le_trans h.drawn h4⟩
def qf.BM{μ:Mem}{o0 os:List Ob}{γ0 γ:Cx}(h:qf μ o0 os γ0 γ){w':World}{b:Nat}{g:Gh}(hm:g.xN)(hz:¬ γ.Z b)(ho:¬ pO os γ.blk b)(hb:γ0.w.heap.size<=b)(hk:∀ k,k≠b->k<γ.w.heap.size->w'.heap[k]?=γ.w.heap[k]?)(hg:g.At w' b):qf (iQ μ b g) o0 os γ0 { γ with w:=w' }:=by
 have one:∀ k g',iQ μ b g k=some g'->(k=b/\g'=g)\/(k≠b/\μ k=some g'):=λk g' h'=>by
  by_cases e:k=b
  ·subst e;rw[tB]at h';exact .inl ⟨rfl,by simpa using h'.symm⟩
  ·rw[qZ μ g e]at h';exact .inr ⟨e,h'⟩
 refine⟨λk g' h'=>?_,λk g' h' sF=>?_,λk g' h' sF=>?_,λk g' h' sF=>?_,λk i h'=>?_⟩<;>rcases one k _ h' with⟨rfl,e⟩|⟨e,h2⟩
 ·subst e;exact hg
 ·by_cases sF:g'.xN
  ·exact(h.gh k g' h2).heap (hk k e ((h.gh k g' h2).lt sF))
  ·cases g'<;>first|trivial|exact(sF trivial).elim
 ·exact hb
 ·exact h.fresh k g' h2 sF
 ·exact hz
 ·exact h.DB k g' h2 sF
 ·exact ho
 ·exact h.yP k g' h2 sF
 ·subst e;exact hm.elim
 ·exact h.jl k i h2
variable {μ:Mem}
def kA(ag:Nat)(l:List Int):AV:=if ag=0 then .lit (kV ag l) else .agg (l.map λn=>QM n)
def ZR{os:List Ob}{w:World}{Z:Nat->Prop}{blk:gU}(ag:Nat)(l:List Int):aw os w Z blk (kA ag l) (kV ag l):=by
 unfold kA;split
 ·exact .lit _
 ·rename_i h;rw[kV,if_neg h];refine .agg _ _ G9 λj x hx=>?_;simp only[bM,Option.map_eq_some_iff]at hx;obtain⟨n,hn,rfl⟩:=hx;have:(l.map λn=>Value.int .i64 n).toArray.getD j Go.undef=.int .i64 n:=by simp[eU,hn]
  rw[this];exact .lit _
def IF(P:Program)(t:TypeId):Prop:=∃ kt et,P.underlying t=some (.map kt et)/\P.underlying kt=some (.int .i64)
def u3(P:Program)(t:TypeId):Prop:=∃ kt et,P.underlying t=some (.map kt et)
def IE(P:Program)(t:TypeId)(z:Value):Prop:=∃ kt et,P.underlying t=some (.map kt et)/\P.underlying kt=some (.int .i64)/\∀ w:World,(zeroValue et).run P w=.ok z w
def uZ(P:Program)(o:Oper)(op:BinOp)(t:TypeId)(x y:AV)(σ:St)(μ:Mem)(K:St->Mem->Prop):Prop :=
 match x with
 |.lit (.map a)=>u3 P t/\y=.lit (.map none)/\match op with|.eql=>K (σ.put o.dst (.lit (.bool a.isNone))) μ|.neq=>K (σ.put o.dst (.lit (.bool (!a.isNone)))) μ|_=>False
 |_=>aL P o σ λs=>K s μ
def Ad(P:Program)(o:Oper)(args:List AV)(cI:List TypeId)(σ:St)(μ:Mem)(K:St->Mem->Prop):Prop :=
 match args with
 |[.lit (.map (some b))]=>∃ t ents,cI=[t]/\u3 P t/\μ b=some (.map ents)/\K (σ.put o.dst (QM (ents.length:Nat))) μ
 |_=>aL P o σ λs=>K s μ
def e7(P:Program)(o:Oper)(σ:St)(μ:Mem)(K:St->Mem->Prop):Prop :=
 match o.op with
 |.makeMap _ none=>∀ b,μ b=none->K (σ.put o.dst (.lit (.map (some b)))) (iQ μ b (.map []))
 |.lookup t x i false=>∃ n z,ev σ i=QM n/\IE P t z /\
   ((ev σ x=.lit (.map none)/\K (σ.put o.dst (.lit z)) μ)\/∃ b L,ev σ x=.lit (.map (some b))/\μ b=some (.map (iE L))/\K (σ.put o.dst (.lit ((oH n L).getD z))) μ)
 |.mapUpdate t m k x=>∃ b n L v,IF P t/\ev σ m=.lit (.map (some b))/\ev σ k=QM n/\ev σ x=.lit v/\μ b=some (.map (iE L))/\K (σ.put o.dst .undef) (iQ μ b (.map (iE (kZ n v L))))
 |.range t x=>(∃ b ents,u3 P t/\ev σ x=.lit (.map (some b))/\μ b=some (.map ents)/\∀ r,μ r=none->K (σ.put o.dst (.lit (.pointer (some ⟨r,0,none⟩)))) (iQ μ r (.iter b ents.length []))) \/
   ∃ b i ag L,u3 P t/\ev σ x=.dD i/\σ.aa[i]?=some (.mp ag L)/\μ b=some (.jl i)/\∀ r,μ r=none->K (σ.put o.dst (.lit (.pointer (some ⟨r,0,none⟩)))) (iQ μ r (.iter b L.length []))
 |.next x false=>(∃ r b seen ents,ev σ x=.lit (.pointer (some ⟨r,0,none⟩))/\μ r=some (.iter b ents.length seen)/\μ b=some (.map ents) /\
   ((∀ j<ents.length,j∈seen)->K (σ.put o.dst (.bC [.lit (.bool false)])) μ) /\
   ∀ j p,ents[j]?=some p->j ∉ seen->K (σ.put o.dst (.bC [.lit (.bool true),.lit p.1,.lit p.2])) (iQ μ r (.iter b ents.length (seen++[j])))) \/
   ∃ r b i ag L seen,ev σ x=.lit (.pointer (some ⟨r,0,none⟩))/\μ r=some (.iter b (nF L) seen)/\μ b=some (.jl i)/\σ.aa[i]?=some (.mp ag L) /\
   ((∀ j<L.length,j∈seen)->K (σ.put o.dst (.bC [.lit (.bool false)])) μ) /\
   ∀ j p,L[j]?=some p->j ∉ seen->K (σ.put o.dst (.bC [.lit (.bool true),kA ag p.1,p.2])) (iQ μ r (.iter b L.length (seen++[j])))
 |.entry x=>(∃ r b seen j ents p,ev σ x=.lit (.pointer (some ⟨r,0,none⟩))/\μ r=some (.iter b ents.length (seen++[j]))/\μ b=some (.map ents)/\ents[j]?=some p/\K (σ.put o.dst (.bC [.lit p.1,.lit p.2])) μ) \/
   ∃ r b i ag L seen j p,ev σ x=.lit (.pointer (some ⟨r,0,none⟩))/\μ r=some (.iter b (nF L) (seen++[j]))/\μ b=some (.jl i)/\σ.aa[i]?=some (.mp ag L)/\L[j]?=some p/\K (σ.put o.dst (.bC [kA ag p.1,p.2])) μ
 |.binOp op t x y _=>uZ P o op t (ev σ x) (ev σ y) σ μ K
 |.call ⟨.builtin .len,args,cI⟩=>Ad P o (args.toList.map (ev σ)) cI.toList σ μ K
 |_=>aL P o σ λs=>K s μ
def iR.aiX{os:List Ob}{γ0:Cx}{a:Act}{w:World}(h:iR N os γ0 σ μ a w):∃γ:Cx,gp N σ.aa γ σ a w/\∀ σ' a' w',gp N σ.aa γ σ' a' w'->iR N os γ0 σ' μ a' w':=by
 obtain⟨iK,aO,γ,rfl,ha,hs,hf,hm⟩:=h;refine⟨γ,⟨iK,aO,γ,rfl,ha,hs,Fr.refl _ _⟩,?_⟩;rintro σ' a' w'⟨Nt,Nu,aC,rfl,nQ,je,fS⟩;exact⟨Nt,Nu,aC,rfl,nQ,je,hf.trans fS,hm.eA fS⟩
def iR.xP{os:List Ob}{γ0:Cx}{a:Act}{w:World}(h:iR N os γ0 σ μ a w){o:Oper}(hd:∀ d,o.dst=some d->d<N){v:AV}{cv:Value}(hv:∀ γ:Cx,γ.w=w->bz σ γ->Fr os γ0 σ.aa γ->qf μ os σ.aa γ0 γ->aw σ.aa γ.w γ.Z γ.blk v cv):iR N os γ0 (σ.put o.dst v) μ (a.put o.dst cv) w:=by
 obtain⟨iK,aO,γ,rfl,ha,hs,hf,hm⟩:=h;refine⟨by rw[put_defers];exact iK,by rw[vK];exact aO,{ γ with tmps:=(a.put o.dst cv).tmps },rfl,rfl,s9 hs ha (λd h=>by rw[aO];exact hd d h) (hv γ rfl hs hf hm),?_,?_⟩
 ·rw[rM];exact hf.put _
 ·rw[rM];exact⟨hm.gh,hm.fresh,hm.DB,hm.yP,hm.jl⟩
theorem iR.block{os:List Ob}{γ0:Cx}{a:Act}{w w':World}(h:iR N os γ0 σ μ a w){b:Nat}{g:Gh}(DC:g.xN)(hb:(∃ g',μ b=some g'/\g'.xN)\/b=w.heap.size)(hk:∀ k,k≠b->k<w.heap.size->w'.heap[k]?=w.heap[k]?)(aO:w.heap.size<=w'.heap.size)(h1:w'.os=w.os)(h2:w'.tape=w.tape)(h3:w'.output=w.output)(hg:g.At w' b)(h4:w.drawn<=w'.drawn:=by first|exact Nat.le_refl _|(simp;done)|omega):iR N os γ0 σ (iQ μ b g) a w':=by
 obtain⟨iK,yQ,γ,rfl,ha,hs,hf,hm⟩:=h;have ba:¬ γ.Z b/\¬ pO σ.aa γ.blk b/\γ0.w.heap.size<=b:=by
  rcases hb with⟨g',uy,Nw⟩|rfl
  ·exact⟨hm.DB _ _ uy Nw,hm.yP _ _ uy Nw,hm.fresh _ _ uy Nw⟩
  ·refine⟨fun hz=>Nat.lt_irrefl _ (hs.gV _ hz),?_,hf.size⟩;rintro⟨i,o,c,hl,hb⟩;exact Nat.lt_irrefl _ (hs.blt hl hb)
 exact⟨iK,yQ,{ γ with w:=w' },rfl,ha,hs.BM ba.1 ba.2.1 hk aO,hf.BM ba.2.2 hk aO h1 h2 h3 h4,hm.BM DC ba.1 ba.2.1 ba.2.2 hk hg⟩
def iR.ev{os:List Ob}{γ0:Cx}{a:Act}{w:World}(h:iR N os γ0 σ μ a w){x:Operand}{v:Value}(hx:ev σ x=.lit v):a.eval x=v:=by
 obtain⟨_,_,γ,rfl,ha,hs,_⟩:=h;have:=uA hs ha x;rw[hx]at this;exact this.cO
def iR.at{os:List Ob}{γ0:Cx}{a:Act}{w:World}(h:iR N os γ0 σ μ a w){b:Nat}{g:Gh}(hb:μ b=some g):g.At w b:=by
 obtain⟨_,_,γ,rfl,ha,hs,_,hm⟩:=h;exact hm.gh _ _ hb
def iR.none{os:List Ob}{γ0:Cx}{a:Act}{w:World}(h:iR N os γ0 σ μ a w):μ w.heap.size=none:=by
 cases hb:μ w.heap.size with
 |none=>rfl
 |some g =>
  by_cases hm:g.xN
  ·exact absurd ((h.at hb).lt hm) (Nat.lt_irrefl _)
  ·cases g<;>first|exact(hm trivial).elim|skip
   obtain⟨_,_,γ,rfl,_,_,hf,yM⟩:=h;have:=(yM.jl _ _ hb).2.2;have:=hf.size;omega
def ZS{os:List Ob}{γ0 γ:Cx}(hs:bz σ γ)(hf:Fr os γ0 σ.aa γ)(hm:qf μ os σ.aa γ0 γ){b i ag:Nat}{L:List (List Int×AV)}(hb:μ b=some (.jl i))(hi:σ.aa[i]?=some (.mp ag L)):
  ∃ f:Nat->Value,γ.w.heap[b]?=some (.map (c9 (dy ag f L)) L.length)/\∀ (j:Nat) p,L[j]?=some p->aw σ.aa γ.w γ.Z γ.blk p.2 (f j):=by
 obtain⟨b',f,h1,h2,_,h3⟩:=hs.ec i _ hi;have:=(hf.eK i (hm.jl _ _ hb).1 ⟨_,hi,G9⟩).1;rw[this,(hm.jl _ _ hb).2.1]at h1;cases h1;exact⟨f,h2,h3⟩
def aiY{x y:List (Value×Value)}(h:c9 x=c9 y):x=y:=by
 have e:∀ z:List (Value×Value),(c9 z).toList.map (λe=>(e.key,e.val))=z:=λz=>by
  rw[uD];apply lq;intro j;simp only[bM,QL];cases z[j]?<;>rfl
 rw[<- e x,<- e y,h]
def IL{ag:Nat}{f:Nat->Value}{L:List (List Int×AV)}{j:Nat}{q:List Int×AV}(h:L[j]?=some q):(dy ag f L)[j]?=some (kV ag q.1,f j):=by simp[dy,h]
def iR.seen{os:List Ob}{γ0:Cx}{a:Act}{w:World}(h:iR N os γ0 σ μ a w){b i ag:Nat}{L:List (List Int×AV)}(hb:μ b=some (.jl i))(hi:σ.aa[i]?=some (.mp ag L)):
  ∃ f:Nat->Value,w.heap[b]?=some (.map (c9 (dy ag f L)) (dy ag f L).length) /\
   ∀ (γ:Cx) (dH:Mem),γ.w.heap[b]?=w.heap[b]?->dH b=some (.jl i)->bz σ γ->Fr os γ0 σ.aa γ->qf dH os σ.aa γ0 γ->∀ (j:Nat) p,L[j]?=some p->aw σ.aa γ.w γ.Z γ.blk p.2 (f j):=by
 obtain⟨_,_,γ,rfl,ha,hs,hf,hm⟩:=h;obtain⟨f,h1,h2⟩:=ZS hs hf hm hb hi;refine⟨f,by rw[rV];exact h1,?_⟩;intro aC dH e ba je fS sF j p hj;obtain⟨f',h3,h4⟩:=ZS je fS sF ba hi;rw[e,h1]at h3;simp only[cH.injEq,Obj.map.injEq]at h3;have:=congrArg (λl=>l[j]?) (aiY h3.1);rw[IL hj,IL hj]at this;simp only[cH.injEq,Prod.mk.injEq]at this;rw[this.2];exact h4 j p hj
def ZT(L:List (Int×Value)):(iE L).length=L.length:=by simp[iE]
def ZU{os:List Ob}{γ0:Cx}{o:Oper}{K:St->Mem->Prop}(h:e7 P o σ μ K){a:Act}{w:World}(az:iR N os γ0 σ μ a w)(hd:∀ d,o.dst=some d->d<N){Q:Exit->Act->World->Prop}{next:Act->World->Prop}(hn:∀ σ' dH a' w',K σ' dH->iR N os γ0 σ' dH a' w'->next a' w'):o.wp P a w next Q:=by
 have gen:aL P o σ (λs=>K s μ)->o.wp P a w next Q:=λhg=>by
  obtain⟨γ,h1,h2⟩:=az.aiX;exact yy hg h1 hd (λσ' a' w' hK c8=>hn _ _ _ _ hK (h2 _ _ _ c8))
 have lit:∀ (v:Value) w',(execOp a.eval o).run P w=.ok (.value v) w'->∀ dH,iR N os γ0 σ dH a w'->K (σ.put o.dst (.lit v)) dH->o.wp P a w next Q:=λv w' hr dH c8 hK=>by
  unfold Oper.wp;rw[hr];exact hn _ _ _ _ hK (c8.xP hd (λγ _ _ _ _=>aw.lit v))
 obtain⟨dst,op,type,pos,after,guard⟩:=o;unfold e7 at h;cases op
 case makeMap t r =>
  cases r with
  |some r=>exact gen h
  |none =>
   refine lit (.map (some w.heap.size)) (w.alloc (.map #[] 0)) (by simp[execOp,Instr.makeMap]) _ ?_ (h w.heap.size az.none);exact az.block trivial (.inr rfl) (λk _ hk=>by rw[heap_alloc_old _ _ hk]) (by show w.heap.size<=(w.heap.push _).size;simp) rfl rfl rfl (by rw[Gh.At,heap_alloc_new];rfl)
 case lookup t x i ok =>
  cases ok with
  |true=>exact gen h
  |false =>
   obtain⟨n,z,hi,⟨kt,et,ht,hk,hz⟩,h⟩:=h;rcases h with⟨hx,hK⟩|⟨b,L,hx,hb,hK⟩
   ·exact lit z w (by simp[execOp,az.ev hx,az.ev hi,aiT ht hk (hz w)]) μ az hK
   ·exact lit _ w (by simp[execOp,az.ev hx,az.ev hi,aiS ht hk (hz w) (az.at hb)]) μ az hK
 case mapUpdate t m k x =>
  obtain⟨b,n,L,v,⟨kt,et,ht,hk⟩,hm,hi,hx,hb,hK⟩:=h;have oI:=az.at hb;rw[Gh.At,ZT]at oI;have aX:=(nA.1 oI).1;have hr:=aiU (P:=P) ht hk oI n v;unfold Oper.wp;have eR:(execOp a.eval ⟨dst,.mapUpdate t m k x,type,pos,after,guard⟩).run P w=.ok .skip { w with heap:=w.heap.setIfInBounds b (.map (c9 (iE (kZ n v L))) (kZ n v L).length) }:=by
   simp[execOp,az.ev hm,az.ev hi,az.ev hx,hr]
  rw[eR];have rR:iR N os γ0 σ (iQ μ b (.map (iE (kZ n v L)))) a { w with heap:=w.heap.setIfInBounds b (.map (c9 (iE (kZ n v L))) (kZ n v L).length) }:=by
   refine az.block trivial (.inl ⟨_,hb,trivial⟩) (λk hk _=>?_) G9 rfl rfl rfl ?_
   ·simp[vC (Ne.symm hk)]
   ·rw[Gh.At,ZT];simp[aX]
  exact hn _ _ _ _ hK (rR.xP hd (λγ _ _ _ _=>.undef _))
 case range t x =>
  rcases h with h|⟨b,i,ag,L,⟨kt,et,ht⟩,hx,hi,hb,hK⟩;rotate_left
  ·obtain⟨f,h1,_⟩:=az.seen hb hi;rw[rV]at h1;have hev:a.eval x=.map (some b):=by
    obtain⟨_,_,γ,rfl,ha,hs,hf,hm⟩:=az;have:=uA hs ha x;rw[hx]at this;have e:=(hf.eK i (hm.jl _ _ hb).1 ⟨_,hi,G9⟩).1;rw[(hm.jl _ _ hb).2.1]at e;generalize a.eval x=v at this ⊢;cases this with
    |cN v cv h=>cases h
    |dD id b' jr L' h ba=>rw[e]at ba;cases ba;rfl
    |rP id cv h h1=>rw[hi]at h;cases h
   refine lit (.pointer (some ⟨w.heap.size,0,none⟩)) (w.alloc (.mapIter (some b) L.length #[] L.length)) (by simp[execOp,hev,ZN ht h1]) _ ?_ (hK w.heap.size az.none);exact az.block trivial (.inr rfl) (λk _ hk=>by rw[heap_alloc_old _ _ hk]) (by show w.heap.size<=(w.heap.push _).size;simp) rfl rfl rfl (by rw[Gh.At,heap_alloc_new])
  obtain⟨b,ents,⟨kt,et,ht⟩,hx,hb,hK⟩:=h;refine lit (.pointer (some ⟨w.heap.size,0,none⟩)) (w.alloc (.mapIter (some b) ents.length #[] ents.length)) (by simp[execOp,az.ev hx,ZN ht (az.at hb)]) _ ?_ (hK w.heap.size az.none);exact az.block trivial (.inr rfl) (λk _ hk=>by rw[heap_alloc_old _ _ hk]) (by show w.heap.size<=(w.heap.push _).size;simp) rfl rfl rfl (by rw[Gh.At,heap_alloc_new])
 case next x s =>
  cases s with
  |true=>exact gen h
  |false =>
   rcases h with h|⟨r,b,i,ag,L,seen,hx,hr,hb,hi,h1,h2⟩;rotate_left
   ·have aX:=(az.at hr).lt trivial;obtain⟨f,fN,lG⟩:=az.seen hb hi;have lY:=az.at hr;rw[Gh.At,<- rV ag f L]at lY;have Fm:r≠b:=λe=>by rw[e,hb]at hr;cases hr
    rcases ZP (P:=P) rfl lY fN type with⟨k1,k2⟩|⟨j,p,d,k1,k2,k4,k3⟩
    ·have eR:(execOp a.eval ⟨dst,.next x false,type,pos,after,guard⟩).run P w=.ok (.value (.tuple #[.bool false])) w:=by simp[execOp,az.ev hx,k2]
     unfold Oper.wp;rw[eR];rw[rV]at k1;exact hn _ _ _ _ (h1 k1) (az.xP hd (λγ _ _ _ _=>.bC _ _ rfl (λi y hi=>by
      cases i with
      |zero=>simp at hi;subst hi;exact aw.lit _
      |succ i=>simp at hi)))
    ·have eR:(execOp a.eval ⟨dst,.next x false,type,pos,after,guard⟩).run P w=.ok (.value (.tuple #[.bool true,p.1,p.2])) { w with heap:=w.heap.setIfInBounds r (.mapIter (some b) L.length (seen++[j]).toArray L.length),drawn:=d }:=by
      rw[rV]at k3;simp[execOp,az.ev hx,k3]
     unfold Oper.wp;rw[eR];have iw:j<L.length:=by have:=(aY.1 k1).1;rw[rV]at this;exact this
     obtain⟨q,hq⟩:∃q,L[j]?=some q:=⟨_,bx iw⟩;rw[IL hq]at k1;cases k1;have rR:iR N os γ0 σ (iQ μ r (.iter b L.length (seen++[j]))) a { w with heap:=w.heap.setIfInBounds r (.mapIter (some b) L.length (seen++[j]).toArray L.length),drawn:=d }:=by
      refine az.block trivial (.inl ⟨_,hr,trivial⟩) (λk hk _=>?_) G9 rfl rfl rfl ?_ k4
      ·simp[vC (Ne.symm hk)]
      ·rw[Gh.At];simp[aX]
     refine hn _ _ _ _ (h2 j q hq k2) (rR.xP hd (λγ hw hs hf hm=>.bC _ _ rfl (λi' y au=>?_)))
     match i',au with
     |0,au=>simp at au;subst au;exact aw.lit _
     |1,au=>simp at au;subst au;exact ZR _ _
     |2,au =>
      simp at au;subst au;exact lG γ _ (by rw[hw];simp[vC Fm]) (by rw[qZ _ _ (Ne.symm Fm)];exact hb) hs hf hm j q hq
     |i'+3,au=>simp at au
   obtain⟨r,b,seen,ents,hx,hr,hb,h1,h2⟩:=h;have aX:=(az.at hr).lt trivial;rcases ZP (P:=P) rfl (az.at hr) (az.at hb) type with⟨k1,k2⟩|⟨j,p,d,k1,k2,k4,k3⟩
   ·have eR:(execOp a.eval ⟨dst,.next x false,type,pos,after,guard⟩).run P w=.ok (.value (.tuple #[.bool false])) w:=by simp[execOp,az.ev hx,k2]
    unfold Oper.wp;rw[eR];exact hn _ _ _ _ (h1 k1) (az.xP hd (λγ _ _ _ _=>.bC _ _ rfl (λi y hi=>by
     cases i with
     |zero=>simp at hi;subst hi;exact aw.lit _
     |succ i=>simp at hi)))
   ·have eR:(execOp a.eval ⟨dst,.next x false,type,pos,after,guard⟩).run P w=.ok (.value (.tuple #[.bool true,p.1,p.2])) { w with heap:=w.heap.setIfInBounds r (.mapIter (some b) ents.length (seen++[j]).toArray ents.length),drawn:=d }:=by simp[execOp,az.ev hx,k3]
    unfold Oper.wp;rw[eR];have rR:iR N os γ0 σ (iQ μ r (.iter b ents.length (seen++[j]))) a { w with heap:=w.heap.setIfInBounds r (.mapIter (some b) ents.length (seen++[j]).toArray ents.length),drawn:=d }:=by
     refine az.block trivial (.inl ⟨_,hr,trivial⟩) (λk hk _=>?_) G9 rfl rfl rfl ?_ k4
     ·simp[vC (Ne.symm hk)]
     ·rw[Gh.At];simp[aX]
    refine hn _ _ _ _ (h2 j p k1 k2) (rR.xP hd (λγ _ _ _ _=>.bC _ _ rfl (λi y hi=>?_)))
    ·match i,hi with
     |0,hi=>simp at hi;subst hi;exact aw.lit _
     |1,hi=>simp at hi;subst hi;exact aw.lit _
     |2,hi=>simp at hi;subst hi;exact aw.lit _
     |i+3,hi=>simp at hi
 case entry x =>
  rcases h with h|⟨r,b,i,ag,L,seen,j,q,hx,hr,hb,hi,hq,hK⟩;rotate_left
  ·obtain⟨f,fN,lG⟩:=az.seen hb hi;have lY:=az.at hr;rw[Gh.At,<- rV ag f L]at lY;have eR:(execOp a.eval ⟨dst,.entry x,type,pos,after,guard⟩).run P w=.ok (.value (.tuple #[kV ag q.1,f j])) w:=by simp[execOp,az.ev hx,ZQ (P:=P) rfl lY fN (IL hq)]
   unfold Oper.wp;rw[eR];exact hn _ _ _ _ hK (az.xP hd (λγ hw hs hf hm=>.bC _ _ rfl (λi' y au=>by
    match i',au with
    |0,au=>simp at au;subst au;exact ZR _ _
    |1,au=>simp at au;subst au;exact lG γ _ (by rw[hw]) hb hs hf hm j q hq
    |i'+2,au=>simp at au)))
  obtain⟨r,b,seen,j,ents,p,hx,hr,hb,hp,hK⟩:=h;have eR:(execOp a.eval ⟨dst,.entry x,type,pos,after,guard⟩).run P w=.ok (.value (.tuple #[p.1,p.2])) w:=by simp[execOp,az.ev hx,ZQ (P:=P) rfl (az.at hr) (az.at hb) hp]
  unfold Oper.wp;rw[eR];exact hn _ _ _ _ hK (az.xP hd (λγ _ _ _ _=>.bC _ _ rfl (λi y hi=>by
   match i,hi with
   |0,hi=>simp at hi;subst hi;exact aw.lit _
   |1,hi=>simp at hi;subst hi;exact aw.lit _
   |i+2,hi=>simp at hi)))
 case binOp op t x y yt =>
  replace h:uZ P _ op t (Am.ev σ x) (Am.ev σ y) σ μ K:=h
  unfold uZ at h;split at h
  ·rename_i m hx;obtain⟨⟨kt,et,ht⟩,hy,h⟩:=h;split at h
   ·exact lit _ w (by simp[execOp,az.ev hx,az.ev hy,eqGuard_at_map,aiV w t kt et m ht]) μ az h
   ·exact lit _ w (by simp[execOp,az.ev hx,az.ev hy,eqGuard_at_map,aiW w t kt et m ht]) μ az h
   ·exact h.elim
  ·exact gen h
 case call c =>
  obtain⟨callee,args,cI⟩:=c;cases callee with
  |value f=>exact gen h
  |invoke r m=>exact gen h
  |builtin b =>
   cases b
   case len =>
    replace h:Ad P _ (args.toList.map (Am.ev σ)) cI.toList σ μ K:=h
    unfold Ad at h;split at h
    ·rename_i b hx;obtain⟨t,ents,oI,⟨kt,et,ht⟩,hb,hK⟩:=h;obtain⟨x,hax,Bg⟩:∃x,args.toList=[x]/\Am.ev σ x=.lit (.map (some b)):=by
      cases ha:args.toList with
      |nil=>rw[ha]at hx;simp at hx
      |cons x r =>
       rw[ha]at hx;cases r with
       |nil=>exact⟨x,rfl,by simpa using hx⟩
       |cons y r=>simp at hx
     have ea:args = #[x]:=by rw[<- Array.toArray_toList (xs:=args),hax]
     have eb:cI = #[t]:=by rw[<- Array.toArray_toList (xs:=cI),oI]
     subst ea;subst eb;have ai1:=az.at hb;exact lit _ w (by simp[execOp,resolve,invoke,builtin,Builtin.len_,az.ev Bg,run_underlying ht,MapKept.run_getObj_map ai1,c9,goInt]) μ az hK
    ·exact gen h
   all_goals exact gen h
 all_goals exact gen h
def qc(P:Program)(o:Oper)(K:St->Mem->Prop)(b want:Bool)(σ:St)(μ:Mem):Prop:=(b=want->e7 P o σ μ K)/\(b≠want->K (σ.put o.dst (.lit (.tuple #[]))) μ)
def qY(P:Program)(ops:Array Oper):List Oper->(St->Mem->Prop)->St->Mem->Prop
 |[],K,σ,μ=>K σ μ
 |o::r,K,σ,μ =>
  match o.guard with
  |none=>e7 P o σ μ (qY P ops r K)
  |some (j,want) =>
   match (ops[j]?).bind (·.dst) with
   |none=>False
   |some d =>
    match σ.env d with
    |.lit (.bool b)=>qc P o (qY P ops r K) b want σ μ
    |.lit (.tuple vs)=>vs = #[]/\qY P ops r K (σ.put o.dst (.lit (.tuple #[]))) μ
    |_=>False
def FB{os:List Ob}{γ0:Cx}{ops:Array Oper}(hd:∀ o∈ops.toList,∀ d,o.dst=some d->d<N){K:St->Mem->Prop}{Q:Exit->Act->World->Prop}(hQ:∀ σ' dH a' w',K σ' dH->iR N os γ0 σ' dH a' w'->Q .normal a' w'):∀ (l:List Oper) (i:Nat) (σ:St) (μ:Mem) (a:Act) (w:World),ops.toList.drop i=l->qY P ops l K σ μ->iR N os γ0 σ μ a w ->
   wpOps P ops Q (List.range' i l.length) a w
 |[],i,σ,μ,a,w,_,h,az=>by simpa [wpOps] using hQ _ _ _ _ h az
 |o::r,i,σ,μ,a,w,hl,h,az=>by
  have hi:ops[i]?=some o:=by
   have:(ops.toList.drop i)[0]?=some o:=by rw[hl];rfl
   simpa using this
  have hr:ops.toList.drop (i+1)=r:=by
   have:=congrArg List.tail hl;simpa [List.tail_drop] using this
  have bR:o∈ops.toList:=hZ (by simpa using hi);rw[List.length_cons,List.range'_succ,wpOps_cons];unfold wpOp;simp only[hi];unfold qY at h;cases hg:o.guard with
  |none =>
   simp only[hg]at h;have hw:Region.wanted o (yielded ops a.tmps)=true:=by simp[Region.wanted,hg]
   rw[if_pos hw];left;exact ZU h az (hd o bR) (λσ' dH a' w' hK c8=>FB hd hQ r (i+1) σ' dH a' w' hr hK c8)
  |some jw =>
   obtain⟨j,want⟩:=jw;simp only[hg]at h;cases eB:(ops[j]?).bind (·.dst) with
   |none=>simp[eB]at h
   |some d =>
    simp only[eB]at h;have hv:∀ v,σ.env d=.lit v->a.tmps.getD d Go.undef=v:=λv he=>by
     have:=az.ev (x:=.tmp d) (v:=v) (by simpa [ev] using he);simpa [Act.eval] using this
    split at h
    ·rename_i b he;have hv:=hv _ he;have hy:yielded ops a.tmps j=some b:=by
      unfold yielded;rw[eB];have:a.tmps[d]?=some (.bool b):=by
       rw[eU]at hv;cases hx:a.tmps[d]? with
       |none=>rw[hx]at hv;simp[Go.undef]at hv
       |some y=>rw[hx]at hv;simp at hv;rw[hv]
      simp[this]
     by_cases ig:b=want
     ·have hw:Region.wanted o (yielded ops a.tmps)=true:=by simp[Region.wanted,hg,hy,ig]
      rw[if_pos hw];left;exact ZU (h.1 ig) az (hd o bR) (λσ' dH a' w' hK c8=>FB hd hQ r (i+1) σ' dH a' w' hr hK c8)
     ·have hw:Region.wanted o (yielded ops a.tmps)=false:=by simp[Region.wanted,hg,hy,ig]
      rw[if_neg (by rw[hw];simp)];exact FB hd hQ r (i+1) _ _ _ _ hr (h.2 ig) (az.xP (hd o bR) (λγ _ _ _ _=>aw.lit _))
    ·rename_i vs he;have hv:=hv _ he;have hy:yielded ops a.tmps j=none:=by
      unfold yielded;rw[eB];rw[eU]at hv;cases hx:a.tmps[d]? with
      |none=>simp[hx]
      |some y=>rw[hx]at hv;simp at hv;subst hv;simp[hx]
     have hw:Region.wanted o (yielded ops a.tmps)=false:=by simp[Region.wanted,hg,hy]
     rw[if_neg (by rw[hw];simp)];exact FB hd hQ r (i+1) _ _ _ _ hr h.2 (az.xP (hd o bR) (λγ _ _ _ _=>aw.lit _))
    ·exact h.elim
def YV{id:Nat}{ops:Array Oper}{Q:Exit->St->Mem->Prop}(hd:fP N ops=true)(h:qY P ops ops.toList (Q .normal) σ μ):WM P N n0 (.region id ops false) Q σ μ:=by
 intro os γ0 a w _ az;refine wp_region ?_;have:=FB (P:=P) (N:=N) (os:=os) (γ0:=γ0) (ops:=ops) (oV hd) (K:=Q .normal) (Q:=λe a' w'=>∃ σ' dH,Q e σ' dH/\iR N os γ0 σ' dH a' w') (λσ' dH a' w' hK c8=>⟨σ',dH,hK,c8⟩)
  ops.toList 0 σ μ a w rfl h az
 rw[List.range_eq_range'];simpa using this
end Go.Am

