import Derived.Test.YtfoopmojjjpapaaGreatX09
import Derived.Laws.IdiomRangeMap
set_option linter.all false
set_option maxHeartbeats 0
set_option maxRecDepth 20000
open List renaming getElem?_eq_some_iff→aR,mem_of_getElem?→gY,getElem?_eq_getElem→bq,ext_getElem?→pZ,getElem?_map→bV,getElem?_mapIdx→N9,length→kC
open Option renaming some→cy
open Array renaming getElem?_eq_some_iff→nu,getD_eq_getD_getElem?→eA,getElem?_setIfInBounds_ne→tQ
open Nat renaming le_refl→aX,sub_self→kW
open Bool renaming false_eq_true→iZ
namespace Go.Am
variable {P:Program} {N n0:Nat} {σ:St}
def TM(dst:Option Tmp)(t:TypeId)(a:Operand)(tt:TypeId)(p:String)(af:Array Edge)(g:Option (Nat×Bool))(K:St->Prop):lD true P ⟨dst,.load t a,tt,p,af,g⟩ σ K=ua P t dst K σ (ev σ a):=rfl
def Lq:=Oj @TM @ua.eq_1
def aF.vt(d id:Nat){cells:List AV}(ho:σ.aa[id]?=some (.var cells))(hd:σ.env d=.ptr id 0 0)(u3:∀ v∈cells,(∃ x,v=.lit x)\/∃ s r,v=.tree s r):aF n0 σ ⟨je σ.env d (.bY cells),σ.aa.set id .gone⟩:=by
 intro os γ0 γ _ hs hf;have zO:id<σ.aa.length:=(aR.1 ho).1
 let az:Cx:={ γ with Z:=λb=>γ.Z b\/∃ o cap,γ.blk id=some (b,o,cap) }
 let os2:=σ.aa.set id .gone
 have ij:∀ i,os2[i]?=if i=id then some .gone else σ.aa[i]?:=by
  intro i;show(σ.aa.set id _)[i]?=_;rw[List.getElem?_set];by_cases h1:i=id
  ·subst h1;simp[zO]
  ·simp[Ne.symm h1,h1]
 have hR:∀ v cv,aw σ.aa γ.w γ.Z γ.blk v cv->aw os2 az.w az.Z az.blk v cv:=λv cv hv =>
  hv.mono (λb hb=>⟨.inl hb,rfl⟩) (λi o hi=>by
   rw[ij];by_cases h1:i=id
   ·left;rw[if_pos h1]
   ·rw[if_neg h1];by_cases hg:o=.gone
    ·subst hg;exact .inl hi
    ·exact .inr ⟨rfl,o,hi,Ob.jh hg⟩)
 have bN:∀ i,Live os2 i->Live σ.aa i/\i≠id:=by
  rintro i⟨o,hi,hg⟩;rw[ij]at hi;split at hi
  ·simp at hi;exact absurd hi.symm hg
  ·rename_i h2;exact⟨⟨o,hi,hg⟩,h2⟩
 have ov:Live σ.aa id:=⟨_,ho,IM⟩;obtain⟨b,cap,cur,t,h1,h2,h3,h4⟩:=hs.dx _ _ ho;have tq:=hs.ao d;rw[hd]at tq;have jd:aw os2 az.w az.Z az.blk (.bY cells) (γ.tmps.getD d Go.undef):=by
  generalize γ.tmps.getD d Go.undef=cv at tq;cases tq with
  |cC _ _ h=>cases h
  |mN _ _ _ _ h=>rw[ho]at h;simp at h
  |nF _ _ b2 amC amD h hb =>
   rw[h1]at hb;simp only[cy.injEq,Prod.mk.injEq]at hb;obtain⟨rfl,_,_⟩:=hb;refine .bY cells b 0 (λj=>cur.getD j Go.undef) (.inr ⟨0,cap,h1⟩) (λj x hx=>?_) (λj x hx=>?_)
   ·rw[Nat.zero_add];exact zt h2 (by rw[h3];exact(aR.1 hx).1)
   ·have ef:dF σ (λy=>y≠id) x x:=by
     rcases u3 x (gY hx) with⟨v,rfl⟩|⟨s,r,rfl⟩
     ·exact .lit v
     ·exact .tree s r
    exact ef.zq hs (γc:=az) (λb hb=>.inl hb) rfl (λx b o cap b9 _ hb=>.inr ⟨o,cap,by rw[show id=x by simpa using(Decidable.not_not.1 b9).symm];exact hb⟩) _ (h4 j x hx)
  |oc _ _ _ _ _ _ _ _ h=>rw[ho]at h;simp at h
 refine⟨az,rfl,rfl,⟨λk=>?_,?_,λi j b o c o' c' hi hj=>hs.inj i j b o c o' c' (bN i hi).1 (bN j hj).1,?_,?_,λg=>xY (hs.gl g) λb hb=>⟨.inl hb,rfl⟩⟩,?_⟩
 ·show aw os2 az.w az.Z az.blk (je σ.env d (.bY cells) k) (γ.tmps.getD k Go.undef);simp only[je];split
  ·rename_i e;subst e;exact jd
  ·exact hR _ _ (hs.ao k)
 ·intro i o hi;have ar:os2[i]?=some o:=hi;rw[ij]at ar;split at ar
  ·simp only[cy.injEq]at ar;subst ar;trivial
  ·by_cases hg:o=.gone
   ·subst hg;trivial
   ·exact(hs.dx i o ar).mono hR rfl (λ_ _ _ _=>rfl)
 ·rintro b ⟨i,o,c',hi,hb⟩ (hz|⟨o',cap,aY⟩)
  ·exact hs.nz b ⟨i,o,c',(bN i hi).1,hb⟩ hz
  ·exact(bN i hi).2 (hs.inj i id b o c' o' cap (bN i hi).1 ov hb aY)
 ·rintro b (hz|⟨o,cap,hb⟩)
  ·exact hs.fV b hz
  ·exact hs.blt ov hb
 ·refine⟨hf.kD,hf.tape,hf.output,hf.size,hf.dN,λb hb=>.inl (hf.z0 b hb),?_,?_,by show os.length<=os2.length;simp[os2];exact hf.len,?_,hf.drawn⟩
  ·rintro b (hz|⟨o,cap,hb⟩)
   ·exact hf.z1 b hz
   ·exact .inr (hf.own b ⟨id,o,cap,ov,hb⟩)
  ·rintro b ⟨i,o,c',hi,hb⟩;exact hf.own b ⟨i,o,c',(bN i hi).1,hb⟩
  ·intro i hi hl;obtain⟨h1,x,x',hx,bW,hk⟩:=hf.dV i hi (bN i hl).1;have jO:Live os2 i:=hl;obtain⟨o,dz,nY⟩:=jO;refine⟨h1,x,o,hx,dz,?_⟩;rw[ij]at dz;split at dz
   ·simp at dz;exact absurd dz.symm nY
   ·rw[bW]at dz;simp only[cy.injEq]at dz;subst dz;exact hk
end Go.Am
namespace Go.Am
variable {P:Program} {N n0:Nat} {σ:St}
inductive Gh where
 |map (ents:List (Value×Value))
 |iter (mb since:Nat) (seen:List Nat)
 |iH (i:Nat)
def Gh.At(w:World)(b:Nat):Gh->Prop
 |.map ents=>w.heap[b]?=some (.map (cN ents) ents.length)
 |.iter mb since seen=>w.heap[b]?=some (.mapIter (some mb) since seen.toArray since)
 |.iH _=>True
def Gh.vG:Gh->Prop
 |.iH _=>False
 |_=>True
def Gh.At.heap{w w':World}{b:Nat}{g:Gh}(h:g.At w b)(e:w'.heap[b]?=w.heap[b]?):g.At w' b:=by
 cases g<;>first|trivial|exact e.trans h
def Gh.At.lt{w:World}{b:Nat}{g:Gh}(h:g.At w b)(hm:g.vG):b<w.heap.size:=by
 cases g<;>first|exact(nu.1 h).1|exact hm.elim
abbrev Mem:=Nat->Option Gh
def gT(μ:Mem)(b:Nat)(g:Gh):Mem:=λk=>if k=b then some g else μ k
def rN(μ:Mem)(b:Nat)(g:Gh):gT μ b g b=some g:=by simp[gT]
def pH(μ:Mem){b c:Nat}(g:Gh)(h:c≠b):gT μ b g c=μ c:=by simp[gT,h]
def vH:Mem:=λ_=>none
structure oJ(μ:Mem)(o0 os:List Ob)(γ0 γ:Cx):Prop where
 gh:∀ b g,μ b=some g->g.At γ.w b
 fresh:∀ b g,μ b=some g->g.vG->γ0.w.heap.size<=b
 B6:∀ b g,μ b=some g->g.vG->¬ γ.Z b
 xe:∀ b g,μ b=some g->g.vG->¬ oe os γ.blk b
 iH:∀ b i,μ b=some (.iH i)->i<o0.length/\γ0.blk i=some (b,0,0)/\b<γ0.w.heap.size
def oJ.nil(o0 os:List Ob)(γ0 γ:Cx):oJ vH o0 os γ0 γ:=⟨by simp[vH],by simp[vH],by simp[vH],by simp[vH],by simp[vH]⟩
def oJ.dN{μ:Mem}{o0 os gk:List Ob}{γ0 γ az:Cx}(h:oJ μ o0 os γ0 γ)(hf:Fr os γ gk az):oJ μ o0 gk γ0 az:=by
 refine⟨λb g hp=>?_,h.fresh,λb g hp hm hz=>?_,λb g hp hm ho=>?_,h.iH⟩
 ·by_cases hm:g.vG
  ·exact(h.gh b g hp).heap (hf.dN _ ((h.gh b g hp).lt hm) (h.xe b g hp hm))
  ·cases g<;>first|trivial|exact(hm trivial).elim
 ·rcases hf.z1 _ hz with h1|h1|h1
  ·exact h.B6 b g hp hm h1
  ·exact h.xe b g hp hm h1
  ·have:=(h.gh b g hp).lt hm;omega
 ·rcases hf.own _ ho with h1|h1
  ·exact h.xe b g hp hm h1
  ·have:=(h.gh b g hp).lt hm;omega
def oJ.le{μ dg:Mem}{o0 os:List Ob}{γ0 γ:Cx}(h:oJ μ o0 os γ0 γ)(hl:∀ b g,dg b=some g->μ b=some g):oJ dg o0 os γ0 γ :=
 ⟨λb g hp=>h.gh b g (hl b g hp),λb g hp=>h.fresh b g (hl b g hp),λb g hp=>h.B6 b g (hl b g hp),λb g hp=>h.xe b g (hl b g hp),λb i hp=>h.iH b i (hl _ _ hp)⟩
def gU(N:Nat)(os:List Ob)(γ0:Cx)(σ:St)(μ:Mem)(a:Act)(w:World):Prop :=
 a.defers=[]/\a.tmps.size=N/\∃ γ,γ.w=w/\γ.tmps=a.tmps/\bh σ γ/\Fr os γ0 σ.aa γ/\oJ μ os σ.aa γ0 γ
def WM(P:Program)(N n0:Nat)(c:Code)(Q:Exit->St->Mem->Prop)(σ:St)(μ:Mem):Prop :=
 ∀ (os:List Ob) (γ0:Cx) (a:Act) (w:World),os.length=n0->gU N os γ0 σ μ a w->c.wp P (λe a' w'=>∃ σ' dg,Q e σ' dg/\gU N os γ0 σ' dg a' w') a w
variable {Q:Exit->St->Mem->Prop} {μ:Mem}
def TN{c:Code}(h:W P N σ.aa.length c (λe s=>Q e s μ) σ):WM P N n0 c Q σ μ:=by
 rintro os γ0 a w hn⟨gH,aJ,γ,rfl,ha,hs,hf,hm⟩;refine wp_mono (h σ.aa γ a γ.w rfl ⟨gH,aJ,γ,rfl,ha,hs,Fr.refl _ _⟩) ?_;rintro e a' w'⟨σ',hq,Lh,Li,az,rfl,pI,iz,eR⟩;exact⟨σ',μ,hq,Lh,Li,az,rfl,pI,iz,hf.trans eR,hm.dN eR⟩
def oK{c:Code}{e:Exit}(hc:Gm c=some e)(h:Q e σ μ):WM P N n0 c Q σ μ:=by
 cases c<;>simp[Gm]at hc;all_goals subst hc
 all_goals first
  |exact λ_ _ _ _ _ aA=>wp_skip ⟨σ,μ,h,aA⟩
  |exact λ_ _ _ _ _ aA=>wp_label ⟨σ,μ,h,aA⟩
  |exact λ_ _ _ _ _ aA=>wp_exit ⟨σ,μ,h,aA⟩
  |exact λ_ _ _ _ _ aA=>wp_ret ⟨σ,μ,h,aA⟩
def afK{x y:Code}(Q1:Exit->St->Mem->Prop)(h:WM P N n0 x Q1 σ μ)(hn:∀ s m,Q1 .normal s m->WM P N n0 y Q s m)(he:∀ e s m,e≠.normal->Q1 e s m->Q e s m):WM P N n0 (.seq x y) Q σ μ:=by
 intro os γ0 a w hl aA;refine wp_seq (wp_mono (h os γ0 a w hl aA) ?_);rintro e a' w'⟨σ',dg,h1,h2⟩;cases e with
 |normal=>exact hn _ _ h1 os γ0 a' w' hl h2
 |exit id=>exact⟨σ',dg,he _ _ _ IM h1,h2⟩
 |goto l=>exact⟨σ',dg,he _ _ _ IM h1,h2⟩
 |ret=>exact⟨σ',dg,he _ _ _ IM h1,h2⟩
 |panic c=>exact⟨σ',dg,he _ _ _ IM h1,h2⟩
 |outgrown=>exact⟨σ',dg,he _ _ _ IM h1,h2⟩
def nQ{x y:Code}(h:∀ Q':Exit->St->Mem->Prop,(∀ s m,WM P N n0 y Q s m->Q' .normal s m)->(∀ e s m,uq e=false->Q e s m->Q' e s m)->WM P N n0 x Q' σ μ):WM P N n0 (.seq x y) Q σ μ :=
 afK (λe s m=>(e=.normal->WM P N n0 y Q s m)/\(e≠.normal->Q e s m)) (h _ (λs m h=>⟨λ_=>h,λh=>absurd rfl h⟩) (λe s m he h=>⟨λe2=>absurd e2 (Gk he),λ_=>h⟩)) (λs m h=>h.1 rfl) (λe s m he h=>h.2 he)
def afL{c:Operand}{x y:Code}{t:Bool}(hc:ev σ c=.lit (.bool t))(ht:t=true->WM P N n0 x Q σ μ)(hf:t=false->WM P N n0 y Q σ μ):WM P N n0 (.cond c x y) Q σ μ:=by
 intro os γ0 a w hn aA;have aQ:a.eval c=.bool t:=by
  obtain⟨_,_,γ,rfl,ha,hs,_⟩:=aA;have:=sN hs ha c;rw[hc]at this;exact this.cD
 exact wp_cond_split aQ (λh=>ht h os γ0 a w hn aA) (λh=>hf h os γ0 a w hn aA)
def pK{id:Nat}{c:Code}(h:∀ Q':Exit->St->Mem->Prop,(∀ s m,Q .normal s m->Q' .normal s m)->(∀ s m,Q .normal s m->Q' (.exit id) s m)->(∀ e s m,zR id e=false->Q e s m->Q' e s m)->WM P N n0 c Q' σ μ):WM P N n0 (.block id c) Q σ μ:=by
 intro os γ0 a w hn aA;have h':=h (λe s m=>(e=.exit id->Q .normal s m)/\(e≠.exit id->Q e s m)) (λs m h=>⟨λe=>by simp at e,λ_=>h⟩) (λs m h=>⟨λ_=>h,λe=>absurd rfl e⟩) (λe s m he h=>⟨λe2=>absurd e2 (Kt he).2,λ_=>h⟩);refine wp_block (wp_mono (h' os γ0 a w hn aA) ?_);rintro e a' w'⟨σ',dg,h1,h2⟩;cases e with
 |exit n9 =>
  simp only[Exit.inBlock];split
  ·rename_i he;exact⟨σ',dg,h1.1 (by rw[he]),h2⟩
  ·rename_i he;exact⟨σ',dg,h1.2 (λe=>he (by simpa using e)),h2⟩
 |normal=>exact⟨σ',dg,h1.2 IM,h2⟩
 |goto l=>exact⟨σ',dg,h1.2 IM,h2⟩
 |ret=>exact⟨σ',dg,h1.2 IM,h2⟩
 |panic c=>exact⟨σ',dg,h1.2 IM,h2⟩
 |outgrown=>exact⟨σ',dg,h1.2 IM,h2⟩
def kO(n0:Nat)(σ σ':St):Prop:=∀ (os:List Ob) (γ0 γ:Cx),os.length=n0->bh σ γ->Fr os γ0 σ.aa γ ->
 ∃ az,az.w=γ.w/\az.tmps=γ.tmps/\bh σ' az/\Fr os γ0 σ'.aa az/\(∀ b,az.Z b->γ.Z b\/oe σ.aa γ.blk b)/\∀ b,oe σ'.aa az.blk b->oe σ.aa γ.blk b
def kO.TO{σ':St}(h:kO n0 σ σ'){os:List Ob}{γ0:Cx}{a:Act}{w:World}(hn:os.length=n0)(aA:gU N os γ0 σ μ a w):gU N os γ0 σ' μ a w:=by
 obtain⟨h1,h2,γ,rfl,h3,h4,h5,h6⟩:=aA;obtain⟨az,e1,e2,e3,e4,e5,e6⟩:=h os γ0 γ hn h4 h5;refine⟨h1,h2,az,e1,e2.trans h3,e3,e4,λb g hp=>(h6.gh b g hp).heap (by rw[e1]),h6.fresh,λb g hp hm hz=>?_,λb g hp hm ho=>h6.xe b g hp hm (e6 _ ho),h6.iH⟩;rcases e5 _ hz with h|h
 ·exact h6.B6 b g hp hm h
 ·exact h6.xe b g hp hm h
def afM{c:Code}{σ':St}(h:kO n0 σ σ')(hw:WM P N n0 c Q σ' μ):WM P N n0 c Q σ μ :=
 λos γ0 a w hn aA=>hw os γ0 a w hn (h.TO hn aA)
def kO.ao(l:List (Nat×AV))(os:List Ob)(ho:σ.aa=os)(h:Has σ.env l):kO n0 σ ⟨ao l,os⟩:=by
 subst ho;intro os γ0 γ _ hs hf;refine⟨γ,rfl,rfl,⟨λk=>?_,hs.dx,hs.inj,hs.nz,hs.fV,hs.gl⟩,hf,λ_ h=>.inl h,λ_ h=>h⟩;rcases Fk l k with h'|⟨p,hp,rfl,h'⟩
 ·show aw _ _ _ _ (Am.ao l k) _;rw[h'];exact .undef _
 ·show aw _ _ _ _ (Am.ao l p.1) _;rw[h',<- h.mem p hp];exact hs.ao p.1
theorem kO.se(aj:List Nat)(snap:Bool){l:List (Nat×AV)}{co:List Ob}(ho:pd (bC σ.aa.length aj) σ.aa aj co)(h:sJ (bT σ (kept aj co) (bC σ.aa.length aj) snap) σ.env l)(bx:aj.Nodup:=by decide)(hn:n0<=aj.length:=by decide)(b9:∀ i,i<n0->aj.getD i 0=i:=by decide):kO n0 σ ⟨Am.ao l,co⟩:=by
 intro os γ0 γ Bh hs hf;obtain⟨h1,h2,h3⟩:=ho.spec;obtain⟨az,a1,a2,a3,a4⟩:=hs.select aj snap co bx h1 h2 h3 (Am.ao l) γ.tmps (fun k=>by
  rcases Fk l k with h'|⟨p,hp,rfl,h'⟩
  ·exact .inl h'
  ·right;rw[h'];exact⟨_,h.mem p hp,hs.ao p.1⟩)
 obtain⟨b1,b2,b3,b4⟩:=a4;refine⟨az,a1,a2,a3,hf.select (by omega) h1 (fun i hi=>b9 i (by omega)) a1 ⟨b1,b2,b3,b4⟩,b3,?_⟩;rintro b⟨i,o,c,hi,hb⟩;have aS:=hi.lt;rw[b1 i aS]at hb;exact⟨_,o,c,(b4 i hi).1,hb⟩
def Ha{α:Type}{c:Code}(S:α->St)(I:α->Mem->Prop)(M:α->Nat)(x0:α)(hI:I x0 μ)(h0:kO n0 σ (S x0))(round:∀ x m0,I x m0->∀ Q':Exit->St->Mem->Prop,(∀ s m y,I y m->M y<M x->kO n0 s (S y)->Q' .normal s m)->(∀ e s m,uq e=false->Q e s m->Q' e s m)->WM P N n0 c Q' (S x) m0):WM P N n0 (.loop c) Q σ μ:=by
 refine afM h0 ?_;intro os γ0 a w hn aA b k cs;have key:∀ n x m0 a w,M x=n->I x m0->gU N os γ0 (S x) m0 a w ->
   ∃ e a' w',(∃ σ' dg,Q e σ' dg/\gU N os γ0 σ' dg a' w')/\Arrives P (lone (b.at a (.code c::.inLoop c::k)) cs w) b k cs e a' w':=by
  intro n
  induction n using Nat.strongRecOn with
  |_ n ih =>
   intro x m0 a w hm hI aA;have hr:=round x m0 hI (λe s m=>(e=.normal->∃ y,I y m/\M y<M x/\kO n0 s (S y))/\(e≠.normal->Q e s m)) (λs m y h1 h2 h3=>⟨λ_=>⟨y,h1,h2,h3⟩,λh=>absurd rfl h⟩)
    (λe s m he h=>⟨λe2=>absurd e2 (Gk he),λ_=>h⟩)
   obtain⟨e,rn,sK,⟨σ',dg,hq,dj⟩,nE⟩:=hr os γ0 a w hn aA b (.inLoop c::k) cs;cases e with
   |normal =>
    obtain⟨y,Jf,aS,ht⟩:=hq.1 rfl;obtain⟨Jg,Jh,Ji,Jj,Jk⟩:=ih (M y) AT y _ rn sK rfl Jf (ht.TO hn dj);exact⟨Jg,Jh,Ji,Jj,.of_steps (Steps.trans nE (.one step_inLoop)) Jk⟩
   |exit id=>exact⟨_,rn,sK,⟨σ',dg,hq.2 IM,dj⟩,.pass (x:=.inLoop c) rfl (λ_ _=>.inl IM) nE⟩
   |goto l=>exact⟨_,rn,sK,⟨σ',dg,hq.2 IM,dj⟩,.pass (x:=.inLoop c) rfl (λ_ _=>.inl IM) nE⟩
   |ret=>exact⟨_,rn,sK,⟨σ',dg,hq.2 IM,dj⟩,.pass (x:=.inLoop c) rfl (λ_ _=>.inl IM) nE⟩
   |panic ch=>exact⟨_,rn,sK,⟨σ',dg,hq.2 IM,dj⟩,.pass (x:=.inLoop c) rfl (λ_ _=>.inl IM) nE⟩
   |outgrown=>exact⟨_,rn,sK,⟨σ',dg,hq.2 IM,dj⟩,.pass (x:=.inLoop c) rfl (λ_ _=>.inl IM) nE⟩
 obtain⟨e,a',w',hq,nE⟩:=key _ x0 _ a w rfl hI aA;exact⟨e,a',w',hq,.of_steps (.one step_loop) nE⟩
def afN{c:Code}{Q:Exit->St->Prop}(h:WM P N n0 c (λe s _=>Q e s) σ vH):W P N n0 c Q σ:=by
 rintro os γ0 a w hn⟨h1,h2,γ,rfl,h3,h4,h5⟩;refine wp_mono (h os γ0 a γ.w hn ⟨h1,h2,γ,rfl,h3,h4,h5,oJ.nil _ _ _ _⟩) ?_;rintro e a' w'⟨σ',dg,hq,k1,k2,az,rfl,k3,k4,k5,k6⟩;exact⟨σ',hq,k1,k2,az,rfl,k3,k4,k5⟩
def afO{c:Code}{Q:Exit->St->Prop}(i:Nat){ag:Nat}{L:List (List Int×AV)}(hi:σ.aa[i]?=some (.mp ag L))(h:∀ b,WM P N σ.aa.length c (λe s _=>Q e s) σ (gT vH b (.iH i))):W P N n0 c Q σ:=by
 rintro os γ0 a w hn⟨h1,h2,γ,rfl,h3,h4,h5⟩;obtain⟨b,f,hb,hh,_⟩:=h4.dx i _ hi;have hl:=(aR.1 hi).1;refine wp_mono (h b σ.aa γ a γ.w rfl ⟨h1,h2,γ,rfl,h3,h4,Fr.refl _ _,?_⟩) ?_
 ·have one:∀ k g,gT vH b (.iH i) k=some g->k=b/\g=.iH i:=λk g hk=>by
   by_cases e:k=b
   ·subst e;rw[rN]at hk;exact⟨rfl,by simpa using hk.symm⟩
   ·rw[pH _ _ e]at hk;cases hk
  refine⟨λk g hk=>?_,λk g hk hm=>?_,λk g hk hm=>?_,λk g hk hm=>?_,λk j hk=>?_⟩<;>obtain⟨rfl,e⟩:=one _ _ hk
  ·subst e;trivial
  ·subst e;exact hm.elim
  ·subst e;exact hm.elim
  ·subst e;exact hm.elim
  ·cases e;exact⟨hl,hb,(nu.1 hh).1⟩
 rintro e a' w'⟨σ',dg,hq,k1,k2,az,rfl,k3,k4,k5,k6⟩;exact⟨σ',hq,k1,k2,az,rfl,k3,k4,h5.trans k5⟩
end Go.Am
namespace Go.Am
variable {P:Program} {N n0:Nat} {σ:St}
def iE(L:List (Int×Value)):List (Value×Value):=L.map λp=>(.int .i64 p.1,p.2)
def j'(x:Int)(v:Value):List (Int×Value)->List (Int×Value)
 |[]=>[(x,v)]
 |p::r=>if p.1=x then(x,v)::r else p::j' x v r
def nh(x:Int):List (Int×Value)->Option Value
 |[]=>none
 |p::r=>if p.1=x then some p.2 else nh x r
def rP(x:Int):List (Int×Value)->Nat->Option (Nat×Value)
 |[],_=>none
 |p::r,i=>if p.1=x then some (i,p.2) else rP x r (i+1)
def TP(x:Int):∀ (L:List (Int×Value)) (i:Nat),(rP x L i).map (·.2)=nh x L
 |[],_=>rfl
 |p::r,i=>by
  rw[rP,nh];split
  ·rfl
  ·exact TP x r (i+1)
def TQ(x:Int)(v:Value):∀ (L:List (Int×Value)) (i:Nat),rP x L i=none->j' x v L=L++[(x,v)]
 |[],_,_=>rfl
 |p::r,i,h=>by
  rw[rP]at h;split at h
  ·cases h
  ·rename_i hp;rw[j',if_neg hp,TQ x v r (i+1) h];rfl
def TR(x:Int)(v:Value):∀ (L:List (Int×Value)) (i j:Nat) (u:Value),rP x L i=some (j,u)->i<=j/\L[j-i]?=some (x,u)/\j' x v L=L.set (j-i) (x,v)
 |[],_,_,_,h=>by cases h
 |p::r,i,j,u,h=>by
  rw[rP]at h;split at h
  ·rename_i hp;simp only[cy.injEq,Prod.mk.injEq]at h;obtain⟨rfl,rfl⟩:=h;refine⟨aX _,?_,?_⟩
   ·rw[kW];simp[<- hp]
   ·rw[kW,j',if_pos hp];rfl
  ·rename_i hp;obtain⟨h1,h2,h3⟩:=TR x v r (i+1) j u h;have e:j-i=(j-(i+1))+1:=AT;refine⟨AT,?_,?_⟩
   ·rw[e,List.getElem?_cons_succ];exact h2
   ·rw[e,j',if_neg hp,h3];rfl
def TS{k:TypeDesc}(hk:k=.int .i64)(x:Int):∀ (L:List (Int×Value)) (f:Nat->Nat) (i:Nat),Instr.findNow k (.int .i64 x) ((iE L).mapIdx λi p=>(⟨p.1,p.2,f i⟩:MapEntry)) i=some (rP x L i)
 |[],_,_=>rfl
 |p::r,f,i=>by
  subst hk;simp only[iE,List.map_cons,List.mapIdx_cons,Instr.findNow,Instr.sameNow,if_true,rP];by_cases h:p.1=x
  ·rw[if_pos h];subst h;simp
  ·rw[if_neg h];have:(x==p.1)=false:=by simpa using λe=>h e.symm
   rw[this];simpa [iE] using TS rfl x r (λj=>f (j+1)) (i+1)
def run_findKey{kt:TypeId}(hk:P.underlying kt=some (.int .i64))(x:Int)(L:List (Int×Value))(w:World):(Instr.findKey kt (.int .i64 x) (cN (iE L)).toList).run P w=.ok (rP x L 0) w:=by
 have h:=TS (k:=.int .i64) rfl x L id 0;simp only[id]at h;simp[Instr.findKey,run_underlying hk,sS,h]
def run_checkKey{kt:TypeId}(hk:P.underlying kt=some (.int .i64))(e:Bool)(x:Int)(w:World):(Instr.checkKey e 10000 kt (.int .i64 x)).run P w=.ok () w:=by
 have h:∀ d:Nat,(Instr.checkKey e (d+1) kt (.int .i64 x)).run P w=.ok () w:=λd=>by simp[Instr.checkKey,run_underlying hk]
 exact h 9999
def afP{t kt et:TypeId}(ht:P.underlying t=some (.map kt et))(hk:P.underlying kt=some (.int .i64)){z:Value}{w:World}(hz:(zeroValue et).run P w=.ok z w){b n:Nat}{L:List (Int×Value)}(hb:w.heap[b]?=some (.map (cN (iE L)) n))(x:Int):(Instr.lookup t (.map (some b)) (.int .i64 x) false).run P w=.ok ((nh x L).getD z) w:=by
 rw[<- TP x L 0];simp only[Instr.lookup,Sem.run_bind,run_underlying ht,MapKept.run_getObj_map hb,run_checkKey hk,run_findKey hk,Result.andThen_ok,Sem.run_pure];cases h:rP x L 0 with
 |none=>simp[hz]
 |some q=>simp
def afQ{t kt et:TypeId}(ht:P.underlying t=some (.map kt et))(hk:P.underlying kt=some (.int .i64)){z:Value}{w:World}(hz:(zeroValue et).run P w=.ok z w)(x:Int):
  (Instr.lookup t (.map none) (.int .i64 x) false).run P w=.ok z w:=by
 have h:=run_findKey (P:=P) hk x [] w;have e:(cN (iE [])).toList=(#[]:Array MapEntry).toList:=rfl;rw[e]at h;simp only[Instr.lookup,Sem.run_bind,run_underlying ht,run_checkKey hk,h,Result.andThen_ok,Sem.run_pure];simp[rP,hz]
def afR{t kt et:TypeId}(ht:P.underlying t=some (.map kt et))(hk:P.underlying kt=some (.int .i64)){w:World}{b:Nat}{L:List (Int×Value)}(hb:w.heap[b]?=some (.map (cN (iE L)) L.length))(x:Int)(v:Value):
  (Instr.mapUpdate t (.map (some b)) (.int .i64 x) v).run P w=.ok () { w with heap:=w.heap.setIfInBounds b (.map (cN (iE (j' x v L))) (j' x v L).length) }:=by
 simp only[Instr.mapUpdate,Sem.run_bind,run_underlying ht,MapKept.run_getObj_map hb,run_checkKey hk,run_findKey hk,Result.andThen_ok];cases h:rP x L 0 with
 |none =>
  have h2:=TQ x v L 0 h;have e:=JJ (iE L) (.int .i64 x,v);rw[show(iE L).length=L.length by simp[iE]]at e;simp only[MapKept.run_setObj_map _ hb,e,h2,show iE (L++[(x,v)])=iE L++[(.int .i64 x,v)] by simp[iE],List.length_append,List.length_singleton]
 |some q =>
  obtain⟨j,u⟩:=q;obtain⟨_,h2,h3⟩:=TR x v L 0 j u h;rw[Nat.sub_zero]at h2 h3;have C5:(((cN (iE L))[j]?).map (·.key)).getD (.int .i64 x)=.int .i64 x:=by
   simp[cN,iE,h2]
  have DY:Instr.sameBits 10000 (.int .i64 x) (.int .i64 x)=true:=by simp[Instr.sameBits]
  have dm:(Instr.keyThatStays (.int .i64 x) (.int .i64 x)).run P w=.ok (.int .i64 x) w:=by simp[Instr.keyThatStays,DY]
  have e:=FC (iE L) j (λe=>{ e with key:=.int .i64 x,val:=v }) (.int .i64 x,v) (λq _=>rfl);have e2:(iE L).set j (.int .i64 x,v)=iE (j' x v L):=by rw[h3];simp[iE,List.map_set]
  simp only[C5,Sem.run_bind,dm,Result.andThen_ok,MapKept.run_setObj_map _ hb];rw[e,e2,h3,List.length_set]
def TT{t kt et:TypeId}(ht:P.underlying t=some (.map kt et)){w:World}{b n:Nat}{es:Array MapEntry}(hb:w.heap[b]?=some (.map es n)):
  (Instr.range t (.map (some b))).run P w=.ok (.pointer (some ⟨w.heap.size,0,none⟩)) (w.alloc (.mapIter (some b) n #[] n)):=run_range_map w t kt et b es n ht hb
def TU{ents:List (Value×Value)}{x:MapEntry}(h:x∈(cN ents).toList):x.born<ents.length/\ents[x.born]?=some (x.key,x.val):=by
 rw[sS]at h;obtain⟨i,hi,rfl⟩:=List.mem_mapIdx.1 h;exact⟨hi,by simp[hi]⟩
def TV{w:World}{r b n:Nat}{seen:List Nat}{ents:List (Value×Value)}(hn:n=ents.length)(hr:w.heap[r]?=some (.mapIter (some b) n seen.toArray n))(hb:w.heap[b]?=some (.map (cN ents) n))(ty:TypeId):
  ((∀ j<ents.length,j∈seen)/\(Instr.next (.pointer (some ⟨r,0,none⟩)) false ty).run P w=.ok (.tuple #[.bool false]) w) \/
  ∃ j p d,ents[j]?=some p/\j ∉ seen/\w.drawn<=d/\(Instr.next (.pointer (some ⟨r,0,none⟩)) false ty).run P w=.ok (.tuple #[.bool true,p.1,p.2]) { w with heap:=w.heap.setIfInBounds r (.mapIter (some b) n (seen++[j]).toArray n),drawn:=d }:=by
 subst hn;have hold:∀ x∈(cN ents).toList,x.born<ents.length:=λx hx=>(TU hx).1;simp only[Instr.next,getObj,Sem.run_bind,Sem.run,hr,hb,Result.andThen,next_test_false seen.toArray (cN ents) ents.length ents.length hold (aX _),iZ,if_false];have hL:∀ x,x∈((cN ents).filter λe=>!seen.toArray.contains e.born).toList↔x∈(cN ents).toList/\x.born ∉ seen:=by
  intro x;simp
 have cq:∀ x∈((cN ents).filter λe=>!seen.toArray.contains e.born).toList,x.born<ents.length:=λx hx=>hold x ((hL x).1 hx).1;generalize (cN ents).filter (λe=>!seen.toArray.contains e.born)=L at cq hL ⊢;have e1:L.filter (λx=>decide (x.born<ents.length))=L:=Array.filter_eq_self.2 (λx hx=>by simpa using cq x (by simpa using hx));have e2:L.filter (λx=>decide (x.born >= ents.length)) = #[]:=by
  rw[Array.filter_eq_empty_iff];intro x hx;have:=cq x (by simpa using hx);simp;omega
 simp only[e1,e2,Array.append_empty];by_cases h0:L.size=0
 ·left;have:L = #[]:=Array.eq_empty_of_size_eq_zero h0;subst this;refine⟨λj hj=>?_,?_⟩
  ·cases hc:decide (j∈seen) with
   |true=>exact of_decide_eq_true hc
   |false =>
    have xZ:=of_decide_eq_false hc;have:=(hL ⟨(ents[j]).1,(ents[j]).2,j⟩).2 ⟨by rw[sS];exact List.mem_mapIdx.2 ⟨j,hj,rfl⟩,xZ⟩;simp at this
  ·simp[choose,Sem.run,Question.forced]
 ·right;have bZ:L.isEmpty=false:=by simp[Array.isEmpty,h0]
  simp only[bZ,iZ,if_false,Array.empty_append,Array.size_map];have kM :∃(j:Nat) (d:Nat),j<L.size/\w.drawn<=d/\(choose (Question.mapNext L.size)).run P w=.ok j { w with drawn:=d }:=by
   by_cases hf:L.size<=1
   ·exact⟨0,w.drawn,AT,aX _,by simp[choose,Sem.run,Question.forced,hf]⟩
   ·exact⟨_,w.drawn+1,Nat.mod_lt _ AT,Nat.le_succ _,by
     simp only[choose,Sem.run,Question.forced,decide_eq_true_eq,hf,if_false,Question.cut];rfl⟩
  obtain⟨j,d,hj,Lj,eF⟩:=kM;have hx:=(hL L[j]).1 IM;obtain⟨h1,h2⟩:=TU hx.1;refine⟨L[j].born,_,d,h2,hx.2,Lj,?_⟩;simp only[eF,Array.getElem?_map,Array.getElem?_eq_getElem hj,Option.map_some,Sem.run_bind,Result.andThen];simp only[setObj,Sem.run,hr,List.push_toArray];rfl
def TW{w:World}{r b n j:Nat}{seen:List Nat}{ents:List (Value×Value)}{p:Value×Value}(hn:n=ents.length)(hr:w.heap[r]?=some (.mapIter (some b) n (seen++[j]).toArray n))(hb:w.heap[b]?=some (.map (cN ents) n))(hp:ents[j]?=some p):(Instr.entry (.pointer (some ⟨r,0,none⟩))).run P w=.ok (.tuple #[p.1,p.2]) w:=by
 have hj:=(aR.1 hp).1;have hm:(⟨p.1,p.2,j⟩:MapEntry)∈(cN ents).toList:=by
  rw[sS];refine List.mem_mapIdx.2 ⟨j,hj,?_⟩;rw[bq hj]at hp;simp only[cy.injEq]at hp;rw[hp]
 have bx:((cN ents).toList.map (·.born)).Nodup:=by
  rw[sS];have:(ents.mapIdx λi p=>(⟨p.1,p.2,i⟩:MapEntry)).map (·.born)=List.range ents.length:=by
   apply pZ;intro i;simp only[bV,N9];rcases Nat.lt_or_ge i ents.length with h|h
   ·simp[h]
   ·simp[h]
  rw[this];exact List.nodup_range
 have hf:(cN ents).find? (·.born==j)=some ⟨p.1,p.2,j⟩:=by rw[<- Array.find?_toList];exact find_born ⟨p.1,p.2,j⟩ _ bx hm
 simp only[Instr.entry,getObj,Sem.run_bind,Sem.run,hr,hb,Result.andThen,List.back?_toArray,List.getLast?_append,List.getLast?_singleton,Option.some_or,bne_self_eq_false,iZ,if_false,hf];rfl
def afS(w:World)(t kt et:TypeId)(a:Option Nat)(ht:P.underlying t=some (.map kt et)):(binOp .eql t (.map a) (.map none)).run P w=.ok (.bool a.isNone) w:=by
 have h:∀ d:Nat,(Op.equalIn (d+1) t (.map a) (.map none)).run P w=.ok a.isNone w:=λd=>by
  cases a<;>simp[Op.equalIn,run_underlying ht]
 simp[binOp,Op.equal,Op.maxDepth,h]
def afT(w:World)(t kt et:TypeId)(a:Option Nat)(ht:P.underlying t=some (.map kt et)):(binOp .neq t (.map a) (.map none)).run P w=.ok (.bool (!a.isNone)) w:=by
 have h:∀ d:Nat,(Op.equalIn (d+1) t (.map a) (.map none)).run P w=.ok a.isNone w:=λd=>by
  cases a<;>simp[Op.equalIn,run_underlying ht]
 simp[binOp,Op.equal,Op.maxDepth,h]
end Go.Am
namespace Go.Am
variable {P:Program} {N n0:Nat} {σ:St}
def bh.z'{γ:Cx}(h:bh σ γ){w':World}{b:Nat}(hz:¬ γ.Z b)(ho:¬ oe σ.aa γ.blk b)(hk:∀ k,k≠b->k<γ.w.heap.size->w'.heap[k]?=γ.w.heap[k]?)(aJ:γ.w.heap.size<=w'.heap.size):bh σ { γ with w:=w' }:=by
 have hR:∀ v cv,aw σ.aa γ.w γ.Z γ.blk v cv->aw σ.aa w' γ.Z γ.blk v cv:=λv cv hv =>
  hv.mono (λk Lk=>⟨Lk,hk k (λe=>hz (e▸Lk)) (h.fV k Lk)⟩) (λi x hx=>by
   by_cases cG:x=.gone
   ·subst cG;exact .inl hx
   ·exact .inr ⟨rfl,x,hx,Ob.jh cG⟩)
 refine⟨λk=>hR _ _ (h.ao k),λi o hi=>?_,h.inj,h.nz,λk bf=>Nat.lt_of_lt_of_le (h.fV k bf) aJ,λg=>hR _ _ (h.gl g)⟩;by_cases cG:o=.gone
 ·subst cG;trivial
 ·exact(h.dx i o hi).mono hR rfl (λk x c hb=>hk k (λe=>ho ⟨i,x,c,⟨o,hi,cG⟩,e▸hb⟩) (h.blt ⟨o,hi,cG⟩ hb))
theorem Fr.z'{os:List Ob}{γ0 γ:Cx}(h:Fr os γ0 σ.aa γ){w':World}{b:Nat}(hb:γ0.w.heap.size<=b)(hk:∀ k,k≠b->k<γ.w.heap.size->w'.heap[k]?=γ.w.heap[k]?)(aJ:γ.w.heap.size<=w'.heap.size)(h1:w'.os=γ.w.os)(h2:w'.tape=γ.w.tape)(h3:w'.output=γ.w.output)(h4:γ.w.drawn<=w'.drawn:=by first|exact Nat.le_refl _|(simp;done)|omega):Fr os γ0 σ.aa { γ with w:=w' } :=
 ⟨h1.trans h.kD,h2.trans h.tape,h3.trans h.output,Nat.le_trans h.size aJ,fun k bf ho=>(hk k (by omega) (Nat.lt_of_lt_of_le bf h.size)).trans (h.dN k bf ho),h.z0,h.z1,h.own,h.len,h.dV,Nat.le_trans h.drawn h4⟩
def oJ.z'{μ:Mem}{o0 os:List Ob}{γ0 γ:Cx}(h:oJ μ o0 os γ0 γ){w':World}{b:Nat}{g:Gh}(hm:g.vG)(hz:¬ γ.Z b)(ho:¬ oe os γ.blk b)(hb:γ0.w.heap.size<=b)(hk:∀ k,k≠b->k<γ.w.heap.size->w'.heap[k]?=γ.w.heap[k]?)(hg:g.At w' b):oJ (gT μ b g) o0 os γ0 { γ with w:=w' }:=by
 have one:∀ k g',gT μ b g k=some g'->(k=b/\g'=g)\/(k≠b/\μ k=some g'):=λk g' h'=>by
  by_cases e:k=b
  ·subst e;rw[rN]at h';exact .inl ⟨rfl,by simpa using h'.symm⟩
  ·rw[pH μ g e]at h';exact .inr ⟨e,h'⟩
 refine⟨λk g' h'=>?_,λk g' h' qT=>?_,λk g' h' qT=>?_,λk g' h' qT=>?_,λk i h'=>?_⟩<;>rcases one k _ h' with⟨rfl,e⟩|⟨e,h2⟩
 ·subst e;exact hg
 ·by_cases qT:g'.vG
  ·exact(h.gh k g' h2).heap (hk k e ((h.gh k g' h2).lt qT))
  ·cases g'<;>first|trivial|exact(qT trivial).elim
 ·exact hb
 ·exact h.fresh k g' h2 qT
 ·exact hz
 ·exact h.B6 k g' h2 qT
 ·exact ho
 ·exact h.xe k g' h2 qT
 ·subst e;exact hm.elim
 ·exact h.iH k i h2
variable {μ:Mem}
def kA(ag:Nat)(l:List Int):AV:=if ag=0 then .lit (kV ag l) else .agg (l.map λn=>Oi n)
def TX{os:List Ob}{w:World}{Z:Nat->Prop}{blk:fR}(ag:Nat)(l:List Int):aw os w Z blk (kA ag l) (kV ag l):=by
 unfold kA;split
 ·exact .lit _
 ·rename_i h;rw[kV,if_neg h];refine .agg _ _ IM λj x hx=>?_;simp only[bV,Option.map_eq_some_iff]at hx;obtain⟨n,hn,rfl⟩:=hx;have:(l.map λn=>Value.int .i64 n).toArray.getD j Go.undef=.int .i64 n:=by simp[eA,hn]
  rw[this];exact .lit _
def Hb(P:Program)(t:TypeId):Prop:=∃ kt et,P.underlying t=some (.map kt et)/\P.underlying kt=some (.int .i64)
def tu(P:Program)(t:TypeId):Prop:=∃ kt et,P.underlying t=some (.map kt et)
def Hc(P:Program)(t:TypeId)(z:Value):Prop:=∃ kt et,P.underlying t=some (.map kt et)/\P.underlying kt=some (.int .i64)/\∀ w:World,(zeroValue et).run P w=.ok z w
def tv(P:Program)(o:Oper)(op:BinOp)(t:TypeId)(x y:AV)(σ:St)(μ:Mem)(K:St->Mem->Prop):Prop :=
 match x with
 |.lit (.map a)=>tu P t/\y=.lit (.map none)/\match op with|.eql=>K (σ.put o.dst (.lit (.bool a.isNone))) μ|.neq=>K (σ.put o.dst (.lit (.bool (!a.isNone)))) μ|_=>False
 |_=>aH P o σ λs=>K s μ
def yE(P:Program)(o:Oper)(args:List AV)(dh:List TypeId)(σ:St)(μ:Mem)(K:St->Mem->Prop):Prop :=
 match args with
 |[.lit (.map (some b))]=>∃ t ents,dh=[t]/\tu P t/\μ b=some (.map ents)/\K (σ.put o.dst (Oi (ents.length:Nat))) μ
 |_=>aH P o σ λs=>K s μ
def ez(P:Program)(o:Oper)(σ:St)(μ:Mem)(K:St->Mem->Prop):Prop :=
 match o.op with
 |.makeMap _ none=>∀ b,μ b=none->K (σ.put o.dst (.lit (.map (some b)))) (gT μ b (.map []))
 |.lookup t x i false=>∃ n z,ev σ i=Oi n/\Hc P t z /\
   ((ev σ x=.lit (.map none)/\K (σ.put o.dst (.lit z)) μ)\/∃ b L,ev σ x=.lit (.map (some b))/\μ b=some (.map (iE L))/\K (σ.put o.dst (.lit ((nh n L).getD z))) μ)
 |.mapUpdate t m k x=>∃ b n L v,Hb P t/\ev σ m=.lit (.map (some b))/\ev σ k=Oi n/\ev σ x=.lit v/\μ b=some (.map (iE L))/\K (σ.put o.dst .undef) (gT μ b (.map (iE (j' n v L))))
 |.range t x=>(∃ b ents,tu P t/\ev σ x=.lit (.map (some b))/\μ b=some (.map ents)/\∀ r,μ r=none->K (σ.put o.dst (.lit (.pointer (some ⟨r,0,none⟩)))) (gT μ r (.iter b ents.length []))) \/
   ∃ b i ag L,tu P t/\ev σ x=.c9 i/\σ.aa[i]?=some (.mp ag L)/\μ b=some (.iH i)/\∀ r,μ r=none->K (σ.put o.dst (.lit (.pointer (some ⟨r,0,none⟩)))) (gT μ r (.iter b L.length []))
 |.next x false=>(∃ r b seen ents,ev σ x=.lit (.pointer (some ⟨r,0,none⟩))/\μ r=some (.iter b ents.length seen)/\μ b=some (.map ents) /\
   ((∀ j<ents.length,j∈seen)->K (σ.put o.dst (.bu [.lit (.bool false)])) μ) /\
   ∀ j p,ents[j]?=some p->j ∉ seen->K (σ.put o.dst (.bu [.lit (.bool true),.lit p.1,.lit p.2])) (gT μ r (.iter b ents.length (seen++[j])))) \/
   ∃ r b i ag L seen,ev σ x=.lit (.pointer (some ⟨r,0,none⟩))/\μ r=some (.iter b (kC L) seen)/\μ b=some (.iH i)/\σ.aa[i]?=some (.mp ag L) /\
   ((∀ j<L.length,j∈seen)->K (σ.put o.dst (.bu [.lit (.bool false)])) μ) /\
   ∀ j p,L[j]?=some p->j ∉ seen->K (σ.put o.dst (.bu [.lit (.bool true),kA ag p.1,p.2])) (gT μ r (.iter b L.length (seen++[j])))
 |.entry x=>(∃ r b seen j ents p,ev σ x=.lit (.pointer (some ⟨r,0,none⟩))/\μ r=some (.iter b ents.length (seen++[j]))/\μ b=some (.map ents)/\ents[j]?=some p/\K (σ.put o.dst (.bu [.lit p.1,.lit p.2])) μ) \/
   ∃ r b i ag L seen j p,ev σ x=.lit (.pointer (some ⟨r,0,none⟩))/\μ r=some (.iter b (kC L) (seen++[j]))/\μ b=some (.iH i)/\σ.aa[i]?=some (.mp ag L)/\L[j]?=some p/\K (σ.put o.dst (.bu [kA ag p.1,p.2])) μ
 |.binOp op t x y _=>tv P o op t (ev σ x) (ev σ y) σ μ K
 |.call ⟨.builtin .len,args,dh⟩=>yE P o (args.toList.map (ev σ)) dh.toList σ μ K
 |_=>aH P o σ λs=>K s μ
def gU.afU{os:List Ob}{γ0:Cx}{a:Act}{w:World}(h:gU N os γ0 σ μ a w):∃γ:Cx,h9 N σ.aa γ σ a w/\∀ σ' a' w',h9 N σ.aa γ σ' a' w'->gU N os γ0 σ' μ a' w':=by
 obtain⟨gH,aJ,γ,rfl,ha,hs,hf,hm⟩:=h;refine⟨γ,⟨gH,aJ,γ,rfl,ha,hs,Fr.refl _ _⟩,?_⟩;rintro σ' a' w'⟨Lh,Li,az,rfl,pI,iz,eR⟩;exact⟨Lh,Li,az,rfl,pI,iz,hf.trans eR,hm.dN eR⟩
def gU.vI{os:List Ob}{γ0:Cx}{a:Act}{w:World}(h:gU N os γ0 σ μ a w){o:Oper}(hd:∀ d,o.dst=some d->d<N){v:AV}{cv:Value}(hv:∀ γ:Cx,γ.w=w->bh σ γ->Fr os γ0 σ.aa γ->oJ μ os σ.aa γ0 γ->aw σ.aa γ.w γ.Z γ.blk v cv):gU N os γ0 (σ.put o.dst v) μ (a.put o.dst cv) w:=by
 obtain⟨gH,aJ,γ,rfl,ha,hs,hf,hm⟩:=h;refine⟨by rw[put_defers];exact gH,by rw[tZ];exact aJ,{ γ with tmps:=(a.put o.dst cv).tmps },rfl,rfl,rm hs ha (λd h=>by rw[aJ];exact hd d h) (hv γ rfl hs hf hm),?_,?_⟩
 ·rw[qh];exact hf.put _
 ·rw[qh];exact⟨hm.gh,hm.fresh,hm.B6,hm.xe,hm.iH⟩
theorem gU.block{os:List Ob}{γ0:Cx}{a:Act}{w w':World}(h:gU N os γ0 σ μ a w){b:Nat}{g:Gh}(B7:g.vG)(hb:(∃ g',μ b=some g'/\g'.vG)\/b=w.heap.size)(hk:∀ k,k≠b->k<w.heap.size->w'.heap[k]?=w.heap[k]?)(aJ:w.heap.size<=w'.heap.size)(h1:w'.os=w.os)(h2:w'.tape=w.tape)(h3:w'.output=w.output)(hg:g.At w' b)(h4:w.drawn<=w'.drawn:=by first|exact Nat.le_refl _|(simp;done)|omega):gU N os γ0 σ (gT μ b g) a w':=by
 obtain⟨gH,wW,γ,rfl,ha,hs,hf,hm⟩:=h;have aY:¬ γ.Z b/\¬ oe σ.aa γ.blk b/\γ0.w.heap.size<=b:=by
  rcases hb with⟨g',sM,Ll⟩|rfl
  ·exact⟨hm.B6 _ _ sM Ll,hm.xe _ _ sM Ll,hm.fresh _ _ sM Ll⟩
  ·refine⟨fun hz=>Nat.lt_irrefl _ (hs.fV _ hz),?_,hf.size⟩;rintro⟨i,o,c,hl,hb⟩;exact Nat.lt_irrefl _ (hs.blt hl hb)
 exact⟨gH,wW,{ γ with w:=w' },rfl,ha,hs.z' aY.1 aY.2.1 hk aJ,hf.z' aY.2.2 hk aJ h1 h2 h3 h4,hm.z' B7 aY.1 aY.2.1 aY.2.2 hk hg⟩
def gU.ev{os:List Ob}{γ0:Cx}{a:Act}{w:World}(h:gU N os γ0 σ μ a w){x:Operand}{v:Value}(hx:ev σ x=.lit v):a.eval x=v:=by
 obtain⟨_,_,γ,rfl,ha,hs,_⟩:=h;have:=sN hs ha x;rw[hx]at this;exact this.cD
def gU.at{os:List Ob}{γ0:Cx}{a:Act}{w:World}(h:gU N os γ0 σ μ a w){b:Nat}{g:Gh}(hb:μ b=some g):g.At w b:=by
 obtain⟨_,_,γ,rfl,ha,hs,_,hm⟩:=h;exact hm.gh _ _ hb
def gU.none{os:List Ob}{γ0:Cx}{a:Act}{w:World}(h:gU N os γ0 σ μ a w):μ w.heap.size=none:=by
 cases hb:μ w.heap.size with
 |none=>rfl
 |some g =>
  by_cases hm:g.vG
  ·exact absurd ((h.at hb).lt hm) (Nat.lt_irrefl _)
  ·cases g<;>first|exact(hm trivial).elim|skip
   obtain⟨_,_,γ,rfl,_,_,hf,xf⟩:=h;have:=(xf.iH _ _ hb).2.2;have:=hf.size;omega
def TY{os:List Ob}{γ0 γ:Cx}(hs:bh σ γ)(hf:Fr os γ0 σ.aa γ)(hm:oJ μ os σ.aa γ0 γ){b i ag:Nat}{L:List (List Int×AV)}(hb:μ b=some (.iH i))(hi:σ.aa[i]?=some (.mp ag L)):
  ∃ f:Nat->Value,γ.w.heap[b]?=some (.map (cN (c6 ag f L)) L.length)/\∀ (j:Nat) p,L[j]?=some p->aw σ.aa γ.w γ.Z γ.blk p.2 (f j):=by
 obtain⟨b',f,h1,h2,_,h3⟩:=hs.dx i _ hi;have:=(hf.dV i (hm.iH _ _ hb).1 ⟨_,hi,IM⟩).1;rw[this,(hm.iH _ _ hb).2.1]at h1;cases h1;exact⟨f,h2,h3⟩
def afV{x y:List (Value×Value)}(h:cN x=cN y):x=y:=by
 have e:∀ z:List (Value×Value),(cN z).toList.map (λe=>(e.key,e.val))=z:=λz=>by
  rw[sS];apply pZ;intro j;simp only[bV,N9];cases z[j]?<;>rfl
 rw[<- e x,<- e y,h]
def Hd{ag:Nat}{f:Nat->Value}{L:List (List Int×AV)}{j:Nat}{q:List Int×AV}(h:L[j]?=some q):(c6 ag f L)[j]?=some (kV ag q.1,f j):=by simp[c6,h]
def gU.seen{os:List Ob}{γ0:Cx}{a:Act}{w:World}(h:gU N os γ0 σ μ a w){b i ag:Nat}{L:List (List Int×AV)}(hb:μ b=some (.iH i))(hi:σ.aa[i]?=some (.mp ag L)):
  ∃ f:Nat->Value,w.heap[b]?=some (.map (cN (c6 ag f L)) (c6 ag f L).length) /\
   ∀ (γ:Cx) (dg:Mem),γ.w.heap[b]?=w.heap[b]?->dg b=some (.iH i)->bh σ γ->Fr os γ0 σ.aa γ->oJ dg os σ.aa γ0 γ->∀ (j:Nat) p,L[j]?=some p->aw σ.aa γ.w γ.Z γ.blk p.2 (f j):=by
 obtain⟨_,_,γ,rfl,ha,hs,hf,hm⟩:=h;obtain⟨f,h1,h2⟩:=TY hs hf hm hb hi;refine⟨f,by rw[qx];exact h1,?_⟩;intro az dg e aY iz eR qT j p hj;obtain⟨f',h3,h4⟩:=TY iz eR qT aY hi;rw[e,h1]at h3;simp only[cy.injEq,Obj.map.injEq]at h3;have:=congrArg (λl=>l[j]?) (afV h3.1);rw[Hd hj,Hd hj]at this;simp only[cy.injEq,Prod.mk.injEq]at this;rw[this.2];exact h4 j p hj
def TZ(L:List (Int×Value)):(iE L).length=L.length:=by simp[iE]
def T1{os:List Ob}{γ0:Cx}{o:Oper}{K:St->Mem->Prop}(h:ez P o σ μ K){a:Act}{w:World}(aA:gU N os γ0 σ μ a w)(hd:∀ d,o.dst=some d->d<N){Q:Exit->Act->World->Prop}{next:Act->World->Prop}(hn:∀ σ' dg a' w',K σ' dg->gU N os γ0 σ' dg a' w'->next a' w'):o.wp P a w next Q:=by
 have gen:aH P o σ (λs=>K s μ)->o.wp P a w next Q:=λhg=>by
  obtain⟨γ,h1,h2⟩:=aA.afU;exact xT hg h1 hd (λσ' a' w' hK dj=>hn _ _ _ _ hK (h2 _ _ _ dj))
 have lit:∀ (v:Value) w',(execOp a.eval o).run P w=.ok (.value v) w'->∀ dg,gU N os γ0 σ dg a w'->K (σ.put o.dst (.lit v)) dg->o.wp P a w next Q:=λv w' hr dg dj hK=>by
  unfold Oper.wp;rw[hr];exact hn _ _ _ _ hK (dj.vI hd (λγ _ _ _ _=>aw.lit v))
 obtain⟨dst,op,type,pos,after,guard⟩:=o;unfold ez at h;cases op
 case makeMap t r =>
  cases r with
  |some r=>exact gen h
  |none =>
   refine lit (.map (some w.heap.size)) (w.alloc (.map #[] 0)) (by simp[execOp,Instr.makeMap]) _ ?_ (h w.heap.size aA.none);exact aA.block trivial (.inr rfl) (λk _ hk=>by rw[heap_alloc_old _ _ hk]) (by show w.heap.size<=(w.heap.push _).size;simp) rfl rfl rfl (by rw[Gh.At,heap_alloc_new];rfl)
 case lookup t x i ok =>
  cases ok with
  |true=>exact gen h
  |false =>
   obtain⟨n,z,hi,⟨kt,et,ht,hk,hz⟩,h⟩:=h;rcases h with⟨hx,hK⟩|⟨b,L,hx,hb,hK⟩
   ·exact lit z w (by simp[execOp,aA.ev hx,aA.ev hi,afQ ht hk (hz w)]) μ aA hK
   ·exact lit _ w (by simp[execOp,aA.ev hx,aA.ev hi,afP ht hk (hz w) (aA.at hb)]) μ aA hK
 case mapUpdate t m k x =>
  obtain⟨b,n,L,v,⟨kt,et,ht,hk⟩,hm,hi,hx,hb,hK⟩:=h;have nj:=aA.at hb;rw[Gh.At,TZ]at nj;have aS:=(nu.1 nj).1;have hr:=afR (P:=P) ht hk nj n v;unfold Oper.wp;have gz:(execOp a.eval ⟨dst,.mapUpdate t m k x,type,pos,after,guard⟩).run P w=.ok .skip { w with heap:=w.heap.setIfInBounds b (.map (cN (iE (j' n v L))) (j' n v L).length) }:=by
   simp[execOp,aA.ev hm,aA.ev hi,aA.ev hx,hr]
  rw[gz];have qq:gU N os γ0 σ (gT μ b (.map (iE (j' n v L)))) a { w with heap:=w.heap.setIfInBounds b (.map (cN (iE (j' n v L))) (j' n v L).length) }:=by
   refine aA.block trivial (.inl ⟨_,hb,trivial⟩) (λk hk _=>?_) IM rfl rfl rfl ?_
   ·simp[tQ (Ne.symm hk)]
   ·rw[Gh.At,TZ];simp[aS]
  exact hn _ _ _ _ hK (qq.vI hd (λγ _ _ _ _=>.undef _))
 case range t x =>
  rcases h with h|⟨b,i,ag,L,⟨kt,et,ht⟩,hx,hi,hb,hK⟩;rotate_left
  ·obtain⟨f,h1,_⟩:=aA.seen hb hi;rw[qx]at h1;have hev:a.eval x=.map (some b):=by
    obtain⟨_,_,γ,rfl,ha,hs,hf,hm⟩:=aA;have:=sN hs ha x;rw[hx]at this;have e:=(hf.dV i (hm.iH _ _ hb).1 ⟨_,hi,IM⟩).1;rw[(hm.iH _ _ hb).2.1]at e;generalize a.eval x=v at this ⊢;cases this with
    |cC v cv h=>cases h
    |c9 id b' iJ L' h aY=>rw[e]at aY;cases aY;rfl
    |qm id cv h h1=>rw[hi]at h;cases h
   refine lit (.pointer (some ⟨w.heap.size,0,none⟩)) (w.alloc (.mapIter (some b) L.length #[] L.length)) (by simp[execOp,hev,TT ht h1]) _ ?_ (hK w.heap.size aA.none);exact aA.block trivial (.inr rfl) (λk _ hk=>by rw[heap_alloc_old _ _ hk]) (by show w.heap.size<=(w.heap.push _).size;simp) rfl rfl rfl (by rw[Gh.At,heap_alloc_new])
  obtain⟨b,ents,⟨kt,et,ht⟩,hx,hb,hK⟩:=h;refine lit (.pointer (some ⟨w.heap.size,0,none⟩)) (w.alloc (.mapIter (some b) ents.length #[] ents.length)) (by simp[execOp,aA.ev hx,TT ht (aA.at hb)]) _ ?_ (hK w.heap.size aA.none);exact aA.block trivial (.inr rfl) (λk _ hk=>by rw[heap_alloc_old _ _ hk]) (by show w.heap.size<=(w.heap.push _).size;simp) rfl rfl rfl (by rw[Gh.At,heap_alloc_new])
 case next x s =>
  cases s with
  |true=>exact gen h
  |false =>
   rcases h with h|⟨r,b,i,ag,L,seen,hx,hr,hb,hi,h1,h2⟩;rotate_left
   ·have aS:=(aA.at hr).lt trivial;obtain⟨f,iu,oA⟩:=aA.seen hb hi;have j7:=aA.at hr;rw[Gh.At,<- qx ag f L]at j7;have DZ:r≠b:=λe=>by rw[e,hb]at hr;cases hr
    rcases TV (P:=P) rfl j7 iu type with⟨k1,k2⟩|⟨j,p,d,k1,k2,k4,k3⟩
    ·have gz:(execOp a.eval ⟨dst,.next x false,type,pos,after,guard⟩).run P w=.ok (.value (.tuple #[.bool false])) w:=by simp[execOp,aA.ev hx,k2]
     unfold Oper.wp;rw[gz];rw[qx]at k1;exact hn _ _ _ _ (h1 k1) (aA.vI hd (λγ _ _ _ _=>.bu _ _ rfl (λi y hi=>by
      cases i with
      |zero=>simp at hi;subst hi;exact aw.lit _
      |succ i=>simp at hi)))
    ·have gz:(execOp a.eval ⟨dst,.next x false,type,pos,after,guard⟩).run P w=.ok (.value (.tuple #[.bool true,p.1,p.2])) { w with heap:=w.heap.setIfInBounds r (.mapIter (some b) L.length (seen++[j]).toArray L.length),drawn:=d }:=by
      rw[qx]at k3;simp[execOp,aA.ev hx,k3]
     unfold Oper.wp;rw[gz];have gy:j<L.length:=by have:=(aR.1 k1).1;rw[qx]at this;exact this
     obtain⟨q,hq⟩:∃q,L[j]?=some q:=⟨_,bq gy⟩;rw[Hd hq]at k1;cases k1;have qq:gU N os γ0 σ (gT μ r (.iter b L.length (seen++[j]))) a { w with heap:=w.heap.setIfInBounds r (.mapIter (some b) L.length (seen++[j]).toArray L.length),drawn:=d }:=by
      refine aA.block trivial (.inl ⟨_,hr,trivial⟩) (λk hk _=>?_) IM rfl rfl rfl ?_ k4
      ·simp[tQ (Ne.symm hk)]
      ·rw[Gh.At];simp[aS]
     refine hn _ _ _ _ (h2 j q hq k2) (qq.vI hd (λγ hw hs hf hm=>.bu _ _ rfl (λi' y ar=>?_)))
     match i',ar with
     |0,ar=>simp at ar;subst ar;exact aw.lit _
     |1,ar=>simp at ar;subst ar;exact TX _ _
     |2,ar =>
      simp at ar;subst ar;exact oA γ _ (by rw[hw];simp[tQ DZ]) (by rw[pH _ _ (Ne.symm DZ)];exact hb) hs hf hm j q hq
     |i'+3,ar=>simp at ar
   obtain⟨r,b,seen,ents,hx,hr,hb,h1,h2⟩:=h;have aS:=(aA.at hr).lt trivial;rcases TV (P:=P) rfl (aA.at hr) (aA.at hb) type with⟨k1,k2⟩|⟨j,p,d,k1,k2,k4,k3⟩
   ·have gz:(execOp a.eval ⟨dst,.next x false,type,pos,after,guard⟩).run P w=.ok (.value (.tuple #[.bool false])) w:=by simp[execOp,aA.ev hx,k2]
    unfold Oper.wp;rw[gz];exact hn _ _ _ _ (h1 k1) (aA.vI hd (λγ _ _ _ _=>.bu _ _ rfl (λi y hi=>by
     cases i with
     |zero=>simp at hi;subst hi;exact aw.lit _
     |succ i=>simp at hi)))
   ·have gz:(execOp a.eval ⟨dst,.next x false,type,pos,after,guard⟩).run P w=.ok (.value (.tuple #[.bool true,p.1,p.2])) { w with heap:=w.heap.setIfInBounds r (.mapIter (some b) ents.length (seen++[j]).toArray ents.length),drawn:=d }:=by simp[execOp,aA.ev hx,k3]
    unfold Oper.wp;rw[gz];have qq:gU N os γ0 σ (gT μ r (.iter b ents.length (seen++[j]))) a { w with heap:=w.heap.setIfInBounds r (.mapIter (some b) ents.length (seen++[j]).toArray ents.length),drawn:=d }:=by
     refine aA.block trivial (.inl ⟨_,hr,trivial⟩) (λk hk _=>?_) IM rfl rfl rfl ?_ k4
     ·simp[tQ (Ne.symm hk)]
     ·rw[Gh.At];simp[aS]
    refine hn _ _ _ _ (h2 j p k1 k2) (qq.vI hd (λγ _ _ _ _=>.bu _ _ rfl (λi y hi=>?_)))
    ·match i,hi with
     |0,hi=>simp at hi;subst hi;exact aw.lit _
     |1,hi=>simp at hi;subst hi;exact aw.lit _
     |2,hi=>simp at hi;subst hi;exact aw.lit _
     |i+3,hi=>simp at hi
 case entry x =>
  rcases h with h|⟨r,b,i,ag,L,seen,j,q,hx,hr,hb,hi,hq,hK⟩;rotate_left
  ·obtain⟨f,iu,oA⟩:=aA.seen hb hi;have j7:=aA.at hr;rw[Gh.At,<- qx ag f L]at j7;have gz:(execOp a.eval ⟨dst,.entry x,type,pos,after,guard⟩).run P w=.ok (.value (.tuple #[kV ag q.1,f j])) w:=by simp[execOp,aA.ev hx,TW (P:=P) rfl j7 iu (Hd hq)]
   unfold Oper.wp;rw[gz];exact hn _ _ _ _ hK (aA.vI hd (λγ hw hs hf hm=>.bu _ _ rfl (λi' y ar=>by
    match i',ar with
    |0,ar=>simp at ar;subst ar;exact TX _ _
    |1,ar=>simp at ar;subst ar;exact oA γ _ (by rw[hw]) hb hs hf hm j q hq
    |i'+2,ar=>simp at ar)))
  obtain⟨r,b,seen,j,ents,p,hx,hr,hb,hp,hK⟩:=h;have gz:(execOp a.eval ⟨dst,.entry x,type,pos,after,guard⟩).run P w=.ok (.value (.tuple #[p.1,p.2])) w:=by simp[execOp,aA.ev hx,TW (P:=P) rfl (aA.at hr) (aA.at hb) hp]
  unfold Oper.wp;rw[gz];exact hn _ _ _ _ hK (aA.vI hd (λγ _ _ _ _=>.bu _ _ rfl (λi y hi=>by
   match i,hi with
   |0,hi=>simp at hi;subst hi;exact aw.lit _
   |1,hi=>simp at hi;subst hi;exact aw.lit _
   |i+2,hi=>simp at hi)))
 case binOp op t x y yt =>
  replace h:tv P _ op t (Am.ev σ x) (Am.ev σ y) σ μ K:=h
  unfold tv at h;split at h
  ·rename_i m hx;obtain⟨⟨kt,et,ht⟩,hy,h⟩:=h;split at h
   ·exact lit _ w (by simp[execOp,aA.ev hx,aA.ev hy,eqGuard_at_map,afS w t kt et m ht]) μ aA h
   ·exact lit _ w (by simp[execOp,aA.ev hx,aA.ev hy,eqGuard_at_map,afT w t kt et m ht]) μ aA h
   ·exact h.elim
  ·exact gen h
 case call c =>
  obtain⟨callee,args,dh⟩:=c;cases callee with
  |value f=>exact gen h
  |invoke r m=>exact gen h
  |builtin b =>
   cases b
   case len =>
    replace h:yE P _ (args.toList.map (Am.ev σ)) dh.toList σ μ K:=h
    unfold yE at h;split at h
    ·rename_i b hx;obtain⟨t,ents,nj,⟨kt,et,ht⟩,hb,hK⟩:=h;obtain⟨x,hax,zw⟩:∃x,args.toList=[x]/\Am.ev σ x=.lit (.map (some b)):=by
      cases ha:args.toList with
      |nil=>rw[ha]at hx;simp at hx
      |cons x r =>
       rw[ha]at hx;cases r with
       |nil=>exact⟨x,rfl,by simpa using hx⟩
       |cons y r=>simp at hx
     have ea:args = #[x]:=by rw[<- Array.toArray_toList (xs:=args),hax]
     have eb:dh = #[t]:=by rw[<- Array.toArray_toList (xs:=dh),nj]
     subst ea;subst eb;have afY:=aA.at hb;exact lit _ w (by simp[execOp,resolve,invoke,builtin,Builtin.len_,aA.ev zw,run_underlying ht,MapKept.run_getObj_map afY,cN,goInt]) μ aA hK
    ·exact gen h
   all_goals exact gen h
 all_goals exact gen h
def oL(P:Program)(o:Oper)(K:St->Mem->Prop)(b want:Bool)(σ:St)(μ:Mem):Prop:=(b=want->ez P o σ μ K)/\(b≠want->K (σ.put o.dst (.lit (.tuple #[]))) μ)
def pL(P:Program)(ops:Array Oper):List Oper->(St->Mem->Prop)->St->Mem->Prop
 |[],K,σ,μ=>K σ μ
 |o::r,K,σ,μ =>
  match o.guard with
  |none=>ez P o σ μ (pL P ops r K)
  |some (j,want) =>
   match (ops[j]?).bind (·.dst) with
   |none=>False
   |some d =>
    match σ.env d with
    |.lit (.bool b)=>oL P o (pL P ops r K) b want σ μ
    |.lit (.tuple vs)=>vs = #[]/\pL P ops r K (σ.put o.dst (.lit (.tuple #[]))) μ
    |_=>False
def D0{os:List Ob}{γ0:Cx}{ops:Array Oper}(hd:∀ o∈ops.toList,∀ d,o.dst=some d->d<N){K:St->Mem->Prop}{Q:Exit->Act->World->Prop}(hQ:∀ σ' dg a' w',K σ' dg->gU N os γ0 σ' dg a' w'->Q .normal a' w'):∀ (l:List Oper) (i:Nat) (σ:St) (μ:Mem) (a:Act) (w:World),ops.toList.drop i=l->pL P ops l K σ μ->gU N os γ0 σ μ a w ->
   wpOps P ops Q (List.range' i l.length) a w
 |[],i,σ,μ,a,w,_,h,aA=>by simpa [wpOps] using hQ _ _ _ _ h aA
 |o::r,i,σ,μ,a,w,hl,h,aA=>by
  have hi:ops[i]?=some o:=by
   have:(ops.toList.drop i)[0]?=some o:=by rw[hl];rfl
   simpa using this
  have hr:ops.toList.drop (i+1)=r:=by
   have:=congrArg List.tail hl;simpa [List.tail_drop] using this
  have cq:o∈ops.toList:=gY (by simpa using hi);rw[List.length_cons,List.range'_succ,wpOps_cons];unfold wpOp;simp only[hi];unfold pL at h;cases hg:o.guard with
  |none =>
   simp only[hg]at h;have hw:Region.wanted o (yielded ops a.tmps)=true:=by simp[Region.wanted,hg]
   rw[if_pos hw];left;exact T1 h aA (hd o cq) (λσ' dg a' w' hK dj=>D0 hd hQ r (i+1) σ' dg a' w' hr hK dj)
  |some jw =>
   obtain⟨j,want⟩:=jw;simp only[hg]at h;cases dO:(ops[j]?).bind (·.dst) with
   |none=>simp[dO]at h
   |some d =>
    simp only[dO]at h;have hv:∀ v,σ.env d=.lit v->a.tmps.getD d Go.undef=v:=λv he=>by
     have:=aA.ev (x:=.tmp d) (v:=v) (by simpa [ev] using he);simpa [Act.eval] using this
    split at h
    ·rename_i b he;have hv:=hv _ he;have hy:yielded ops a.tmps j=some b:=by
      unfold yielded;rw[dO];have:a.tmps[d]?=some (.bool b):=by
       rw[eA]at hv;cases hx:a.tmps[d]? with
       |none=>rw[hx]at hv;simp[Go.undef]at hv
       |some y=>rw[hx]at hv;simp at hv;rw[hv]
      simp[this]
     by_cases gj:b=want
     ·have hw:Region.wanted o (yielded ops a.tmps)=true:=by simp[Region.wanted,hg,hy,gj]
      rw[if_pos hw];left;exact T1 (h.1 gj) aA (hd o cq) (λσ' dg a' w' hK dj=>D0 hd hQ r (i+1) σ' dg a' w' hr hK dj)
     ·have hw:Region.wanted o (yielded ops a.tmps)=false:=by simp[Region.wanted,hg,hy,gj]
      rw[if_neg (by rw[hw];simp)];exact D0 hd hQ r (i+1) _ _ _ _ hr (h.2 gj) (aA.vI (hd o cq) (λγ _ _ _ _=>aw.lit _))
    ·rename_i vs he;have hv:=hv _ he;have hy:yielded ops a.tmps j=none:=by
      unfold yielded;rw[dO];rw[eA]at hv;cases hx:a.tmps[d]? with
      |none=>simp[hx]
      |some y=>rw[hx]at hv;simp at hv;subst hv;simp[hx]
     have hw:Region.wanted o (yielded ops a.tmps)=false:=by simp[Region.wanted,hg,hy]
     rw[if_neg (by rw[hw];simp)];exact D0 hd hQ r (i+1) _ _ _ _ hr h.2 (aA.vI (hd o cq) (λγ _ _ _ _=>aw.lit _))
    ·exact h.elim
def T2{id:Nat}{ops:Array Oper}{Q:Exit->St->Mem->Prop}(hd:fU N ops=true)(h:pL P ops ops.toList (Q .normal) σ μ):WM P N n0 (.region id ops false) Q σ μ:=by
 intro os γ0 a w _ aA;refine wp_region ?_;have:=D0 (P:=P) (N:=N) (os:=os) (γ0:=γ0) (ops:=ops) (ud hd) (K:=Q .normal) (Q:=λe a' w'=>∃ σ' dg,Q e σ' dg/\gU N os γ0 σ' dg a' w') (λσ' dg a' w' hK dj=>⟨σ',dg,hK,dj⟩)
  ops.toList 0 σ μ a w rfl h aA
 rw[List.range_eq_range'];simpa using this
end Go.Am
namespace Go.Am
variable {P:Program} {N n0:Nat} {σ:St} {μ:Mem} {Q:Exit->St->Mem->Prop}
theorem mr{id:Nat}{ops:Array Oper}{y:Code}(h:∀ K:St->Mem->Prop,(∀ s m,WM P N n0 y Q s m->K s m)->pL P ops ops.toList K σ μ)(hd:fU N ops=true:=by decide):WM P N n0 (.seq (.region id ops false) y) Q σ μ :=
 nQ fun Q' h1 _=>T2 hd (h _ h1)
theorem qU{id:Nat}{ops:Array Oper}(h:∀ K:St->Mem->Prop,(∀ s m,Q .normal s m->K s m)->pL P ops ops.toList K σ μ)(hd:fU N ops=true:=by decide):WM P N n0 (.region id ops false) Q σ μ :=
 T2 hd (h _ fun _ _ h=>h)
theorem mc{c:Operand}{x y:Code}{t:Bool}(ht:t=true->WM P N n0 x Q σ μ)(hf:t=false->WM P N n0 y Q σ μ)(hc:ev σ c=.lit (.bool t):=by(simp only[Go.Am.sF,Go.Am.Lc,↓reduceIte,Nat.reduceEqDiff,Nat.reduceBEq];exact rfl)):WM P N n0 (.cond c x y) Q σ μ:=afL hc ht hf
section
variable {ops:Array Oper} {o:Oper} {l:List Oper} {K:St->Mem->Prop}
instance:Head (pL P ops (o::l) K σ μ):=⟨trivial⟩
def afZ{b want:Bool}(h1:b=true->oL P o K true want σ μ)(h2:b=false->oL P o K false want σ μ):oL P o K b want σ μ:=by
 cases b
 ·exact h2 rfl
 ·exact h1 rfl
instance {b want:Bool}:Gl (oL P o K b want σ μ) b (oL P o K true want σ μ) (oL P o K false want σ μ):=⟨afZ⟩
def T3:oL P o K true true σ μ=ez P o σ μ K:=by simp[oL]
def T4:oL P o K false false σ μ=ez P o σ μ K:=by simp[oL]
def T5:oL P o K true false σ μ=K (σ.put o.dst (.lit (.tuple #[]))) μ:=by simp[oL]
def T6:oL P o K false true σ μ=K (σ.put o.dst (.lit (.tuple #[]))) μ:=by simp[oL]
def T7:pL P ops [] K σ μ=K σ μ:=rfl
variable {dst:Option Tmp} {tt:TypeId} {p:String} {af:Array Edge} {g:Option (Nat×Bool)}
def T8(x:Operand):ez P ⟨dst,.move x,tt,p,af,g⟩ σ μ K=aH P ⟨dst,.move x,tt,p,af,g⟩ σ (λs=>K s μ):=rfl
def T9(x:Operand):ez P ⟨dst,.assign x,tt,p,af,g⟩ σ μ K=aH P ⟨dst,.assign x,tt,p,af,g⟩ σ (λs=>K s μ):=rfl
def T'(x y z:Operand):ez P ⟨dst,.pick x y z,tt,p,af,g⟩ σ μ K=aH P ⟨dst,.pick x y z,tt,p,af,g⟩ σ (λs=>K s μ):=rfl
def Ua(e:TypeId):ez P ⟨dst,.alloc e,tt,p,af,g⟩ σ μ K=aH P ⟨dst,.alloc e,tt,p,af,g⟩ σ (λs=>K s μ):=rfl
def Ub(e:TypeId)(x:Operand):ez P ⟨dst,.box e x,tt,p,af,g⟩ σ μ K=aH P ⟨dst,.box e x,tt,p,af,g⟩ σ (λs=>K s μ):=rfl
def Uc(t:TypeId)(l:Array (Nat×Operand)):ez P ⟨dst,.build t l,tt,p,af,g⟩ σ μ K=aH P ⟨dst,.build t l,tt,p,af,g⟩ σ (λs=>K s μ):=rfl
def Ud(t:TypeId)(n:Nat)(l:Array (Nat×Operand)):ez P ⟨dst,.buildSlice t n l,tt,p,af,g⟩ σ μ K=aH P ⟨dst,.buildSlice t n l,tt,p,af,g⟩ σ (λs=>K s μ):=rfl
def Ue(t:TypeId)(x:Operand):ez P ⟨dst,.load t x,tt,p,af,g⟩ σ μ K=aH P ⟨dst,.load t x,tt,p,af,g⟩ σ (λs=>K s μ):=rfl
def Uf(t:TypeId)(x y:Operand):ez P ⟨dst,.store t x y,tt,p,af,g⟩ σ μ K=aH P ⟨dst,.store t x y,tt,p,af,g⟩ σ (λs=>K s μ):=rfl
def Ug(u:UnOp)(t:TypeId)(x:Operand):ez P ⟨dst,.unOp u t x,tt,p,af,g⟩ σ μ K=aH P ⟨dst,.unOp u t x,tt,p,af,g⟩ σ (λs=>K s μ):=rfl
def Uh(f:Fn)(x y:Array Operand):ez P ⟨dst,.makeFunc f x y,tt,p,af,g⟩ σ μ K=aH P ⟨dst,.makeFunc f x y,tt,p,af,g⟩ σ (λs=>K s μ):=rfl
def Ui(t:TypeId)(x y:Operand):ez P ⟨dst,.makeSlice t x y,tt,p,af,g⟩ σ μ K=aH P ⟨dst,.makeSlice t x y,tt,p,af,g⟩ σ (λs=>K s μ):=rfl
def Uj(t:TypeId)(x:Operand)(lo hi mx:Option Operand):ez P ⟨dst,.slice t x lo hi mx,tt,p,af,g⟩ σ μ K=aH P ⟨dst,.slice t x lo hi mx,tt,p,af,g⟩ σ (λs=>K s μ):=rfl
def Uk(t:TypeId)(x:Operand)(n:Nat):ez P ⟨dst,.field t x n,tt,p,af,g⟩ σ μ K=aH P ⟨dst,.field t x n,tt,p,af,g⟩ σ (λs=>K s μ):=rfl
def Ul(t:TypeId)(x:Operand)(n:Nat):ez P ⟨dst,.fieldAddr t x n,tt,p,af,g⟩ σ μ K=aH P ⟨dst,.fieldAddr t x n,tt,p,af,g⟩ σ (λs=>K s μ):=rfl
def Um(t:TypeId)(x y:Operand):ez P ⟨dst,.indexAddr t x y,tt,p,af,g⟩ σ μ K=aH P ⟨dst,.indexAddr t x y,tt,p,af,g⟩ σ (λs=>K s μ):=rfl
def Un(x:Operand):ez P ⟨dst,.nilCheck x,tt,p,af,g⟩ σ μ K=aH P ⟨dst,.nilCheck x,tt,p,af,g⟩ σ (λs=>K s μ):=rfl
def Uo(x:Operand)(n:Nat):ez P ⟨dst,.extract x n,tt,p,af,g⟩ σ μ K=aH P ⟨dst,.extract x n,tt,p,af,g⟩ σ (λs=>K s μ):=rfl
def Uq(s d:TypeId)(x:Operand):ez P ⟨dst,.convert s d x,tt,p,af,g⟩ σ μ K=aH P ⟨dst,.convert s d x,tt,p,af,g⟩ σ (λs=>K s μ):=rfl
def Ur(f:Operand)(args:Array Operand)(dh:Array TypeId):ez P ⟨dst,.call ⟨.value f,args,dh⟩,tt,p,af,g⟩ σ μ K=aH P ⟨dst,.call ⟨.value f,args,dh⟩,tt,p,af,g⟩ σ (λs=>K s μ):=rfl
def Us(args:Array Operand)(dh:Array TypeId):ez P ⟨dst,.call ⟨.builtin .append,args,dh⟩,tt,p,af,g⟩ σ μ K=aH P ⟨dst,.call ⟨.builtin .append,args,dh⟩,tt,p,af,g⟩ σ (λs=>K s μ):=rfl
def Ut(args:Array Operand)(dh:Array TypeId):ez P ⟨dst,.call ⟨.builtin .min,args,dh⟩,tt,p,af,g⟩ σ μ K=aH P ⟨dst,.call ⟨.builtin .min,args,dh⟩,tt,p,af,g⟩ σ (λs=>K s μ):=rfl
def Uu(args:Array Operand)(dh:Array TypeId):ez P ⟨dst,.call ⟨.builtin .max,args,dh⟩,tt,p,af,g⟩ σ μ K=aH P ⟨dst,.call ⟨.builtin .max,args,dh⟩,tt,p,af,g⟩ σ (λs=>K s μ):=rfl
def Uv(args:Array Operand)(dh:Array TypeId):ez P ⟨dst,.call ⟨.builtin .copy,args,dh⟩,tt,p,af,g⟩ σ μ K=aH P ⟨dst,.call ⟨.builtin .copy,args,dh⟩,tt,p,af,g⟩ σ (λs=>K s μ):=rfl
def Uw(args:Array Operand)(dh:Array TypeId):ez P ⟨dst,.call ⟨.builtin .len,args,dh⟩,tt,p,af,g⟩ σ μ K=yE P ⟨dst,.call ⟨.builtin .len,args,dh⟩,tt,p,af,g⟩ (args.toList.map (ev σ)) dh.toList σ μ K:=rfl
def Ux(op:BinOp)(t:TypeId)(x y:Operand)(yt:TypeId):ez P ⟨dst,.binOp op t x y yt,tt,p,af,g⟩ σ μ K=tv P ⟨dst,.binOp op t x y yt,tt,p,af,g⟩ op t (ev σ x) (ev σ y) σ μ K:=rfl
def Uy(k:IntKind)(n:Int)(op:BinOp)(t:TypeId)(y:AV):tv P o op t (.lit (.int k n)) y σ μ K=aH P o σ (λs=>K s μ):=rfl
def Uz(b:Bool)(op:BinOp)(t:TypeId)(y:AV):tv P o op t (.lit (.bool b)) y σ μ K=aH P o σ (λs=>K s μ):=rfl
def UA(a:Option Addr)(n c:Nat)(op:BinOp)(t:TypeId)(y:AV):tv P o op t (.lit (.slice a n c)) y σ μ K=aH P o σ (λs=>K s μ):=rfl
def UB(s:Nat)(r:List (List AV))(op:BinOp)(t:TypeId)(y:AV):tv P o op t (.tree s r) y σ μ K=aH P o σ (λs=>K s μ):=rfl
def UC(l:List AV)(op:BinOp)(t:TypeId)(y:AV):tv P o op t (.agg l) y σ μ K=aH P o σ (λs=>K s μ):=rfl
def UD(a b c d:Nat)(op:BinOp)(t:TypeId)(y:AV):tv P o op t (.ref a b c d) y σ μ K=aH P o σ (λs=>K s μ):=rfl
def UE(a:Option Nat)(t:TypeId)(y:AV):tv P o .eql t (.lit (.map a)) y σ μ K=(tu P t/\y=.lit (.map none)/\K (σ.put o.dst (.lit (.bool a.isNone))) μ):=rfl
def UG(a:Option Nat)(t:TypeId)(y:AV):tv P o .neq t (.lit (.map a)) y σ μ K=(tu P t/\y=.lit (.map none)/\K (σ.put o.dst (.lit (.bool (!a.isNone)))) μ):=rfl
def UH(s:Nat)(r:List (List AV))(t:List TypeId):yE P o [.tree s r] t σ μ K=aH P o σ (λs=>K s μ):=rfl
def UJ(a b c d:Nat)(t:List TypeId):yE P o [.ref a b c d] t σ μ K=aH P o σ (λs=>K s μ):=rfl
def UK(a:Option Addr)(n c:Nat)(t:List TypeId):yE P o [.lit (.slice a n c)] t σ μ K=aH P o σ (λs=>K s μ):=rfl
def UL(b:Nat)(t:List TypeId):yE P o [.lit (.map (some b))] t σ μ K =∃t1 ents,t=[t1]/\tu P t1/\μ b=some (.map ents)/\K (σ.put o.dst (Oi (ents.length:Nat))) μ:=rfl
def UM:pL P ops (o::l) K σ μ=(match o.guard with|none=>ez P o σ μ (pL P ops l K)|some (j,want)=>match (ops[j]?).bind (·.dst) with|none=>False|some d=>match σ.env d with|.lit (.bool b)=>oL P o (pL P ops l K) b want σ μ|.lit (.tuple vs)=>vs = #[]/\pL P ops l K (σ.put o.dst (.lit (.tuple #[]))) μ|_=>False):=by rw[pL]<;>rfl
def UP(a:Option Nat):eh (.map a)=.lit (.map a):=rfl
end
def Mc:=aah @UP @T8 @T9 @T' @Ua @Ub @Uc (aah @Ud @Ue @Uf @Ug @Uh @Ui @Uj (aah @Uk @Ul @Um @Un @Uo @Uq @Ur (aah @Us @Ut @Uu @Uv @Uw @Ux @Uy (aah @Uz @UA @UB @UC @UD @UE @UG (aah @UH @UJ @UK @UL @UM @T7 @T3 (Oo @T4 @T5 @T6))))))
end Go.Am
namespace Go.Am
variable {P:Program} {N n0:Nat} {σ:St} {μ:Mem} {K:St->Mem->Prop} {dst:Option Tmp} {tt:TypeId} {p:String} {af:Array Edge} {g:Option (Nat×Bool)}
def UQ{t:TypeId}(h:∀ b,μ b=none->K (σ.put dst (.lit (.map (some b)))) (gT μ b (.map []))):ez P ⟨dst,.makeMap t none,tt,p,af,g⟩ σ μ K:=h
def D1{t:TypeId}{x i:Operand}{b:Nat}{n:Int}{z:Value}(hx:ev σ x=.lit (.map (some b)))(hi:ev σ i=Oi n)(hz:Hc P t z){L:List (Int×Value)}(hb:μ b=some (.map (iE L)))(hK:K (σ.put dst (.lit ((nh n L).getD z))) μ):ez P ⟨dst,.lookup t x i false,tt,p,af,g⟩ σ μ K:=⟨n,z,hi,hz,.inr ⟨b,L,hx,hb,hK⟩⟩
def Lm{t:TypeId}{m k x:Operand}{b:Nat}{n:Int}{v:Value}(hm:ev σ m=.lit (.map (some b)))(hi:ev σ k=Oi n)(hx:ev σ x=.lit v)(hk:Hb P t){L:List (Int×Value)}(hb:μ b=some (.map (iE L)))(hK:K (σ.put dst .undef) (gT μ b (.map (iE (j' n v L))))):ez P ⟨dst,.mapUpdate t m k x,tt,p,af,g⟩ σ μ K:=⟨b,n,L,v,hk,hm,hi,hx,hb,hK⟩
def af0{t:TypeId}{x:Operand}{b:Nat}(hx:ev σ x=.lit (.map (some b)))(hk:tu P t){ents:List (Value×Value)}(hb:μ b=some (.map ents))(hK:∀ r,μ r=none->K (σ.put dst (.lit (.pointer (some ⟨r,0,none⟩)))) (gT μ r (.iter b ents.length []))):ez P ⟨dst,.range t x,tt,p,af,g⟩ σ μ K:=.inl ⟨b,ents,hk,hx,hb,hK⟩
def af1{t:TypeId}{x:Operand}{b i ag:Nat}{L:List (List Int×AV)}(hx:ev σ x=.c9 i)(hi:σ.aa[i]?=some (.mp ag L))(hk:tu P t)(hb:μ b=some (.iH i))(hK:∀ r,μ r=none->K (σ.put dst (.lit (.pointer (some ⟨r,0,none⟩)))) (gT μ r (.iter b L.length []))):ez P ⟨dst,.range t x,tt,p,af,g⟩ σ μ K:=.inr ⟨b,i,ag,L,hk,hx,hi,hb,hK⟩
def af2{x:Operand}{r b:Nat}{seen:List Nat}{ents:List (Value×Value)}(hx:ev σ x=.lit (.pointer (some ⟨r,0,none⟩)))(hr:μ r=some (.iter b ents.length seen))(hb:μ b=some (.map ents))(h1:(∀ j<ents.length,j∈seen)->K (σ.put dst (.bu [.lit (.bool false)])) μ)(h2:∀ j p,ents[j]?=some p->j ∉ seen->K (σ.put dst (.bu [.lit (.bool true),.lit p.1,.lit p.2])) (gT μ r (.iter b ents.length (seen++[j])))):ez P ⟨dst,.next x false,tt,p,af,g⟩ σ μ K:=.inl ⟨r,b,seen,ents,hx,hr,hb,h1,h2⟩
def af3{x:Operand}{r b i ag:Nat}{seen:List Nat}{L:List (List Int×AV)}(hx:ev σ x=.lit (.pointer (some ⟨r,0,none⟩)))(hr:μ r=some (.iter b L.length seen))(hi:σ.aa[i]?=some (.mp ag L))(hb:μ b=some (.iH i))(h1:(∀ j<L.length,j∈seen)->K (σ.put dst (.bu [.lit (.bool false)])) μ)(h2:∀ j q,L[j]?=some q->j ∉ seen->K (σ.put dst (.bu [.lit (.bool true),kA ag q.1,q.2])) (gT μ r (.iter b L.length (seen++[j])))):ez P ⟨dst,.next x false,tt,p,af,g⟩ σ μ K:=.inr ⟨r,b,i,ag,L,seen,hx,hr,hb,hi,h1,h2⟩
def af4{x:Operand}{r b i ag j:Nat}{seen:List Nat}{L:List (List Int×AV)}{q:List Int×AV}(hx:ev σ x=.lit (.pointer (some ⟨r,0,none⟩)))(hr:μ r=some (.iter b L.length (seen++[j])))(hi:σ.aa[i]?=some (.mp ag L))(hb:μ b=some (.iH i))(hq:L[j]?=some q)(hK:K (σ.put dst (.bu [kA ag q.1,q.2])) μ):ez P ⟨dst,.entry x,tt,p,af,g⟩ σ μ K:=.inr ⟨r,b,i,ag,L,seen,j,q,hx,hr,hb,hi,hq,hK⟩
def af5{x:Operand}{r b j:Nat}{seen:List Nat}{ents:List (Value×Value)}{q:Value×Value}(hx:ev σ x=.lit (.pointer (some ⟨r,0,none⟩)))(hr:μ r=some (.iter b ents.length (seen++[j])))(hb:μ b=some (.map ents))(hp:ents[j]?=some q)(hK:K (σ.put dst (.bu [.lit q.1,.lit q.2])) μ):ez P ⟨dst,.entry x,tt,p,af,g⟩ σ μ K:=.inl ⟨r,b,seen,j,ents,q,hx,hr,hb,hp,hK⟩
def kO.refl:kO n0 σ σ:=λos γ0 γ _ hs hf=>⟨γ,rfl,rfl,hs,hf,λ_ h=>.inl h,λ_ h=>h⟩
end Go.Am

