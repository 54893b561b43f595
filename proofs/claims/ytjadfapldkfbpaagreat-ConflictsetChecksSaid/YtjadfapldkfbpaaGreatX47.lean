import Derived.Test.YtjadfapldkfbpaaGreatX46
set_option linter.all false
set_option maxHeartbeats 0
set_option maxRecDepth 20000
open List renaming mem_map→cC,mem_range→mi,length_map→eO
open Nat renaming le_refl→aR,zero_le→aF
open Go Go.Am
namespace T
def Zk{m:ah}{l q:List Int}:FP (cj m l) q↔FP m q:=by
 unfold cj;exact⟨λh=>⟨by rw[h.len,EY],λj hj=>by rw[<- Mq m (jn m.rules l)];exact h.get j hj⟩,λh=>⟨by rw[EY];exact h.len,λj hj=>by rw[Mq];exact h.get j hj⟩⟩
def ank{m:ah}{x:Int}:x∈ph m↔0<=x/\x<m.rules:=by
 unfold ph;rw[cC];constructor
 ·rintro⟨i,hi,rfl⟩;have:=mi.1 hi;omega
 ·intro h;exact⟨x.toNat,mi.2 G3,G3⟩
structure Kh(m:ah)(l:List Int):Prop where
 no:adk m l=false
 sub :∃p:Int->Bool,l=(ph m).filter p
 one:∀ x∈l,adk m (df l x)=true
def Kh.mem{m:ah}{l:List Int}(h:Kh m l):∀ x∈l,0<=x/\x<m.rules:=by
 obtain⟨p,hp⟩:=h.sub;intro x hx;rw[hp]at hx;exact ank.1 (List.mem_filter.1 hx).1
def Kh.ru{m:ah}(hm:VM m){l:List Int}(h:Kh m l):ng m l:=⟨by
 obtain⟨p,hp⟩:=h.sub;rw[hp];exact Nat.le_trans (List.length_filter_le _ _) (Ni hm).1,h.mem⟩
structure sg where
 rules:List Int
 nodes:List Nd
 p6:List (List Int)
def bO(c:sg):List AV:=[.tree 1 (ints c.rules),.tree 5 (rowsOf az c.nodes),.tree 1 (dQ c.p6)]
def qc:sg:=⟨[],[],[]⟩
def mI(f:Nat->Bool):Nat->Nat->Bool
 |0,_=>true
 |w+1,i=>f i&&mI f w (i+1)
def Ki{f:Nat->Bool}:∀ {w i:Nat},mI f w i=true↔∀ j,i<=j->j<i+w->f j=true
 |0,i=>⟨λ_ j h1 h2=>G3,λ_=>rfl⟩
 |w+1,i=>by
  rw[mI,Bool.and_eq_true,Ki (w:=w)];constructor
  ·rintro⟨h1,h2⟩ j h3 h4;rcases Nat.eq_or_lt_of_le h3 with e|e
   ·exact e▸h1
   ·exact h2 j e G3
  ·intro h;exact⟨h i (aR _) G3,λj h1 h2=>h j G3 G3⟩
def oH(R:Int)(l:List Int)(i:Nat):Bool:=decide (0<=l.getD i 0/\l.getD i 0<R/\(i=0\/l.getD (i-1) 0<l.getD i 0))
def CY(m:ah)(c:sg)(i:Nat):Bool:=decide (pe m (c.p6.getD i default)=0/\(pd (cj m (df c.rules (c.rules.getD i 0))) (c.p6.getD i default)).2.2=0/\(pd (cj m (df c.rules (c.rules.getD i 0))) (c.p6.getD i default)).1<1099511627776)
def Ng(m:ah)(c:sg):Bool:=decide (lY (cj m c.rules) c.nodes=(1099511627776,true))
def wM(m:ah)(c:sg):Bool:=decide (ek m=0/\c.p6.length=c.rules.length)&&(mI (oH m.rules c.rules) c.rules.length 0&&(Ng m c&&mI (CY m c) c.rules.length 0))
def anl{R:Int}{l:List Int}(h:mI (oH R l) l.length 0=true):∀ i:Nat,i<l.length->(i:Int)<=l.getD i 0:=by
 intro i
 induction i with
 |zero =>
  intro hi;have:=Ki.1 h 0 (aR _) G3;unfold oH at this;rw[decide_eq_true_eq]at this;exact this.1
 |succ i ih =>
  intro hi;have h1:=ih G3;have:=Ki.1 h (i+1) (aF _) G3;unfold oH at this;rw[decide_eq_true_eq,Nat.add_sub_cancel]at this;omega
def Zf{m:ah}(hm:VM m){l:List Int}(h:mI (oH m.rules l) l.length 0=true):ng m l:=by
 have hr:=hm.iI;have iV:∀ i,i<l.length->0<=l.getD i 0/\l.getD i 0<m.rules:=λi hi=>by
  have:=Ki.1 h i (aF _) G3;unfold oH at this;rw[decide_eq_true_eq]at this;exact⟨this.1,this.2.1⟩
 refine⟨?_,λx hx=>?_⟩
 ·rcases Nat.eq_zero_or_pos l.length with e|e
  ·omega
  ·have h1:=anl h (l.length-1) G3;have h2:=iV (l.length-1) G3;omega
 ·obtain⟨i,hi,rfl⟩:=List.mem_iff_getElem.1 hx;have:=iV i hi;rw[List.getD_eq_getElem?_getD,List.getElem?_eq_getElem hi]at this;exact this
def rh(m:ah)(l:List Int):sg:=⟨l,(tryD (cj m l)).nodes,l.map λn=>(tryD (cj m (df l n))).plan⟩
def adl{L:List Int}{b:Bool}:∀ (r:List (List bV)) (k:Nat) (acc:List Int),k<=L.length->(tV L b r k acc).1.length=acc.length+r.length/\(tV L b r k acc).2<=L.length
 |[],k,acc,hk=>⟨rfl,hk⟩
 |l::r,k,acc,hk=>by
  rw[tV];have h:=adl (b:=b) r (bR L k) (acc++[if b=true then da L k l.length else da L k (l.length+1)-1]) (dN hk);rw[List.length_append,List.length_singleton]at h;rw[List.length_cons];exact⟨G3,h.2⟩
def anm{m:ah}{L:List Int}(hm:GM m){k:Nat}(hk:k<=L.length):PB (ku m L 3 [] k []).1/\(ku m L 3 [] k []).2<=L.length:=by
 have h:=OW hm 3 [] k [] hk;have hl:=h.le;have hz:kv 25 3=16276:=Kq;rw[hz,List.length_nil]at hl;have hb:∀ x∈(ku m L 3 [] k []).1,wS x:=λx hx=>(h.bd x hx).elim (λe=>by cases e) id;refine⟨⟨G3,λx hx=>?_,λx hx=>?_,λx hx=>?_,λx hx=>?_,λx hx l hl=>?_⟩,h.k⟩
 ·have:=(hb x hx).kids;omega
 ·have:=(hb x hx).cR;omega
 ·rw[(hb x hx).bh];decide
 ·rw[(hb x hx).cells];decide
 ·rw[(hb x hx).cells]at hl;cases hl
instance:Row bO 3:=⟨λ_=>rfl,λ_=>xT rfl⟩
def adm{m:ah}:∀ (ns l:List Int),ng m l->ng m (Be m ns l).1
 |[],l,h=>h
 |n::ns,l,h=>by
  rw[Be];split
  ·exact⟨aF _,λx hx=>by cases hx⟩
  ·refine adm ns _ ?_;split
   ·exact h.df n
   ·exact h
def PD{m:ah}(hm:VM m):ng m (lM m).1:=by
 unfold lM;split
 ·exact⟨aF _,λx hx=>by cases hx⟩
 ·split
  ·exact⟨aF _,λx hx=>by cases hx⟩
  ·exact adm _ _ (Ni hm)
structure TW(r:ah):Prop where
 len:(tryD r).plan.length<=r.cls.length
 nil:¬ (tryD r).cO<1099511627776->(tryD r).plan=[]
 pb:PB (tryD r).nodes
def PE{r:ah}(hr:VM r):TW r:=by
 have h1:=Nf (Fx hr);have h2:=Nf hr;have p1:=ZH (Fx hr);have p2:=ZH hr;have key:∀ {q:ah} {p:List Int} {t:Int},KW q p t->p.length<=q.cls.length/\(¬ t<1099511627776->p=[]):=λh=>by
  rcases h with⟨rfl,_⟩|⟨h,h3⟩
  ·exact⟨aF _,λ_=>rfl⟩
  ·exact⟨Nat.le_of_eq h.len,λe=>absurd h3 e⟩
 have k1:=key h1;have k2:=key h2;rw[A9]at k1;unfold tryD at *;refine⟨?_,?_,?_⟩;all_goals unfold tryD;split
 ·exact k1.1
 ·exact k2.1
 ·exact k1.2
 ·exact k2.2
 ·exact p1
 ·exact p2
def z5(m:ah)(l:List Int):List Int->Int
 |[]=>0
 |n::r=>if kW (cj m (df l n))≠0 then kW (cj m (df l n)) else z5 m l r
def pz(m:ah):sg×Int :=
 if ek m≠0 then(qc,ek m) else if(lM m).2≠0 then(qc,(lM m).2)
 else if kW (cj m (lM m).1)≠0 then(qc,kW (cj m (lM m).1))
 else if z5 m (lM m).1 (lM m).1≠0 then(qc,z5 m (lM m).1 (lM m).1) else(rh m (lM m).1,0)
def ann{m:ah}(hm:VM m){l:List Int}(h:ng m l):l.length<9223372036854775808/\(rh m l).p6.length<9223372036854775808/\(∀ p∈(rh m l).p6,p.length<9223372036854775808)/\PB (rh m l).nodes:=by
 have hl:=h.1;refine⟨G3,by unfold rh;dsimp only;rw[eO];omega,λp hp=>?_,(PE (EZ hm _)).pb⟩;unfold rh at hp;obtain⟨n,hn,rfl⟩:=cC.1 hp;have hv:VM (cj m (df l n)):=EZ hm _;have h1:=(PE hv).len;have h2:=hv.cls;omega
def ano(m:ah):(pz m).1.rules.length<=1000/\(pz m).1.p6.length<=1000:=by
 have h0:qc.rules.length<=1000/\qc.p6.length<=1000:=Kq;unfold pz;split
 ·exact h0
 rename_i hv;have bP:VM m:=iu.1 (by simpa using hv);have h1:=(PD bP).1;split
 ·exact h0
 split
 ·exact h0
 split
 ·exact h0
 ·unfold rh;exact⟨h1,by dsimp only;rw[eO];exact h1⟩
end T

