import Derived.Test.YtjadfapldkfbpaaGreatX09
import Derived.Test.YtjadfapldkfbpaaGreatX50
set_option linter.all false
set_option maxHeartbeats 0
set_option maxRecDepth 20000
open Go Go.Am Go.Proofs Go.ChangeShapes Go.WideShapes Go.ChangeAt Go.RowKit
namespace T
variable {H:Type} {enc:TypeId×Value->H} {W:World} {sp:Nat->Bool} {base:Nat}
def ES:Tryz.prog.underlying 3=some (.int .i64):=by kernel_rfl
def Im:Tryz.prog.cellsOf 3=1:=by kernel_rfl
def AM{n:Nat}{cs:List Value}{o:Nat}(h :∃y,DataW.trod enc Tryz.prog W base sp true n 3 ((cs.drop o).take 1)=some y):∃a:Int,Hj a/\gk W (nr W) (aaa a) (cs.getD o Go.undef):=by
 obtain⟨y,h⟩:=h;obtain⟨a,h1,h2⟩:=DZ ES n _ y h;exact⟨a,h1,h2.cell (j:=0) rfl⟩
def AN{α:Type}{ea:α->List AV}{R:α->Prop}{t e:TypeId}{sz:Nat}(ht:Tryz.prog.underlying t=some (.slice e))(hc:Tryz.prog.cellsOf e=sz)(bg:0<sz)(tz:∀ a,(ea a).length=sz)(he:Reads Tryz.prog enc W base sp e ea R){n:Nat}{cs:List Value}{o:Nat}(h :∃y,DataW.trod enc Tryz.prog W base sp true n t ((cs.drop o).take 1)=some y):∃l:List α,(∀ a∈l,R a)/\l.length<9223372036854775808/\gk W (nr W) (.tree sz (l.map ea)) (cs.getD o Go.undef):=by
 obtain⟨y,h⟩:=h;obtain⟨l,⟨h1,h2⟩,h3⟩:=KG ht hc bg tz he n _ y h;exact⟨l,h1,by unfold maxLen at h2;omega,h3.cell (j:=0) rfl⟩
variable {H:Type} {enc:TypeId×Value->H} {W:World} {sp:Nat->Bool} {base:Nat}
def afD:Reads Tryz.prog enc W base sp 156 bN (λ_=>True):=by
 intro fuel cs x h;obtain⟨hl,n,hf⟩:=D0 Mb rfl h;obtain⟨a,_,ha⟩:=AM (hf (0,3,1) G9);obtain⟨b,_,hb⟩:=AM (hf (1,3,1) G9);obtain⟨c,_,hc⟩:=AM (hf (2,3,1) G9);obtain⟨d,_,hd⟩:=AM (hf (3,3,1) G9);exact⟨⟨a,b,c,d⟩,trivial,.mk4 hl ha hb hc hd⟩
variable {H:Type} {enc:TypeId×Value->H} {W:World} {sp:Nat->Bool} {base:Nat}
def afE:Reads Tryz.prog enc W base sp 169 aK (λ_=>True):=by
 intro fuel cs x h;obtain⟨hl,n,hf⟩:=D0 Md rfl h;obtain⟨a,_,ha⟩:=AM (hf (0,3,1) G9);obtain⟨b,_,hb⟩:=AM (hf (1,3,1) G9);exact⟨(a,b),trivial,.mk2 hl ha hb⟩
def afF:Reads Tryz.prog enc W base sp 164 rN (λl=>l.length<9223372036854775808):=by
 intro fuel cs x h;obtain⟨l,⟨h1,h2⟩,h3⟩:=KG (sz:=2) (by kernel_rfl) (by kernel_rfl) Kq (λ_=>rfl) afE fuel cs x h;exact⟨l,by unfold maxLen at h2;omega,h3⟩
def NB2(x:Nd):Prop:=x.kids.length<9223372036854775808/\x.cR.length<9223372036854775808/\x.bh.length<9223372036854775808/\x.cells.length<9223372036854775808/\∀ l∈x.cells,l.length<9223372036854775808
def afH:Reads Tryz.prog enc W base sp 47 az NB2:=by
 intro fuel cs x h;obtain⟨hl,n,hf⟩:=D0 Me rfl h;obtain⟨a,_,ha⟩:=AM (hf (0,3,1) G9);obtain⟨k,_,k1,k2⟩:=AN (sz:=1) (by kernel_rfl) Im Kq (λ_=>rfl) (DZ ES) (hf (1,22,1) G9);obtain⟨v,_,v1,v2⟩:=AN (sz:=4) (by kernel_rfl) (by kernel_rfl) Kq (λ_=>rfl) afD (hf (2,44,1) G9);obtain⟨g,_,g1,g2⟩:=AN (sz:=1) (by kernel_rfl) Im Kq (λ_=>rfl) (DZ ES) (hf (3,22,1) G9);obtain⟨c,c0,c1,c2⟩:=AN (sz:=1) (by kernel_rfl) (by kernel_rfl) Kq (λ_=>rfl) afF (hf (4,45,1) G9);refine⟨⟨a,k,v,g,c⟩,⟨k1,v1,g1,c1,c0⟩,by simp[hl,az],λj y hy=>?_⟩
 match j,hy with
 |0,hy=>simp[az]at hy;subst hy;exact ha
 |1,hy=>simp[az]at hy;subst hy;exact k2
 |2,hy=>simp[az]at hy;subst hy;exact v2
 |3,hy=>simp[az]at hy;subst hy;exact g2
 |4,hy=>simp[az]at hy;subst hy;exact c2
def afI:Reads Tryz.prog enc W base sp 25 aU PB:=by
 intro fuel cs x h;obtain⟨hl,n,hf⟩:=D0 Mf rfl h;obtain⟨p,p0,p1,p2⟩:=AN (sz:=5) (by kernel_rfl) (by kernel_rfl) Kq (λ_=>rfl) afH (hf (0,23,1) G9);refine⟨p,⟨p1,λx hx=>(p0 x hx).1,λx hx=>(p0 x hx).2.1,λx hx=>(p0 x hx).2.2.1,λx hx=>(p0 x hx).2.2.2.1,λx hx=>(p0 x hx).2.2.2.2⟩,by simp[hl,aU],λj y hy=>?_⟩
 match j,hy with
 |0,hy=>simp[aU]at hy;subst hy;exact p2
variable {H:Type} {enc:TypeId×Value->H} {W:World} {sp:Nat->Bool} {base:Nat}
def afJ:Reads Tryz.prog enc W base sp 22 (λl:List Int=>[.tree 1 (ints l)]) (λl=>l.length<9223372036854775808):=by
 intro fuel cs x h;obtain⟨l,⟨_,h2⟩,h3⟩:=KG (sz:=1) (by kernel_rfl) Im Kq (λ_=>rfl) (DZ ES) fuel cs x h;exact⟨l,by unfold maxLen at h2;omega,h3⟩
def anM:Reads Tryz.prog enc W base sp 28 bO CB:=by
 intro fuel cs x h;obtain⟨hl,n,hf⟩:=D0 Mg rfl h;obtain⟨r,_,r1,r2⟩:=AN (sz:=1) (by kernel_rfl) Im Kq (λ_=>rfl) (DZ ES) (hf (0,22,1) G9);obtain⟨y,hp⟩:=hf (1,25,1) G9;obtain⟨p,p0,p2⟩:=afI n _ y hp;obtain⟨s,s0,s1,s2⟩:=AN (sz:=1) (by kernel_rfl) (by kernel_rfl) Kq (λ_=>rfl) afJ (hf (2,26,1) G9);refine⟨⟨r,p,s⟩,⟨r1,s1,s0,p0⟩,by simp[hl,bO],λj y hy=>?_⟩
 match j,hy with
 |0,hy=>simp[bO]at hy;subst hy;exact r2
 |1,hy=>simp[bO]at hy;subst hy;exact p2.cell (j:=0) rfl
 |2,hy=>simp[bO]at hy;subst hy;exact s2
end T

