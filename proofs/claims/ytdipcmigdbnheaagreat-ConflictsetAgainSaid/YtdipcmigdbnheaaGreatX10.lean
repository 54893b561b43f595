import Derived.Test.YtdipcmigdbnheaaGreatX07
import Derived.Test.YtdipcmigdbnheaaGreatX09
import Derived.Test.YtdipcmigdbnheaaGreatProg
import Derived.KernelRfl
set_option linter.all false
set_option maxHeartbeats 0
set_option maxRecDepth 20000
open Int renaming natCast_add→uo,cast_ofNat_Int→BC
open List renaming length_append→bR,length_cons→dz,length_nil→mq,drop_eq_nil_of_le→cU
open Nat renaming zero_add→eW,zero_le→aQ
open Bool renaming eq_iff_iff→my,and_eq_true→ba,or_eq_true→ke,not_eq_true'→jW,false_eq_true→jy
open Go Go.Am Go.Proofs
namespace T
def NX:ty Tryz.prog 2 = { kind:=5,size:=1,bytes:=8,elem:=0,len:=0,zero:=some [.int .i64 0],aI:=[] }:=by kernel_rfl
def NY:ty Tryz.prog 3 = { kind:=5,size:=1,bytes:=8,elem:=0,len:=0,zero:=some [.int .i64 0],aI:=[] }:=by kernel_rfl
def NZ:ty Tryz.prog 4 = { kind:=6,size:=1,bytes:=1,elem:=0,len:=0,zero:=some [.bool false],aI:=[] }:=by kernel_rfl
def N0:ty Tryz.prog 5 = { kind:=5,size:=1,bytes:=1,elem:=0,len:=0,zero:=some [.int .u8 0],aI:=[] }:=by kernel_rfl
def N1:ty Tryz.prog 6 = { kind:=5,size:=1,bytes:=1,elem:=0,len:=0,zero:=some [.int .u8 0],aI:=[] }:=by kernel_rfl
def N2:ty Tryz.prog 7 = { kind:=3,size:=4,bytes:=24,elem:=0,len:=0,zero:=some [.int .i64 0,.int .i64 0,.bool false,.int .u8 0],aI:=[(0,2,1),(1,3,1),(2,4,1),(3,6,1)] }:=by kernel_rfl
def N3:ty Tryz.prog 8 = { kind:=3,size:=4,bytes:=24,elem:=0,len:=0,zero:=some [.int .i64 0,.int .i64 0,.bool false,.int .u8 0],aI:=[(0,2,1),(1,3,1),(2,4,1),(3,6,1)] }:=by kernel_rfl
def N4:ty Tryz.prog 9 = { kind:=4,size:=1,bytes:=16,elem:=0,len:=0,zero:=some [.string ⟨#[]⟩],aI:=[] }:=by kernel_rfl
def N5:ty Tryz.prog 10 = { kind:=4,size:=1,bytes:=16,elem:=0,len:=0,zero:=some [.string ⟨#[]⟩],aI:=[] }:=by kernel_rfl
def N6:ty Tryz.prog 11 = { kind:=4,size:=1,bytes:=16,elem:=0,len:=0,zero:=some [.string ⟨#[]⟩],aI:=[] }:=by kernel_rfl
def N7:ty Tryz.prog 12 = { kind:=5,size:=1,bytes:=8,elem:=0,len:=0,zero:=some [.int .u64 0],aI:=[] }:=by kernel_rfl
def N8:ty Tryz.prog 13 = { kind:=3,size:=2,bytes:=24,elem:=0,len:=0,zero:=some [.string ⟨#[]⟩,.int .u64 0],aI:=[(0,9,1),(1,12,1)] }:=by kernel_rfl
def N9:ty Tryz.prog 14 = { kind:=3,size:=2,bytes:=24,elem:=0,len:=0,zero:=some [.string ⟨#[]⟩,.int .u64 0],aI:=[(0,9,1),(1,12,1)] }:=by kernel_rfl
def N':ty Tryz.prog 15 = { kind:=7,size:=1,bytes:=8,elem:=278,len:=0,zero:=some [.pointer none],aI:=[] }:=by kernel_rfl
def Oa:ty Tryz.prog 16 = { kind:=7,size:=1,bytes:=8,elem:=281,len:=0,zero:=some [.pointer none],aI:=[] }:=by kernel_rfl
def Od:ty Tryz.prog 17 = { kind:=7,size:=1,bytes:=8,elem:=289,len:=0,zero:=some [.pointer none],aI:=[] }:=by kernel_rfl
def Oe:ty Tryz.prog 18 = { kind:=3,size:=1,bytes:=8,elem:=0,len:=0,zero:=some [.pointer none],aI:=[(0,17,1)] }:=by kernel_rfl
def Of:ty Tryz.prog 19 = { kind:=3,size:=1,bytes:=8,elem:=0,len:=0,zero:=some [.pointer none],aI:=[(0,17,1)] }:=by kernel_rfl
def Og:ty Tryz.prog 21 = { kind:=5,size:=1,bytes:=4,elem:=0,len:=0,zero:=some [.int .i32 0],aI:=[] }:=by kernel_rfl
def Oh:ty Tryz.prog 22 = { kind:=1,size:=1,bytes:=24,elem:=3,len:=0,zero:=some [.slice none 0 0],aI:=[] }:=by kernel_rfl
def Oi:ty Tryz.prog 25 = { kind:=1,size:=1,bytes:=24,elem:=82,len:=0,zero:=some [.slice none 0 0],aI:=[] }:=by kernel_rfl
def Oj:ty Tryz.prog 26 = { kind:=1,size:=1,bytes:=24,elem:=84,len:=0,zero:=some [.slice none 0 0],aI:=[] }:=by kernel_rfl
def Ok:ty Tryz.prog 27 = { kind:=1,size:=1,bytes:=24,elem:=98,len:=0,zero:=some [.slice none 0 0],aI:=[] }:=by kernel_rfl
def Ol:ty Tryz.prog 28 = { kind:=3,size:=4,bytes:=80,elem:=0,len:=0,zero:=some [.slice none 0 0,.slice none 0 0,.slice none 0 0,.int .i64 0],aI:=[(0,25,1),(1,26,1),(2,27,1),(3,3,1)] }:=by kernel_rfl
def Om:ty Tryz.prog 29 = { kind:=3,size:=4,bytes:=80,elem:=0,len:=0,zero:=some [.slice none 0 0,.slice none 0 0,.slice none 0 0,.int .i64 0],aI:=[(0,25,1),(1,26,1),(2,27,1),(3,3,1)] }:=by kernel_rfl
def On:ty Tryz.prog 31 = { kind:=7,size:=1,bytes:=8,elem:=90,len:=0,zero:=some [.pointer none],aI:=[] }:=by kernel_rfl
def Oo:ty Tryz.prog 33 = { kind:=5,size:=1,bytes:=8,elem:=0,len:=0,zero:=some [.int .i64 0],aI:=[] }:=by kernel_rfl
def Oq:ty Tryz.prog 37 = { kind:=1,size:=1,bytes:=24,elem:=68,len:=0,zero:=some [.slice none 0 0],aI:=[] }:=by kernel_rfl
def Ot:ty Tryz.prog 38 = { kind:=3,size:=1,bytes:=24,elem:=0,len:=0,zero:=some [.slice none 0 0],aI:=[(0,37,1)] }:=by kernel_rfl
def Ou:ty Tryz.prog 39 = { kind:=3,size:=1,bytes:=24,elem:=0,len:=0,zero:=some [.slice none 0 0],aI:=[(0,37,1)] }:=by kernel_rfl
def Ov:ty Tryz.prog 40 = { kind:=3,size:=4,bytes:=64,elem:=0,len:=0,zero:=some [.slice none 0 0,.int .i64 0,.int .i64 0,.slice none 0 0],aI:=[(0,22,1),(1,3,1),(2,3,1),(3,39,1)] }:=by kernel_rfl
def Ow:ty Tryz.prog 41 = { kind:=3,size:=4,bytes:=64,elem:=0,len:=0,zero:=some [.slice none 0 0,.int .i64 0,.int .i64 0,.slice none 0 0],aI:=[(0,22,1),(1,3,1),(2,3,1),(3,39,1)] }:=by kernel_rfl
def Ox:ty Tryz.prog 57 = { kind:=1,size:=1,bytes:=24,elem:=22,len:=0,zero:=some [.slice none 0 0],aI:=[] }:=by kernel_rfl
def Oy:ty Tryz.prog 58 = { kind:=3,size:=3,bytes:=72,elem:=0,len:=0,zero:=some [.slice none 0 0,.slice none 0 0,.slice none 0 0],aI:=[(0,22,1),(1,39,1),(2,57,1)] }:=by kernel_rfl
def Oz:ty Tryz.prog 59 = { kind:=3,size:=3,bytes:=72,elem:=0,len:=0,zero:=some [.slice none 0 0,.slice none 0 0,.slice none 0 0],aI:=[(0,22,1),(1,39,1),(2,57,1)] }:=by kernel_rfl
def OA:ty Tryz.prog 65 = { kind:=1,size:=1,bytes:=24,elem:=184,len:=0,zero:=some [.slice none 0 0],aI:=[] }:=by kernel_rfl
def OB:ty Tryz.prog 66 = { kind:=1,size:=1,bytes:=24,elem:=175,len:=0,zero:=some [.slice none 0 0],aI:=[] }:=by kernel_rfl
def OC:ty Tryz.prog 67 = { kind:=3,size:=5,bytes:=104,elem:=0,len:=0,zero:=some [.int .i64 0,.slice none 0 0,.slice none 0 0,.slice none 0 0,.slice none 0 0],aI:=[(0,3,1),(1,22,1),(2,65,1),(3,22,1),(4,66,1)] }:=by kernel_rfl
def OD:ty Tryz.prog 68 = { kind:=3,size:=5,bytes:=104,elem:=0,len:=0,zero:=some [.int .i64 0,.slice none 0 0,.slice none 0 0,.slice none 0 0,.slice none 0 0],aI:=[(0,3,1),(1,22,1),(2,65,1),(3,22,1),(4,66,1)] }:=by kernel_rfl
def OE:ty Tryz.prog 70 = { kind:=1,size:=1,bytes:=24,elem:=59,len:=0,zero:=some [.slice none 0 0],aI:=[] }:=by kernel_rfl
def OF:ty Tryz.prog 73 = { kind:=1,size:=1,bytes:=24,elem:=4,len:=0,zero:=some [.slice none 0 0],aI:=[] }:=by kernel_rfl
def OG:ty Tryz.prog 75 = { kind:=3,size:=4,bytes:=32,elem:=0,len:=0,zero:=some [.int .i64 0,.int .i64 0,.int .i64 0,.int .i64 0],aI:=[(0,3,1),(1,3,1),(2,3,1),(3,3,1)] }:=by kernel_rfl
def OH:ty Tryz.prog 76 = { kind:=3,size:=4,bytes:=32,elem:=0,len:=0,zero:=some [.int .i64 0,.int .i64 0,.int .i64 0,.int .i64 0],aI:=[(0,3,1),(1,3,1),(2,3,1),(3,3,1)] }:=by kernel_rfl
def OI:ty Tryz.prog 77 = { kind:=3,size:=5,bytes:=40,elem:=0,len:=0,zero:=some [.int .i64 0,.int .i64 0,.int .i64 0,.int .i64 0,.int .i64 0],aI:=[(0,76,4),(4,3,1)] }:=by kernel_rfl
def OJ:ty Tryz.prog 78 = { kind:=3,size:=5,bytes:=40,elem:=0,len:=0,zero:=some [.int .i64 0,.int .i64 0,.int .i64 0,.int .i64 0,.int .i64 0],aI:=[(0,76,4),(4,3,1)] }:=by kernel_rfl
def OK:ty Tryz.prog 79 = { kind:=1,size:=1,bytes:=24,elem:=93,len:=0,zero:=some [.slice none 0 0],aI:=[] }:=by kernel_rfl
def OL:ty Tryz.prog 80 = { kind:=3,size:=6,bytes:=64,elem:=0,len:=0,zero:=some [.int .i64 0,.int .i64 0,.int .i64 0,.int .i64 0,.int .i64 0,.slice none 0 0],aI:=[(0,78,5),(5,79,1)] }:=by kernel_rfl
def ON:ty Tryz.prog 81 = { kind:=3,size:=6,bytes:=64,elem:=0,len:=0,zero:=some [.int .i64 0,.int .i64 0,.int .i64 0,.int .i64 0,.int .i64 0,.slice none 0 0],aI:=[(0,78,5),(5,79,1)] }:=by kernel_rfl
def OO:ty Tryz.prog 82 = { kind:=1,size:=1,bytes:=24,elem:=81,len:=0,zero:=some [.slice none 0 0],aI:=[] }:=by kernel_rfl
def OP:ty Tryz.prog 83 = { kind:=3,size:=4,bytes:=48,elem:=0,len:=0,zero:=some [.int .i64 0,.int .i64 0,.int .i64 0,.slice none 0 0],aI:=[(0,3,1),(1,3,1),(2,3,1),(3,22,1)] }:=by kernel_rfl
def OQ:ty Tryz.prog 84 = { kind:=3,size:=4,bytes:=48,elem:=0,len:=0,zero:=some [.int .i64 0,.int .i64 0,.int .i64 0,.slice none 0 0],aI:=[(0,3,1),(1,3,1),(2,3,1),(3,22,1)] }:=by kernel_rfl
def OR:ty Tryz.prog 89 = { kind:=3,size:=2,bytes:=32,elem:=0,len:=0,zero:=some [.slice none 0 0,.int .i64 0],aI:=[(0,22,1),(1,3,1)] }:=by kernel_rfl
def OS:ty Tryz.prog 90 = { kind:=3,size:=2,bytes:=32,elem:=0,len:=0,zero:=some [.slice none 0 0,.int .i64 0],aI:=[(0,22,1),(1,3,1)] }:=by kernel_rfl
def OT:ty Tryz.prog 92 = { kind:=3,size:=2,bytes:=16,elem:=0,len:=0,zero:=some [.int .i64 0,.int .i64 0],aI:=[(0,3,1),(1,3,1)] }:=by kernel_rfl
def OU:ty Tryz.prog 93 = { kind:=3,size:=2,bytes:=16,elem:=0,len:=0,zero:=some [.int .i64 0,.int .i64 0],aI:=[(0,3,1),(1,3,1)] }:=by kernel_rfl
def OV:ty Tryz.prog 96 = { kind:=1,size:=1,bytes:=24,elem:=102,len:=0,zero:=some [.slice none 0 0],aI:=[] }:=by kernel_rfl
def OW:ty Tryz.prog 97 = { kind:=3,size:=4,bytes:=48,elem:=0,len:=0,zero:=some [.int .i64 0,.slice none 0 0,.int .i64 0,.int .i64 0],aI:=[(0,3,1),(1,96,1),(2,3,1),(3,3,1)] }:=by kernel_rfl
def OX:ty Tryz.prog 98 = { kind:=3,size:=4,bytes:=48,elem:=0,len:=0,zero:=some [.int .i64 0,.slice none 0 0,.int .i64 0,.int .i64 0],aI:=[(0,3,1),(1,96,1),(2,3,1),(3,3,1)] }:=by kernel_rfl
def OY:ty Tryz.prog 101 = { kind:=3,size:=3,bytes:=24,elem:=0,len:=0,zero:=some [.int .i64 0,.int .i64 0,.int .i64 0],aI:=[(0,3,1),(1,3,1),(2,3,1)] }:=by kernel_rfl
def OZ:ty Tryz.prog 102 = { kind:=3,size:=3,bytes:=24,elem:=0,len:=0,zero:=some [.int .i64 0,.int .i64 0,.int .i64 0],aI:=[(0,3,1),(1,3,1),(2,3,1)] }:=by kernel_rfl
def O0:ty Tryz.prog 115 = { kind:=1,size:=1,bytes:=24,elem:=3,len:=0,zero:=some [.slice none 0 0],aI:=[] }:=by kernel_rfl
def O1:ty Tryz.prog 123 = { kind:=7,size:=1,bytes:=8,elem:=39,len:=0,zero:=some [.pointer none],aI:=[] }:=by kernel_rfl
def O2:ty Tryz.prog 125 = { kind:=1,size:=1,bytes:=24,elem:=73,len:=0,zero:=some [.slice none 0 0],aI:=[] }:=by kernel_rfl
def O3:ty Tryz.prog 126 = { kind:=3,size:=2,bytes:=32,elem:=0,len:=0,zero:=some [.int .i64 0,.slice none 0 0],aI:=[(0,3,1),(1,125,1)] }:=by kernel_rfl
def O4:ty Tryz.prog 127 = { kind:=3,size:=2,bytes:=32,elem:=0,len:=0,zero:=some [.int .i64 0,.slice none 0 0],aI:=[(0,3,1),(1,125,1)] }:=by kernel_rfl
def O5:ty Tryz.prog 144 = { kind:=1,size:=1,bytes:=24,elem:=194,len:=0,zero:=some [.slice none 0 0],aI:=[] }:=by kernel_rfl
def O6:ty Tryz.prog 170 = { kind:=3,size:=3,bytes:=56,elem:=0,len:=0,zero:=some [.int .i64 0,.slice none 0 0,.slice none 0 0],aI:=[(0,127,2),(2,22,1)] }:=by kernel_rfl
def O7:ty Tryz.prog 171 = { kind:=3,size:=3,bytes:=56,elem:=0,len:=0,zero:=some [.int .i64 0,.slice none 0 0,.slice none 0 0],aI:=[(0,127,2),(2,22,1)] }:=by kernel_rfl
def O8:ty Tryz.prog 172 = { kind:=1,size:=1,bytes:=24,elem:=171,len:=0,zero:=some [.slice none 0 0],aI:=[] }:=by kernel_rfl
def O9:ty Tryz.prog 175 = { kind:=1,size:=1,bytes:=24,elem:=180,len:=0,zero:=some [.slice none 0 0],aI:=[] }:=by kernel_rfl
def O':ty Tryz.prog 179 = { kind:=3,size:=2,bytes:=16,elem:=0,len:=0,zero:=some [.int .i64 0,.int .i64 0],aI:=[(0,3,1),(1,3,1)] }:=by kernel_rfl
def Pa:ty Tryz.prog 180 = { kind:=3,size:=2,bytes:=16,elem:=0,len:=0,zero:=some [.int .i64 0,.int .i64 0],aI:=[(0,3,1),(1,3,1)] }:=by kernel_rfl
def Pb:ty Tryz.prog 181 = { kind:=7,size:=1,bytes:=8,elem:=227,len:=0,zero:=some [.pointer none],aI:=[] }:=by kernel_rfl
def Pe:ty Tryz.prog 183 = { kind:=3,size:=4,bytes:=32,elem:=0,len:=0,zero:=some [.int .i64 0,.int .i64 0,.int .i64 0,.int .i64 0],aI:=[(0,3,1),(1,3,1),(2,3,1),(3,3,1)] }:=by kernel_rfl
def Pf:ty Tryz.prog 184 = { kind:=3,size:=4,bytes:=32,elem:=0,len:=0,zero:=some [.int .i64 0,.int .i64 0,.int .i64 0,.int .i64 0],aI:=[(0,3,1),(1,3,1),(2,3,1),(3,3,1)] }:=by kernel_rfl
def Pg:ty Tryz.prog 193 = { kind:=3,size:=2,bytes:=16,elem:=0,len:=0,zero:=some [.int .i64 0,.int .i64 0],aI:=[(0,3,1),(1,3,1)] }:=by kernel_rfl
def Ph:ty Tryz.prog 194 = { kind:=3,size:=2,bytes:=16,elem:=0,len:=0,zero:=some [.int .i64 0,.int .i64 0],aI:=[(0,3,1),(1,3,1)] }:=by kernel_rfl
def Pj:ty Tryz.prog 198 = { kind:=1,size:=1,bytes:=24,elem:=199,len:=0,zero:=some [.slice none 0 0],aI:=[] }:=by kernel_rfl
def Pk:ty Tryz.prog 199 = { kind:=1,size:=1,bytes:=24,elem:=203,len:=0,zero:=some [.slice none 0 0],aI:=[] }:=by kernel_rfl
def Pl:ty Tryz.prog 202 = { kind:=3,size:=2,bytes:=16,elem:=0,len:=0,zero:=some [.bool false,.int .i64 0],aI:=[(0,4,1),(1,3,1)] }:=by kernel_rfl
def Pm:ty Tryz.prog 203 = { kind:=3,size:=2,bytes:=16,elem:=0,len:=0,zero:=some [.bool false,.int .i64 0],aI:=[(0,4,1),(1,3,1)] }:=by kernel_rfl
def Pn:ty Tryz.prog 217 = { kind:=7,size:=1,bytes:=8,elem:=219,len:=0,zero:=some [.pointer none],aI:=[] }:=by kernel_rfl
def Po:ty Tryz.prog 218 = { kind:=3,size:=1,bytes:=24,elem:=0,len:=0,zero:=some [.slice none 0 0],aI:=[(0,22,1)] }:=by kernel_rfl
def Pp:ty Tryz.prog 219 = { kind:=3,size:=1,bytes:=24,elem:=0,len:=0,zero:=some [.slice none 0 0],aI:=[(0,22,1)] }:=by kernel_rfl
def Pq:ty Tryz.prog 225 = { kind:=1,size:=1,bytes:=24,elem:=228,len:=0,zero:=some [.slice none 0 0],aI:=[] }:=by kernel_rfl
def Ps:ty Tryz.prog 226 = { kind:=3,size:=6,bytes:=128,elem:=0,len:=0,zero:=some [.slice none 0 0,.slice none 0 0,.slice none 0 0,.int .i64 0,.slice none 0 0,.slice none 0 0],aI:=[(0,29,4),(4,225,1),(5,225,1)] }:=by kernel_rfl
def Pt:ty Tryz.prog 227 = { kind:=3,size:=6,bytes:=128,elem:=0,len:=0,zero:=some [.slice none 0 0,.slice none 0 0,.slice none 0 0,.int .i64 0,.slice none 0 0,.slice none 0 0],aI:=[(0,29,4),(4,225,1),(5,225,1)] }:=by kernel_rfl
def Pu:ty Tryz.prog 228 = { kind:=1,size:=1,bytes:=24,elem:=230,len:=0,zero:=some [.slice none 0 0],aI:=[] }:=by kernel_rfl
def Pv:ty Tryz.prog 229 = { kind:=3,size:=2,bytes:=16,elem:=0,len:=0,zero:=some [.int .i64 0,.bool false],aI:=[(0,3,1),(1,4,1)] }:=by kernel_rfl
def Px:ty Tryz.prog 230 = { kind:=3,size:=2,bytes:=16,elem:=0,len:=0,zero:=some [.int .i64 0,.bool false],aI:=[(0,3,1),(1,4,1)] }:=by kernel_rfl
def Py:ty Tryz.prog 238 = { kind:=5,size:=1,bytes:=8,elem:=0,len:=0,zero:=some [.int .u64 0],aI:=[] }:=by kernel_rfl
def Pz:ty Tryz.prog 242 = { kind:=1,size:=1,bytes:=24,elem:=245,len:=0,zero:=some [.slice none 0 0],aI:=[] }:=by kernel_rfl
def PA:ty Tryz.prog 243 = { kind:=1,size:=1,bytes:=24,elem:=245,len:=0,zero:=some [.slice none 0 0],aI:=[] }:=by kernel_rfl
def PD:ty Tryz.prog 244 = { kind:=3,size:=3,bytes:=24,elem:=0,len:=0,zero:=some [.int .i64 0,.int .i64 0,.int .i64 0],aI:=[(0,3,1),(1,3,1),(2,3,1)] }:=by kernel_rfl
def PE:ty Tryz.prog 245 = { kind:=3,size:=3,bytes:=24,elem:=0,len:=0,zero:=some [.int .i64 0,.int .i64 0,.int .i64 0],aI:=[(0,3,1),(1,3,1),(2,3,1)] }:=by kernel_rfl
def PG:ty Tryz.prog 248 = { kind:=7,size:=1,bytes:=8,elem:=243,len:=0,zero:=some [.pointer none],aI:=[] }:=by kernel_rfl
def PH:ty Tryz.prog 251 = { kind:=2,size:=2,bytes:=16,elem:=3,len:=2,zero:=some [.int .i64 0,.int .i64 0],aI:=[] }:=by kernel_rfl
def PI:ty Tryz.prog 252 = { kind:=2,size:=2,bytes:=16,elem:=3,len:=2,zero:=some [.int .i64 0,.int .i64 0],aI:=[] }:=by kernel_rfl
def PJ:ty Tryz.prog 256 = { kind:=7,size:=1,bytes:=8,elem:=230,len:=0,zero:=some [.pointer none],aI:=[] }:=by kernel_rfl
def PL:ty Tryz.prog 257 = { kind:=8,size:=1,bytes:=8,elem:=258,len:=0,zero:=some [.map none],aI:=[] }:=by kernel_rfl
def PN:ty Tryz.prog 258 = { kind:=8,size:=1,bytes:=8,elem:=3,len:=0,zero:=some [.map none],aI:=[] }:=by kernel_rfl
def PO:ty Tryz.prog 259 = { kind:=5,size:=1,bytes:=4,elem:=0,len:=0,zero:=some [.int .u32 0],aI:=[] }:=by kernel_rfl
def PQ:ty Tryz.prog 262 = { kind:=5,size:=1,bytes:=8,elem:=0,len:=0,zero:=some [.int .u64 0],aI:=[] }:=by kernel_rfl
def PR:ty Tryz.prog 265 = { kind:=1,size:=1,bytes:=24,elem:=266,len:=0,zero:=some [.slice none 0 0],aI:=[] }:=by kernel_rfl
def PS:ty Tryz.prog 266 = { kind:=8,size:=1,bytes:=8,elem:=4,len:=0,zero:=some [.map none],aI:=[] }:=by kernel_rfl
def PU:ty Tryz.prog 275 = { kind:=7,size:=1,bytes:=8,elem:=252,len:=0,zero:=some [.pointer none],aI:=[] }:=by kernel_rfl
def PV:ty Tryz.prog 277 = { kind:=3,size:=4,bytes:=40,elem:=0,len:=0,zero:=some [.pointer none,.pointer none,.pointer none,.string ⟨#[]⟩],aI:=[(0,17,1),(1,17,1),(2,17,1),(3,9,1)] }:=by kernel_rfl
def PW:ty Tryz.prog 278 = { kind:=3,size:=4,bytes:=40,elem:=0,len:=0,zero:=some [.pointer none,.pointer none,.pointer none,.string ⟨#[]⟩],aI:=[(0,17,1),(1,17,1),(2,17,1),(3,9,1)] }:=by kernel_rfl
def PX:ty Tryz.prog 279 = { kind:=2,size:=0,bytes:=0,elem:=16,len:=0,zero:=some [],aI:=[] }:=by kernel_rfl
def PY:ty Tryz.prog 280 = { kind:=3,size:=0,bytes:=0,elem:=0,len:=0,zero:=some [],aI:=[(0,279,0)] }:=by kernel_rfl
def PZ:ty Tryz.prog 281 = { kind:=3,size:=0,bytes:=0,elem:=0,len:=0,zero:=some [],aI:=[(0,279,0)] }:=by kernel_rfl
def P0:ty Tryz.prog 282 = { kind:=5,size:=1,bytes:=1,elem:=0,len:=0,zero:=some [.int .u8 0],aI:=[] }:=by kernel_rfl
def P1:ty Tryz.prog 283 = { kind:=5,size:=1,bytes:=1,elem:=0,len:=0,zero:=some [.int .u8 0],aI:=[] }:=by kernel_rfl
def P3:ty Tryz.prog 285 = { kind:=7,size:=1,bytes:=8,elem:=5,len:=0,zero:=some [.pointer none],aI:=[] }:=by kernel_rfl
def P4:ty Tryz.prog 286 = { kind:=5,size:=1,bytes:=4,elem:=0,len:=0,zero:=some [.int .i32 0],aI:=[] }:=by kernel_rfl
def P5:ty Tryz.prog 287 = { kind:=5,size:=1,bytes:=4,elem:=0,len:=0,zero:=some [.int .i32 0],aI:=[] }:=by kernel_rfl
def P6:ty Tryz.prog 288 = { kind:=3,size:=11,bytes:=48,elem:=0,len:=0,zero:=some [.int .u64 0,.int .u64 0,.int .u32 0,.int .u8 0,.int .u8 0,.int .u8 0,.int .u8 0,.nilFunc,.pointer none,.int .i32 0,.int .i32 0],aI:=[(0,12,1),(1,12,1),(2,259,1),(3,282,1),(4,5,1),(5,5,1),(6,283,1),(7,284,1),(8,285,1),(9,286,1),(10,287,1)] }:=by kernel_rfl
def P7:ty Tryz.prog 289 = { kind:=3,size:=11,bytes:=48,elem:=0,len:=0,zero:=some [.int .u64 0,.int .u64 0,.int .u32 0,.int .u8 0,.int .u8 0,.int .u8 0,.int .u8 0,.nilFunc,.pointer none,.int .i32 0,.int .i32 0],aI:=[(0,12,1),(1,12,1),(2,259,1),(3,282,1),(4,5,1),(5,5,1),(6,283,1),(7,284,1),(8,285,1),(9,286,1),(10,287,1)] }:=by kernel_rfl
def P8:Tryz.prog.underlying 2=some (.int .i64):=by kernel_rfl
def P9:Tryz.prog.underlying 3=some (.int .i64):=by kernel_rfl
def Qa:Tryz.prog.underlying 5=some (.int .u8):=by kernel_rfl
def Qd:Tryz.prog.underlying 6=some (.int .u8):=by kernel_rfl
def Qe:Tryz.prog.underlying 12=some (.int .u64):=by kernel_rfl
def Qf:Tryz.prog.underlying 21=some (.int .i32):=by kernel_rfl
def Qg:Tryz.prog.underlying 33=some (.int .i64):=by kernel_rfl
def Qh:Tryz.prog.underlying 238=some (.int .u64):=by kernel_rfl
def Qi:Tryz.prog.underlying 259=some (.int .u32):=by kernel_rfl
def Qj:Tryz.prog.underlying 262=some (.int .u64):=by kernel_rfl
def Qk:Tryz.prog.underlying 282=some (.int .u8):=by kernel_rfl
def Qm:Tryz.prog.underlying 283=some (.int .u8):=by kernel_rfl
def Qn:Tryz.prog.underlying 286=some (.int .i32):=by kernel_rfl
def Qo:Tryz.prog.underlying 287=some (.int .i32):=by kernel_rfl
def Qp:zeroV Tryz.prog 258=some (.map none):=by kernel_rfl
def Qq:xG Tryz.prog 257=0:=by kernel_rfl
def Qr:j4 Tryz.prog 257 0:=j4.int (kt:=3) (et:=258) (by kernel_rfl) (by kernel_rfl)
def Qs:zeroV Tryz.prog 3=some (.int .i64 0):=by kernel_rfl
def Qt:xG Tryz.prog 258=0:=by kernel_rfl
def Qu:j4 Tryz.prog 258 0:=j4.int (kt:=3) (et:=3) (by kernel_rfl) (by kernel_rfl)
def Qv:zeroV Tryz.prog 4=some (.bool false):=by kernel_rfl
def Qw:xG Tryz.prog 266=0:=by kernel_rfl
def Qx:j4 Tryz.prog 266 0:=j4.int (kt:=3) (et:=4) (by kernel_rfl) (by kernel_rfl)
def Qy:ta Tryz.prog 9=false:=by kernel_rfl
def Qz:ta Tryz.prog 245=false:=by kernel_rfl
def QA:ta Tryz.prog 248=false:=by kernel_rfl
def QB : uC Tryz.prog 248 "Len" = some (224, some 243) := by kernel_rfl
def QC : uC Tryz.prog 248 "Less" = some (225, some 243) := by kernel_rfl
def QD : uC Tryz.prog 248 "Pop" = some (227, none) := by kernel_rfl
def QE : uC Tryz.prog 248 "Swap" = some (226, some 243) := by kernel_rfl
def oB:type_of% NX/\type_of% NY/\type_of% NZ/\type_of% N0/\type_of% N1/\type_of% N2/\type_of% N3/\type_of% N4/\type_of% N5/\type_of% N6/\type_of% N7/\type_of% N8/\type_of% N9/\type_of% N'/\type_of% Oa/\type_of% Od/\type_of% Oe/\type_of% Of/\type_of% Og/\type_of% Oh/\type_of% Oi/\type_of% Oj/\type_of% Ok/\type_of% Ol/\type_of% Om/\type_of% On/\type_of% Oo/\type_of% Oq/\type_of% Ot/\type_of% Ou/\type_of% Ov/\type_of% Ow/\type_of% Ox/\type_of% Oy/\type_of% Oz/\type_of% OA/\type_of% OB/\type_of% OC/\type_of% OD/\type_of% OE/\type_of% OF/\type_of% OG/\type_of% OH/\type_of% OI/\type_of% OJ/\type_of% OK/\type_of% OL/\type_of% ON/\type_of% OO/\type_of% OP/\type_of% OQ/\type_of% OR/\type_of% OS/\type_of% OT/\type_of% OU/\type_of% OV/\type_of% OW/\type_of% OX/\type_of% OY/\type_of% OZ/\type_of% O0/\type_of% O1/\type_of% O2/\type_of% O3/\type_of% O4/\type_of% O5/\type_of% O6/\type_of% O7/\type_of% O8/\type_of% O9/\type_of% O'/\type_of% Pa/\type_of% Pb/\type_of% Pe/\type_of% Pf/\type_of% Pg/\type_of% Ph/\type_of% Pj/\type_of% Pk/\type_of% Pl/\type_of% Pm/\type_of% Pn/\type_of% Po/\type_of% Pp/\type_of% Pq/\type_of% Ps/\type_of% Pt/\type_of% Pu/\type_of% Pv/\type_of% Px/\type_of% Py/\type_of% Pz/\type_of% PA/\type_of% PD/\type_of% PE/\type_of% PG/\type_of% PH/\type_of% PI/\type_of% PJ/\type_of% PL/\type_of% PN/\type_of% PO/\type_of% PQ/\type_of% PR/\type_of% PS/\type_of% PU/\type_of% PV/\type_of% PW/\type_of% PX/\type_of% PY/\type_of% PZ/\type_of% P0/\type_of% P1/\type_of% P3/\type_of% P4/\type_of% P5/\type_of% P6/\type_of% P7/\type_of% P8/\type_of% P9/\type_of% Qa/\type_of% Qd/\type_of% Qe/\type_of% Qf/\type_of% Qg/\type_of% Qh/\type_of% Qi/\type_of% Qj/\type_of% Qk/\type_of% Qm/\type_of% Qn/\type_of% Qo/\type_of% Qp/\type_of% Qq/\type_of% Qr/\type_of% Qs/\type_of% Qt/\type_of% Qu/\type_of% Qv/\type_of% Qw/\type_of% Qx/\type_of% Qy/\type_of% Qz/\type_of% QA/\type_of% QB/\type_of% QC/\type_of% QD/\type_of% QE :=
 ⟨NX,NY,NZ,N0,N1,N2,N3,N4,N5,N6,N7,N8,N9,N',Oa,Od,Oe,Of,Og,Oh,Oi,Oj,Ok,Ol,Om,On,Oo,Oq,Ot,Ou,Ov,Ow,Ox,Oy,Oz,OA,OB,OC,OD,OE,OF,OG,OH,OI,OJ,OK,OL,ON,OO,OP,OQ,OR,OS,OT,OU,OV,OW,OX,OY,OZ,O0,O1,O2,O3,O4,O5,O6,O7,O8,O9,O',Pa,Pb,Pe,Pf,Pg,Ph,Pj,Pk,Pl,Pm,Pn,Po,Pp,Pq,Ps,Pt,Pu,Pv,Px,Py,Pz,PA,PD,PE,PG,PH,PI,PJ,PL,PN,PO,PQ,PR,PS,PU,PV,PW,PX,PY,PZ,P0,P1,P3,P4,P5,P6,P7,P8,P9,Qa,Qd,Qe,Qf,Qg,Qh,Qi,Qj,Qk,Qm,Qn,Qo,Qp,Qq,Qr,Qs,Qt,Qu,Qv,Qw,Qx,Qy,Qz,QA,QB,QC,QD,QE⟩
def Ac:=abl @oB @Bc @Sc @Rc
def Kc:=abl @l9 @Lc @oB @Rc
def Oc:=abE @ng.eq_1 @ng.eq_2 @or_true @false_or @Bc @Sc @Rc
def Hr:=abK @pM.eq_1 @pM.eq_2 @Bc @Rc @l9 @Lc @oB (abk @and_true @uo @BC)
def Tc:=abK @Has.eq_1 @Has.eq_2 @bR.{0} @dz.{0} @mq.{0} @eW @l9 (abr @Lc @oB @Rc @and_true @uo @BC)
def Qc:=abK @xM.eq_1 @xM.eq_2 @dQ.eq_1 @dQ.eq_2 @dQ.eq_3 @dK.eq_1 @Nc (abr @Nf @mq.{0} @l9 @Lc @oB @Rc)
inductive Sq(P:Program)(N n0:Nat)(y:Code)(Q:Exit->St->Prop):Exit->St->Prop
 |n (s:St) (h:W P N n0 y Q s):Sq P N n0 y Q .normal s
 |e (e:Exit) (s:St) (hi:tx e=false) (h:Q e s):Sq P N n0 y Q e s
inductive Bq(id:Nat)(Q:Exit->St->Prop):Exit->St->Prop
 |n (s:St) (h:Q .normal s):Bq id Q .normal s
 |x (s:St) (h:Q .normal s):Bq id Q (.exit id) s
 |e (e:Exit) (s:St) (hi:z' id e=false) (h:Q e s):Bq id Q e s
section
variable {P:Program} {N n0:Nat} {σ:St} {Q:Exit->St->Prop}
def Xk{x y:Code}(h:W P N n0 x (Sq P N n0 y Q) σ):W P N n0 (.seq x y) Q σ:=Wk λ_ h1 h2=>K8 h λ_ _ h=>by
 cases h with
 |n _ h=>exact h1 _ h
 |e _ _ hi h=>exact h2 _ _ hi h
def Xb{id:Nat}{c:Code}(h:W P N n0 c (Bq id Q) σ):W P N n0 (.block id c) Q σ:=Wb λ_ h1 h2 h3=>K8 h λ_ _ h=>by
 cases h with
 |n _ h=>exact h1 _ h
 |x _ h=>exact h2 _ h
 |e _ _ hi h=>exact h3 _ _ hi h
def hn{y:Code}(s:St)(h:W P N n0 y Q s):Sq P N n0 y Q .normal s:=.n s h
def he{y:Code}(e:Exit)(s:St)(hi:tx e=false)(h:Q e s):Sq P N n0 y Q e s:=.e e s hi h
def xP{id:Nat}(s:St)(h:Q .normal s):Bq id Q .normal s:=.n s h
def ZS{x y:Code}(h:∀ Q':Exit->St->Prop,(∀ s,W P N n0 y Q s->Q' .normal s)->(∀ e s,tx e=false->Q e s->Q' e s)->W P N n0 x Q' σ):W P N n0 x (Sq P N n0 y Q) σ:=h _ .n .e
def aeR{x y z:Code}(h:∀ Q':Exit->St->Prop,(∀ s,W P N n0 y Q s->Q' .normal s)->(∀ e s,tx e=false->Q e s->Q' e s)->W P N n0 x (Sq P N n0 z Q') σ):W P N n0 x (Sq P N n0 z (Sq P N n0 y Q)) σ:=h _ .n .e
def ZT{x y z:Code}{id:Nat}(h:∀ Q':Exit->St->Prop,(∀ s,W P N n0 y Q s->Q' .normal s)->(∀ e s,tx e=false->Q e s->Q' e s)->W P N n0 x (Sq P N n0 z (Bq id Q')) σ):W P N n0 x (Sq P N n0 z (Bq id (Sq P N n0 y Q))) σ:=h _ .n .e
end
def X0:True:=trivial
def X2{a b:Prop}(x:a)(y:b):a/\b:=⟨x,y⟩
def X3{a b c:Prop}(x:a)(y:b)(z:c):a/\b/\c:=⟨x,y,z⟩
def X4{a b c d:Prop}(x:a)(y:b)(z:c)(u:d):a/\b/\c/\d:=⟨x,y,z,u⟩
def X5{a b c d e:Prop}(x:a)(y:b)(z:c)(u:d)(v:e):a/\b/\c/\d/\e:=⟨x,y,z,u,v⟩
theorem Xr{p q e:Prop}(x:e)(h:q)(k:e->q->p:=by first|(intro hx hq;(first|refine rr ?_|refine sr ?_);intro K hK;simp(disch:=omega)only[Ac,↓Pc,simprocAttr,hx];revert hK;revert K;exact hq)|fail):p:=k x h
theorem Xq{p q e:Prop}(x:e)(h:q)(k:e->q->p:=by first|(intro hx hq;(first|refine rr ?_|refine sr ?_|refine rb ?_|refine Aa ?_|refine ra ?_|refine Ab ?_);intro K hK;simp(disch:=omega)only[Ac,↓Pc,simprocAttr,hx];revert hK;revert K;exact hq)|fail):p:=k x h
theorem Xo{p q e:Prop}(x:e)(h:q)(k:e->q->p:=by first|(intro hx hq;with_reducible refine gO ?_;simp(disch:=omega)only[Ac,↓Pc,simprocAttr,hx];exact hq)|fail):p:=k x h
theorem Xc{p q t:Prop}(c:t)(h:q)(k:t->q->p:=by first|(intro hc hq;(first|refine bU hc rfl rfl ?_|refine bF hc rfl rfl ?_);exact hq)|fail):p:=k c h
theorem Xg{p q r e:Prop}(x:e)(h:q)(h2:r)(k:e->q->r->p/\True:=by first|(intro hx hq hr;refine And.intro ?_ ?_;(with_reducible refine gS (fun cX=>?_) (fun cX=>?_));(focus (have hb:=cX;(try simp only[x7,simprocAttr]at hb);all_goals(simp(disch:=omega)only[Ac,↓Pc,simprocAttr,hx,cX]);all_goals(clear cX;revert hb;exact hq)));(focus (have hb:=cX;(try simp only[x7,simprocAttr]at hb);all_goals(simp(disch:=omega)only[Ac,↓Pc,simprocAttr,hx,cX]);all_goals(clear cX;revert hb;exact hr)));((try have _:True:=hq);(try have _:True:=hr);trivial))|fail):p:=(k x h h2).1
theorem Xi{p q r:Prop}(h:q)(h2:r)(k:q->r->p/\True:=by first|(intro hq hr;refine And.intro ?_ ?_;refine Wc ?_ ?_;(focus (intro ht;(try simp only[x7,simprocAttr]at ht);all_goals(revert ht;exact hq)));(focus (intro ht;(try simp only[x7,simprocAttr]at ht);all_goals(revert ht;exact hr)));((try have _:True:=hq);(try have _:True:=hr);trivial))|fail):p:=(k h h2).1
theorem Xz{p q:Prop}(h:q)(k:q->p:=by first|(intro hq;(first|refine Wz rfl ?_|refine Xk ?_|refine Xb ?_|refine Sq.n _ ?_|refine Sq.e _ _ rfl ?_|refine Bq.n _ ?_|refine Bq.x _ ?_|refine Bq.e _ _ rfl ?_|refine hn _ ?_|refine he _ _ rfl ?_);(repeat(first|refine Wz rfl ?_|refine Xk ?_|refine Xb ?_|refine Sq.n _ ?_|refine Sq.e _ _ rfl ?_|refine Bq.n _ ?_|refine Bq.x _ ?_|refine Bq.e _ _ rfl ?_|refine hn _ ?_|refine he _ _ rfl ?_));exact hq)|fail):p:=k h
theorem Xh{p q:Prop}(h:q)(k:q->p:=by first|(intro hq;(first|refine au _ _ rfl ?_|refine bQ _ _ rfl ?_|refine eK _ _ rfl ?_|refine kP _ _ rfl ?_);exact hq)|fail):p:=k h
theorem Xu{p q:Prop}(h:q)(k:q->p:=by first|(intro hq;(first|refine Sq.n _ ?_|refine Sq.e _ _ rfl ?_|refine Bq.n _ ?_|refine Bq.x _ ?_|refine Bq.e _ _ rfl ?_|refine hn _ ?_|refine he _ _ rfl ?_|refine au _ _ rfl ?_|refine bQ _ _ rfl ?_|refine eK _ _ rfl ?_|refine kP _ _ rfl ?_);exact hq)|fail):p:=k h
theorem Xe{p q:Prop}(h:q)(k:q->p:=by first|(intro hq;simp only[Qc,Kc,simprocAttr];exact hq)|fail):p:=k h
theorem Xy{p q:Prop}(h:q)(k:q->p:=by first|(intro hq;refine Xz ?_;exact hq)|(intro hq;refine Xe ?_;exact hq)|fail):p:=k h
theorem XY{p q:Prop}(h:q)(k:q->p:=by first|(intro hq;refine Xz ?_;exact hq)|(intro hq;refine Xh ?_;exact hq)|(intro hq;refine Xe ?_;exact hq)|fail):p:=k h
theorem Xx{p:Prop}(h:p:=by first|omega|with_reducible rfl|exact trivial|fail):p:=h
theorem Xl{n0:Nat}{e:Nat->AV}{os:List Ob}{v res:AV}{bg:List Ob}(ho:os=bg)(h:v=res)(hl:n0<=bg.length:=by(simp only[List.length_cons,List.length_nil];omega)):mB n0 ⟨e,os⟩ v res bg:=fB ho hl h
theorem Xd{p q r:Prop}(h:q)(h2:r)(k:q->r->p:=by first|(intro hq hr;with_reducible refine And.intro ?_ ?_;exact hq;exact hr)|fail):p:=k h h2
theorem Xv{n0:Nat}{σ S:St}{e:Prop}(x:e)(k:e->aB n0 σ S:=by first|(intro hx;refine aB.ax _ _ rfl ?_;simp only[Tc,↓reduceIte,Nat.reduceEqDiff,Nat.reduceBEq,Nat.reduceAdd,hx];(try trivial);done)|fail):aB n0 σ S:=k x
theorem Xs{n0:Nat}{σ:St}{l:List (Nat×AV)}{co:List Ob}{e:Prop}(snap:Bool)(ak:List Nat)(x:e)(h1:e->ng (bm σ.aa.length ak) σ.aa ak co:=by(intro hx;simp only[Oc,simprocAttr,hx]))(h2:e->pM (aE σ (kept ak co) (bm σ.aa.length ak) snap) σ.env l:=by(intro hx;simp only[Hr,↓reduceIte,Nat.reduceEqDiff,Nat.reduceBEq,Nat.reduceAdd,hx];(try(and_intros<;>first|exact .pure rfl|exact .eq rfl|exact .fz rfl (by simp only[Bc,Rc])))))(cu:ak.Nodup:=by decide)(hn:n0<=ak.length:=by decide)(cP:∀ i,i<n0->ak.getD i 0=i:=by decide):aB n0 σ ⟨ax l,co⟩:=aB.se ak snap (h1 x) (h2 x) cu hn cP
theorem Xw{n0:Nat}{σ:St}{v res:AV}{bg:List Ob}{e:Prop}(snap:Bool)(ak:List Nat)(x:e)(h1:e->ng (bm σ.aa.length ak) σ.aa ak bg:=by(intro hx;simp only[Oc,simprocAttr,hx]))(h2:aE σ (kept ak bg) (bm σ.aa.length ak) snap res v:=by first|exact .pure rfl|exact .eq rfl|exact .fz rfl (by simp only[Bc,Rc]))(cu:ak.Nodup:=by decide)(hn:n0<=ak.length:=by decide)(cP:∀ i,i<n0->ak.getD i 0=i:=by decide):mB n0 σ v res bg:=YI ak snap (h1 x) h2 cu hn cP
theorem Xn(ak:List Nat){P:Program}{σ:St}{f:FuncId}{args cV:List AV}{bJ:List Ob}{dst:Option Tmp}{K:St->Prop}{res:AV}{cz:List Ob}(h:an P f cV bJ res cz)(hK:K (({ σ with aa:=dY σ.aa ak (cz.map (bH (bm σ.aa.length ak))) }:St).put dst (aX (bm σ.aa.length ak) res)))(cu:ak.Nodup:=by decide)(ho:tc (bm σ.aa.length ak) σ.aa ak bJ:=by((repeat'(first|exact trivial|with_reducible refine And.intro ?_ ?_|refine And.intro ?_ ?_))<;>first|rfl|(rw[uA];rfl)|(rw[xD];rfl)|(rw[pU];rfl)|(rw[B0];rfl)))(ha:dS (aE σ (·∈ak) (bm σ.aa.length ak) false) cV args:=by((repeat'(first|exact trivial|refine And.intro ?_ ?_))<;>(first|exact .pure rfl|exact .eq rfl|exact .fz rfl (by simp only[Bc,Rc])))):oQ P f args dst K σ:=g9 ak h cu ho ha hK
theorem Xf(ak:List Nat){P:Program}{σ:St}{f:FuncId}{args cV:List AV}{bJ:List Ob}{dst:Option Tmp}{K:St->Prop}{res:AV}{cz:List Ob}(h:an P f cV bJ res cz)(hK:K (({ σ with aa:=dY σ.aa ak (cz.map (bH (bm σ.aa.length ak))) }:St).put dst (aX (bm σ.aa.length ak) res)))(cu:ak.Nodup:=by decide)(ho:tc (bm σ.aa.length ak) σ.aa ak bJ:=by((repeat'(first|exact trivial|with_reducible refine And.intro ?_ ?_|refine And.intro ?_ ?_))<;>first|rfl|(rw[uA];rfl)|(rw[xD];rfl)|(rw[pU];rfl)|(rw[B0];rfl)))(ha:dS (aE σ (·∈ak) (bm σ.aa.length ak) true) cV args:=by((repeat'(first|exact trivial|refine And.intro ?_ ?_))<;>(first|exact .pure rfl|exact .eq rfl|exact .fz rfl (by simp only[Bc,Rc]))))(dE:flat res=true:=by rfl)(v3:∀ o∈cz,td o:=by simp[td]):oQ P f args dst K σ:=n6 ak h cu ho ha dE v3 hK
def Pw:=abr @JD @xA @ux @uw @cQ.eq_1 @dN.eq_1
theorem Va{p q e:Prop}(x:e)(h:q)(k:e->q->p:=by first|(intro hx hq;(try with_reducible intro K hK);(first|((first|refine rr ?_|refine sr ?_);intro K hK;simp(disch:=omega)only[Ac,↓Pc,simprocAttr,hx];show _)|(with_reducible refine gO ?_;simp(disch:=omega)only[Ac,↓Pc,simprocAttr,hx];show _)|(refine hK _ ?_;clear hK K)|refine Wz rfl ?_|refine Xk ?_|refine Xb ?_|refine Sq.n _ ?_|refine Sq.e _ _ rfl ?_|refine Bq.n _ ?_|refine Bq.x _ ?_|refine Bq.e _ _ rfl ?_|refine hn _ ?_|refine he _ _ rfl ?_|(simp only[Qc,Kc,simprocAttr];show _)|(with_reducible refine And.intro ?_ ?_;(focus (clear hq;first|omega|with_reducible rfl|exact trivial))));(repeat(first|((first|refine rr ?_|refine sr ?_);intro K hK;simp(disch:=omega)only[Ac,↓Pc,simprocAttr,hx];show _)|(with_reducible refine gO ?_;simp(disch:=omega)only[Ac,↓Pc,simprocAttr,hx];show _)|(refine hK _ ?_;clear hK K)|refine Wz rfl ?_|refine Xk ?_|refine Xb ?_|refine Sq.n _ ?_|refine Sq.e _ _ rfl ?_|refine Bq.n _ ?_|refine Bq.x _ ?_|refine Bq.e _ _ rfl ?_|refine hn _ ?_|refine he _ _ rfl ?_|(simp only[Qc,Kc,simprocAttr];show _)|(with_reducible refine And.intro ?_ ?_;(focus (clear hq;first|omega|with_reducible rfl|exact trivial)))));(try revert hK);(try revert K);exact hq)|fail):p:=k x h
theorem Vb{p q e:Prop}(x:e)(h:q)(k:e->q->p:=by first|(intro hx hq;(try with_reducible intro K hK);(first|((first|refine rr ?_|refine sr ?_);intro K hK;simp(disch:=omega)only[Ac,↓Pc,simprocAttr,hx];show _)|(with_reducible refine gO ?_;simp(disch:=omega)only[Ac,↓Pc,simprocAttr,hx];show _)|(refine hK _ ?_;clear hK K)|refine Wz rfl ?_|refine Xk ?_|refine Xb ?_|refine Sq.n _ ?_|refine Sq.e _ _ rfl ?_|refine Bq.n _ ?_|refine Bq.x _ ?_|refine Bq.e _ _ rfl ?_|refine hn _ ?_|refine he _ _ rfl ?_|refine au _ _ rfl ?_|refine bQ _ _ rfl ?_|refine eK _ _ rfl ?_|refine kP _ _ rfl ?_|(simp only[Qc,Kc,simprocAttr];show _)|(with_reducible refine And.intro ?_ ?_;(focus (clear hq;first|omega|with_reducible rfl|exact trivial))));(repeat(first|((first|refine rr ?_|refine sr ?_);intro K hK;simp(disch:=omega)only[Ac,↓Pc,simprocAttr,hx];show _)|(with_reducible refine gO ?_;simp(disch:=omega)only[Ac,↓Pc,simprocAttr,hx];show _)|(refine hK _ ?_;clear hK K)|refine Wz rfl ?_|refine Xk ?_|refine Xb ?_|refine Sq.n _ ?_|refine Sq.e _ _ rfl ?_|refine Bq.n _ ?_|refine Bq.x _ ?_|refine Bq.e _ _ rfl ?_|refine hn _ ?_|refine he _ _ rfl ?_|refine au _ _ rfl ?_|refine bQ _ _ rfl ?_|refine eK _ _ rfl ?_|refine kP _ _ rfl ?_|(simp only[Qc,Kc,simprocAttr];show _)|(with_reducible refine And.intro ?_ ?_;(focus (clear hq;first|omega|with_reducible rfl|exact trivial)))));(try revert hK);(try revert K);exact hq)|fail):p:=k x h
theorem Vc{p q e t:Prop}(x:e)(c:t)(h:q)(k:e->t->q->p:=by first|(intro hx hc hq;(try with_reducible intro K hK);(first|((first|refine rr ?_|refine sr ?_|refine rb ?_|refine Aa ?_|refine ra ?_|refine Ab ?_);intro K hK;simp(disch:=omega)only[Ac,↓Pc,simprocAttr,hx];show _)|(with_reducible refine gO ?_;simp(disch:=omega)only[Ac,↓Pc,simprocAttr,hx];show _)|(refine hK _ ?_;clear hK K)|refine Wz rfl ?_|refine Xk ?_|refine Xb ?_|refine Sq.n _ ?_|refine Sq.e _ _ rfl ?_|refine Bq.n _ ?_|refine Bq.x _ ?_|refine Bq.e _ _ rfl ?_|refine hn _ ?_|refine he _ _ rfl ?_|(simp only[Qc,Kc,simprocAttr];show _)|(with_reducible refine And.intro ?_ ?_;(focus (clear hq;first|omega|with_reducible rfl|exact trivial)))|(apply bU;(focus(repeat(first|exact hc|exact hc.1|have hc:=hc.2)));rfl;rfl)|(apply bF;(focus(repeat(first|exact hc|exact hc.1|have hc:=hc.2)));rfl;rfl));(repeat(first|((first|refine rr ?_|refine sr ?_|refine rb ?_|refine Aa ?_|refine ra ?_|refine Ab ?_);intro K hK;simp(disch:=omega)only[Ac,↓Pc,simprocAttr,hx];show _)|(with_reducible refine gO ?_;simp(disch:=omega)only[Ac,↓Pc,simprocAttr,hx];show _)|(refine hK _ ?_;clear hK K)|refine Wz rfl ?_|refine Xk ?_|refine Xb ?_|refine Sq.n _ ?_|refine Sq.e _ _ rfl ?_|refine Bq.n _ ?_|refine Bq.x _ ?_|refine Bq.e _ _ rfl ?_|refine hn _ ?_|refine he _ _ rfl ?_|(simp only[Qc,Kc,simprocAttr];show _)|(with_reducible refine And.intro ?_ ?_;(focus (clear hq;first|omega|with_reducible rfl|exact trivial)))|(apply bU;(focus(repeat(first|exact hc|exact hc.1|have hc:=hc.2)));rfl;rfl)|(apply bF;(focus(repeat(first|exact hc|exact hc.1|have hc:=hc.2)));rfl;rfl)));(try revert hK);(try revert K);exact hq)|fail):p:=k x c h
theorem Vd{p q e t:Prop}(x:e)(c:t)(h:q)(k:e->t->q->p:=by first|(intro hx hc hq;(try with_reducible intro K hK);(first|((first|refine rr ?_|refine sr ?_|refine rb ?_|refine Aa ?_|refine ra ?_|refine Ab ?_);intro K hK;simp(disch:=omega)only[Ac,↓Pc,simprocAttr,hx];show _)|(with_reducible refine gO ?_;simp(disch:=omega)only[Ac,↓Pc,simprocAttr,hx];show _)|(refine hK _ ?_;clear hK K)|refine Wz rfl ?_|refine Xk ?_|refine Xb ?_|refine Sq.n _ ?_|refine Sq.e _ _ rfl ?_|refine Bq.n _ ?_|refine Bq.x _ ?_|refine Bq.e _ _ rfl ?_|refine hn _ ?_|refine he _ _ rfl ?_|refine au _ _ rfl ?_|refine bQ _ _ rfl ?_|refine eK _ _ rfl ?_|refine kP _ _ rfl ?_|(simp only[Qc,Kc,simprocAttr];show _)|(with_reducible refine And.intro ?_ ?_;(focus (clear hq;first|omega|with_reducible rfl|exact trivial)))|(apply bU;(focus(repeat(first|exact hc|exact hc.1|have hc:=hc.2)));rfl;rfl)|(apply bF;(focus(repeat(first|exact hc|exact hc.1|have hc:=hc.2)));rfl;rfl));(repeat(first|((first|refine rr ?_|refine sr ?_|refine rb ?_|refine Aa ?_|refine ra ?_|refine Ab ?_);intro K hK;simp(disch:=omega)only[Ac,↓Pc,simprocAttr,hx];show _)|(with_reducible refine gO ?_;simp(disch:=omega)only[Ac,↓Pc,simprocAttr,hx];show _)|(refine hK _ ?_;clear hK K)|refine Wz rfl ?_|refine Xk ?_|refine Xb ?_|refine Sq.n _ ?_|refine Sq.e _ _ rfl ?_|refine Bq.n _ ?_|refine Bq.x _ ?_|refine Bq.e _ _ rfl ?_|refine hn _ ?_|refine he _ _ rfl ?_|refine au _ _ rfl ?_|refine bQ _ _ rfl ?_|refine eK _ _ rfl ?_|refine kP _ _ rfl ?_|(simp only[Qc,Kc,simprocAttr];show _)|(with_reducible refine And.intro ?_ ?_;(focus (clear hq;first|omega|with_reducible rfl|exact trivial)))|(apply bU;(focus(repeat(first|exact hc|exact hc.1|have hc:=hc.2)));rfl;rfl)|(apply bF;(focus(repeat(first|exact hc|exact hc.1|have hc:=hc.2)));rfl;rfl)));(try revert hK);(try revert K);exact hq)|fail):p:=k x c h
theorem V2{p q r e:Prop}(x:e)(h:q)(h2:r)(k:e->q->r->p/\True:=by first|(intro hx hq hr;refine And.intro ?_ ?_;(try with_reducible intro K hK);(with_reducible refine gS (fun cX=>?_) (fun cX=>?_));(focus (have hb:=cX;(try simp only[x7,simprocAttr]at hb);all_goals(simp(disch:=omega)only[Ac,↓Pc,simprocAttr,hx,cX]);all_goals(clear cX;(try revert hK);(try revert K);revert hb;exact hq)));(focus (have hb:=cX;(try simp only[x7,simprocAttr]at hb);all_goals(simp(disch:=omega)only[Ac,↓Pc,simprocAttr,hx,cX]);all_goals(clear cX;(try revert hK);(try revert K);revert hb;exact hr)));((try have _:True:=hq);(try have _:True:=hr);trivial))|fail):p:=(k x h h2).1
theorem VD{p q r:Prop}(h:q)(h2:r)(k:q->r->p:=by first|(intro hq hr;(try with_reducible intro K hK);with_reducible refine And.intro ?_ ?_;(focus ((try clear hK K);(try revert hK);(try revert K);exact hq));(focus ((try clear hK K);(try revert hK);(try revert K);exact hr)))|fail):p:=k h h2
def ZU(n m:Int)(hm:fx m):an Tryz.prog 23 [aa3 n,aa3 m] [] (aa3 (u7 n m)) []:=by
 unfold fx at hm;refine an.aF 16 0 [.tmp 4] Tryz.func23 ?_;repeat'(first|(refine Xr X0 ?_;intro K hK)|(refine hK _ ?_;clear hK K)|(refine Xi ?_ ?_<;>try intro ht)|refine Xz ?_|(refine Xe ?_;first|refine aO rfl ?_|refine Xl ?_ ?_)|refine Xd ?_ ?_|exact Xx|fail)
 ·rw[u7,if_pos ht]
 ·have:=GD n m I6;omega
 ·rw[u7,if_neg I6,(GD n m I6).1 ht]
 ·rw[u7,if_neg I6,(GD n m I6).2.1 ht]
def YV(xs:List Int):an Tryz.prog 11 [.tree 1 (ints xs)] [] (.lit (.bool (decide (xs.length<=400)))) []:=by
 refine an.aF 6 0 [.tmp 2] Tryz.func11 ?_;repeat'(first|(refine Xr X0 ?_;intro K hK)|(refine hK _ ?_;clear hK K)|refine Xz ?_|(refine Xe ?_;first|refine aO rfl ?_|refine Xl ?_ ?_)|fail)
 ·congr 3;simp;omega
def jq(L:List Int)(k:Nat)(n:Int)(hn:fx n)(hk:k<=L.length)(hL:L.length<1000000):an Tryz.prog 63 [.ptr 0 0 0,aa3 n] [.var [.tree 1 (ints L),aa3 k]] (aa3 (ek L k n))
  [.var [.tree 1 (ints L),aa3 (cO L k)]]:=by
 refine an.aF 35 1 [.tmp 4] Tryz.func63 ?_;repeat'(first|(refine Xq X0 ?_;intro K hK)|refine Xo X0 ?_|refine Xc (ZU _ _ hn) ?_|(refine hK _ ?_;clear hK K)|(refine Xi ?_ ?_<;>try intro ht)|refine Xz ?_|(refine Xe ?_;first|refine aO rfl ?_|refine Xl ?_ ?_)|refine Xd ?_ ?_|exact Xx|fail)
 ·rw[cO,if_pos I6]
 ·rw[ek,if_pos I6]
 ·rw[cO,if_neg I6,uo];rfl
 ·rw[ek,if_neg I6,show((k:Int)+1-1).toNat=k by omega]
def yq(L:List Int)(k:Nat)(n:Int)(hn:fx n)(e9:0<n)(hk:k<=L.length)(hL:L.length<1000000):an Tryz.prog 42 [.ptr 0 0 0,aa3 n] [.var [.tree 1 (ints L),aa3 k]] (.lit (.bool (wO L k n)))
  [.var [.tree 1 (ints L),aa3 (cO L k)]]:=by
 refine an.aF 11 1 [.tmp 4] Tryz.func42 ?_;repeat'(first|(refine Xr X0 ?_;intro K hK)|(refine hK _ ?_;clear hK K)|fail)
 refine lh (jq L k n hn hk hL) Jd ?_;unfold fx at hn;repeat'(first|refine Xo X0 ?_|(refine hK _ ?_;clear hK K)|refine Xz ?_|(refine Xe ?_;first|refine aO rfl ?_|refine Xl ?_ ?_)|refine Xd ?_ ?_|exact Xx|fail)
 ·rfl
def GF(L:List Int)(k:Nat)(hk:k<=L.length)(hL:L.length<1000000):an Tryz.prog 64 [.ptr 0 0 0] [.var [.tree 1 (ints L),aa3 k]] (aa3 (nL L k))
  [.var [.tree 1 (ints L),aa3 (sF L k)]]:=by
 have h6:=lQ (L:=L) (k:=k) (n:=6) I6;have ZV:=lQ (L:=L) (k:=cO L k) (n:=20) I6;refine an.aF 14 1 [.tmp 2] Tryz.func64 ?_;repeat'(first|(refine Xr X0 ?_;intro K hK)|(refine hK _ ?_;clear hK K)|refine Xz ?_|fail)
 refine lh (jq L k 6 (by unfold fx;omega) hk hL) Jd ?_;have c1:ek L k 6<=3->sF L k=cO L k:=λh=>by rw[sF,if_pos h]
 have c2:ek L k 6<3->nL L k=0:=λh=>by rw[nL,if_pos h]
 have c3:ek L k 6=3->nL L k=1099511627776:=λh=>by rw[nL,if_neg I6,if_pos h]
 have c4:¬ ek L k 6<=3->sF L k=cO L (cO L k):=λh=>by rw[sF,if_neg h]
 have c5:¬ ek L k 6<=3->nL L k=1+ek L (cO L k) 20:=λh=>by rw[nL,if_neg I6,if_neg I6]
 repeat'(first|(refine Xr X0 ?_;intro K hK)|(refine hK _ ?_;clear hK K)|(refine Xi ?_ ?_<;>try intro ht)|refine Xz ?_|(refine Xe ?_;first|refine aO rfl ?_|refine Xl ?_ ?_)|exact Xx|fail)
 iterate 3
  ·rw[c1 I6]
  ·rw[c2 I6]
 ·rw[c1 I6]
 ·rw[c3 I6]
 ·refine lh (jq L (cO L k) 20 (by unfold fx;omega) (fY hk) hL) Jd ?_;repeat'(first|refine Xo X0 ?_|(refine hK _ ?_;clear hK K)|refine Xz ?_|(refine Xe ?_;first|refine aO rfl ?_|refine Xl ?_ ?_)|refine Xd ?_ ?_|exact Xx|fail)
  ·rw[c4 I6]
  ·rw[c5 I6]
def YX(L:List Int):an Tryz.prog 14 [.tree 1 (ints L)] [] (.ptr 0 0 0) [.var [.tree 1 (ints L),aa3 (0:Nat)]]:=by
 refine an.aF 6 0 [.tmp 2] Tryz.func14 ?_;refine Vb X0 ?_;rw[show(0:Int)=((0:Nat):Int) from rfl];exact fB rfl Jd rfl
def Nw(a b:List Int)(hl:a.length<9223372036854775808):an Tryz.prog 21 [.tree 1 (ints a),.tree 1 (ints b)] [] (.lit (.bool (decide (a=b)))) []:=by
 refine an.aF 26 0 [.tmp 4] Tryz.func21 ?_;repeat'(first|(refine Xr X0 ?_;intro K hK)|(refine hK _ ?_;clear hK K)|(refine Xi ?_ ?_<;>try intro ht)|refine Xz ?_|(refine Xe ?_;first|refine aO rfl ?_|refine Xl ?_ ?_)|fail)
 ·congr 2;simp;intro h;subst h;exact absurd rfl ht
 ·refine aW (λk:Nat=>(⟨ax [(0,.tree 1 (ints a)),(1,.tree 1 (ints b)),(5,aa3 k)],[]⟩:St)) (λk=>k<=a.length/\(a=b↔a.drop k=b.drop k)) (λk=>a.length-k) 0 ⟨aQ _,Jd⟩ (Xv X0) ?_;intro k ⟨hk,hc⟩ Ql aq au;repeat'(first|(refine Xr X0 ?_;intro K hK)|(refine hK _ ?_;clear hK K)|(refine Xi ?_ ?_<;>try intro ht)|refine Xz ?_|refine Xh ?_|(refine Xe ?_;first|refine aO rfl ?_|refine Xl ?_ ?_)|refine Xd ?_ ?_|exact Xx|fail)
  ·congr 2;simp only[decide_eq_false_iff_not,eq_comm (a:=false)];rw[hc,cS _ _ 0 I6,cS b _ 0 I6];simp only[List.cons.injEq];exact λh=>ht h.1
  ·refine aq _ (k+1) ⟨I6,?_⟩ I6 (Xv X0);rw[hc,cS _ _ 0 I6,cS b _ 0 I6,ht];simp
  ·congr 2;rw[show a=b by rw[hc,cU I6,cU I6]];simp
def GG(a b:Int)(ha:bL a)(hb:bL b):an Tryz.prog 168 [aa3 a,aa3 b] [] (aa3 (dx a b)) []:=by
 unfold bL at *;refine an.aF 9 0 [.tmp 4] Tryz.func168 ?_;repeat'(first|(refine Xr X0 ?_;intro K hK)|(refine hK _ ?_;clear hK K)|refine Xz ?_|(refine Xe ?_;first|refine aO rfl ?_|refine Xl ?_ ?_)|refine Xd ?_ ?_|exact Xx|fail)
 ·rfl
def GH(n:Int):an Tryz.prog 140 [aa3 n] [] (.lit (.bool (iF n))) []:=by
 refine an.aF 13 0 [.tmp 2] Tryz.func140 ?_;repeat'(first|(refine Xr X0 ?_;intro K hK)|(refine hK _ ?_;clear hK K)|(refine Xg X0 ?_ ?_<;>try intro hb)|refine Xz ?_|(refine Xe ?_;first|refine aO rfl ?_|refine Xl ?_ ?_)|fail)
 all_goals(refine congrArg (λb=>AV.lit (Value.bool b)) ?_;rw[my];simp only[iF,decide_eq_true_eq,beq_iff_eq,bne_iff_ne,ba,ke,jW,decide_eq_false_iff_not,jy,reduceCtorEq,iff_true,iff_false,true_iff,false_iff,eq_self];omega)
def GJ(n:Int):an Tryz.prog 60 [aa3 n] [] (.lit (.bool (iF n))) []:=by
 refine an.aF 13 0 [.tmp 2] Tryz.func60 ?_;repeat'(first|(refine Xr X0 ?_;intro K hK)|(refine hK _ ?_;clear hK K)|(refine Xg X0 ?_ ?_<;>try intro hb)|refine Xz ?_|(refine Xe ?_;first|refine aO rfl ?_|refine Xl ?_ ?_)|fail)
 all_goals(refine congrArg (λb=>AV.lit (Value.bool b)) ?_;rw[my];simp only[iF,decide_eq_true_eq,beq_iff_eq,bne_iff_ne,ba,ke,jW,decide_eq_false_iff_not,jy,reduceCtorEq,iff_true,iff_false,true_iff,false_iff,eq_self];omega)
def GK(m:aj)(n:Int):an Tryz.prog 139 [.agg (av m),aa3 n] [] (.lit (.bool (ij m.rules n))) []:=by
 refine an.aF 13 0 [.tmp 4] Tryz.func139 ?_;repeat'(first|(refine Xr @av.eq_1 ?_;intro K hK)|(refine hK _ ?_;clear hK K)|(refine Xg @av.eq_1 ?_ ?_<;>try intro hb)|refine Xz ?_|(refine Xe ?_;first|refine aO rfl ?_|refine Xl ?_ ?_)|fail)
 all_goals(refine congrArg (λb=>AV.lit (Value.bool b)) ?_;rw[my];simp only[ij,decide_eq_true_eq,beq_iff_eq,bne_iff_ne,ba,ke,jW,decide_eq_false_iff_not,jy,reduceCtorEq,iff_true,iff_false,true_iff,false_iff,eq_self];omega)
def GL(m:aj)(n:Int):an Tryz.prog 59 [.agg (av m),aa3 n] [] (.lit (.bool (ij m.rules n))) []:=by
 refine an.aF 13 0 [.tmp 4] Tryz.func59 ?_;repeat'(first|(refine Xr @av.eq_1 ?_;intro K hK)|(refine hK _ ?_;clear hK K)|(refine Xg @av.eq_1 ?_ ?_<;>try intro hb)|refine Xz ?_|(refine Xe ?_;first|refine aO rfl ?_|refine Xl ?_ ?_)|fail)
 all_goals(refine congrArg (λb=>AV.lit (Value.bool b)) ?_;rw[my];simp only[ij,decide_eq_true_eq,beq_iff_eq,bne_iff_ne,ba,ke,jW,decide_eq_false_iff_not,jy,reduceCtorEq,iff_true,iff_false,true_iff,false_iff,eq_self];omega)
def ZW(n:Int):an Tryz.prog 183 [aa3 n] [] (.lit (.bool false)) []:=by
 refine an.aF 6 0 [.tmp 2] Tryz.func183 ?_;repeat'(first|(refine Xr @bne_self_eq_false.{0} ?_;intro K hK)|(refine hK _ ?_;clear hK K)|refine Xz ?_|(refine Xe ?_;first|refine aO rfl ?_|refine Xl ?_ ?_)|exact Xx|fail)
def QF(a b:Int):an Tryz.prog 144 [aa3 a,aa3 b] [] (aa3 (mQ a b)) []:=by
 refine an.aF 20 0 [.tmp 4] Tryz.func144 ?_;repeat'(first|(refine Xq X0 ?_;intro K hK)|refine Xo X0 ?_|refine Xc (ZW _) ?_|(refine hK _ ?_;clear hK K)|(refine Xi ?_ ?_<;>try intro ht)|refine Xz ?_|(refine Xe ?_;first|refine aO rfl ?_|refine Xl ?_ ?_)|exact Xx|fail)
 all_goals(unfold mQ;congr 2;(repeat' split)<;>omega)
def QG(l:List Int)(hl:l.length<1000000):an Tryz.prog 143 [.tree 1 (ints l)] [] (aa3 (re l)) []:=by
 generalize ao:re l=res;refine an.aF 18 0 [.tmp 2] Tryz.func143 ?_;repeat'(first|(refine Xr X0 ?_;intro K hK)|(refine hK _ ?_;clear hK K)|refine Xz ?_|fail)
 refine aW (λk:Nat=>(⟨ax [(3,aa3 0),(6,.tree 1 (ints l)),(7,aa3 l.length),(8,aa3 k)],[]⟩:St)) (λk=>k<=l.length/\re (l.drop k)=res) (λk=>l.length-k) 0 ⟨aQ _,ao⟩ (Xv X0) ?_;rintro k⟨hk,hr⟩Ql aq au;repeat'(first|(refine Xr X0 ?_;intro K hK)|(refine hK _ ?_;clear hK K)|(refine Xi ?_ ?_<;>try intro ht)|refine Xz ?_|refine Xh ?_|(refine Xe ?_;first|refine aO rfl ?_|refine Xl ?_ ?_)|refine Xd ?_ ?_|exact Xx|fail)
 ·rw[cS _ _ 0 I6,re,if_pos (by assumption)]at hr;rw[hr]
 ·rw[cS _ _ 0 I6,re,if_neg I6]at hr;exact aq _ (k+1) ⟨I6,hr⟩ I6 (Xv X0)
 ·rw[cU I6,re]at hr;rw[hr]
def QH(m:aj)(c o:Int):an Tryz.prog 145 [.agg (av m),aa3 c,aa3 o] [] (.lit (.bool (gW m c o))) []:=by
 refine an.aF 30 0 [.tmp 6] Tryz.func145 ?_;repeat'(first|(refine Xr (X4 @av.eq_1 @bW @hU @bD.eq_1) ?_;intro K hK)|(refine hK _ ?_;clear hK K)|(refine Xg (X4 @av.eq_1 @bW @hU @bD.eq_1) ?_ ?_<;>try intro hb)|refine Xz ?_|(refine Xe ?_;first|refine aO rfl ?_|refine Xl ?_ ?_)|refine Xd ?_ ?_|exact Xx|fail)
 all_goals(refine congrArg (λb=>AV.lit (Value.bool b)) ?_;rw[my];simp only[gW,decide_eq_true_eq,beq_iff_eq,bne_iff_ne,ba,ke,jW,decide_eq_false_iff_not,jy,reduceCtorEq,iff_true,iff_false,true_iff,false_iff,eq_self];omega)
def ZX(m:aj)(c o:Int):an Tryz.prog 101 [.agg (av m),aa3 c,aa3 o] [] (.lit (.bool (gW m c o))) []:=by
 refine an.aF 30 0 [.tmp 6] Tryz.func101 ?_;repeat'(first|(refine Xr (X4 @av.eq_1 @bW @hU @bD.eq_1) ?_;intro K hK)|(refine hK _ ?_;clear hK K)|(refine Xg (X4 @av.eq_1 @bW @hU @bD.eq_1) ?_ ?_<;>try intro hb)|refine Xz ?_|(refine Xe ?_;first|refine aO rfl ?_|refine Xl ?_ ?_)|refine Xd ?_ ?_|exact Xx|fail)
 all_goals(refine congrArg (λb=>AV.lit (Value.bool b)) ?_;rw[my];simp only[gW,decide_eq_true_eq,beq_iff_eq,bne_iff_ne,ba,ke,jW,decide_eq_false_iff_not,jy,reduceCtorEq,iff_true,iff_false,true_iff,false_iff,eq_self];omega)
def ZY(c:Ct)(n:Int)(h1:0<=c.most)(h2:n<=1048576)(h3:0<=n)(h4:bL c.bM):an Tryz.prog 167 [.agg (aK c),aa3 n] [] (aa3 (jP c.most c.bM n)) []:=by
 unfold bL at h4;have hm:c.most<n->0<=(n-c.most)*c.bM/\(n-c.most)*c.bM<=1048576*1099511627776:=λh=>⟨Int.mul_nonneg I6 h4.1,Int.mul_le_mul I6 h4.2 h4.1 I6⟩;refine an.aF 17 0 [.tmp 4] Tryz.func167 ?_;repeat'(first|(refine Xr @aK.eq_1 ?_;intro K hK)|(refine hK _ ?_;clear hK K)|(refine Xi ?_ ?_<;>try intro ht)|refine Xz ?_|(refine Xe ?_;first|refine aO rfl ?_|refine Xl ?_ ?_)|refine Xd ?_ ?_|exact Xx|fail)
 ·rw[jP,if_pos ht]
 ·rw[jP,if_neg I6]
def GM(l:List Int)(r c:Int)(hr:0<=r/\r<l.length)(hc:bL c)(hl:bL (l.getD r.toNat 0)):an Tryz.prog 166 [.ptr 0 0 0,aa3 r,aa3 c] [.var [.ref 1 1 0 l.length],.arr 1 (ints l)] (.bO [])
  [.var [.ref 1 1 0 l.length],.arr 1 (ints (l.set r.toNat (dx (l.getD r.toNat 0) c)))]:=by
 refine an.aF 21 2 [] Tryz.func166 ?_;(try(refine x9 [13] rfl aab (by decide +kernel) ?_);intro K hK;simp(disch:=omega)only[Ac,↓Pc,simprocAttr])
 repeat'(first|refine Xo X0 ?_|refine Xc (GG _ _ hl hc) ?_|(refine hK _ ?_;clear hK K)|(refine Xe ?_;first|refine aO rfl ?_|refine Xl ?_ ?_)|refine Xd ?_ ?_|exact Xx|fail)
end T

