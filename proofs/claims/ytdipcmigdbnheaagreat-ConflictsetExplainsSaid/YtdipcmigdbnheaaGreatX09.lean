import Derived.Test.YtdipcmigdbnheaaGreatX08
import Derived.Test.YtdipcmigdbnheaaGreatX07
import Derived.Test.YtdipcmigdbnheaaGreatProg
import Derived.KernelRfl
set_option linter.all false
set_option maxHeartbeats 0
set_option maxRecDepth 20000
open Int renaming natCast_add→yK,cast_ofNat_Int→GN,mul_nonneg→sF,mul_le_mul→qj
open List renaming length_append→bQ,length_cons→eB,length_nil→pD,drop_eq_nil_of_le→cR
open Nat renaming zero_add→gn,zero_le→aI
open Bool renaming eq_iff_iff→mI,and_eq_true→bw,or_eq_true→l9,not_eq_true'→ld,false_eq_true→jQ
open Go Go.Am Go.Proofs
namespace T
def Vt:ty Tryz.prog 2 = { kind:=5,size:=1,bytes:=8,elem:=0,len:=0,zero:=some [.int .i64 0],aY:=[] }:=by kernel_rfl
def Vu:ty Tryz.prog 3 = { kind:=5,size:=1,bytes:=8,elem:=0,len:=0,zero:=some [.int .i64 0],aY:=[] }:=by kernel_rfl
def Vv:ty Tryz.prog 4 = { kind:=6,size:=1,bytes:=1,elem:=0,len:=0,zero:=some [.bool false],aY:=[] }:=by kernel_rfl
def Vw:ty Tryz.prog 5 = { kind:=5,size:=1,bytes:=1,elem:=0,len:=0,zero:=some [.int .u8 0],aY:=[] }:=by kernel_rfl
def Vx:ty Tryz.prog 6 = { kind:=5,size:=1,bytes:=1,elem:=0,len:=0,zero:=some [.int .u8 0],aY:=[] }:=by kernel_rfl
def Vy:ty Tryz.prog 7 = { kind:=3,size:=4,bytes:=24,elem:=0,len:=0,zero:=some [.int .i64 0,.int .i64 0,.bool false,.int .u8 0],aY:=[(0,2,1),(1,3,1),(2,4,1),(3,6,1)] }:=by kernel_rfl
def Vz:ty Tryz.prog 8 = { kind:=3,size:=4,bytes:=24,elem:=0,len:=0,zero:=some [.int .i64 0,.int .i64 0,.bool false,.int .u8 0],aY:=[(0,2,1),(1,3,1),(2,4,1),(3,6,1)] }:=by kernel_rfl
def VA:ty Tryz.prog 9 = { kind:=4,size:=1,bytes:=16,elem:=0,len:=0,zero:=some [.string ⟨#[]⟩],aY:=[] }:=by kernel_rfl
def VB:ty Tryz.prog 10 = { kind:=4,size:=1,bytes:=16,elem:=0,len:=0,zero:=some [.string ⟨#[]⟩],aY:=[] }:=by kernel_rfl
def VC:ty Tryz.prog 11 = { kind:=4,size:=1,bytes:=16,elem:=0,len:=0,zero:=some [.string ⟨#[]⟩],aY:=[] }:=by kernel_rfl
def VE:ty Tryz.prog 12 = { kind:=5,size:=1,bytes:=8,elem:=0,len:=0,zero:=some [.int .u64 0],aY:=[] }:=by kernel_rfl
def VF:ty Tryz.prog 13 = { kind:=3,size:=2,bytes:=24,elem:=0,len:=0,zero:=some [.string ⟨#[]⟩,.int .u64 0],aY:=[(0,9,1),(1,12,1)] }:=by kernel_rfl
def VG:ty Tryz.prog 14 = { kind:=3,size:=2,bytes:=24,elem:=0,len:=0,zero:=some [.string ⟨#[]⟩,.int .u64 0],aY:=[(0,9,1),(1,12,1)] }:=by kernel_rfl
def VH:ty Tryz.prog 15 = { kind:=7,size:=1,bytes:=8,elem:=278,len:=0,zero:=some [.pointer none],aY:=[] }:=by kernel_rfl
def VI:ty Tryz.prog 16 = { kind:=7,size:=1,bytes:=8,elem:=281,len:=0,zero:=some [.pointer none],aY:=[] }:=by kernel_rfl
def VJ:ty Tryz.prog 17 = { kind:=7,size:=1,bytes:=8,elem:=289,len:=0,zero:=some [.pointer none],aY:=[] }:=by kernel_rfl
def VK:ty Tryz.prog 18 = { kind:=3,size:=1,bytes:=8,elem:=0,len:=0,zero:=some [.pointer none],aY:=[(0,17,1)] }:=by kernel_rfl
def VL:ty Tryz.prog 19 = { kind:=3,size:=1,bytes:=8,elem:=0,len:=0,zero:=some [.pointer none],aY:=[(0,17,1)] }:=by kernel_rfl
def VN:ty Tryz.prog 21 = { kind:=5,size:=1,bytes:=4,elem:=0,len:=0,zero:=some [.int .i32 0],aY:=[] }:=by kernel_rfl
def VO:ty Tryz.prog 22 = { kind:=1,size:=1,bytes:=24,elem:=3,len:=0,zero:=some [.slice none 0 0],aY:=[] }:=by kernel_rfl
def VP:ty Tryz.prog 25 = { kind:=1,size:=1,bytes:=24,elem:=82,len:=0,zero:=some [.slice none 0 0],aY:=[] }:=by kernel_rfl
def VQ:ty Tryz.prog 26 = { kind:=1,size:=1,bytes:=24,elem:=84,len:=0,zero:=some [.slice none 0 0],aY:=[] }:=by kernel_rfl
def VR:ty Tryz.prog 27 = { kind:=1,size:=1,bytes:=24,elem:=98,len:=0,zero:=some [.slice none 0 0],aY:=[] }:=by kernel_rfl
def VS:ty Tryz.prog 28 = { kind:=3,size:=4,bytes:=80,elem:=0,len:=0,zero:=some [.slice none 0 0,.slice none 0 0,.slice none 0 0,.int .i64 0],aY:=[(0,25,1),(1,26,1),(2,27,1),(3,3,1)] }:=by kernel_rfl
def VT:ty Tryz.prog 29 = { kind:=3,size:=4,bytes:=80,elem:=0,len:=0,zero:=some [.slice none 0 0,.slice none 0 0,.slice none 0 0,.int .i64 0],aY:=[(0,25,1),(1,26,1),(2,27,1),(3,3,1)] }:=by kernel_rfl
def VU:ty Tryz.prog 31 = { kind:=7,size:=1,bytes:=8,elem:=90,len:=0,zero:=some [.pointer none],aY:=[] }:=by kernel_rfl
def VV:ty Tryz.prog 33 = { kind:=5,size:=1,bytes:=8,elem:=0,len:=0,zero:=some [.int .i64 0],aY:=[] }:=by kernel_rfl
def VW:ty Tryz.prog 37 = { kind:=1,size:=1,bytes:=24,elem:=68,len:=0,zero:=some [.slice none 0 0],aY:=[] }:=by kernel_rfl
def VX:ty Tryz.prog 38 = { kind:=3,size:=1,bytes:=24,elem:=0,len:=0,zero:=some [.slice none 0 0],aY:=[(0,37,1)] }:=by kernel_rfl
def VY:ty Tryz.prog 39 = { kind:=3,size:=1,bytes:=24,elem:=0,len:=0,zero:=some [.slice none 0 0],aY:=[(0,37,1)] }:=by kernel_rfl
def VZ:ty Tryz.prog 40 = { kind:=3,size:=4,bytes:=64,elem:=0,len:=0,zero:=some [.slice none 0 0,.int .i64 0,.int .i64 0,.slice none 0 0],aY:=[(0,22,1),(1,3,1),(2,3,1),(3,39,1)] }:=by kernel_rfl
def V0:ty Tryz.prog 41 = { kind:=3,size:=4,bytes:=64,elem:=0,len:=0,zero:=some [.slice none 0 0,.int .i64 0,.int .i64 0,.slice none 0 0],aY:=[(0,22,1),(1,3,1),(2,3,1),(3,39,1)] }:=by kernel_rfl
def V1:ty Tryz.prog 57 = { kind:=1,size:=1,bytes:=24,elem:=22,len:=0,zero:=some [.slice none 0 0],aY:=[] }:=by kernel_rfl
def V3:ty Tryz.prog 58 = { kind:=3,size:=3,bytes:=72,elem:=0,len:=0,zero:=some [.slice none 0 0,.slice none 0 0,.slice none 0 0],aY:=[(0,22,1),(1,39,1),(2,57,1)] }:=by kernel_rfl
def V4:ty Tryz.prog 59 = { kind:=3,size:=3,bytes:=72,elem:=0,len:=0,zero:=some [.slice none 0 0,.slice none 0 0,.slice none 0 0],aY:=[(0,22,1),(1,39,1),(2,57,1)] }:=by kernel_rfl
def V5:ty Tryz.prog 65 = { kind:=1,size:=1,bytes:=24,elem:=184,len:=0,zero:=some [.slice none 0 0],aY:=[] }:=by kernel_rfl
def V6:ty Tryz.prog 66 = { kind:=1,size:=1,bytes:=24,elem:=175,len:=0,zero:=some [.slice none 0 0],aY:=[] }:=by kernel_rfl
def V7:ty Tryz.prog 67 = { kind:=3,size:=5,bytes:=104,elem:=0,len:=0,zero:=some [.int .i64 0,.slice none 0 0,.slice none 0 0,.slice none 0 0,.slice none 0 0],aY:=[(0,3,1),(1,22,1),(2,65,1),(3,22,1),(4,66,1)] }:=by kernel_rfl
def V8:ty Tryz.prog 68 = { kind:=3,size:=5,bytes:=104,elem:=0,len:=0,zero:=some [.int .i64 0,.slice none 0 0,.slice none 0 0,.slice none 0 0,.slice none 0 0],aY:=[(0,3,1),(1,22,1),(2,65,1),(3,22,1),(4,66,1)] }:=by kernel_rfl
def V9:ty Tryz.prog 70 = { kind:=1,size:=1,bytes:=24,elem:=59,len:=0,zero:=some [.slice none 0 0],aY:=[] }:=by kernel_rfl
def V':ty Tryz.prog 73 = { kind:=1,size:=1,bytes:=24,elem:=4,len:=0,zero:=some [.slice none 0 0],aY:=[] }:=by kernel_rfl
def Wa:ty Tryz.prog 75 = { kind:=3,size:=4,bytes:=32,elem:=0,len:=0,zero:=some [.int .i64 0,.int .i64 0,.int .i64 0,.int .i64 0],aY:=[(0,3,1),(1,3,1),(2,3,1),(3,3,1)] }:=by kernel_rfl
def Wd:ty Tryz.prog 76 = { kind:=3,size:=4,bytes:=32,elem:=0,len:=0,zero:=some [.int .i64 0,.int .i64 0,.int .i64 0,.int .i64 0],aY:=[(0,3,1),(1,3,1),(2,3,1),(3,3,1)] }:=by kernel_rfl
def We:ty Tryz.prog 77 = { kind:=3,size:=5,bytes:=40,elem:=0,len:=0,zero:=some [.int .i64 0,.int .i64 0,.int .i64 0,.int .i64 0,.int .i64 0],aY:=[(0,76,4),(4,3,1)] }:=by kernel_rfl
def Wf:ty Tryz.prog 78 = { kind:=3,size:=5,bytes:=40,elem:=0,len:=0,zero:=some [.int .i64 0,.int .i64 0,.int .i64 0,.int .i64 0,.int .i64 0],aY:=[(0,76,4),(4,3,1)] }:=by kernel_rfl
def Wg:ty Tryz.prog 79 = { kind:=1,size:=1,bytes:=24,elem:=93,len:=0,zero:=some [.slice none 0 0],aY:=[] }:=by kernel_rfl
def Wh:ty Tryz.prog 80 = { kind:=3,size:=6,bytes:=64,elem:=0,len:=0,zero:=some [.int .i64 0,.int .i64 0,.int .i64 0,.int .i64 0,.int .i64 0,.slice none 0 0],aY:=[(0,78,5),(5,79,1)] }:=by kernel_rfl
def Wi:ty Tryz.prog 81 = { kind:=3,size:=6,bytes:=64,elem:=0,len:=0,zero:=some [.int .i64 0,.int .i64 0,.int .i64 0,.int .i64 0,.int .i64 0,.slice none 0 0],aY:=[(0,78,5),(5,79,1)] }:=by kernel_rfl
def Wj:ty Tryz.prog 82 = { kind:=1,size:=1,bytes:=24,elem:=81,len:=0,zero:=some [.slice none 0 0],aY:=[] }:=by kernel_rfl
def Wl:ty Tryz.prog 83 = { kind:=3,size:=4,bytes:=48,elem:=0,len:=0,zero:=some [.int .i64 0,.int .i64 0,.int .i64 0,.slice none 0 0],aY:=[(0,3,1),(1,3,1),(2,3,1),(3,22,1)] }:=by kernel_rfl
def Wm:ty Tryz.prog 84 = { kind:=3,size:=4,bytes:=48,elem:=0,len:=0,zero:=some [.int .i64 0,.int .i64 0,.int .i64 0,.slice none 0 0],aY:=[(0,3,1),(1,3,1),(2,3,1),(3,22,1)] }:=by kernel_rfl
def Wn:ty Tryz.prog 89 = { kind:=3,size:=2,bytes:=32,elem:=0,len:=0,zero:=some [.slice none 0 0,.int .i64 0],aY:=[(0,22,1),(1,3,1)] }:=by kernel_rfl
def Wo:ty Tryz.prog 90 = { kind:=3,size:=2,bytes:=32,elem:=0,len:=0,zero:=some [.slice none 0 0,.int .i64 0],aY:=[(0,22,1),(1,3,1)] }:=by kernel_rfl
def Wp:ty Tryz.prog 92 = { kind:=3,size:=2,bytes:=16,elem:=0,len:=0,zero:=some [.int .i64 0,.int .i64 0],aY:=[(0,3,1),(1,3,1)] }:=by kernel_rfl
def Wq:ty Tryz.prog 93 = { kind:=3,size:=2,bytes:=16,elem:=0,len:=0,zero:=some [.int .i64 0,.int .i64 0],aY:=[(0,3,1),(1,3,1)] }:=by kernel_rfl
def Wr:ty Tryz.prog 96 = { kind:=1,size:=1,bytes:=24,elem:=102,len:=0,zero:=some [.slice none 0 0],aY:=[] }:=by kernel_rfl
def Ws:ty Tryz.prog 97 = { kind:=3,size:=4,bytes:=48,elem:=0,len:=0,zero:=some [.int .i64 0,.slice none 0 0,.int .i64 0,.int .i64 0],aY:=[(0,3,1),(1,96,1),(2,3,1),(3,3,1)] }:=by kernel_rfl
def Wt:ty Tryz.prog 98 = { kind:=3,size:=4,bytes:=48,elem:=0,len:=0,zero:=some [.int .i64 0,.slice none 0 0,.int .i64 0,.int .i64 0],aY:=[(0,3,1),(1,96,1),(2,3,1),(3,3,1)] }:=by kernel_rfl
def Wu:ty Tryz.prog 101 = { kind:=3,size:=3,bytes:=24,elem:=0,len:=0,zero:=some [.int .i64 0,.int .i64 0,.int .i64 0],aY:=[(0,3,1),(1,3,1),(2,3,1)] }:=by kernel_rfl
def Wv:ty Tryz.prog 102 = { kind:=3,size:=3,bytes:=24,elem:=0,len:=0,zero:=some [.int .i64 0,.int .i64 0,.int .i64 0],aY:=[(0,3,1),(1,3,1),(2,3,1)] }:=by kernel_rfl
def Ww:ty Tryz.prog 115 = { kind:=1,size:=1,bytes:=24,elem:=3,len:=0,zero:=some [.slice none 0 0],aY:=[] }:=by kernel_rfl
def Wx:ty Tryz.prog 123 = { kind:=7,size:=1,bytes:=8,elem:=39,len:=0,zero:=some [.pointer none],aY:=[] }:=by kernel_rfl
def Wy:ty Tryz.prog 125 = { kind:=1,size:=1,bytes:=24,elem:=73,len:=0,zero:=some [.slice none 0 0],aY:=[] }:=by kernel_rfl
def WA:ty Tryz.prog 126 = { kind:=3,size:=2,bytes:=32,elem:=0,len:=0,zero:=some [.int .i64 0,.slice none 0 0],aY:=[(0,3,1),(1,125,1)] }:=by kernel_rfl
def WB:ty Tryz.prog 127 = { kind:=3,size:=2,bytes:=32,elem:=0,len:=0,zero:=some [.int .i64 0,.slice none 0 0],aY:=[(0,3,1),(1,125,1)] }:=by kernel_rfl
def WC:ty Tryz.prog 144 = { kind:=1,size:=1,bytes:=24,elem:=194,len:=0,zero:=some [.slice none 0 0],aY:=[] }:=by kernel_rfl
def WD:ty Tryz.prog 170 = { kind:=3,size:=3,bytes:=56,elem:=0,len:=0,zero:=some [.int .i64 0,.slice none 0 0,.slice none 0 0],aY:=[(0,127,2),(2,22,1)] }:=by kernel_rfl
def WE:ty Tryz.prog 171 = { kind:=3,size:=3,bytes:=56,elem:=0,len:=0,zero:=some [.int .i64 0,.slice none 0 0,.slice none 0 0],aY:=[(0,127,2),(2,22,1)] }:=by kernel_rfl
def WG:ty Tryz.prog 172 = { kind:=1,size:=1,bytes:=24,elem:=171,len:=0,zero:=some [.slice none 0 0],aY:=[] }:=by kernel_rfl
def WH:ty Tryz.prog 175 = { kind:=1,size:=1,bytes:=24,elem:=180,len:=0,zero:=some [.slice none 0 0],aY:=[] }:=by kernel_rfl
def WI:ty Tryz.prog 179 = { kind:=3,size:=2,bytes:=16,elem:=0,len:=0,zero:=some [.int .i64 0,.int .i64 0],aY:=[(0,3,1),(1,3,1)] }:=by kernel_rfl
def WJ:ty Tryz.prog 180 = { kind:=3,size:=2,bytes:=16,elem:=0,len:=0,zero:=some [.int .i64 0,.int .i64 0],aY:=[(0,3,1),(1,3,1)] }:=by kernel_rfl
def WK:ty Tryz.prog 181 = { kind:=7,size:=1,bytes:=8,elem:=227,len:=0,zero:=some [.pointer none],aY:=[] }:=by kernel_rfl
def WL:ty Tryz.prog 183 = { kind:=3,size:=4,bytes:=32,elem:=0,len:=0,zero:=some [.int .i64 0,.int .i64 0,.int .i64 0,.int .i64 0],aY:=[(0,3,1),(1,3,1),(2,3,1),(3,3,1)] }:=by kernel_rfl
def WN:ty Tryz.prog 184 = { kind:=3,size:=4,bytes:=32,elem:=0,len:=0,zero:=some [.int .i64 0,.int .i64 0,.int .i64 0,.int .i64 0],aY:=[(0,3,1),(1,3,1),(2,3,1),(3,3,1)] }:=by kernel_rfl
def WO:ty Tryz.prog 193 = { kind:=3,size:=2,bytes:=16,elem:=0,len:=0,zero:=some [.int .i64 0,.int .i64 0],aY:=[(0,3,1),(1,3,1)] }:=by kernel_rfl
def WQ:ty Tryz.prog 194 = { kind:=3,size:=2,bytes:=16,elem:=0,len:=0,zero:=some [.int .i64 0,.int .i64 0],aY:=[(0,3,1),(1,3,1)] }:=by kernel_rfl
def WR:ty Tryz.prog 198 = { kind:=1,size:=1,bytes:=24,elem:=199,len:=0,zero:=some [.slice none 0 0],aY:=[] }:=by kernel_rfl
def WS:ty Tryz.prog 199 = { kind:=1,size:=1,bytes:=24,elem:=203,len:=0,zero:=some [.slice none 0 0],aY:=[] }:=by kernel_rfl
def WT:ty Tryz.prog 202 = { kind:=3,size:=2,bytes:=16,elem:=0,len:=0,zero:=some [.bool false,.int .i64 0],aY:=[(0,4,1),(1,3,1)] }:=by kernel_rfl
def WU:ty Tryz.prog 203 = { kind:=3,size:=2,bytes:=16,elem:=0,len:=0,zero:=some [.bool false,.int .i64 0],aY:=[(0,4,1),(1,3,1)] }:=by kernel_rfl
def WV:ty Tryz.prog 217 = { kind:=7,size:=1,bytes:=8,elem:=219,len:=0,zero:=some [.pointer none],aY:=[] }:=by kernel_rfl
def WW:ty Tryz.prog 218 = { kind:=3,size:=1,bytes:=24,elem:=0,len:=0,zero:=some [.slice none 0 0],aY:=[(0,22,1)] }:=by kernel_rfl
def WX:ty Tryz.prog 219 = { kind:=3,size:=1,bytes:=24,elem:=0,len:=0,zero:=some [.slice none 0 0],aY:=[(0,22,1)] }:=by kernel_rfl
def WY:ty Tryz.prog 225 = { kind:=1,size:=1,bytes:=24,elem:=228,len:=0,zero:=some [.slice none 0 0],aY:=[] }:=by kernel_rfl
def WZ:ty Tryz.prog 226 = { kind:=3,size:=6,bytes:=128,elem:=0,len:=0,zero:=some [.slice none 0 0,.slice none 0 0,.slice none 0 0,.int .i64 0,.slice none 0 0,.slice none 0 0],aY:=[(0,29,4),(4,225,1),(5,225,1)] }:=by kernel_rfl
def W0:ty Tryz.prog 227 = { kind:=3,size:=6,bytes:=128,elem:=0,len:=0,zero:=some [.slice none 0 0,.slice none 0 0,.slice none 0 0,.int .i64 0,.slice none 0 0,.slice none 0 0],aY:=[(0,29,4),(4,225,1),(5,225,1)] }:=by kernel_rfl
def W1:ty Tryz.prog 228 = { kind:=1,size:=1,bytes:=24,elem:=230,len:=0,zero:=some [.slice none 0 0],aY:=[] }:=by kernel_rfl
def W2:ty Tryz.prog 229 = { kind:=3,size:=2,bytes:=16,elem:=0,len:=0,zero:=some [.int .i64 0,.bool false],aY:=[(0,3,1),(1,4,1)] }:=by kernel_rfl
def W3:ty Tryz.prog 230 = { kind:=3,size:=2,bytes:=16,elem:=0,len:=0,zero:=some [.int .i64 0,.bool false],aY:=[(0,3,1),(1,4,1)] }:=by kernel_rfl
def W4:ty Tryz.prog 238 = { kind:=5,size:=1,bytes:=8,elem:=0,len:=0,zero:=some [.int .u64 0],aY:=[] }:=by kernel_rfl
def W5:ty Tryz.prog 242 = { kind:=1,size:=1,bytes:=24,elem:=245,len:=0,zero:=some [.slice none 0 0],aY:=[] }:=by kernel_rfl
def W6:ty Tryz.prog 243 = { kind:=1,size:=1,bytes:=24,elem:=245,len:=0,zero:=some [.slice none 0 0],aY:=[] }:=by kernel_rfl
def W7:ty Tryz.prog 244 = { kind:=3,size:=3,bytes:=24,elem:=0,len:=0,zero:=some [.int .i64 0,.int .i64 0,.int .i64 0],aY:=[(0,3,1),(1,3,1),(2,3,1)] }:=by kernel_rfl
def W8:ty Tryz.prog 245 = { kind:=3,size:=3,bytes:=24,elem:=0,len:=0,zero:=some [.int .i64 0,.int .i64 0,.int .i64 0],aY:=[(0,3,1),(1,3,1),(2,3,1)] }:=by kernel_rfl
def W9:ty Tryz.prog 248 = { kind:=7,size:=1,bytes:=8,elem:=243,len:=0,zero:=some [.pointer none],aY:=[] }:=by kernel_rfl
def Xa:ty Tryz.prog 251 = { kind:=2,size:=2,bytes:=16,elem:=3,len:=2,zero:=some [.int .i64 0,.int .i64 0],aY:=[] }:=by kernel_rfl
def Xj:ty Tryz.prog 252 = { kind:=2,size:=2,bytes:=16,elem:=3,len:=2,zero:=some [.int .i64 0,.int .i64 0],aY:=[] }:=by kernel_rfl
def Xm:ty Tryz.prog 256 = { kind:=7,size:=1,bytes:=8,elem:=230,len:=0,zero:=some [.pointer none],aY:=[] }:=by kernel_rfl
def Xp:ty Tryz.prog 257 = { kind:=8,size:=1,bytes:=8,elem:=258,len:=0,zero:=some [.map none],aY:=[] }:=by kernel_rfl
def Xt:ty Tryz.prog 258 = { kind:=8,size:=1,bytes:=8,elem:=3,len:=0,zero:=some [.map none],aY:=[] }:=by kernel_rfl
def XA:ty Tryz.prog 259 = { kind:=5,size:=1,bytes:=4,elem:=0,len:=0,zero:=some [.int .u32 0],aY:=[] }:=by kernel_rfl
def XB:ty Tryz.prog 262 = { kind:=5,size:=1,bytes:=8,elem:=0,len:=0,zero:=some [.int .u64 0],aY:=[] }:=by kernel_rfl
def XC:ty Tryz.prog 265 = { kind:=1,size:=1,bytes:=24,elem:=266,len:=0,zero:=some [.slice none 0 0],aY:=[] }:=by kernel_rfl
def XD:ty Tryz.prog 266 = { kind:=8,size:=1,bytes:=8,elem:=4,len:=0,zero:=some [.map none],aY:=[] }:=by kernel_rfl
def XE:ty Tryz.prog 275 = { kind:=7,size:=1,bytes:=8,elem:=252,len:=0,zero:=some [.pointer none],aY:=[] }:=by kernel_rfl
def XF:ty Tryz.prog 277 = { kind:=3,size:=4,bytes:=40,elem:=0,len:=0,zero:=some [.pointer none,.pointer none,.pointer none,.string ⟨#[]⟩],aY:=[(0,17,1),(1,17,1),(2,17,1),(3,9,1)] }:=by kernel_rfl
def XG:ty Tryz.prog 278 = { kind:=3,size:=4,bytes:=40,elem:=0,len:=0,zero:=some [.pointer none,.pointer none,.pointer none,.string ⟨#[]⟩],aY:=[(0,17,1),(1,17,1),(2,17,1),(3,9,1)] }:=by kernel_rfl
def XH:ty Tryz.prog 279 = { kind:=2,size:=0,bytes:=0,elem:=16,len:=0,zero:=some [],aY:=[] }:=by kernel_rfl
def XI:ty Tryz.prog 280 = { kind:=3,size:=0,bytes:=0,elem:=0,len:=0,zero:=some [],aY:=[(0,279,0)] }:=by kernel_rfl
def XJ:ty Tryz.prog 281 = { kind:=3,size:=0,bytes:=0,elem:=0,len:=0,zero:=some [],aY:=[(0,279,0)] }:=by kernel_rfl
def XK:ty Tryz.prog 282 = { kind:=5,size:=1,bytes:=1,elem:=0,len:=0,zero:=some [.int .u8 0],aY:=[] }:=by kernel_rfl
def XL:ty Tryz.prog 283 = { kind:=5,size:=1,bytes:=1,elem:=0,len:=0,zero:=some [.int .u8 0],aY:=[] }:=by kernel_rfl
def XM:ty Tryz.prog 285 = { kind:=7,size:=1,bytes:=8,elem:=5,len:=0,zero:=some [.pointer none],aY:=[] }:=by kernel_rfl
def XN:ty Tryz.prog 286 = { kind:=5,size:=1,bytes:=4,elem:=0,len:=0,zero:=some [.int .i32 0],aY:=[] }:=by kernel_rfl
def XO:ty Tryz.prog 287 = { kind:=5,size:=1,bytes:=4,elem:=0,len:=0,zero:=some [.int .i32 0],aY:=[] }:=by kernel_rfl
def XP:ty Tryz.prog 288 = { kind:=3,size:=11,bytes:=48,elem:=0,len:=0,zero:=some [.int .u64 0,.int .u64 0,.int .u32 0,.int .u8 0,.int .u8 0,.int .u8 0,.int .u8 0,.nilFunc,.pointer none,.int .i32 0,.int .i32 0],aY:=[(0,12,1),(1,12,1),(2,259,1),(3,282,1),(4,5,1),(5,5,1),(6,283,1),(7,284,1),(8,285,1),(9,286,1),(10,287,1)] }:=by kernel_rfl
def XQ:ty Tryz.prog 289 = { kind:=3,size:=11,bytes:=48,elem:=0,len:=0,zero:=some [.int .u64 0,.int .u64 0,.int .u32 0,.int .u8 0,.int .u8 0,.int .u8 0,.int .u8 0,.nilFunc,.pointer none,.int .i32 0,.int .i32 0],aY:=[(0,12,1),(1,12,1),(2,259,1),(3,282,1),(4,5,1),(5,5,1),(6,283,1),(7,284,1),(8,285,1),(9,286,1),(10,287,1)] }:=by kernel_rfl
def XR:Tryz.prog.underlying 2=some (.int .i64):=by kernel_rfl
def XS:Tryz.prog.underlying 3=some (.int .i64):=by kernel_rfl
def XT:Tryz.prog.underlying 5=some (.int .u8):=by kernel_rfl
def XU:Tryz.prog.underlying 6=some (.int .u8):=by kernel_rfl
def XV:Tryz.prog.underlying 12=some (.int .u64):=by kernel_rfl
def XW:Tryz.prog.underlying 21=some (.int .i32):=by kernel_rfl
def XX:Tryz.prog.underlying 33=some (.int .i64):=by kernel_rfl
def XZ:Tryz.prog.underlying 238=some (.int .u64):=by kernel_rfl
def X1:Tryz.prog.underlying 259=some (.int .u32):=by kernel_rfl
def X6:Tryz.prog.underlying 262=some (.int .u64):=by kernel_rfl
def X7:Tryz.prog.underlying 282=some (.int .u8):=by kernel_rfl
def X8:Tryz.prog.underlying 283=some (.int .u8):=by kernel_rfl
def X9:Tryz.prog.underlying 286=some (.int .i32):=by kernel_rfl
def Ya:Tryz.prog.underlying 287=some (.int .i32):=by kernel_rfl
def Yb:zeroV Tryz.prog 258=some (.map none):=by kernel_rfl
def Yc:BW Tryz.prog 257=0:=by kernel_rfl
def Yd:me Tryz.prog 257 0:=me.int (kt:=3) (et:=258) (by kernel_rfl) (by kernel_rfl)
def Ye:zeroV Tryz.prog 3=some (.int .i64 0):=by kernel_rfl
def Yf:BW Tryz.prog 258=0:=by kernel_rfl
def Yg:me Tryz.prog 258 0:=me.int (kt:=3) (et:=3) (by kernel_rfl) (by kernel_rfl)
def Yh:zeroV Tryz.prog 4=some (.bool false):=by kernel_rfl
def Yi:BW Tryz.prog 266=0:=by kernel_rfl
def Yj:me Tryz.prog 266 0:=me.int (kt:=3) (et:=4) (by kernel_rfl) (by kernel_rfl)
def Yk:xz Tryz.prog 9=false:=by kernel_rfl
def Yl:xz Tryz.prog 245=false:=by kernel_rfl
def Ym:xz Tryz.prog 248=false:=by kernel_rfl
def Yn : yU Tryz.prog 248 "Len" = some (224, some 243) := by kernel_rfl
def Yo : yU Tryz.prog 248 "Less" = some (225, some 243) := by kernel_rfl
def Yp : yU Tryz.prog 248 "Pop" = some (227, none) := by kernel_rfl
def Yq : yU Tryz.prog 248 "Swap" = some (226, some 243) := by kernel_rfl
def sc:type_of% Vt/\type_of% Vu/\type_of% Vv/\type_of% Vw/\type_of% Vx/\type_of% Vy/\type_of% Vz/\type_of% VA/\type_of% VB/\type_of% VC/\type_of% VE/\type_of% VF/\type_of% VG/\type_of% VH/\type_of% VI/\type_of% VJ/\type_of% VK/\type_of% VL/\type_of% VN/\type_of% VO/\type_of% VP/\type_of% VQ/\type_of% VR/\type_of% VS/\type_of% VT/\type_of% VU/\type_of% VV/\type_of% VW/\type_of% VX/\type_of% VY/\type_of% VZ/\type_of% V0/\type_of% V1/\type_of% V3/\type_of% V4/\type_of% V5/\type_of% V6/\type_of% V7/\type_of% V8/\type_of% V9/\type_of% V'/\type_of% Wa/\type_of% Wd/\type_of% We/\type_of% Wf/\type_of% Wg/\type_of% Wh/\type_of% Wi/\type_of% Wj/\type_of% Wl/\type_of% Wm/\type_of% Wn/\type_of% Wo/\type_of% Wp/\type_of% Wq/\type_of% Wr/\type_of% Ws/\type_of% Wt/\type_of% Wu/\type_of% Wv/\type_of% Ww/\type_of% Wx/\type_of% Wy/\type_of% WA/\type_of% WB/\type_of% WC/\type_of% WD/\type_of% WE/\type_of% WG/\type_of% WH/\type_of% WI/\type_of% WJ/\type_of% WK/\type_of% WL/\type_of% WN/\type_of% WO/\type_of% WQ/\type_of% WR/\type_of% WS/\type_of% WT/\type_of% WU/\type_of% WV/\type_of% WW/\type_of% WX/\type_of% WY/\type_of% WZ/\type_of% W0/\type_of% W1/\type_of% W2/\type_of% W3/\type_of% W4/\type_of% W5/\type_of% W6/\type_of% W7/\type_of% W8/\type_of% W9/\type_of% Xa/\type_of% Xj/\type_of% Xm/\type_of% Xp/\type_of% Xt/\type_of% XA/\type_of% XB/\type_of% XC/\type_of% XD/\type_of% XE/\type_of% XF/\type_of% XG/\type_of% XH/\type_of% XI/\type_of% XJ/\type_of% XK/\type_of% XL/\type_of% XM/\type_of% XN/\type_of% XO/\type_of% XP/\type_of% XQ/\type_of% XR/\type_of% XS/\type_of% XT/\type_of% XU/\type_of% XV/\type_of% XW/\type_of% XX/\type_of% XZ/\type_of% X1/\type_of% X6/\type_of% X7/\type_of% X8/\type_of% X9/\type_of% Ya/\type_of% Yb/\type_of% Yc/\type_of% Yd/\type_of% Ye/\type_of% Yf/\type_of% Yg/\type_of% Yh/\type_of% Yi/\type_of% Yj/\type_of% Yk/\type_of% Yl/\type_of% Ym/\type_of% Yn/\type_of% Yo/\type_of% Yp/\type_of% Yq :=
 ⟨Vt,Vu,Vv,Vw,Vx,Vy,Vz,VA,VB,VC,VE,VF,VG,VH,VI,VJ,VK,VL,VN,VO,VP,VQ,VR,VS,VT,VU,VV,VW,VX,VY,VZ,V0,V1,V3,V4,V5,V6,V7,V8,V9,V',Wa,Wd,We,Wf,Wg,Wh,Wi,Wj,Wl,Wm,Wn,Wo,Wp,Wq,Wr,Ws,Wt,Wu,Wv,Ww,Wx,Wy,WA,WB,WC,WD,WE,WG,WH,WI,WJ,WK,WL,WN,WO,WQ,WR,WS,WT,WU,WV,WW,WX,WY,WZ,W0,W1,W2,W3,W4,W5,W6,W7,W8,W9,Xa,Xj,Xm,Xp,Xt,XA,XB,XC,XD,XE,XF,XG,XH,XI,XJ,XK,XL,XM,XN,XO,XP,XQ,XR,XS,XT,XU,XV,XW,XX,XZ,X1,X6,X7,X8,X9,Ya,Yb,Yc,Yd,Ye,Yf,Yg,Yh,Yi,Yj,Yk,Yl,Ym,Yn,Yo,Yp,Yq⟩
def Ac:=aaI @sc @Bc @Sc @Rc
def Kc:=aaI @oE @Lc @sc @Rc
def Oc:=aaQ @qt.eq_1 @qt.eq_2 @or_true @false_or @Bc @Sc @Rc
def Hr:=aaZ @tH.eq_1 @tH.eq_2 @Bc @Rc @oE @Lc @sc (aaG @and_true @yK @GN)
def Tc:=aaZ @Has.eq_1 @Has.eq_2 @bQ.{0} @eB.{0} @pD.{0} @gn @oE (aaO @Lc @sc @Rc @and_true @yK @GN)
def Qc:=aaZ @B2.eq_1 @B2.eq_2 @eF.eq_1 @eF.eq_2 @eF.eq_3 @ew.eq_1 @TF (aaO @TG @pD.{0} @oE @Lc @sc @Rc)
inductive Sq(P:Program)(N n0:Nat)(y:Code)(Q:Exit->St->Prop):Exit->St->Prop
 |n (s:St) (h:W P N n0 y Q s):Sq P N n0 y Q .normal s
 |e (e:Exit) (s:St) (hi:tT e=false) (h:Q e s):Sq P N n0 y Q e s
inductive Bq(id:Nat)(Q:Exit->St->Prop):Exit->St->Prop
 |n (s:St) (h:Q .normal s):Bq id Q .normal s
 |x (s:St) (h:Q .normal s):Bq id Q (.exit id) s
 |e (e:Exit) (s:St) (hi:AH id e=false) (h:Q e s):Bq id Q e s
section
variable {P:Program} {N n0:Nat} {σ:St} {Q:Exit->St->Prop}
def Xk{x y:Code}(h:W P N n0 x (Sq P N n0 y Q) σ):W P N n0 (.seq x y) Q σ:=Wk λ_ h1 h2=>RH h λ_ _ h=>by
 cases h with
 |n _ h=>exact h1 _ h
 |e _ _ hi h=>exact h2 _ _ hi h
def Xb{id:Nat}{c:Code}(h:W P N n0 c (Bq id Q) σ):W P N n0 (.block id c) Q σ:=Wb λ_ h1 h2 h3=>RH h λ_ _ h=>by
 cases h with
 |n _ h=>exact h1 _ h
 |x _ h=>exact h2 _ h
 |e _ _ hi h=>exact h3 _ _ hi h
def hn{y:Code}(s:St)(h:W P N n0 y Q s):Sq P N n0 y Q .normal s:=.n s h
def he{y:Code}(e:Exit)(s:St)(hi:tT e=false)(h:Q e s):Sq P N n0 y Q e s:=.e e s hi h
def kU{id:Nat}(s:St)(h:Q .normal s):Bq id Q .normal s:=.n s h
def oN{id:Nat}(s:St)(h:Q .normal s):Bq id Q (.exit id) s:=.x s h
def qR{id:Nat}(e:Exit)(s:St)(hi:AH id e=false)(h:Q e s):Bq id Q e s:=.e e s hi h
def Mx{x y:Code}(h:∀ Q':Exit->St->Prop,(∀ s,W P N n0 y Q s->Q' .normal s)->(∀ e s,tT e=false->Q e s->Q' e s)->W P N n0 x Q' σ):W P N n0 x (Sq P N n0 y Q) σ:=h _ .n .e
def Yr{x y z:Code}(h:∀ Q':Exit->St->Prop,(∀ s,W P N n0 y Q s->Q' .normal s)->(∀ e s,tT e=false->Q e s->Q' e s)->W P N n0 x (Sq P N n0 z Q') σ):W P N n0 x (Sq P N n0 z (Sq P N n0 y Q)) σ:=h _ .n .e
def ahy{x y z:Code}{id:Nat}(h:∀ Q':Exit->St->Prop,(∀ s,W P N n0 y Q s->Q' .normal s)->(∀ e s,tT e=false->Q e s->Q' e s)->W P N n0 x (Sq P N n0 z (Bq id Q')) σ):W P N n0 x (Sq P N n0 z (Bq id (Sq P N n0 y Q))) σ:=h _ .n .e
end
def X0:True:=trivial
def X2{a b:Prop}(x:a)(y:b):a/\b:=⟨x,y⟩
def X3{a b c:Prop}(x:a)(y:b)(z:c):a/\b/\c:=⟨x,y,z⟩
def X4{a b c d:Prop}(x:a)(y:b)(z:c)(u:d):a/\b/\c/\d:=⟨x,y,z,u⟩
def X5{a b c d e:Prop}(x:a)(y:b)(z:c)(u:d)(v:e):a/\b/\c/\d/\e:=⟨x,y,z,u,v⟩
theorem Xr{p q e:Prop}(x:e)(h:q)(k:e->q->p:=by first|(intro hx hq;(first|refine rr ?_|refine wo ?_);intro K hK;simp(disch:=omega)only[Ac,↓Pc,simprocAttr,hx];revert hK;revert K;exact hq)|fail):p:=k x h
theorem Xq{p q e:Prop}(x:e)(h:q)(k:e->q->p:=by first|(intro hx hq;(first|refine rr ?_|refine wo ?_|refine rb ?_|refine Ev ?_|refine ra ?_|refine Ew ?_);intro K hK;simp(disch:=omega)only[Ac,↓Pc,simprocAttr,hx];revert hK;revert K;exact hq)|fail):p:=k x h
theorem Xo{p q e:Prop}(x:e)(h:q)(k:e->q->p:=by first|(intro hx hq;with_reducible refine gO ?_;simp(disch:=omega)only[Ac,↓Pc,simprocAttr,hx];exact hq)|fail):p:=k x h
theorem Xc{p q t:Prop}(c:t)(h:q)(k:t->q->p:=by first|(intro hc hq;(first|refine cF hc rfl rfl ?_|refine bZ hc rfl rfl ?_);exact hq)|fail):p:=k c h
theorem Xg{p q r e:Prop}(x:e)(h:q)(h2:r)(k:e->q->r->p/\True:=by first|(intro hx hq hr;refine And.intro ?_ ?_;(with_reducible refine gS (fun du=>?_) (fun du=>?_));(focus (have hb:=du;(try simp only[pP,simprocAttr]at hb);all_goals(simp(disch:=omega)only[Ac,↓Pc,simprocAttr,hx,du]);all_goals(clear du;revert hb;exact hq)));(focus (have hb:=du;(try simp only[pP,simprocAttr]at hb);all_goals(simp(disch:=omega)only[Ac,↓Pc,simprocAttr,hx,du]);all_goals(clear du;revert hb;exact hr)));((try have _:True:=hq);(try have _:True:=hr);trivial))|fail):p:=(k x h h2).1
theorem Xi{p q r:Prop}(h:q)(h2:r)(k:q->r->p/\True:=by first|(intro hq hr;refine And.intro ?_ ?_;refine Wc ?_ ?_;(focus (intro ht;(try simp only[pP,simprocAttr]at ht);all_goals(revert ht;exact hq)));(focus (intro ht;(try simp only[pP,simprocAttr]at ht);all_goals(revert ht;exact hr)));((try have _:True:=hq);(try have _:True:=hr);trivial))|fail):p:=(k h h2).1
theorem Xz{p q:Prop}(h:q)(k:q->p:=by first|(intro hq;(first|refine Wz rfl ?_|refine Xk ?_|refine Xb ?_|refine Sq.n _ ?_|refine Sq.e _ _ rfl ?_|refine Bq.n _ ?_|refine Bq.x _ ?_|refine Bq.e _ _ rfl ?_|refine hn _ ?_|refine he _ _ rfl ?_);(repeat(first|refine Wz rfl ?_|refine Xk ?_|refine Xb ?_|refine Sq.n _ ?_|refine Sq.e _ _ rfl ?_|refine Bq.n _ ?_|refine Bq.x _ ?_|refine Bq.e _ _ rfl ?_|refine hn _ ?_|refine he _ _ rfl ?_));exact hq)|fail):p:=k h
theorem Xh{p q:Prop}(h:q)(k:q->p:=by first|(intro hq;(first|refine ar _ _ rfl ?_|refine bd _ _ rfl ?_|refine eV _ _ rfl ?_|refine nx _ _ rfl ?_);exact hq)|fail):p:=k h
theorem Xu{p q:Prop}(h:q)(k:q->p:=by first|(intro hq;(first|refine Sq.n _ ?_|refine Sq.e _ _ rfl ?_|refine Bq.n _ ?_|refine Bq.x _ ?_|refine Bq.e _ _ rfl ?_|refine hn _ ?_|refine he _ _ rfl ?_|refine ar _ _ rfl ?_|refine bd _ _ rfl ?_|refine eV _ _ rfl ?_|refine nx _ _ rfl ?_);exact hq)|fail):p:=k h
theorem Xe{p q:Prop}(h:q)(k:q->p:=by first|(intro hq;simp only[Qc,Kc,simprocAttr];exact hq)|fail):p:=k h
theorem Xy{p q:Prop}(h:q)(k:q->p:=by first|(intro hq;refine Xz ?_;exact hq)|(intro hq;refine Xe ?_;exact hq)|fail):p:=k h
theorem XY{p q:Prop}(h:q)(k:q->p:=by first|(intro hq;refine Xz ?_;exact hq)|(intro hq;refine Xh ?_;exact hq)|(intro hq;refine Xe ?_;exact hq)|fail):p:=k h
theorem Xx{p:Prop}(h:p:=by first|omega|with_reducible rfl|exact trivial|fail):p:=h
theorem Xl{n0:Nat}{e:Nat->AV}{os:List Ob}{v res:AV}{bI:List Ob}(ho:os=bI)(h:v=res)(hl:n0<=bI.length:=by(simp only[List.length_cons,List.length_nil];omega)):pF n0 ⟨e,os⟩ v res bI:=eu ho hl h
theorem Xd{p q r:Prop}(h:q)(h2:r)(k:q->r->p:=by first|(intro hq hr;with_reducible refine And.intro ?_ ?_;exact hq;exact hr)|fail):p:=k h h2
theorem Xv{n0:Nat}{σ S:St}{e:Prop}(x:e)(k:e->aF n0 σ S:=by first|(intro hx;refine aF.aw _ _ rfl ?_;simp only[Tc,↓reduceIte,Nat.reduceEqDiff,Nat.reduceBEq,Nat.reduceAdd,hx];(try trivial);done)|fail):aF n0 σ S:=k x
theorem Xs{n0:Nat}{σ:St}{l:List (Nat×AV)}{co:List Ob}{e:Prop}(snap:Bool)(au:List Nat)(x:e)(h1:e->qt (bL σ.aa.length au) σ.aa au co:=by(intro hx;simp only[Oc,simprocAttr,hx]))(h2:e->tH (aJ σ (kept au co) (bL σ.aa.length au) snap) σ.env l:=by(intro hx;simp only[Hr,↓reduceIte,Nat.reduceEqDiff,Nat.reduceBEq,Nat.reduceAdd,hx];(try(and_intros<;>first|exact .pure rfl|exact .eq rfl|exact .fz rfl (by simp only[Bc,Rc])))))(bX:au.Nodup:=by decide)(hn:n0<=au.length:=by decide)(dt:∀ i,i<n0->au.getD i 0=i:=by decide):aF n0 σ ⟨aw l,co⟩:=aF.se au snap (h1 x) (h2 x) bX hn dt
theorem Xw{n0:Nat}{σ:St}{v res:AV}{bI:List Ob}{e:Prop}(snap:Bool)(au:List Nat)(x:e)(h1:e->qt (bL σ.aa.length au) σ.aa au bI:=by(intro hx;simp only[Oc,simprocAttr,hx]))(h2:aJ σ (kept au bI) (bL σ.aa.length au) snap res v:=by first|exact .pure rfl|exact .eq rfl|exact .fz rfl (by simp only[Bc,Rc]))(bX:au.Nodup:=by decide)(hn:n0<=au.length:=by decide)(dt:∀ i,i<n0->au.getD i 0=i:=by decide):pF n0 σ v res bI:=LK au snap (h1 x) h2 bX hn dt
theorem Xn(au:List Nat){P:Program}{σ:St}{f:FuncId}{args ec:List AV}{cp:List Ob}{dst:Option Tmp}{K:St->Prop}{res:AV}{dh:List Ob}(h:ao P f ec cp res dh)(hK:K (({ σ with aa:=eS σ.aa au (dh.map (cg (bL σ.aa.length au))) }:St).put dst (bC (bL σ.aa.length au) res)))(bX:au.Nodup:=by decide)(ho:xA (bL σ.aa.length au) σ.aa au cp:=by((repeat'(first|exact trivial|with_reducible refine And.intro ?_ ?_|refine And.intro ?_ ?_))<;>first|rfl|(rw[rG];rfl)|(rw[Aj];rfl)|(rw[tP];rfl)|(rw[Ha];rfl)))(ha:fF (aJ σ (·∈au) (bL σ.aa.length au) false) ec args:=by((repeat'(first|exact trivial|refine And.intro ?_ ?_))<;>(first|exact .pure rfl|exact .eq rfl|exact .fz rfl (by simp only[Bc,Rc])))):sK P f args dst K σ:=jn au h bX ho ha hK
theorem Xf(au:List Nat){P:Program}{σ:St}{f:FuncId}{args ec:List AV}{cp:List Ob}{dst:Option Tmp}{K:St->Prop}{res:AV}{dh:List Ob}(h:ao P f ec cp res dh)(hK:K (({ σ with aa:=eS σ.aa au (dh.map (cg (bL σ.aa.length au))) }:St).put dst (bC (bL σ.aa.length au) res)))(bX:au.Nodup:=by decide)(ho:xA (bL σ.aa.length au) σ.aa au cp:=by((repeat'(first|exact trivial|with_reducible refine And.intro ?_ ?_|refine And.intro ?_ ?_))<;>first|rfl|(rw[rG];rfl)|(rw[Aj];rfl)|(rw[tP];rfl)|(rw[Ha];rfl)))(ha:fF (aJ σ (·∈au) (bL σ.aa.length au) true) ec args:=by((repeat'(first|exact trivial|refine And.intro ?_ ?_))<;>(first|exact .pure rfl|exact .eq rfl|exact .fz rfl (by simp only[Bc,Rc]))))(dZ:flat res=true:=by rfl)(Ak:∀ o∈dh,xB o:=by simp[xB]):sK P f args dst K σ:=nM au h bX ho ha dZ Ak hK
def Pw:=aaO @DM @xw @uM @uL @dj.eq_1 @fy.eq_1
theorem Va{p q e:Prop}(x:e)(h:q)(k:e->q->p:=by first|(intro hx hq;(try with_reducible intro K hK);(first|((first|refine rr ?_|refine wo ?_);intro K hK;simp(disch:=omega)only[Ac,↓Pc,simprocAttr,hx];show _)|(with_reducible refine gO ?_;simp(disch:=omega)only[Ac,↓Pc,simprocAttr,hx];show _)|(refine hK _ ?_;clear hK K)|refine Wz rfl ?_|refine Xk ?_|refine Xb ?_|refine Sq.n _ ?_|refine Sq.e _ _ rfl ?_|refine Bq.n _ ?_|refine Bq.x _ ?_|refine Bq.e _ _ rfl ?_|refine hn _ ?_|refine he _ _ rfl ?_|(simp only[Qc,Kc,simprocAttr];show _)|(with_reducible refine And.intro ?_ ?_;(focus (clear hq;first|omega|with_reducible rfl|exact trivial))));(repeat(first|((first|refine rr ?_|refine wo ?_);intro K hK;simp(disch:=omega)only[Ac,↓Pc,simprocAttr,hx];show _)|(with_reducible refine gO ?_;simp(disch:=omega)only[Ac,↓Pc,simprocAttr,hx];show _)|(refine hK _ ?_;clear hK K)|refine Wz rfl ?_|refine Xk ?_|refine Xb ?_|refine Sq.n _ ?_|refine Sq.e _ _ rfl ?_|refine Bq.n _ ?_|refine Bq.x _ ?_|refine Bq.e _ _ rfl ?_|refine hn _ ?_|refine he _ _ rfl ?_|(simp only[Qc,Kc,simprocAttr];show _)|(with_reducible refine And.intro ?_ ?_;(focus (clear hq;first|omega|with_reducible rfl|exact trivial)))));(try revert hK);(try revert K);exact hq)|fail):p:=k x h
theorem Vb{p q e:Prop}(x:e)(h:q)(k:e->q->p:=by first|(intro hx hq;(try with_reducible intro K hK);(first|((first|refine rr ?_|refine wo ?_);intro K hK;simp(disch:=omega)only[Ac,↓Pc,simprocAttr,hx];show _)|(with_reducible refine gO ?_;simp(disch:=omega)only[Ac,↓Pc,simprocAttr,hx];show _)|(refine hK _ ?_;clear hK K)|refine Wz rfl ?_|refine Xk ?_|refine Xb ?_|refine Sq.n _ ?_|refine Sq.e _ _ rfl ?_|refine Bq.n _ ?_|refine Bq.x _ ?_|refine Bq.e _ _ rfl ?_|refine hn _ ?_|refine he _ _ rfl ?_|refine ar _ _ rfl ?_|refine bd _ _ rfl ?_|refine eV _ _ rfl ?_|refine nx _ _ rfl ?_|(simp only[Qc,Kc,simprocAttr];show _)|(with_reducible refine And.intro ?_ ?_;(focus (clear hq;first|omega|with_reducible rfl|exact trivial))));(repeat(first|((first|refine rr ?_|refine wo ?_);intro K hK;simp(disch:=omega)only[Ac,↓Pc,simprocAttr,hx];show _)|(with_reducible refine gO ?_;simp(disch:=omega)only[Ac,↓Pc,simprocAttr,hx];show _)|(refine hK _ ?_;clear hK K)|refine Wz rfl ?_|refine Xk ?_|refine Xb ?_|refine Sq.n _ ?_|refine Sq.e _ _ rfl ?_|refine Bq.n _ ?_|refine Bq.x _ ?_|refine Bq.e _ _ rfl ?_|refine hn _ ?_|refine he _ _ rfl ?_|refine ar _ _ rfl ?_|refine bd _ _ rfl ?_|refine eV _ _ rfl ?_|refine nx _ _ rfl ?_|(simp only[Qc,Kc,simprocAttr];show _)|(with_reducible refine And.intro ?_ ?_;(focus (clear hq;first|omega|with_reducible rfl|exact trivial)))));(try revert hK);(try revert K);exact hq)|fail):p:=k x h
theorem Vc{p q e t:Prop}(x:e)(c:t)(h:q)(k:e->t->q->p:=by first|(intro hx hc hq;(try with_reducible intro K hK);(first|((first|refine rr ?_|refine wo ?_|refine rb ?_|refine Ev ?_|refine ra ?_|refine Ew ?_);intro K hK;simp(disch:=omega)only[Ac,↓Pc,simprocAttr,hx];show _)|(with_reducible refine gO ?_;simp(disch:=omega)only[Ac,↓Pc,simprocAttr,hx];show _)|(refine hK _ ?_;clear hK K)|refine Wz rfl ?_|refine Xk ?_|refine Xb ?_|refine Sq.n _ ?_|refine Sq.e _ _ rfl ?_|refine Bq.n _ ?_|refine Bq.x _ ?_|refine Bq.e _ _ rfl ?_|refine hn _ ?_|refine he _ _ rfl ?_|(simp only[Qc,Kc,simprocAttr];show _)|(with_reducible refine And.intro ?_ ?_;(focus (clear hq;first|omega|with_reducible rfl|exact trivial)))|(apply cF;(focus(repeat(first|exact hc|exact hc.1|have hc:=hc.2)));rfl;rfl)|(apply bZ;(focus(repeat(first|exact hc|exact hc.1|have hc:=hc.2)));rfl;rfl));(repeat(first|((first|refine rr ?_|refine wo ?_|refine rb ?_|refine Ev ?_|refine ra ?_|refine Ew ?_);intro K hK;simp(disch:=omega)only[Ac,↓Pc,simprocAttr,hx];show _)|(with_reducible refine gO ?_;simp(disch:=omega)only[Ac,↓Pc,simprocAttr,hx];show _)|(refine hK _ ?_;clear hK K)|refine Wz rfl ?_|refine Xk ?_|refine Xb ?_|refine Sq.n _ ?_|refine Sq.e _ _ rfl ?_|refine Bq.n _ ?_|refine Bq.x _ ?_|refine Bq.e _ _ rfl ?_|refine hn _ ?_|refine he _ _ rfl ?_|(simp only[Qc,Kc,simprocAttr];show _)|(with_reducible refine And.intro ?_ ?_;(focus (clear hq;first|omega|with_reducible rfl|exact trivial)))|(apply cF;(focus(repeat(first|exact hc|exact hc.1|have hc:=hc.2)));rfl;rfl)|(apply bZ;(focus(repeat(first|exact hc|exact hc.1|have hc:=hc.2)));rfl;rfl)));(try revert hK);(try revert K);exact hq)|fail):p:=k x c h
theorem Vd{p q e t:Prop}(x:e)(c:t)(h:q)(k:e->t->q->p:=by first|(intro hx hc hq;(try with_reducible intro K hK);(first|((first|refine rr ?_|refine wo ?_|refine rb ?_|refine Ev ?_|refine ra ?_|refine Ew ?_);intro K hK;simp(disch:=omega)only[Ac,↓Pc,simprocAttr,hx];show _)|(with_reducible refine gO ?_;simp(disch:=omega)only[Ac,↓Pc,simprocAttr,hx];show _)|(refine hK _ ?_;clear hK K)|refine Wz rfl ?_|refine Xk ?_|refine Xb ?_|refine Sq.n _ ?_|refine Sq.e _ _ rfl ?_|refine Bq.n _ ?_|refine Bq.x _ ?_|refine Bq.e _ _ rfl ?_|refine hn _ ?_|refine he _ _ rfl ?_|refine ar _ _ rfl ?_|refine bd _ _ rfl ?_|refine eV _ _ rfl ?_|refine nx _ _ rfl ?_|(simp only[Qc,Kc,simprocAttr];show _)|(with_reducible refine And.intro ?_ ?_;(focus (clear hq;first|omega|with_reducible rfl|exact trivial)))|(apply cF;(focus(repeat(first|exact hc|exact hc.1|have hc:=hc.2)));rfl;rfl)|(apply bZ;(focus(repeat(first|exact hc|exact hc.1|have hc:=hc.2)));rfl;rfl));(repeat(first|((first|refine rr ?_|refine wo ?_|refine rb ?_|refine Ev ?_|refine ra ?_|refine Ew ?_);intro K hK;simp(disch:=omega)only[Ac,↓Pc,simprocAttr,hx];show _)|(with_reducible refine gO ?_;simp(disch:=omega)only[Ac,↓Pc,simprocAttr,hx];show _)|(refine hK _ ?_;clear hK K)|refine Wz rfl ?_|refine Xk ?_|refine Xb ?_|refine Sq.n _ ?_|refine Sq.e _ _ rfl ?_|refine Bq.n _ ?_|refine Bq.x _ ?_|refine Bq.e _ _ rfl ?_|refine hn _ ?_|refine he _ _ rfl ?_|refine ar _ _ rfl ?_|refine bd _ _ rfl ?_|refine eV _ _ rfl ?_|refine nx _ _ rfl ?_|(simp only[Qc,Kc,simprocAttr];show _)|(with_reducible refine And.intro ?_ ?_;(focus (clear hq;first|omega|with_reducible rfl|exact trivial)))|(apply cF;(focus(repeat(first|exact hc|exact hc.1|have hc:=hc.2)));rfl;rfl)|(apply bZ;(focus(repeat(first|exact hc|exact hc.1|have hc:=hc.2)));rfl;rfl)));(try revert hK);(try revert K);exact hq)|fail):p:=k x c h
theorem V2{p q r e:Prop}(x:e)(h:q)(h2:r)(k:e->q->r->p/\True:=by first|(intro hx hq hr;refine And.intro ?_ ?_;(try with_reducible intro K hK);(with_reducible refine gS (fun du=>?_) (fun du=>?_));(focus (have hb:=du;(try simp only[pP,simprocAttr]at hb);all_goals(simp(disch:=omega)only[Ac,↓Pc,simprocAttr,hx,du]);all_goals(clear du;(try revert hK);(try revert K);revert hb;exact hq)));(focus (have hb:=du;(try simp only[pP,simprocAttr]at hb);all_goals(simp(disch:=omega)only[Ac,↓Pc,simprocAttr,hx,du]);all_goals(clear du;(try revert hK);(try revert K);revert hb;exact hr)));((try have _:True:=hq);(try have _:True:=hr);trivial))|fail):p:=(k x h h2).1
theorem VD{p q r:Prop}(h:q)(h2:r)(k:q->r->p:=by first|(intro hq hr;(try with_reducible intro K hK);with_reducible refine And.intro ?_ ?_;(focus ((try clear hK K);(try revert hK);(try revert K);exact hq));(focus ((try clear hK K);(try revert hK);(try revert K);exact hr)))|fail):p:=k h h2
def ahz(n m:Int)(hm:gk m):ao Tryz.prog 23 [aaC n,aaC m] [] (aaC (zA n m)) []:=by
 unfold gk at hm;refine ao.aD 16 0 [.tmp 4] Tryz.func23 ?_;repeat'(first|(refine Xr X0 ?_;intro K hK)|(refine hK _ ?_;clear hK K)|(refine Xi ?_ ?_<;>try intro ht)|refine Xz ?_|(refine Xe ?_;first|refine aE rfl ?_|refine Xl ?_ ?_)|refine Xd ?_ ?_|exact Xx|fail)
 ·rw[zA,if_pos ht]
 ·have:=My n m GC;omega
 ·rw[zA,if_neg GC,(My n m GC).1 ht]
 ·rw[zA,if_neg GC,(My n m GC).2.1 ht]
def agw(xs:List Int):ao Tryz.prog 11 [.tree 1 (ints xs)] [] (.lit (.bool (decide (xs.length<=400)))) []:=by
 refine ao.aD 6 0 [.tmp 2] Tryz.func11 ?_;repeat'(first|(refine Xr X0 ?_;intro K hK)|(refine hK _ ?_;clear hK K)|refine Xz ?_|(refine Xe ?_;first|refine aE rfl ?_|refine Xl ?_ ?_)|fail)
 ·congr 3;simp;omega
def kZ(L:List Int)(k:Nat)(n:Int)(hn:gk n)(hk:k<=L.length)(hL:L.length<1000000):ao Tryz.prog 63 [.ptr 0 0 0,aaC n] [.var [.tree 1 (ints L),aaC k]] (aaC (gl L k n))
  [.var [.tree 1 (ints L),aaC (dM L k)]]:=by
 refine ao.aD 35 1 [.tmp 4] Tryz.func63 ?_;repeat'(first|(refine Xq X0 ?_;intro K hK)|refine Xo X0 ?_|refine Xc (ahz _ _ hn) ?_|(refine hK _ ?_;clear hK K)|(refine Xi ?_ ?_<;>try intro ht)|refine Xz ?_|(refine Xe ?_;first|refine aE rfl ?_|refine Xl ?_ ?_)|refine Xd ?_ ?_|exact Xx|fail)
 ·rw[dM,if_pos GC]
 ·rw[gl,if_pos GC]
 ·rw[dM,if_neg GC,yK];rfl
 ·rw[gl,if_neg GC,show((k:Int)+1-1).toNat=k by omega]
def Cm(L:List Int)(k:Nat)(n:Int)(hn:gk n)(ef:0<n)(hk:k<=L.length)(hL:L.length<1000000):ao Tryz.prog 42 [.ptr 0 0 0,aaC n] [.var [.tree 1 (ints L),aaC k]] (.lit (.bool (AL L k n)))
  [.var [.tree 1 (ints L),aaC (dM L k)]]:=by
 refine ao.aD 11 1 [.tmp 4] Tryz.func42 ?_;repeat'(first|(refine Xr X0 ?_;intro K hK)|(refine hK _ ?_;clear hK K)|fail)
 refine ig (kZ L k n hn hk hL) GF ?_;unfold gk at hn;repeat'(first|refine Xo X0 ?_|(refine hK _ ?_;clear hK K)|refine Xz ?_|(refine Xe ?_;first|refine aE rfl ?_|refine Xl ?_ ?_)|refine Xd ?_ ?_|exact Xx|fail)
 ·rfl
def Mz(L:List Int)(k:Nat)(hk:k<=L.length)(hL:L.length<1000000):ao Tryz.prog 64 [.ptr 0 0 0] [.var [.tree 1 (ints L),aaC k]] (aaC (qS L k))
  [.var [.tree 1 (ints L),aaC (wG L k)]]:=by
 have h6:=oO (L:=L) (k:=k) (n:=6) GC;have h20:=oO (L:=L) (k:=dM L k) (n:=20) GC;refine ao.aD 14 1 [.tmp 2] Tryz.func64 ?_;repeat'(first|(refine Xr X0 ?_;intro K hK)|(refine hK _ ?_;clear hK K)|refine Xz ?_|fail)
 refine ig (kZ L k 6 (by unfold gk;omega) hk hL) GF ?_;have c1:gl L k 6<=3->wG L k=dM L k:=λh=>by rw[wG,if_pos h]
 have c2:gl L k 6<3->qS L k=0:=λh=>by rw[qS,if_pos h]
 have c3:gl L k 6=3->qS L k=1099511627776:=λh=>by rw[qS,if_neg GC,if_pos h]
 have c4:¬ gl L k 6<=3->wG L k=dM L (dM L k):=λh=>by rw[wG,if_neg h]
 have c5:¬ gl L k 6<=3->qS L k=1+gl L (dM L k) 20:=λh=>by rw[qS,if_neg GC,if_neg GC]
 repeat'(first|(refine Xr X0 ?_;intro K hK)|(refine hK _ ?_;clear hK K)|(refine Xi ?_ ?_<;>try intro ht)|refine Xz ?_|(refine Xe ?_;first|refine aE rfl ?_|refine Xl ?_ ?_)|exact Xx|fail)
 iterate 3
  ·rw[c1 GC]
  ·rw[c2 GC]
 ·rw[c1 GC]
 ·rw[c3 GC]
 ·refine ig (kZ L (dM L k) 20 (by unfold gk;omega) (iY hk) hL) GF ?_;repeat'(first|refine Xo X0 ?_|(refine hK _ ?_;clear hK K)|refine Xz ?_|(refine Xe ?_;first|refine aE rfl ?_|refine Xl ?_ ?_)|refine Xd ?_ ?_|exact Xx|fail)
  ·rw[c4 GC]
  ·rw[c5 GC]
def agx(L:List Int):ao Tryz.prog 14 [.tree 1 (ints L)] [] (.ptr 0 0 0) [.var [.tree 1 (ints L),aaC (0:Nat)]]:=by
 refine ao.aD 6 0 [.tmp 2] Tryz.func14 ?_;refine Vb X0 ?_;rw[show(0:Int)=((0:Nat):Int) from rfl];exact eu rfl GF rfl
def UL(a b:List Int)(hl:a.length<9223372036854775808):ao Tryz.prog 21 [.tree 1 (ints a),.tree 1 (ints b)] [] (.lit (.bool (decide (a=b)))) []:=by
 refine ao.aD 26 0 [.tmp 4] Tryz.func21 ?_;repeat'(first|(refine Xr X0 ?_;intro K hK)|(refine hK _ ?_;clear hK K)|(refine Xi ?_ ?_<;>try intro ht)|refine Xz ?_|(refine Xe ?_;first|refine aE rfl ?_|refine Xl ?_ ?_)|fail)
 ·congr 2;simp;intro h;subst h;exact absurd rfl ht
 ·refine aM (λk:Nat=>(⟨aw [(0,.tree 1 (ints a)),(1,.tree 1 (ints b)),(5,aaC k)],[]⟩:St)) (λk=>k<=a.length/\(a=b↔a.drop k=b.drop k)) (λk=>a.length-k) 0 ⟨aI _,GF⟩ (Xv X0) ?_;intro k ⟨hk,hc⟩ Ql an ar;repeat'(first|(refine Xr X0 ?_;intro K hK)|(refine hK _ ?_;clear hK K)|(refine Xi ?_ ?_<;>try intro ht)|refine Xz ?_|refine Xh ?_|(refine Xe ?_;first|refine aE rfl ?_|refine Xl ?_ ?_)|refine Xd ?_ ?_|exact Xx|fail)
  ·congr 2;simp only[decide_eq_false_iff_not,eq_comm (a:=false)];rw[hc,cP _ _ 0 GC,cP b _ 0 GC];simp only[List.cons.injEq];exact λh=>ht h.1
  ·refine an _ (k+1) ⟨GC,?_⟩ GC (Xv X0);rw[hc,cP _ _ 0 GC,cP b _ 0 GC,ht];simp
  ·congr 2;rw[show a=b by rw[hc,cR GC,cR GC]];simp
def MA(a b:Int)(ha:b7 a)(hb:b7 b):ao Tryz.prog 168 [aaC a,aaC b] [] (aaC (ee a b)) []:=by
 unfold b7 at *;refine ao.aD 9 0 [.tmp 4] Tryz.func168 ?_;repeat'(first|(refine Xr X0 ?_;intro K hK)|(refine hK _ ?_;clear hK K)|refine Xz ?_|(refine Xe ?_;first|refine aE rfl ?_|refine Xl ?_ ?_)|refine Xd ?_ ?_|exact Xx|fail)
 ·rfl
def E0(a b:Int)(ha:b7 a)(hb:b7 b):ao Tryz.prog 100 [aaC a,aaC b] [] (aaC (ee a b)) []:=by
 unfold b7 at *;refine ao.aD 9 0 [.tmp 4] Tryz.func100 ?_;repeat'(first|(refine Xr X0 ?_;intro K hK)|(refine hK _ ?_;clear hK K)|refine Xz ?_|(refine Xe ?_;first|refine aE rfl ?_|refine Xl ?_ ?_)|refine Xd ?_ ?_|exact Xx|fail)
 ·rfl
def MC(n:Int):ao Tryz.prog 140 [aaC n] [] (.lit (.bool (jY n))) []:=by
 refine ao.aD 13 0 [.tmp 2] Tryz.func140 ?_;repeat'(first|(refine Xr X0 ?_;intro K hK)|(refine hK _ ?_;clear hK K)|(refine Xg X0 ?_ ?_<;>try intro hb)|refine Xz ?_|(refine Xe ?_;first|refine aE rfl ?_|refine Xl ?_ ?_)|fail)
 all_goals(refine congrArg (λb=>AV.lit (Value.bool b)) ?_;rw[mI];simp only[jY,decide_eq_true_eq,beq_iff_eq,bne_iff_ne,bw,l9,ld,decide_eq_false_iff_not,jQ,reduceCtorEq,iff_true,iff_false,true_iff,false_iff,eq_self];omega)
def MD(n:Int):ao Tryz.prog 60 [aaC n] [] (.lit (.bool (jY n))) []:=by
 refine ao.aD 13 0 [.tmp 2] Tryz.func60 ?_;repeat'(first|(refine Xr X0 ?_;intro K hK)|(refine hK _ ?_;clear hK K)|(refine Xg X0 ?_ ?_<;>try intro hb)|refine Xz ?_|(refine Xe ?_;first|refine aE rfl ?_|refine Xl ?_ ?_)|fail)
 all_goals(refine congrArg (λb=>AV.lit (Value.bool b)) ?_;rw[mI];simp only[jY,decide_eq_true_eq,beq_iff_eq,bne_iff_ne,bw,l9,ld,decide_eq_false_iff_not,jQ,reduceCtorEq,iff_true,iff_false,true_iff,false_iff,eq_self];omega)
def ME(m:aj)(n:Int):ao Tryz.prog 139 [.agg (aq m),aaC n] [] (.lit (.bool (jI m.rules n))) []:=by
 refine ao.aD 13 0 [.tmp 4] Tryz.func139 ?_;repeat'(first|(refine Xr @aq.eq_1 ?_;intro K hK)|(refine hK _ ?_;clear hK K)|(refine Xg @aq.eq_1 ?_ ?_<;>try intro hb)|refine Xz ?_|(refine Xe ?_;first|refine aE rfl ?_|refine Xl ?_ ?_)|fail)
 all_goals(refine congrArg (λb=>AV.lit (Value.bool b)) ?_;rw[mI];simp only[jI,decide_eq_true_eq,beq_iff_eq,bne_iff_ne,bw,l9,ld,decide_eq_false_iff_not,jQ,reduceCtorEq,iff_true,iff_false,true_iff,false_iff,eq_self];omega)
def MF(m:aj)(n:Int):ao Tryz.prog 59 [.agg (aq m),aaC n] [] (.lit (.bool (jI m.rules n))) []:=by
 refine ao.aD 13 0 [.tmp 4] Tryz.func59 ?_;repeat'(first|(refine Xr @aq.eq_1 ?_;intro K hK)|(refine hK _ ?_;clear hK K)|(refine Xg @aq.eq_1 ?_ ?_<;>try intro hb)|refine Xz ?_|(refine Xe ?_;first|refine aE rfl ?_|refine Xl ?_ ?_)|fail)
 all_goals(refine congrArg (λb=>AV.lit (Value.bool b)) ?_;rw[mI];simp only[jI,decide_eq_true_eq,beq_iff_eq,bne_iff_ne,bw,l9,ld,decide_eq_false_iff_not,jQ,reduceCtorEq,iff_true,iff_false,true_iff,false_iff,eq_self];omega)
def ahB(n:Int):ao Tryz.prog 183 [aaC n] [] (.lit (.bool false)) []:=by
 refine ao.aD 6 0 [.tmp 2] Tryz.func183 ?_;repeat'(first|(refine Xr @bne_self_eq_false.{0} ?_;intro K hK)|(refine hK _ ?_;clear hK K)|refine Xz ?_|(refine Xe ?_;first|refine aE rfl ?_|refine Xl ?_ ?_)|exact Xx|fail)
def Ys(a b:Int):ao Tryz.prog 144 [aaC a,aaC b] [] (aaC (pX a b)) []:=by
 refine ao.aD 20 0 [.tmp 4] Tryz.func144 ?_;repeat'(first|(refine Xq X0 ?_;intro K hK)|refine Xo X0 ?_|refine Xc (ahB _) ?_|(refine hK _ ?_;clear hK K)|(refine Xi ?_ ?_<;>try intro ht)|refine Xz ?_|(refine Xe ?_;first|refine aE rfl ?_|refine Xl ?_ ?_)|exact Xx|fail)
 all_goals(unfold pX;congr 2;(repeat' split)<;>omega)
def Yt(l:List Int)(hl:l.length<1000000):ao Tryz.prog 143 [.tree 1 (ints l)] [] (aaC (vv l)) []:=by
 generalize ak:vv l=res;refine ao.aD 18 0 [.tmp 2] Tryz.func143 ?_;repeat'(first|(refine Xr X0 ?_;intro K hK)|(refine hK _ ?_;clear hK K)|refine Xz ?_|fail)
 refine aM (λk:Nat=>(⟨aw [(3,aaC 0),(6,.tree 1 (ints l)),(7,aaC l.length),(8,aaC k)],[]⟩:St)) (λk=>k<=l.length/\vv (l.drop k)=res) (λk=>l.length-k) 0 ⟨aI _,ak⟩ (Xv X0) ?_;rintro k⟨hk,hr⟩Ql an ar;repeat'(first|(refine Xr X0 ?_;intro K hK)|(refine hK _ ?_;clear hK K)|(refine Xi ?_ ?_<;>try intro ht)|refine Xz ?_|refine Xh ?_|(refine Xe ?_;first|refine aE rfl ?_|refine Xl ?_ ?_)|refine Xd ?_ ?_|exact Xx|fail)
 ·rw[cP _ _ 0 GC,vv,if_pos (by assumption)]at hr;rw[hr]
 ·rw[cP _ _ 0 GC,vv,if_neg GC]at hr;exact an _ (k+1) ⟨GC,hr⟩ GC (Xv X0)
 ·rw[cR GC,vv]at hr;rw[hr]
def Yu(m:aj)(c o:Int):ao Tryz.prog 145 [.agg (aq m),aaC c,aaC o] [] (.lit (.bool (eW m c o))) []:=by
 refine ao.aD 30 0 [.tmp 6] Tryz.func145 ?_;repeat'(first|(refine Xr (X4 @aq.eq_1 @b8 @gf @bu.eq_1) ?_;intro K hK)|(refine hK _ ?_;clear hK K)|(refine Xg (X4 @aq.eq_1 @b8 @gf @bu.eq_1) ?_ ?_<;>try intro hb)|refine Xz ?_|(refine Xe ?_;first|refine aE rfl ?_|refine Xl ?_ ?_)|refine Xd ?_ ?_|exact Xx|fail)
 all_goals(refine congrArg (λb=>AV.lit (Value.bool b)) ?_;rw[mI];simp only[eW,decide_eq_true_eq,beq_iff_eq,bne_iff_ne,bw,l9,ld,decide_eq_false_iff_not,jQ,reduceCtorEq,iff_true,iff_false,true_iff,false_iff,eq_self];omega)
def E1(m:aj)(c o:Int):ao Tryz.prog 101 [.agg (aq m),aaC c,aaC o] [] (.lit (.bool (eW m c o))) []:=by
 refine ao.aD 30 0 [.tmp 6] Tryz.func101 ?_;repeat'(first|(refine Xr (X4 @aq.eq_1 @b8 @gf @bu.eq_1) ?_;intro K hK)|(refine hK _ ?_;clear hK K)|(refine Xg (X4 @aq.eq_1 @b8 @gf @bu.eq_1) ?_ ?_<;>try intro hb)|refine Xz ?_|(refine Xe ?_;first|refine aE rfl ?_|refine Xl ?_ ?_)|refine Xd ?_ ?_|exact Xx|fail)
 all_goals(refine congrArg (λb=>AV.lit (Value.bool b)) ?_;rw[mI];simp only[eW,decide_eq_true_eq,beq_iff_eq,bne_iff_ne,bw,l9,ld,decide_eq_false_iff_not,jQ,reduceCtorEq,iff_true,iff_false,true_iff,false_iff,eq_self];omega)
def Yv(c:Ct)(n:Int)(h1:0<=c.most)(h2:n<=1048576)(h3:0<=n)(h4:b7 c.bM):ao Tryz.prog 167 [.agg (aV c),aaC n] [] (aaC (j4 c.most c.bM n)) []:=by
 unfold b7 at h4;have hm:c.most<n->0<=(n-c.most)*c.bM/\(n-c.most)*c.bM<=1048576*1099511627776:=λh=>⟨sF GC h4.1,qj GC h4.2 h4.1 GC⟩;refine ao.aD 17 0 [.tmp 4] Tryz.func167 ?_;repeat'(first|(refine Xr @aV.eq_1 ?_;intro K hK)|(refine hK _ ?_;clear hK K)|(refine Xi ?_ ?_<;>try intro ht)|refine Xz ?_|(refine Xe ?_;first|refine aE rfl ?_|refine Xl ?_ ?_)|refine Xd ?_ ?_|exact Xx|fail)
 ·rw[j4,if_pos ht]
 ·rw[j4,if_neg GC]
def Yw(n c:Int)(h2:n<=1048576)(h4:b7 c):ao Tryz.prog 153 [aaC n,aaC c] [] (aaC (Cy n c)) []:=by
 unfold b7 at h4;have hm:0<n->0<=n*c/\n*c<=1048576*1099511627776:=λh=>⟨sF GC h4.1,qj GC h4.2 h4.1 GC⟩;refine ao.aD 13 0 [.tmp 4] Tryz.func153 ?_;repeat'(first|(refine Xr X0 ?_;intro K hK)|(refine hK _ ?_;clear hK K)|(refine Xi ?_ ?_<;>try intro ht)|refine Xz ?_|(refine Xe ?_;first|refine aE rfl ?_|refine Xl ?_ ?_)|refine Xd ?_ ?_|exact Xx|fail)
 ·rw[Cy,if_pos ht]
 ·rw[Cy,if_neg GC,if_pos GC]
 ·rw[Cy,if_neg GC,if_neg GC]
def MG(l:List Int)(r c:Int)(hr:0<=r/\r<l.length)(hc:b7 c)(hl:b7 (l.getD r.toNat 0)):ao Tryz.prog 166 [.ptr 0 0 0,aaC r,aaC c] [.var [.ref 1 1 0 l.length],.arr 1 (ints l)] (.bJ [])
  [.var [.ref 1 1 0 l.length],.arr 1 (ints (l.set r.toNat (ee (l.getD r.toNat 0) c)))]:=by
 refine ao.aD 21 2 [] Tryz.func166 ?_;(try(refine Cf [13] rfl Px (by decide +kernel) ?_);intro K hK;simp(disch:=omega)only[Ac,↓Pc,simprocAttr])
 repeat'(first|refine Xo X0 ?_|refine Xc (MA _ _ hl hc) ?_|(refine hK _ ?_;clear hK K)|(refine Xe ?_;first|refine aE rfl ?_|refine Xl ?_ ?_)|refine Xd ?_ ?_|exact Xx|fail)
end T

