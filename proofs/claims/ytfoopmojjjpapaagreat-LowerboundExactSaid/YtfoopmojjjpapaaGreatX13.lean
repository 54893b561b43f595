import Derived.Test.YtfoopmojjjpapaaGreatX12
import Derived.Test.YtfoopmojjjpapaaGreatX10
import Derived.Test.YtfoopmojjjpapaaGreatProg
import Derived.KernelRfl
set_option linter.all false
set_option maxHeartbeats 0
set_option maxRecDepth 20000
open Int renaming natCast_add→CK,cast_ofNat_Int→E4,mul_nonneg→re,mul_le_mul→su
open List renaming length_append→bL,length_cons→cX,length_nil→kx,drop_eq_nil_of_le→jv,any_cons→IU,cons_append→ek,nil_append→gv
open Nat renaming zero_add→fc,zero_le→aW,le_refl→aX,add_zero→iw,lt_or_ge→du
open Bool renaming eq_iff_iff→nx,and_eq_true→bg,or_eq_true→l7,not_eq_true'→kz,false_eq_true→iZ,true_and→iy,true_or→xI,false_and→p8
open Go Go.Am Go.Proofs
namespace T
def V9:ty Tryz.prog 2 = { kind:=5,size:=1,bytes:=8,elem:=0,len:=0,zero:=some [.int .i64 0],aL:=[] }:=by kernel_rfl
def V':ty Tryz.prog 3 = { kind:=5,size:=1,bytes:=8,elem:=0,len:=0,zero:=some [.int .i64 0],aL:=[] }:=by kernel_rfl
def Wa:ty Tryz.prog 4 = { kind:=6,size:=1,bytes:=1,elem:=0,len:=0,zero:=some [.bool false],aL:=[] }:=by kernel_rfl
def Wd:ty Tryz.prog 5 = { kind:=5,size:=1,bytes:=1,elem:=0,len:=0,zero:=some [.int .u8 0],aL:=[] }:=by kernel_rfl
def We:ty Tryz.prog 6 = { kind:=5,size:=1,bytes:=1,elem:=0,len:=0,zero:=some [.int .u8 0],aL:=[] }:=by kernel_rfl
def Wf:ty Tryz.prog 7 = { kind:=3,size:=4,bytes:=24,elem:=0,len:=0,zero:=some [.int .i64 0,.int .i64 0,.bool false,.int .u8 0],aL:=[(0,2,1),(1,3,1),(2,4,1),(3,6,1)] }:=by kernel_rfl
def Wg:ty Tryz.prog 8 = { kind:=3,size:=4,bytes:=24,elem:=0,len:=0,zero:=some [.int .i64 0,.int .i64 0,.bool false,.int .u8 0],aL:=[(0,2,1),(1,3,1),(2,4,1),(3,6,1)] }:=by kernel_rfl
def Wh:ty Tryz.prog 9 = { kind:=4,size:=1,bytes:=16,elem:=0,len:=0,zero:=some [.string ⟨#[]⟩],aL:=[] }:=by kernel_rfl
def Wi:ty Tryz.prog 10 = { kind:=4,size:=1,bytes:=16,elem:=0,len:=0,zero:=some [.string ⟨#[]⟩],aL:=[] }:=by kernel_rfl
def Wj:ty Tryz.prog 11 = { kind:=4,size:=1,bytes:=16,elem:=0,len:=0,zero:=some [.string ⟨#[]⟩],aL:=[] }:=by kernel_rfl
def Wl:ty Tryz.prog 12 = { kind:=5,size:=1,bytes:=8,elem:=0,len:=0,zero:=some [.int .u64 0],aL:=[] }:=by kernel_rfl
def Wm:ty Tryz.prog 13 = { kind:=3,size:=2,bytes:=24,elem:=0,len:=0,zero:=some [.string ⟨#[]⟩,.int .u64 0],aL:=[(0,9,1),(1,12,1)] }:=by kernel_rfl
def Wn:ty Tryz.prog 14 = { kind:=3,size:=2,bytes:=24,elem:=0,len:=0,zero:=some [.string ⟨#[]⟩,.int .u64 0],aL:=[(0,9,1),(1,12,1)] }:=by kernel_rfl
def Wo:ty Tryz.prog 15 = { kind:=7,size:=1,bytes:=8,elem:=234,len:=0,zero:=some [.pointer none],aL:=[] }:=by kernel_rfl
def Wp:ty Tryz.prog 16 = { kind:=7,size:=1,bytes:=8,elem:=237,len:=0,zero:=some [.pointer none],aL:=[] }:=by kernel_rfl
def Wq:ty Tryz.prog 17 = { kind:=7,size:=1,bytes:=8,elem:=245,len:=0,zero:=some [.pointer none],aL:=[] }:=by kernel_rfl
def Wr:ty Tryz.prog 18 = { kind:=3,size:=1,bytes:=8,elem:=0,len:=0,zero:=some [.pointer none],aL:=[(0,17,1)] }:=by kernel_rfl
def Ws:ty Tryz.prog 19 = { kind:=3,size:=1,bytes:=8,elem:=0,len:=0,zero:=some [.pointer none],aL:=[(0,17,1)] }:=by kernel_rfl
def Wt:ty Tryz.prog 21 = { kind:=5,size:=1,bytes:=4,elem:=0,len:=0,zero:=some [.int .i32 0],aL:=[] }:=by kernel_rfl
def Wu:ty Tryz.prog 22 = { kind:=1,size:=1,bytes:=24,elem:=3,len:=0,zero:=some [.slice none 0 0],aL:=[] }:=by kernel_rfl
def Wv:ty Tryz.prog 23 = { kind:=1,size:=1,bytes:=24,elem:=49,len:=0,zero:=some [.slice none 0 0],aL:=[] }:=by kernel_rfl
def Ww:ty Tryz.prog 26 = { kind:=7,size:=1,bytes:=8,elem:=83,len:=0,zero:=some [.pointer none],aL:=[] }:=by kernel_rfl
def Wx:ty Tryz.prog 28 = { kind:=1,size:=1,bytes:=24,elem:=79,len:=0,zero:=some [.slice none 0 0],aL:=[] }:=by kernel_rfl
def Wy:ty Tryz.prog 29 = { kind:=1,size:=1,bytes:=24,elem:=81,len:=0,zero:=some [.slice none 0 0],aL:=[] }:=by kernel_rfl
def WC:ty Tryz.prog 30 = { kind:=1,size:=1,bytes:=24,elem:=105,len:=0,zero:=some [.slice none 0 0],aL:=[] }:=by kernel_rfl
def WD:ty Tryz.prog 31 = { kind:=3,size:=4,bytes:=80,elem:=0,len:=0,zero:=some [.slice none 0 0,.slice none 0 0,.slice none 0 0,.int .i64 0],aL:=[(0,28,1),(1,29,1),(2,30,1),(3,3,1)] }:=by kernel_rfl
def WE:ty Tryz.prog 32 = { kind:=3,size:=4,bytes:=80,elem:=0,len:=0,zero:=some [.slice none 0 0,.slice none 0 0,.slice none 0 0,.int .i64 0],aL:=[(0,28,1),(1,29,1),(2,30,1),(3,3,1)] }:=by kernel_rfl
def WG:ty Tryz.prog 36 = { kind:=1,size:=1,bytes:=24,elem:=23,len:=0,zero:=some [.slice none 0 0],aL:=[] }:=by kernel_rfl
def WH:ty Tryz.prog 38 = { kind:=1,size:=1,bytes:=24,elem:=94,len:=0,zero:=some [.slice none 0 0],aL:=[] }:=by kernel_rfl
def WI:ty Tryz.prog 39 = { kind:=5,size:=1,bytes:=8,elem:=0,len:=0,zero:=some [.int .i64 0],aL:=[] }:=by kernel_rfl
def WJ:ty Tryz.prog 49 = { kind:=1,size:=1,bytes:=24,elem:=4,len:=0,zero:=some [.slice none 0 0],aL:=[] }:=by kernel_rfl
def WK:ty Tryz.prog 51 = { kind:=1,size:=1,bytes:=24,elem:=109,len:=0,zero:=some [.slice none 0 0],aL:=[] }:=by kernel_rfl
def WL:ty Tryz.prog 52 = { kind:=3,size:=1,bytes:=24,elem:=0,len:=0,zero:=some [.slice none 0 0],aL:=[(0,51,1)] }:=by kernel_rfl
def WN:ty Tryz.prog 53 = { kind:=3,size:=1,bytes:=24,elem:=0,len:=0,zero:=some [.slice none 0 0],aL:=[(0,51,1)] }:=by kernel_rfl
def WO:ty Tryz.prog 65 = { kind:=1,size:=1,bytes:=24,elem:=22,len:=0,zero:=some [.slice none 0 0],aL:=[] }:=by kernel_rfl
def WQ:ty Tryz.prog 70 = { kind:=3,size:=2,bytes:=16,elem:=0,len:=0,zero:=some [.int .i64 0,.int .i64 0],aL:=[(0,3,1),(1,3,1)] }:=by kernel_rfl
def WR:ty Tryz.prog 71 = { kind:=3,size:=2,bytes:=16,elem:=0,len:=0,zero:=some [.int .i64 0,.int .i64 0],aL:=[(0,3,1),(1,3,1)] }:=by kernel_rfl
def WT:ty Tryz.prog 72 = { kind:=1,size:=1,bytes:=24,elem:=71,len:=0,zero:=some [.slice none 0 0],aL:=[] }:=by kernel_rfl
def WU:ty Tryz.prog 73 = { kind:=3,size:=4,bytes:=32,elem:=0,len:=0,zero:=some [.int .i64 0,.int .i64 0,.int .i64 0,.int .i64 0],aL:=[(0,3,1),(1,3,1),(2,3,1),(3,3,1)] }:=by kernel_rfl
def WV:ty Tryz.prog 74 = { kind:=3,size:=4,bytes:=32,elem:=0,len:=0,zero:=some [.int .i64 0,.int .i64 0,.int .i64 0,.int .i64 0],aL:=[(0,3,1),(1,3,1),(2,3,1),(3,3,1)] }:=by kernel_rfl
def WW:ty Tryz.prog 75 = { kind:=3,size:=5,bytes:=40,elem:=0,len:=0,zero:=some [.int .i64 0,.int .i64 0,.int .i64 0,.int .i64 0,.int .i64 0],aL:=[(0,74,4),(4,3,1)] }:=by kernel_rfl
def WX:ty Tryz.prog 76 = { kind:=3,size:=5,bytes:=40,elem:=0,len:=0,zero:=some [.int .i64 0,.int .i64 0,.int .i64 0,.int .i64 0,.int .i64 0],aL:=[(0,74,4),(4,3,1)] }:=by kernel_rfl
def WY:ty Tryz.prog 77 = { kind:=3,size:=6,bytes:=64,elem:=0,len:=0,zero:=some [.int .i64 0,.int .i64 0,.int .i64 0,.int .i64 0,.int .i64 0,.slice none 0 0],aL:=[(0,76,5),(5,72,1)] }:=by kernel_rfl
def WZ:ty Tryz.prog 78 = { kind:=3,size:=6,bytes:=64,elem:=0,len:=0,zero:=some [.int .i64 0,.int .i64 0,.int .i64 0,.int .i64 0,.int .i64 0,.slice none 0 0],aL:=[(0,76,5),(5,72,1)] }:=by kernel_rfl
def W2:ty Tryz.prog 79 = { kind:=1,size:=1,bytes:=24,elem:=78,len:=0,zero:=some [.slice none 0 0],aL:=[] }:=by kernel_rfl
def W3:ty Tryz.prog 80 = { kind:=3,size:=4,bytes:=48,elem:=0,len:=0,zero:=some [.int .i64 0,.int .i64 0,.int .i64 0,.slice none 0 0],aL:=[(0,3,1),(1,3,1),(2,3,1),(3,22,1)] }:=by kernel_rfl
def W4:ty Tryz.prog 81 = { kind:=3,size:=4,bytes:=48,elem:=0,len:=0,zero:=some [.int .i64 0,.int .i64 0,.int .i64 0,.slice none 0 0],aL:=[(0,3,1),(1,3,1),(2,3,1),(3,22,1)] }:=by kernel_rfl
def W5:ty Tryz.prog 82 = { kind:=3,size:=2,bytes:=32,elem:=0,len:=0,zero:=some [.slice none 0 0,.int .i64 0],aL:=[(0,22,1),(1,3,1)] }:=by kernel_rfl
def W6:ty Tryz.prog 83 = { kind:=3,size:=2,bytes:=32,elem:=0,len:=0,zero:=some [.slice none 0 0,.int .i64 0],aL:=[(0,22,1),(1,3,1)] }:=by kernel_rfl
def W7:ty Tryz.prog 86 = { kind:=7,size:=1,bytes:=8,elem:=132,len:=0,zero:=some [.pointer none],aL:=[] }:=by kernel_rfl
def W8:ty Tryz.prog 93 = { kind:=3,size:=4,bytes:=32,elem:=0,len:=0,zero:=some [.int .i64 0,.int .i64 0,.int .i64 0,.int .i64 0],aL:=[(0,3,1),(1,3,1),(2,3,1),(3,3,1)] }:=by kernel_rfl
def W9:ty Tryz.prog 94 = { kind:=3,size:=4,bytes:=32,elem:=0,len:=0,zero:=some [.int .i64 0,.int .i64 0,.int .i64 0,.int .i64 0],aL:=[(0,3,1),(1,3,1),(2,3,1),(3,3,1)] }:=by kernel_rfl
def Xa:ty Tryz.prog 95 = { kind:=1,size:=1,bytes:=24,elem:=96,len:=0,zero:=some [.slice none 0 0],aL:=[] }:=by kernel_rfl
def Xf:ty Tryz.prog 96 = { kind:=1,size:=1,bytes:=24,elem:=100,len:=0,zero:=some [.slice none 0 0],aL:=[] }:=by kernel_rfl
def Xj:ty Tryz.prog 99 = { kind:=3,size:=2,bytes:=16,elem:=0,len:=0,zero:=some [.bool false,.int .i64 0],aL:=[(0,4,1),(1,3,1)] }:=by kernel_rfl
def Xm:ty Tryz.prog 100 = { kind:=3,size:=2,bytes:=16,elem:=0,len:=0,zero:=some [.bool false,.int .i64 0],aL:=[(0,4,1),(1,3,1)] }:=by kernel_rfl
def Xp:ty Tryz.prog 103 = { kind:=1,size:=1,bytes:=24,elem:=121,len:=0,zero:=some [.slice none 0 0],aL:=[] }:=by kernel_rfl
def Xt:ty Tryz.prog 104 = { kind:=3,size:=4,bytes:=48,elem:=0,len:=0,zero:=some [.int .i64 0,.slice none 0 0,.int .i64 0,.int .i64 0],aL:=[(0,3,1),(1,103,1),(2,3,1),(3,3,1)] }:=by kernel_rfl
def XA:ty Tryz.prog 105 = { kind:=3,size:=4,bytes:=48,elem:=0,len:=0,zero:=some [.int .i64 0,.slice none 0 0,.int .i64 0,.int .i64 0],aL:=[(0,3,1),(1,103,1),(2,3,1),(3,3,1)] }:=by kernel_rfl
def XB:ty Tryz.prog 107 = { kind:=1,size:=1,bytes:=24,elem:=150,len:=0,zero:=some [.slice none 0 0],aL:=[] }:=by kernel_rfl
def XC:ty Tryz.prog 108 = { kind:=3,size:=5,bytes:=104,elem:=0,len:=0,zero:=some [.int .i64 0,.slice none 0 0,.slice none 0 0,.slice none 0 0,.slice none 0 0],aL:=[(0,3,1),(1,22,1),(2,38,1),(3,22,1),(4,107,1)] }:=by kernel_rfl
def XD:ty Tryz.prog 109 = { kind:=3,size:=5,bytes:=104,elem:=0,len:=0,zero:=some [.int .i64 0,.slice none 0 0,.slice none 0 0,.slice none 0 0,.slice none 0 0],aL:=[(0,3,1),(1,22,1),(2,38,1),(3,22,1),(4,107,1)] }:=by kernel_rfl
def XE:ty Tryz.prog 110 = { kind:=1,size:=1,bytes:=24,elem:=149,len:=0,zero:=some [.slice none 0 0],aL:=[] }:=by kernel_rfl
def XF:ty Tryz.prog 116 = { kind:=8,size:=1,bytes:=8,elem:=4,len:=0,zero:=some [.map none],aL:=[] }:=by kernel_rfl
def XG:ty Tryz.prog 119 = { kind:=7,size:=1,bytes:=8,elem:=53,len:=0,zero:=some [.pointer none],aL:=[] }:=by kernel_rfl
def XH:ty Tryz.prog 120 = { kind:=3,size:=3,bytes:=24,elem:=0,len:=0,zero:=some [.int .i64 0,.int .i64 0,.int .i64 0],aL:=[(0,3,1),(1,3,1),(2,3,1)] }:=by kernel_rfl
def XI:ty Tryz.prog 121 = { kind:=3,size:=3,bytes:=24,elem:=0,len:=0,zero:=some [.int .i64 0,.int .i64 0,.int .i64 0],aL:=[(0,3,1),(1,3,1),(2,3,1)] }:=by kernel_rfl
def XJ:ty Tryz.prog 126 = { kind:=3,size:=2,bytes:=32,elem:=0,len:=0,zero:=some [.int .i64 0,.slice none 0 0],aL:=[(0,3,1),(1,23,1)] }:=by kernel_rfl
def XK:ty Tryz.prog 127 = { kind:=3,size:=2,bytes:=32,elem:=0,len:=0,zero:=some [.int .i64 0,.slice none 0 0],aL:=[(0,3,1),(1,23,1)] }:=by kernel_rfl
def XL:ty Tryz.prog 130 = { kind:=8,size:=1,bytes:=8,elem:=3,len:=0,zero:=some [.map none],aL:=[] }:=by kernel_rfl
def XM:ty Tryz.prog 131 = { kind:=3,size:=8,bytes:=160,elem:=0,len:=0,zero:=some [.slice none 0 0,.slice none 0 0,.slice none 0 0,.int .i64 0,.slice none 0 0,.slice none 0 0,.slice none 0 0,.map none],aL:=[(0,32,4),(4,23,1),(5,65,1),(6,65,1),(7,130,1)] }:=by kernel_rfl
def XN:ty Tryz.prog 132 = { kind:=3,size:=8,bytes:=160,elem:=0,len:=0,zero:=some [.slice none 0 0,.slice none 0 0,.slice none 0 0,.int .i64 0,.slice none 0 0,.slice none 0 0,.slice none 0 0,.map none],aL:=[(0,32,4),(4,23,1),(5,65,1),(6,65,1),(7,130,1)] }:=by kernel_rfl
def XO:ty Tryz.prog 136 = { kind:=3,size:=3,bytes:=24,elem:=0,len:=0,zero:=some [.int .i64 0,.int .i64 0,.int .i64 0],aL:=[(0,3,1),(1,3,1),(2,3,1)] }:=by kernel_rfl
def XP:ty Tryz.prog 137 = { kind:=3,size:=3,bytes:=24,elem:=0,len:=0,zero:=some [.int .i64 0,.int .i64 0,.int .i64 0],aL:=[(0,3,1),(1,3,1),(2,3,1)] }:=by kernel_rfl
def XQ:ty Tryz.prog 141 = { kind:=7,size:=1,bytes:=8,elem:=179,len:=0,zero:=some [.pointer none],aL:=[] }:=by kernel_rfl
def XR:ty Tryz.prog 148 = { kind:=3,size:=2,bytes:=16,elem:=0,len:=0,zero:=some [.int .i64 0,.int .i64 0],aL:=[(0,3,1),(1,3,1)] }:=by kernel_rfl
def XS:ty Tryz.prog 149 = { kind:=3,size:=2,bytes:=16,elem:=0,len:=0,zero:=some [.int .i64 0,.int .i64 0],aL:=[(0,3,1),(1,3,1)] }:=by kernel_rfl
def XT:ty Tryz.prog 150 = { kind:=1,size:=1,bytes:=24,elem:=152,len:=0,zero:=some [.slice none 0 0],aL:=[] }:=by kernel_rfl
def XU:ty Tryz.prog 151 = { kind:=3,size:=2,bytes:=16,elem:=0,len:=0,zero:=some [.int .i64 0,.int .i64 0],aL:=[(0,3,1),(1,3,1)] }:=by kernel_rfl
def XV:ty Tryz.prog 152 = { kind:=3,size:=2,bytes:=16,elem:=0,len:=0,zero:=some [.int .i64 0,.int .i64 0],aL:=[(0,3,1),(1,3,1)] }:=by kernel_rfl
def XW:ty Tryz.prog 162 = { kind:=3,size:=3,bytes:=56,elem:=0,len:=0,zero:=some [.int .i64 0,.slice none 0 0,.slice none 0 0],aL:=[(0,127,2),(2,22,1)] }:=by kernel_rfl
def XX:ty Tryz.prog 163 = { kind:=3,size:=3,bytes:=56,elem:=0,len:=0,zero:=some [.int .i64 0,.slice none 0 0,.slice none 0 0],aL:=[(0,127,2),(2,22,1)] }:=by kernel_rfl
def XZ:ty Tryz.prog 164 = { kind:=1,size:=1,bytes:=24,elem:=163,len:=0,zero:=some [.slice none 0 0],aL:=[] }:=by kernel_rfl
def X1:ty Tryz.prog 174 = { kind:=5,size:=1,bytes:=8,elem:=0,len:=0,zero:=some [.int .u64 0],aL:=[] }:=by kernel_rfl
def X6:ty Tryz.prog 177 = { kind:=1,size:=1,bytes:=24,elem:=180,len:=0,zero:=some [.slice none 0 0],aL:=[] }:=by kernel_rfl
def X7:ty Tryz.prog 178 = { kind:=3,size:=6,bytes:=128,elem:=0,len:=0,zero:=some [.slice none 0 0,.slice none 0 0,.slice none 0 0,.int .i64 0,.slice none 0 0,.slice none 0 0],aL:=[(0,32,4),(4,177,1),(5,177,1)] }:=by kernel_rfl
def X8:ty Tryz.prog 179 = { kind:=3,size:=6,bytes:=128,elem:=0,len:=0,zero:=some [.slice none 0 0,.slice none 0 0,.slice none 0 0,.int .i64 0,.slice none 0 0,.slice none 0 0],aL:=[(0,32,4),(4,177,1),(5,177,1)] }:=by kernel_rfl
def X9:ty Tryz.prog 180 = { kind:=1,size:=1,bytes:=24,elem:=182,len:=0,zero:=some [.slice none 0 0],aL:=[] }:=by kernel_rfl
def X':ty Tryz.prog 181 = { kind:=3,size:=2,bytes:=16,elem:=0,len:=0,zero:=some [.int .i64 0,.bool false],aL:=[(0,3,1),(1,4,1)] }:=by kernel_rfl
def Ya:ty Tryz.prog 182 = { kind:=3,size:=2,bytes:=16,elem:=0,len:=0,zero:=some [.int .i64 0,.bool false],aL:=[(0,3,1),(1,4,1)] }:=by kernel_rfl
def Yb:ty Tryz.prog 200 = { kind:=5,size:=1,bytes:=8,elem:=0,len:=0,zero:=some [.int .i64 0],aL:=[] }:=by kernel_rfl
def Yc:ty Tryz.prog 207 = { kind:=5,size:=1,bytes:=4,elem:=0,len:=0,zero:=some [.int .u32 0],aL:=[] }:=by kernel_rfl
def Yd:ty Tryz.prog 209 = { kind:=5,size:=1,bytes:=8,elem:=0,len:=0,zero:=some [.int .u64 0],aL:=[] }:=by kernel_rfl
def Ye:ty Tryz.prog 210 = { kind:=7,size:=1,bytes:=8,elem:=182,len:=0,zero:=some [.pointer none],aL:=[] }:=by kernel_rfl
def Yf:ty Tryz.prog 211 = { kind:=8,size:=1,bytes:=8,elem:=212,len:=0,zero:=some [.map none],aL:=[] }:=by kernel_rfl
def Yg:ty Tryz.prog 212 = { kind:=8,size:=1,bytes:=8,elem:=3,len:=0,zero:=some [.map none],aL:=[] }:=by kernel_rfl
def Yh:ty Tryz.prog 222 = { kind:=5,size:=1,bytes:=8,elem:=0,len:=0,zero:=some [.int .u64 0],aL:=[] }:=by kernel_rfl
def Yi:ty Tryz.prog 226 = { kind:=7,size:=1,bytes:=8,elem:=3,len:=0,zero:=some [.pointer none],aL:=[] }:=by kernel_rfl
def Yj:ty Tryz.prog 229 = { kind:=7,size:=1,bytes:=8,elem:=222,len:=0,zero:=some [.pointer none],aL:=[] }:=by kernel_rfl
def Yk:ty Tryz.prog 233 = { kind:=3,size:=4,bytes:=40,elem:=0,len:=0,zero:=some [.pointer none,.pointer none,.pointer none,.string ⟨#[]⟩],aL:=[(0,17,1),(1,17,1),(2,17,1),(3,9,1)] }:=by kernel_rfl
def Yl:ty Tryz.prog 234 = { kind:=3,size:=4,bytes:=40,elem:=0,len:=0,zero:=some [.pointer none,.pointer none,.pointer none,.string ⟨#[]⟩],aL:=[(0,17,1),(1,17,1),(2,17,1),(3,9,1)] }:=by kernel_rfl
def Ym:ty Tryz.prog 235 = { kind:=2,size:=0,bytes:=0,elem:=16,len:=0,zero:=some [],aL:=[] }:=by kernel_rfl
def Yn:ty Tryz.prog 236 = { kind:=3,size:=0,bytes:=0,elem:=0,len:=0,zero:=some [],aL:=[(0,235,0)] }:=by kernel_rfl
def Yo:ty Tryz.prog 237 = { kind:=3,size:=0,bytes:=0,elem:=0,len:=0,zero:=some [],aL:=[(0,235,0)] }:=by kernel_rfl
def Yp:ty Tryz.prog 238 = { kind:=5,size:=1,bytes:=1,elem:=0,len:=0,zero:=some [.int .u8 0],aL:=[] }:=by kernel_rfl
def Yq:ty Tryz.prog 239 = { kind:=5,size:=1,bytes:=1,elem:=0,len:=0,zero:=some [.int .u8 0],aL:=[] }:=by kernel_rfl
def Yr:ty Tryz.prog 241 = { kind:=7,size:=1,bytes:=8,elem:=5,len:=0,zero:=some [.pointer none],aL:=[] }:=by kernel_rfl
def Ys:ty Tryz.prog 242 = { kind:=5,size:=1,bytes:=4,elem:=0,len:=0,zero:=some [.int .i32 0],aL:=[] }:=by kernel_rfl
def Yt:ty Tryz.prog 243 = { kind:=5,size:=1,bytes:=4,elem:=0,len:=0,zero:=some [.int .i32 0],aL:=[] }:=by kernel_rfl
def Yu:ty Tryz.prog 244 = { kind:=3,size:=11,bytes:=48,elem:=0,len:=0,zero:=some [.int .u64 0,.int .u64 0,.int .u32 0,.int .u8 0,.int .u8 0,.int .u8 0,.int .u8 0,.nilFunc,.pointer none,.int .i32 0,.int .i32 0],aL:=[(0,12,1),(1,12,1),(2,207,1),(3,238,1),(4,5,1),(5,5,1),(6,239,1),(7,240,1),(8,241,1),(9,242,1),(10,243,1)] }:=by kernel_rfl
def Yv:ty Tryz.prog 245 = { kind:=3,size:=11,bytes:=48,elem:=0,len:=0,zero:=some [.int .u64 0,.int .u64 0,.int .u32 0,.int .u8 0,.int .u8 0,.int .u8 0,.int .u8 0,.nilFunc,.pointer none,.int .i32 0,.int .i32 0],aL:=[(0,12,1),(1,12,1),(2,207,1),(3,238,1),(4,5,1),(5,5,1),(6,239,1),(7,240,1),(8,241,1),(9,242,1),(10,243,1)] }:=by kernel_rfl
def Yw:Tryz.prog.underlying 2=some (.int .i64):=by kernel_rfl
def Yx:Tryz.prog.underlying 3=some (.int .i64):=by kernel_rfl
def Yy:Tryz.prog.underlying 5=some (.int .u8):=by kernel_rfl
def Yz:Tryz.prog.underlying 6=some (.int .u8):=by kernel_rfl
def YA:Tryz.prog.underlying 12=some (.int .u64):=by kernel_rfl
def YB:Tryz.prog.underlying 21=some (.int .i32):=by kernel_rfl
def YC:Tryz.prog.underlying 39=some (.int .i64):=by kernel_rfl
def YD:Tryz.prog.underlying 174=some (.int .u64):=by kernel_rfl
def YE:Tryz.prog.underlying 200=some (.int .i64):=by kernel_rfl
def YF:Tryz.prog.underlying 207=some (.int .u32):=by kernel_rfl
def YG:Tryz.prog.underlying 209=some (.int .u64):=by kernel_rfl
def YH:Tryz.prog.underlying 222=some (.int .u64):=by kernel_rfl
def YI:Tryz.prog.underlying 238=some (.int .u8):=by kernel_rfl
def YJ:Tryz.prog.underlying 239=some (.int .u8):=by kernel_rfl
def YK:Tryz.prog.underlying 242=some (.int .i32):=by kernel_rfl
def YL:Tryz.prog.underlying 243=some (.int .i32):=by kernel_rfl
def YM:zeroV Tryz.prog 4=some (.bool false):=by kernel_rfl
def YN:zg Tryz.prog 116=0:=by kernel_rfl
def YO:jb Tryz.prog 116 0:=jb.int (kt:=3) (et:=4) (by kernel_rfl) (by kernel_rfl)
def YP:zeroV Tryz.prog 3=some (.int .i64 0):=by kernel_rfl
def YQ:zg Tryz.prog 130=3:=by kernel_rfl
def YR:jb Tryz.prog 130 3:=jb.ahR (kt:=137) (et:=3) (by kernel_rfl) (by kernel_rfl) IP (by kernel_rfl)
def YS:zeroV Tryz.prog 212=some (.map none):=by kernel_rfl
def YT:zg Tryz.prog 211=0:=by kernel_rfl
def YU:jb Tryz.prog 211 0:=jb.int (kt:=3) (et:=212) (by kernel_rfl) (by kernel_rfl)
def YV:zg Tryz.prog 212=0:=by kernel_rfl
def YW:jb Tryz.prog 212 0:=jb.int (kt:=3) (et:=3) (by kernel_rfl) (by kernel_rfl)
def YX:zh Tryz.prog 9=false:=by kernel_rfl
def YY:Tryz.prog.underlying 9=some .string:=by kernel_rfl
def uQ:type_of% V9/\type_of% V'/\type_of% Wa/\type_of% Wd/\type_of% We/\type_of% Wf/\type_of% Wg/\type_of% Wh/\type_of% Wi/\type_of% Wj/\type_of% Wl/\type_of% Wm/\type_of% Wn/\type_of% Wo/\type_of% Wp/\type_of% Wq/\type_of% Wr/\type_of% Ws/\type_of% Wt/\type_of% Wu/\type_of% Wv/\type_of% Ww/\type_of% Wx/\type_of% Wy/\type_of% WC/\type_of% WD/\type_of% WE/\type_of% WG/\type_of% WH/\type_of% WI/\type_of% WJ/\type_of% WK/\type_of% WL/\type_of% WN/\type_of% WO/\type_of% WQ/\type_of% WR/\type_of% WT/\type_of% WU/\type_of% WV/\type_of% WW/\type_of% WX/\type_of% WY/\type_of% WZ/\type_of% W2/\type_of% W3/\type_of% W4/\type_of% W5/\type_of% W6/\type_of% W7/\type_of% W8/\type_of% W9/\type_of% Xa/\type_of% Xf/\type_of% Xj/\type_of% Xm/\type_of% Xp/\type_of% Xt/\type_of% XA/\type_of% XB/\type_of% XC/\type_of% XD/\type_of% XE/\type_of% XF/\type_of% XG/\type_of% XH/\type_of% XI/\type_of% XJ/\type_of% XK/\type_of% XL/\type_of% XM/\type_of% XN/\type_of% XO/\type_of% XP/\type_of% XQ/\type_of% XR/\type_of% XS/\type_of% XT/\type_of% XU/\type_of% XV/\type_of% XW/\type_of% XX/\type_of% XZ/\type_of% X1/\type_of% X6/\type_of% X7/\type_of% X8/\type_of% X9/\type_of% X'/\type_of% Ya/\type_of% Yb/\type_of% Yc/\type_of% Yd/\type_of% Ye/\type_of% Yf/\type_of% Yg/\type_of% Yh/\type_of% Yi/\type_of% Yj/\type_of% Yk/\type_of% Yl/\type_of% Ym/\type_of% Yn/\type_of% Yo/\type_of% Yp/\type_of% Yq/\type_of% Yr/\type_of% Ys/\type_of% Yt/\type_of% Yu/\type_of% Yv/\type_of% Yw/\type_of% Yx/\type_of% Yy/\type_of% Yz/\type_of% YA/\type_of% YB/\type_of% YC/\type_of% YD/\type_of% YE/\type_of% YF/\type_of% YG/\type_of% YH/\type_of% YI/\type_of% YJ/\type_of% YK/\type_of% YL/\type_of% YM/\type_of% YN/\type_of% YO/\type_of% YP/\type_of% YQ/\type_of% YR/\type_of% YS/\type_of% YT/\type_of% YU/\type_of% YV/\type_of% YW/\type_of% YX/\type_of% YY :=
 ⟨V9,V',Wa,Wd,We,Wf,Wg,Wh,Wi,Wj,Wl,Wm,Wn,Wo,Wp,Wq,Wr,Ws,Wt,Wu,Wv,Ww,Wx,Wy,WC,WD,WE,WG,WH,WI,WJ,WK,WL,WN,WO,WQ,WR,WT,WU,WV,WW,WX,WY,WZ,W2,W3,W4,W5,W6,W7,W8,W9,Xa,Xf,Xj,Xm,Xp,Xt,XA,XB,XC,XD,XE,XF,XG,XH,XI,XJ,XK,XL,XM,XN,XO,XP,XQ,XR,XS,XT,XU,XV,XW,XX,XZ,X1,X6,X7,X8,X9,X',Ya,Yb,Yc,Yd,Ye,Yf,Yg,Yh,Yi,Yj,Yk,Yl,Ym,Yn,Yo,Yp,Yq,Yr,Ys,Yt,Yu,Yv,Yw,Yx,Yy,Yz,YA,YB,YC,YD,YE,YF,YG,YH,YI,YJ,YK,YL,YM,YN,YO,YP,YQ,YR,YS,YT,YU,YV,YW,YX,YY⟩
def Ac:=Ot @uQ @Bc @Sc @Rc
def Kc:=Ot @sF @Lc @uQ @Rc
def Oc:=aag @pd.eq_1 @pd.eq_2 @or_true @false_or @Bc @Sc @Rc
def Hr:=aah @sJ.eq_1 @sJ.eq_2 @Bc @Rc @sF @Lc @uQ (Oo @and_true @CK @E4)
def Tc:=aah @Has.eq_1 @Has.eq_2 @bL.{0} @cX.{0} @kx.{0} @fc @sF (aad @Lc @uQ @Rc @and_true @CK @E4)
def Qc:=aah @Bi.eq_1 @Bi.eq_2 @gm.eq_1 @gm.eq_2 @gm.eq_3 @fW.eq_1 @RR (aad @RS @kx.{0} @sF @Lc @uQ @Rc)
inductive Sq(P:Program)(N n0:Nat)(y:Code)(Q:Exit->St->Prop):Exit->St->Prop
 |n (s:St) (h:W P N n0 y Q s):Sq P N n0 y Q .normal s
 |e (e:Exit) (s:St) (hi:uq e=false) (h:Q e s):Sq P N n0 y Q e s
inductive Bq(id:Nat)(Q:Exit->St->Prop):Exit->St->Prop
 |n (s:St) (h:Q .normal s):Bq id Q .normal s
 |x (s:St) (h:Q .normal s):Bq id Q (.exit id) s
 |e (e:Exit) (s:St) (hi:zR id e=false) (h:Q e s):Bq id Q e s
section
variable {P:Program} {N n0:Nat} {σ:St} {Q:Exit->St->Prop}
def Xk{x y:Code}(h:W P N n0 x (Sq P N n0 y Q) σ):W P N n0 (.seq x y) Q σ:=Wk λ_ h1 h2=>Qv h λ_ _ h=>by
 cases h with
 |n _ h=>exact h1 _ h
 |e _ _ hi h=>exact h2 _ _ hi h
def Xb{id:Nat}{c:Code}(h:W P N n0 c (Bq id Q) σ):W P N n0 (.block id c) Q σ:=Wb λ_ h1 h2 h3=>Qv h λ_ _ h=>by
 cases h with
 |n _ h=>exact h1 _ h
 |x _ h=>exact h2 _ h
 |e _ _ hi h=>exact h3 _ _ hi h
def hn{y:Code}(s:St)(h:W P N n0 y Q s):Sq P N n0 y Q .normal s:=.n s h
def he{y:Code}(e:Exit)(s:St)(hi:uq e=false)(h:Q e s):Sq P N n0 y Q e s:=.e e s hi h
def dJ{id:Nat}(s:St)(h:Q .normal s):Bq id Q .normal s:=.n s h
def eK{id:Nat}(s:St)(h:Q .normal s):Bq id Q (.exit id) s:=.x s h
def e8{id:Nat}(e:Exit)(s:St)(hi:zR id e=false)(h:Q e s):Bq id Q e s:=.e e s hi h
def uM{x y:Code}(h:∀ Q':Exit->St->Prop,(∀ s,W P N n0 y Q s->Q' .normal s)->(∀ e s,uq e=false->Q e s->Q' e s)->W P N n0 x Q' σ):W P N n0 x (Sq P N n0 y Q) σ:=h _ .n .e
def am2{x y z:Code}(h:∀ Q':Exit->St->Prop,(∀ s,W P N n0 y Q s->Q' .normal s)->(∀ e s,uq e=false->Q e s->Q' e s)->W P N n0 x (Sq P N n0 z Q') σ):W P N n0 x (Sq P N n0 z (Sq P N n0 y Q)) σ:=h _ .n .e
def agx{x y z:Code}{id:Nat}(h:∀ Q':Exit->St->Prop,(∀ s,W P N n0 y Q s->Q' .normal s)->(∀ e s,uq e=false->Q e s->Q' e s)->W P N n0 x (Sq P N n0 z (Bq id Q')) σ):W P N n0 x (Sq P N n0 z (Bq id (Sq P N n0 y Q))) σ:=h _ .n .e
end
def X0:True:=trivial
def X2{a b:Prop}(x:a)(y:b):a/\b:=⟨x,y⟩
def X3{a b c:Prop}(x:a)(y:b)(z:c):a/\b/\c:=⟨x,y,z⟩
def X4{a b c d:Prop}(x:a)(y:b)(z:c)(u:d):a/\b/\c/\d:=⟨x,y,z,u⟩
def X5{a b c d e:Prop}(x:a)(y:b)(z:c)(u:d)(v:e):a/\b/\c/\d/\e:=⟨x,y,z,u,v⟩
theorem Xr{p q e:Prop}(x:e)(h:q)(k:e->q->p:=by first|(intro hx hq;(first|refine rr ?_|refine rI ?_);intro K hK;simp(disch:=omega)only[Ac,↓Pc,simprocAttr,hx];revert hK;revert K;exact hq)|fail):p:=k x h
theorem Xq{p q e:Prop}(x:e)(h:q)(k:e->q->p:=by first|(intro hx hq;(first|refine rr ?_|refine rI ?_|refine rb ?_|refine Dt ?_|refine ra ?_|refine Du ?_);intro K hK;simp(disch:=omega)only[Ac,↓Pc,simprocAttr,hx];revert hK;revert K;exact hq)|fail):p:=k x h
theorem Xo{p q e:Prop}(x:e)(h:q)(k:e->q->p:=by first|(intro hx hq;with_reducible refine gO ?_;simp(disch:=omega)only[Ac,↓Pc,simprocAttr,hx];exact hq)|fail):p:=k x h
theorem Xc{p q t:Prop}(c:t)(h:q)(k:t->q->p:=by first|(intro hc hq;(first|refine bX hc rfl rfl ?_|refine cm hc rfl rfl ?_);exact hq)|fail):p:=k c h
theorem Xg{p q r e:Prop}(x:e)(h:q)(h2:r)(k:e->q->r->p/\True:=by first|(intro hx hq hr;refine And.intro ?_ ?_;(with_reducible refine gS (fun aY=>?_) (fun aY=>?_));(focus (have hb:=aY;(try simp only[gI,simprocAttr]at hb);all_goals(simp(disch:=omega)only[Ac,↓Pc,simprocAttr,hx,aY]);all_goals(clear aY;revert hb;exact hq)));(focus (have hb:=aY;(try simp only[gI,simprocAttr]at hb);all_goals(simp(disch:=omega)only[Ac,↓Pc,simprocAttr,hx,aY]);all_goals(clear aY;revert hb;exact hr)));((try have _:True:=hq);(try have _:True:=hr);trivial))|fail):p:=(k x h h2).1
theorem Xi{p q r:Prop}(h:q)(h2:r)(k:q->r->p/\True:=by first|(intro hq hr;refine And.intro ?_ ?_;refine Wc ?_ ?_;(focus (intro ht;(try simp only[gI,simprocAttr]at ht);all_goals(revert ht;exact hq)));(focus (intro ht;(try simp only[gI,simprocAttr]at ht);all_goals(revert ht;exact hr)));((try have _:True:=hq);(try have _:True:=hr);trivial))|fail):p:=(k h h2).1
theorem Xz{p q:Prop}(h:q)(k:q->p:=by first|(intro hq;(first|refine Wz rfl ?_|refine Xk ?_|refine Xb ?_|refine Sq.n _ ?_|refine Sq.e _ _ rfl ?_|refine Bq.n _ ?_|refine Bq.x _ ?_|refine Bq.e _ _ rfl ?_|refine hn _ ?_|refine he _ _ rfl ?_);(repeat(first|refine Wz rfl ?_|refine Xk ?_|refine Xb ?_|refine Sq.n _ ?_|refine Sq.e _ _ rfl ?_|refine Bq.n _ ?_|refine Bq.x _ ?_|refine Bq.e _ _ rfl ?_|refine hn _ ?_|refine he _ _ rfl ?_));exact hq)|fail):p:=k h
theorem Xh{p q:Prop}(h:q)(k:q->p:=by first|(intro hq;(first|refine au _ _ rfl ?_|refine bQ _ _ rfl ?_|refine gD _ _ rfl ?_|refine tB _ _ rfl ?_);exact hq)|fail):p:=k h
theorem Xu{p q:Prop}(h:q)(k:q->p:=by first|(intro hq;(first|refine Sq.n _ ?_|refine Sq.e _ _ rfl ?_|refine Bq.n _ ?_|refine Bq.x _ ?_|refine Bq.e _ _ rfl ?_|refine hn _ ?_|refine he _ _ rfl ?_|refine au _ _ rfl ?_|refine bQ _ _ rfl ?_|refine gD _ _ rfl ?_|refine tB _ _ rfl ?_);exact hq)|fail):p:=k h
theorem Xe{p q:Prop}(h:q)(k:q->p:=by first|(intro hq;simp only[Qc,Kc,simprocAttr];exact hq)|fail):p:=k h
theorem Xy{p q:Prop}(h:q)(k:q->p:=by first|(intro hq;refine Xz ?_;exact hq)|(intro hq;refine Xe ?_;exact hq)|fail):p:=k h
theorem XY{p q:Prop}(h:q)(k:q->p:=by first|(intro hq;refine Xz ?_;exact hq)|(intro hq;refine Xh ?_;exact hq)|(intro hq;refine Xe ?_;exact hq)|fail):p:=k h
theorem Xx{p:Prop}(h:p:=by first|omega|with_reducible rfl|exact trivial|fail):p:=h
theorem Xl{n0:Nat}{e:Nat->AV}{os:List Ob}{v res:AV}{ba:List Ob}(ho:os=ba)(h:v=res)(hl:n0<=ba.length:=by(simp only[List.length_cons,List.length_nil];omega)):nD n0 ⟨e,os⟩ v res ba:=dX ho hl h
theorem Xd{p q r:Prop}(h:q)(h2:r)(k:q->r->p:=by first|(intro hq hr;with_reducible refine And.intro ?_ ?_;exact hq;exact hr)|fail):p:=k h h2
theorem Xv{n0:Nat}{σ S:St}{e:Prop}(x:e)(k:e->aF n0 σ S:=by first|(intro hx;refine aF.ao _ _ rfl ?_;simp only[Tc,↓reduceIte,Nat.reduceEqDiff,Nat.reduceBEq,Nat.reduceAdd,hx];(try trivial);done)|fail):aF n0 σ S:=k x
theorem Xs{n0:Nat}{σ:St}{l:List (Nat×AV)}{co:List Ob}{e:Prop}(snap:Bool)(aj:List Nat)(x:e)(h1:e->pd (bC σ.aa.length aj) σ.aa aj co:=by(intro hx;simp only[Oc,simprocAttr,hx]))(h2:e->sJ (bT σ (kept aj co) (bC σ.aa.length aj) snap) σ.env l:=by(intro hx;simp only[Hr,↓reduceIte,Nat.reduceEqDiff,Nat.reduceBEq,Nat.reduceAdd,hx];(try(and_intros<;>first|exact .pure rfl|exact .eq rfl|exact .fz rfl (by simp only[Bc,Rc])))))(bx:aj.Nodup:=by decide)(hn:n0<=aj.length:=by decide)(b9:∀ i,i<n0->aj.getD i 0=i:=by decide):aF n0 σ ⟨ao l,co⟩:=aF.se aj snap (h1 x) (h2 x) bx hn b9
theorem Xw{n0:Nat}{σ:St}{v res:AV}{ba:List Ob}{e:Prop}(snap:Bool)(aj:List Nat)(x:e)(h1:e->pd (bC σ.aa.length aj) σ.aa aj ba:=by(intro hx;simp only[Oc,simprocAttr,hx]))(h2:bT σ (kept aj ba) (bC σ.aa.length aj) snap res v:=by first|exact .pure rfl|exact .eq rfl|exact .fz rfl (by simp only[Bc,Rc]))(bx:aj.Nodup:=by decide)(hn:n0<=aj.length:=by decide)(b9:∀ i,i<n0->aj.getD i 0=i:=by decide):nD n0 σ v res ba:=aeB aj snap (h1 x) h2 bx hn b9
theorem Xn(aj:List Nat){P:Program}{σ:St}{f:FuncId}{args eN:List AV}{bU:List Ob}{dst:Option Tmp}{K:St->Prop}{res:AV}{cV:List Ob}(h:Holds P f eN bU res cV)(hK:K (({ σ with aa:=gf σ.aa aj (cV.map (bM (bC σ.aa.length aj))) }:St).put dst (bj (bC σ.aa.length aj) res)))(bx:aj.Nodup:=by decide)(ho:xS (bC σ.aa.length aj) σ.aa aj bU:=by((repeat'(first|exact trivial|with_reducible refine And.intro ?_ ?_|refine And.intro ?_ ?_))<;>first|rfl|(rw[Fa];rfl)|(rw[A6];rfl)|(rw[mW];rfl)|(rw[I9];rfl)))(ha:mf (bT σ (·∈aj) (bC σ.aa.length aj) false) eN args:=by((repeat'(first|exact trivial|refine And.intro ?_ ?_))<;>(first|exact .pure rfl|exact .eq rfl|exact .fz rfl (by simp only[Bc,Rc])))):tX P f args dst K σ:=jc aj h bx ho ha hK
def Pw:=aad @ql @mM @lF @lG @cj.eq_1 @dY.eq_1
theorem Va{p q e:Prop}(x:e)(h:q)(k:e->q->p:=by first|(intro hx hq;(try with_reducible intro K hK);(first|((first|refine rr ?_|refine rI ?_);intro K hK;simp(disch:=omega)only[Ac,↓Pc,simprocAttr,hx];show _)|(with_reducible refine gO ?_;simp(disch:=omega)only[Ac,↓Pc,simprocAttr,hx];show _)|(refine hK _ ?_;clear hK K)|refine Wz rfl ?_|refine Xk ?_|refine Xb ?_|refine Sq.n _ ?_|refine Sq.e _ _ rfl ?_|refine Bq.n _ ?_|refine Bq.x _ ?_|refine Bq.e _ _ rfl ?_|refine hn _ ?_|refine he _ _ rfl ?_|(simp only[Qc,Kc,simprocAttr];show _)|(with_reducible refine And.intro ?_ ?_;(focus (clear hq;first|omega|with_reducible rfl|exact trivial))));(repeat(first|((first|refine rr ?_|refine rI ?_);intro K hK;simp(disch:=omega)only[Ac,↓Pc,simprocAttr,hx];show _)|(with_reducible refine gO ?_;simp(disch:=omega)only[Ac,↓Pc,simprocAttr,hx];show _)|(refine hK _ ?_;clear hK K)|refine Wz rfl ?_|refine Xk ?_|refine Xb ?_|refine Sq.n _ ?_|refine Sq.e _ _ rfl ?_|refine Bq.n _ ?_|refine Bq.x _ ?_|refine Bq.e _ _ rfl ?_|refine hn _ ?_|refine he _ _ rfl ?_|(simp only[Qc,Kc,simprocAttr];show _)|(with_reducible refine And.intro ?_ ?_;(focus (clear hq;first|omega|with_reducible rfl|exact trivial)))));(try revert hK);(try revert K);exact hq)|fail):p:=k x h
theorem Vb{p q e:Prop}(x:e)(h:q)(k:e->q->p:=by first|(intro hx hq;(try with_reducible intro K hK);(first|((first|refine rr ?_|refine rI ?_);intro K hK;simp(disch:=omega)only[Ac,↓Pc,simprocAttr,hx];show _)|(with_reducible refine gO ?_;simp(disch:=omega)only[Ac,↓Pc,simprocAttr,hx];show _)|(refine hK _ ?_;clear hK K)|refine Wz rfl ?_|refine Xk ?_|refine Xb ?_|refine Sq.n _ ?_|refine Sq.e _ _ rfl ?_|refine Bq.n _ ?_|refine Bq.x _ ?_|refine Bq.e _ _ rfl ?_|refine hn _ ?_|refine he _ _ rfl ?_|refine au _ _ rfl ?_|refine bQ _ _ rfl ?_|refine gD _ _ rfl ?_|refine tB _ _ rfl ?_|(simp only[Qc,Kc,simprocAttr];show _)|(with_reducible refine And.intro ?_ ?_;(focus (clear hq;first|omega|with_reducible rfl|exact trivial))));(repeat(first|((first|refine rr ?_|refine rI ?_);intro K hK;simp(disch:=omega)only[Ac,↓Pc,simprocAttr,hx];show _)|(with_reducible refine gO ?_;simp(disch:=omega)only[Ac,↓Pc,simprocAttr,hx];show _)|(refine hK _ ?_;clear hK K)|refine Wz rfl ?_|refine Xk ?_|refine Xb ?_|refine Sq.n _ ?_|refine Sq.e _ _ rfl ?_|refine Bq.n _ ?_|refine Bq.x _ ?_|refine Bq.e _ _ rfl ?_|refine hn _ ?_|refine he _ _ rfl ?_|refine au _ _ rfl ?_|refine bQ _ _ rfl ?_|refine gD _ _ rfl ?_|refine tB _ _ rfl ?_|(simp only[Qc,Kc,simprocAttr];show _)|(with_reducible refine And.intro ?_ ?_;(focus (clear hq;first|omega|with_reducible rfl|exact trivial)))));(try revert hK);(try revert K);exact hq)|fail):p:=k x h
theorem Vc{p q e t:Prop}(x:e)(c:t)(h:q)(k:e->t->q->p:=by first|(intro hx hc hq;(try with_reducible intro K hK);(first|((first|refine rr ?_|refine rI ?_|refine rb ?_|refine Dt ?_|refine ra ?_|refine Du ?_);intro K hK;simp(disch:=omega)only[Ac,↓Pc,simprocAttr,hx];show _)|(with_reducible refine gO ?_;simp(disch:=omega)only[Ac,↓Pc,simprocAttr,hx];show _)|(refine hK _ ?_;clear hK K)|refine Wz rfl ?_|refine Xk ?_|refine Xb ?_|refine Sq.n _ ?_|refine Sq.e _ _ rfl ?_|refine Bq.n _ ?_|refine Bq.x _ ?_|refine Bq.e _ _ rfl ?_|refine hn _ ?_|refine he _ _ rfl ?_|(simp only[Qc,Kc,simprocAttr];show _)|(with_reducible refine And.intro ?_ ?_;(focus (clear hq;first|omega|with_reducible rfl|exact trivial)))|(apply bX;(focus(repeat(first|exact hc|exact hc.1|have hc:=hc.2)));rfl;rfl)|(apply cm;(focus(repeat(first|exact hc|exact hc.1|have hc:=hc.2)));rfl;rfl));(repeat(first|((first|refine rr ?_|refine rI ?_|refine rb ?_|refine Dt ?_|refine ra ?_|refine Du ?_);intro K hK;simp(disch:=omega)only[Ac,↓Pc,simprocAttr,hx];show _)|(with_reducible refine gO ?_;simp(disch:=omega)only[Ac,↓Pc,simprocAttr,hx];show _)|(refine hK _ ?_;clear hK K)|refine Wz rfl ?_|refine Xk ?_|refine Xb ?_|refine Sq.n _ ?_|refine Sq.e _ _ rfl ?_|refine Bq.n _ ?_|refine Bq.x _ ?_|refine Bq.e _ _ rfl ?_|refine hn _ ?_|refine he _ _ rfl ?_|(simp only[Qc,Kc,simprocAttr];show _)|(with_reducible refine And.intro ?_ ?_;(focus (clear hq;first|omega|with_reducible rfl|exact trivial)))|(apply bX;(focus(repeat(first|exact hc|exact hc.1|have hc:=hc.2)));rfl;rfl)|(apply cm;(focus(repeat(first|exact hc|exact hc.1|have hc:=hc.2)));rfl;rfl)));(try revert hK);(try revert K);exact hq)|fail):p:=k x c h
theorem Vd{p q e t:Prop}(x:e)(c:t)(h:q)(k:e->t->q->p:=by first|(intro hx hc hq;(try with_reducible intro K hK);(first|((first|refine rr ?_|refine rI ?_|refine rb ?_|refine Dt ?_|refine ra ?_|refine Du ?_);intro K hK;simp(disch:=omega)only[Ac,↓Pc,simprocAttr,hx];show _)|(with_reducible refine gO ?_;simp(disch:=omega)only[Ac,↓Pc,simprocAttr,hx];show _)|(refine hK _ ?_;clear hK K)|refine Wz rfl ?_|refine Xk ?_|refine Xb ?_|refine Sq.n _ ?_|refine Sq.e _ _ rfl ?_|refine Bq.n _ ?_|refine Bq.x _ ?_|refine Bq.e _ _ rfl ?_|refine hn _ ?_|refine he _ _ rfl ?_|refine au _ _ rfl ?_|refine bQ _ _ rfl ?_|refine gD _ _ rfl ?_|refine tB _ _ rfl ?_|(simp only[Qc,Kc,simprocAttr];show _)|(with_reducible refine And.intro ?_ ?_;(focus (clear hq;first|omega|with_reducible rfl|exact trivial)))|(apply bX;(focus(repeat(first|exact hc|exact hc.1|have hc:=hc.2)));rfl;rfl)|(apply cm;(focus(repeat(first|exact hc|exact hc.1|have hc:=hc.2)));rfl;rfl));(repeat(first|((first|refine rr ?_|refine rI ?_|refine rb ?_|refine Dt ?_|refine ra ?_|refine Du ?_);intro K hK;simp(disch:=omega)only[Ac,↓Pc,simprocAttr,hx];show _)|(with_reducible refine gO ?_;simp(disch:=omega)only[Ac,↓Pc,simprocAttr,hx];show _)|(refine hK _ ?_;clear hK K)|refine Wz rfl ?_|refine Xk ?_|refine Xb ?_|refine Sq.n _ ?_|refine Sq.e _ _ rfl ?_|refine Bq.n _ ?_|refine Bq.x _ ?_|refine Bq.e _ _ rfl ?_|refine hn _ ?_|refine he _ _ rfl ?_|refine au _ _ rfl ?_|refine bQ _ _ rfl ?_|refine gD _ _ rfl ?_|refine tB _ _ rfl ?_|(simp only[Qc,Kc,simprocAttr];show _)|(with_reducible refine And.intro ?_ ?_;(focus (clear hq;first|omega|with_reducible rfl|exact trivial)))|(apply bX;(focus(repeat(first|exact hc|exact hc.1|have hc:=hc.2)));rfl;rfl)|(apply cm;(focus(repeat(first|exact hc|exact hc.1|have hc:=hc.2)));rfl;rfl)));(try revert hK);(try revert K);exact hq)|fail):p:=k x c h
theorem V2{p q r e:Prop}(x:e)(h:q)(h2:r)(k:e->q->r->p/\True:=by first|(intro hx hq hr;refine And.intro ?_ ?_;(try with_reducible intro K hK);(with_reducible refine gS (fun aY=>?_) (fun aY=>?_));(focus (have hb:=aY;(try simp only[gI,simprocAttr]at hb);all_goals(simp(disch:=omega)only[Ac,↓Pc,simprocAttr,hx,aY]);all_goals(clear aY;(try revert hK);(try revert K);revert hb;exact hq)));(focus (have hb:=aY;(try simp only[gI,simprocAttr]at hb);all_goals(simp(disch:=omega)only[Ac,↓Pc,simprocAttr,hx,aY]);all_goals(clear aY;(try revert hK);(try revert K);revert hb;exact hr)));((try have _:True:=hq);(try have _:True:=hr);trivial))|fail):p:=(k x h h2).1
theorem VD{p q r:Prop}(h:q)(h2:r)(k:q->r->p:=by first|(intro hq hr;(try with_reducible intro K hK);with_reducible refine And.intro ?_ ?_;(focus ((try clear hK K);(try revert hK);(try revert K);exact hq));(focus ((try clear hK K);(try revert hK);(try revert K);exact hr)))|fail):p:=k h h2
def ahS(n m:Int)(hm:fM m):Holds Tryz.prog 14 [Oi n,Oi m] [] (Oi (yB n m)) []:=by
 unfold fM at hm;refine Holds.aN 16 0 [.tmp 4] Tryz.func14 ?_;repeat'(first|(refine Xr X0 ?_;intro K hK)|(refine hK _ ?_;clear hK K)|(refine Xi ?_ ?_<;>try intro ht)|refine Xz ?_|(refine Xe ?_;first|refine aU rfl ?_|refine Xl ?_ ?_)|refine Xd ?_ ?_|exact Xx|fail)
 ·rw[yB,if_pos ht]
 ·have:=K7 n m AT;omega
 ·rw[yB,if_neg AT,(K7 n m AT).1 ht]
 ·rw[yB,if_neg AT,(K7 n m AT).2.1 ht]
def aea(xs:List Int):Holds Tryz.prog 8 [.tree 1 (ints xs)] [] (.lit (.bool (decide (xs.length<=400)))) []:=by
 refine Holds.aN 6 0 [.tmp 2] Tryz.func8 ?_;repeat'(first|(refine Xr X0 ?_;intro K hK)|(refine hK _ ?_;clear hK K)|refine Xz ?_|(refine Xe ?_;first|refine aU rfl ?_|refine Xl ?_ ?_)|fail)
 ·congr 3;simp;omega
def pC(L:List Int)(k:Nat)(n:Int)(hn:fM n)(hk:k<=L.length)(hL:L.length<1000000):Holds Tryz.prog 24 [.ptr 0 0 0,Oi n] [.var [.tree 1 (ints L),Oi k]] (Oi (iD L k n))
  [.var [.tree 1 (ints L),Oi (eZ L k)]]:=by
 refine Holds.aN 35 1 [.tmp 4] Tryz.func24 ?_;repeat'(first|(refine Xq X0 ?_;intro K hK)|refine Xo X0 ?_|refine Xc (ahS _ _ hn) ?_|(refine hK _ ?_;clear hK K)|(refine Xi ?_ ?_<;>try intro ht)|refine Xz ?_|(refine Xe ?_;first|refine aU rfl ?_|refine Xl ?_ ?_)|refine Xd ?_ ?_|exact Xx|fail)
 ·rw[eZ,if_pos AT]
 ·rw[iD,if_pos AT]
 ·rw[eZ,if_neg AT,CK];rfl
 ·rw[iD,if_neg AT,show((k:Int)+1-1).toNat=k by omega]
def Gt(L:List Int)(k:Nat)(n:Int)(hn:fM n)(kj:0<n)(hk:k<=L.length)(hL:L.length<1000000):Holds Tryz.prog 31 [.ptr 0 0 0,Oi n] [.var [.tree 1 (ints L),Oi k]] (.lit (.bool (Dz L k n)))
  [.var [.tree 1 (ints L),Oi (eZ L k)]]:=by
 refine Holds.aN 11 1 [.tmp 4] Tryz.func31 ?_;repeat'(first|(refine Xr X0 ?_;intro K hK)|(refine hK _ ?_;clear hK K)|fail)
 refine fi (pC L k n hn hk hL) IM ?_;unfold fM at hn;repeat'(first|refine Xo X0 ?_|(refine hK _ ?_;clear hK K)|refine Xz ?_|(refine Xe ?_;first|refine aU rfl ?_|refine Xl ?_ ?_)|refine Xd ?_ ?_|exact Xx|fail)
 ·rfl
def Ml(L:List Int)(k:Nat)(hk:k<=L.length)(hL:L.length<1000000):Holds Tryz.prog 68 [.ptr 0 0 0] [.var [.tree 1 (ints L),Oi k]] (Oi (pJ L k))
  [.var [.tree 1 (ints L),Oi (vD L k)]]:=by
 have h6:=qG (L:=L) (k:=k) (n:=6) AT;have h20:=qG (L:=L) (k:=eZ L k) (n:=20) AT;refine Holds.aN 14 1 [.tmp 2] Tryz.func68 ?_;repeat'(first|(refine Xr X0 ?_;intro K hK)|(refine hK _ ?_;clear hK K)|refine Xz ?_|fail)
 refine fi (pC L k 6 (by unfold fM;omega) hk hL) IM ?_;have c1:iD L k 6<=3->vD L k=eZ L k:=λh=>by rw[vD,if_pos h]
 have c2:iD L k 6<3->pJ L k=0:=λh=>by rw[pJ,if_pos h]
 have c3:iD L k 6=3->pJ L k=1099511627776:=λh=>by rw[pJ,if_neg AT,if_pos h]
 have c4:¬ iD L k 6<=3->vD L k=eZ L (eZ L k):=λh=>by rw[vD,if_neg h]
 have c5:¬ iD L k 6<=3->pJ L k=1+iD L (eZ L k) 20:=λh=>by rw[pJ,if_neg AT,if_neg AT]
 repeat'(first|(refine Xr X0 ?_;intro K hK)|(refine hK _ ?_;clear hK K)|(refine Xi ?_ ?_<;>try intro ht)|refine Xz ?_|(refine Xe ?_;first|refine aU rfl ?_|refine Xl ?_ ?_)|exact Xx|fail)
 iterate 3
  ·rw[c1 AT]
  ·rw[c2 AT]
 ·rw[c1 AT]
 ·rw[c3 AT]
 ·refine fi (pC L (eZ L k) 20 (by unfold fM;omega) (lP hk) hL) IM ?_;repeat'(first|refine Xo X0 ?_|(refine hK _ ?_;clear hK K)|refine Xz ?_|(refine Xe ?_;first|refine aU rfl ?_|refine Xl ?_ ?_)|refine Xd ?_ ?_|exact Xx|fail)
  ·rw[c4 AT]
  ·rw[c5 AT]
def aec(L:List Int):Holds Tryz.prog 10 [.tree 1 (ints L)] [] (.ptr 0 0 0) [.var [.tree 1 (ints L),Oi (0:Nat)]]:=by
 refine Holds.aN 6 0 [.tmp 2] Tryz.func10 ?_;refine Vb X0 ?_;rw[show(0:Int)=((0:Nat):Int) from rfl];exact dX rfl IM rfl
def agK(a b:Int)(ha:bJ a)(hb:bJ b):Holds Tryz.prog 110 [Oi a,Oi b] [] (Oi (dW a b)) []:=by
 unfold bJ at *;refine Holds.aN 9 0 [.tmp 4] Tryz.func110 ?_;repeat'(first|(refine Xr X0 ?_;intro K hK)|(refine hK _ ?_;clear hK K)|refine Xz ?_|(refine Xe ?_;first|refine aU rfl ?_|refine Xl ?_ ?_)|refine Xd ?_ ?_|exact Xx|fail)
 ·rfl
def ahu(a b:Int)(ha:bJ a)(hb:bJ b):Holds Tryz.prog 83 [Oi a,Oi b] [] (Oi (dW a b)) []:=by
 unfold bJ at *;refine Holds.aN 9 0 [.tmp 4] Tryz.func83 ?_;repeat'(first|(refine Xr X0 ?_;intro K hK)|(refine hK _ ?_;clear hK K)|refine Xz ?_|(refine Xe ?_;first|refine aU rfl ?_|refine Xl ?_ ?_)|refine Xd ?_ ?_|exact Xx|fail)
 ·rfl
def Mm(n:Int):Holds Tryz.prog 123 [Oi n] [] (.lit (.bool (jo n))) []:=by
 refine Holds.aN 13 0 [.tmp 2] Tryz.func123 ?_;repeat'(first|(refine Xr X0 ?_;intro K hK)|(refine hK _ ?_;clear hK K)|(refine Xg X0 ?_ ?_<;>try intro hb)|refine Xz ?_|(refine Xe ?_;first|refine aU rfl ?_|refine Xl ?_ ?_)|fail)
 all_goals(refine congrArg (λb=>AV.lit (Value.bool b)) ?_;rw[nx];simp only[jo,decide_eq_true_eq,beq_iff_eq,bne_iff_ne,bg,l7,kz,decide_eq_false_iff_not,iZ,reduceCtorEq,iff_true,iff_false,true_iff,false_iff,eq_self];omega)
def Mn(n:Int):Holds Tryz.prog 62 [Oi n] [] (.lit (.bool (jo n))) []:=by
 refine Holds.aN 13 0 [.tmp 2] Tryz.func62 ?_;repeat'(first|(refine Xr X0 ?_;intro K hK)|(refine hK _ ?_;clear hK K)|(refine Xg X0 ?_ ?_<;>try intro hb)|refine Xz ?_|(refine Xe ?_;first|refine aU rfl ?_|refine Xl ?_ ?_)|fail)
 all_goals(refine congrArg (λb=>AV.lit (Value.bool b)) ?_;rw[nx];simp only[jo,decide_eq_true_eq,beq_iff_eq,bne_iff_ne,bg,l7,kz,decide_eq_false_iff_not,iZ,reduceCtorEq,iff_true,iff_false,true_iff,false_iff,eq_self];omega)
def Mo(m:ah)(n:Int):Holds Tryz.prog 122 [.agg (aq m),Oi n] [] (.lit (.bool (jJ m.rules n))) []:=by
 refine Holds.aN 13 0 [.tmp 4] Tryz.func122 ?_;repeat'(first|(refine Xr @aq.eq_1 ?_;intro K hK)|(refine hK _ ?_;clear hK K)|(refine Xg @aq.eq_1 ?_ ?_<;>try intro hb)|refine Xz ?_|(refine Xe ?_;first|refine aU rfl ?_|refine Xl ?_ ?_)|fail)
 all_goals(refine congrArg (λb=>AV.lit (Value.bool b)) ?_;rw[nx];simp only[jJ,decide_eq_true_eq,beq_iff_eq,bne_iff_ne,bg,l7,kz,decide_eq_false_iff_not,iZ,reduceCtorEq,iff_true,iff_false,true_iff,false_iff,eq_self];omega)
def Mp(m:ah)(n:Int):Holds Tryz.prog 61 [.agg (aq m),Oi n] [] (.lit (.bool (jJ m.rules n))) []:=by
 refine Holds.aN 13 0 [.tmp 4] Tryz.func61 ?_;repeat'(first|(refine Xr @aq.eq_1 ?_;intro K hK)|(refine hK _ ?_;clear hK K)|(refine Xg @aq.eq_1 ?_ ?_<;>try intro hb)|refine Xz ?_|(refine Xe ?_;first|refine aU rfl ?_|refine Xl ?_ ?_)|fail)
 all_goals(refine congrArg (λb=>AV.lit (Value.bool b)) ?_;rw[nx];simp only[jJ,decide_eq_true_eq,beq_iff_eq,bne_iff_ne,bg,l7,kz,decide_eq_false_iff_not,iZ,reduceCtorEq,iff_true,iff_false,true_iff,false_iff,eq_self];omega)
def ahT(n:Int):Holds Tryz.prog 107 [Oi n] [] (.lit (.bool false)) []:=by
 refine Holds.aN 6 0 [.tmp 2] Tryz.func107 ?_;repeat'(first|(refine Xr @bne_self_eq_false.{0} ?_;intro K hK)|(refine hK _ ?_;clear hK K)|refine Xz ?_|(refine Xe ?_;first|refine aU rfl ?_|refine Xl ?_ ?_)|exact Xx|fail)
def En(a b:Int):Holds Tryz.prog 76 [Oi a,Oi b] [] (Oi (kd a b)) []:=by
 refine Holds.aN 20 0 [.tmp 4] Tryz.func76 ?_;repeat'(first|(refine Xq X0 ?_;intro K hK)|refine Xo X0 ?_|refine Xc (ahT _) ?_|(refine hK _ ?_;clear hK K)|(refine Xi ?_ ?_<;>try intro ht)|refine Xz ?_|(refine Xe ?_;first|refine aU rfl ?_|refine Xl ?_ ?_)|exact Xx|fail)
 all_goals(unfold kd;congr 2;(repeat' split)<;>omega)
def Mq(l:List Int)(hl:l.length<1000000):Holds Tryz.prog 75 [.tree 1 (ints l)] [] (Oi (qQ l)) []:=by
 generalize an:qQ l=res;refine Holds.aN 18 0 [.tmp 2] Tryz.func75 ?_;repeat'(first|(refine Xr X0 ?_;intro K hK)|(refine hK _ ?_;clear hK K)|refine Xz ?_|fail)
 refine bb (λk:Nat=>(⟨ao [(3,Oi 0),(6,.tree 1 (ints l)),(7,Oi l.length),(8,Oi k)],[]⟩:St)) (λk=>k<=l.length/\qQ (l.drop k)=res) (λk=>l.length-k) 0 ⟨aW _,an⟩ (Xv X0) ?_;rintro k⟨hk,hr⟩Ql ak au;repeat'(first|(refine Xr X0 ?_;intro K hK)|(refine hK _ ?_;clear hK K)|(refine Xi ?_ ?_<;>try intro ht)|refine Xz ?_|refine Xh ?_|(refine Xe ?_;first|refine aU rfl ?_|refine Xl ?_ ?_)|refine Xd ?_ ?_|exact Xx|fail)
 ·rw[kh _ _ 0 AT,qQ,if_pos (by assumption)]at hr;rw[hr]
 ·rw[kh _ _ 0 AT,qQ,if_neg AT]at hr;exact ak _ (k+1) ⟨AT,hr⟩ AT (Xv X0)
 ·rw[jv AT,qQ]at hr;rw[hr]
def ahU(m:ah)(c o:Int):Holds Tryz.prog 127 [.agg (aq m),Oi c,Oi o] [] (.lit (.bool (jq m c o))) []:=by
 refine Holds.aN 30 0 [.tmp 6] Tryz.func127 ?_;repeat'(first|(refine Xr (X4 @aq.eq_1 @cr @fK @aV.eq_1) ?_;intro K hK)|(refine hK _ ?_;clear hK K)|(refine Xg (X4 @aq.eq_1 @cr @fK @aV.eq_1) ?_ ?_<;>try intro hb)|refine Xz ?_|(refine Xe ?_;first|refine aU rfl ?_|refine Xl ?_ ?_)|refine Xd ?_ ?_|exact Xx|fail)
 all_goals(refine congrArg (λb=>AV.lit (Value.bool b)) ?_;rw[nx];simp only[jq,decide_eq_true_eq,beq_iff_eq,bne_iff_ne,bg,l7,kz,decide_eq_false_iff_not,iZ,reduceCtorEq,iff_true,iff_false,true_iff,false_iff,eq_self];omega)
def VS(m:ah)(c o:Int):Holds Tryz.prog 82 [.agg (aq m),Oi c,Oi o] [] (.lit (.bool (jq m c o))) []:=by
 refine Holds.aN 30 0 [.tmp 6] Tryz.func82 ?_;repeat'(first|(refine Xr (X4 @aq.eq_1 @cr @fK @aV.eq_1) ?_;intro K hK)|(refine hK _ ?_;clear hK K)|(refine Xg (X4 @aq.eq_1 @cr @fK @aV.eq_1) ?_ ?_<;>try intro hb)|refine Xz ?_|(refine Xe ?_;first|refine aU rfl ?_|refine Xl ?_ ?_)|refine Xd ?_ ?_|exact Xx|fail)
 all_goals(refine congrArg (λb=>AV.lit (Value.bool b)) ?_;rw[nx];simp only[jq,decide_eq_true_eq,beq_iff_eq,bne_iff_ne,bg,l7,kz,decide_eq_false_iff_not,iZ,reduceCtorEq,iff_true,iff_false,true_iff,false_iff,eq_self];omega)
def ahM(c:Ct)(n:Int)(h1:0<=c.most)(h2:n<=1048576)(h3:0<=n)(h4:bJ c.cf):Holds Tryz.prog 144 [.agg (df c),Oi n] [] (Oi (kL c.most c.cf n)) []:=by
 unfold bJ at h4;have hm:c.most<n->0<=(n-c.most)*c.cf/\(n-c.most)*c.cf<=1048576*1099511627776:=λh=>⟨re AT h4.1,su AT h4.2 h4.1 AT⟩;refine Holds.aN 17 0 [.tmp 4] Tryz.func144 ?_;repeat'(first|(refine Xr @df.eq_1 ?_;intro K hK)|(refine hK _ ?_;clear hK K)|(refine Xi ?_ ?_<;>try intro ht)|refine Xz ?_|(refine Xe ?_;first|refine aU rfl ?_|refine Xl ?_ ?_)|refine Xd ?_ ?_|exact Xx|fail)
 ·rw[kL,if_pos ht]
 ·rw[kL,if_neg AT]
def ahG(n c:Int)(h2:n<=1048576)(h4:bJ c):Holds Tryz.prog 48 [Oi n,Oi c] [] (Oi (B5 n c)) []:=by
 unfold bJ at h4;have hm:0<n->0<=n*c/\n*c<=1048576*1099511627776:=λh=>⟨re AT h4.1,su AT h4.2 h4.1 AT⟩;refine Holds.aN 13 0 [.tmp 4] Tryz.func48 ?_;repeat'(first|(refine Xr X0 ?_;intro K hK)|(refine hK _ ?_;clear hK K)|(refine Xi ?_ ?_<;>try intro ht)|refine Xz ?_|(refine Xe ?_;first|refine aU rfl ?_|refine Xl ?_ ?_)|refine Xd ?_ ?_|exact Xx|fail)
 ·rw[B5,if_pos ht]
 ·rw[B5,if_neg AT,if_pos AT]
 ·rw[B5,if_neg AT,if_neg AT]
def e9{α:Type}(p:α->Bool):Nat->List α->Int
 |_,[]=>-1
 |k,x::r=>if p x=true then(k:Int) else e9 p (k+1) r
def yK{α:Type}(p:α->Bool):∀ (l:List α) (k:Nat),decide (0<=e9 p k l)=l.any p
 |[],k=>rfl
 |x::r,k=>by
  rw[e9,IU];split
  ·rename_i h;rw[h];simp
  ·rename_i h;rw[yK p r (k+1)];simp_all
def ahV(l:List (List cP))(g:FuncId)(bF:List AV)(aa:List Ob)(p:(List cP)->Bool)(hl:l.length<9223372036854775808)(hg:∀ x∈l,Holds Tryz.prog g ([.tree 6 (rowsOf dK x)]++bF) aa (.lit (.bool (p x))) aa):
  Holds Tryz.prog 147 [.tree 1 (rowsOf aV l),.fn g bF] aa (Oi (e9 p 0 l)) aa:=by
 generalize an:e9 p 0 l=res;refine Holds.aN 19 aa.length [.tmp 4] Tryz.func147 ?_;refine Vb (X3 @cr @fK @aV.eq_1) ?_;refine bb (λk:Nat=>(⟨ao [(0,.tree 1 (rowsOf aV l)),(1,.fn g bF),(7,Oi l.length),(8,Oi k)],aa⟩:St)) (λk=>k<=l.length/\e9 p k (l.drop k)=res) (λk=>l.length-k) 0 ⟨aW _,an⟩ (Xv X0) ?_;rintro k⟨hk,hr⟩Ql ak au;by_cases bf:k<l.length
 ·have hx:=hg _ (aE (d:=default) bf);have hd:=kh l k default bf;generalize cS:l.getD k default=x at *;rw[hd,e9]at hr;simp only[ek,gv,aV]at hx;((repeat'(first|refine Vb (X4 @cr @fK @aV.eq_1 @cS) ?_|(refine Xi ?_ ?_<;>try intro ht)|exact Xx|fail))<;>try with_reducible intro K hK)
  refine fi hx (aX _) ?_;((try revert hK K);(repeat'(first|refine Vb (X3 @cr @fK @aV.eq_1) ?_|(refine Xi ?_ ?_<;>try intro ht)|fail)))
  ·rw[if_pos (by assumption)]at hr;rw[<- hr];exact dX rfl (aX _) rfl
  ·rw[if_neg (by simp_all)]at hr;exact ak _ (k+1) ⟨AT,hr⟩ AT (Xv X0)
 ·((repeat'(first|refine Vb (X3 @cr @fK @aV.eq_1) ?_|(refine Xi ?_ ?_<;>try intro ht)|exact Xx|fail)))
  rw[jv AT,e9]at hr;rw[<- hr];exact dX rfl (aX _) rfl
def ahW(l:List (List cP))(g:FuncId)(bF:List AV)(aa:List Ob)(p:(List cP)->Bool)(hl:l.length<9223372036854775808)(hg:∀ x∈l,Holds Tryz.prog g ([.tree 6 (rowsOf dK x)]++bF) aa (.lit (.bool (p x))) aa):
  Holds Tryz.prog 120 [.tree 1 (rowsOf aV l),.fn g bF] aa (.lit (.bool (l.any p))) aa:=by
 rw[<- yK p l 0];refine Holds.aN 9 aa.length [.tmp 4] Tryz.func120 ?_;((refine Vb (X3 @cr @fK @aV.eq_1) ?_)<;>try with_reducible intro K hK)
 refine fi (ahV l g bF aa p hl hg) (aX _) ?_;((try revert hK K);(refine Vb (X3 @cr @fK @aV.eq_1) ?_))
 exact dX rfl (aX _) rfl
def ahX(l:List cP)(g:FuncId)(bF:List AV)(aa:List Ob)(p:cP->Bool)(hl:l.length<9223372036854775808)(hg:∀ x∈l,Holds Tryz.prog g ([.agg (dK x)]++bF) aa (.lit (.bool (p x))) aa):
  Holds Tryz.prog 121 [.tree 6 (rowsOf dK l),.fn g bF] aa (Oi (e9 p 0 l)) aa:=by
 generalize an:e9 p 0 l=res;refine Holds.aN 19 aa.length [.tmp 4] Tryz.func121 ?_;refine Vb (X3 @cr @fK @dK.eq_1) ?_;refine bb (λk:Nat=>(⟨ao [(0,.tree 6 (rowsOf dK l)),(1,.fn g bF),(7,Oi l.length),(8,Oi k)],aa⟩:St)) (λk=>k<=l.length/\e9 p k (l.drop k)=res) (λk=>l.length-k) 0 ⟨aW _,an⟩ (Xv X0) ?_;rintro k⟨hk,hr⟩Ql ak au;by_cases bf:k<l.length
 ·have hx:=hg _ (aE (d:=default) bf);have hd:=kh l k default bf;generalize cS:l.getD k default=x at *;rw[hd,e9]at hr;simp only[ek,gv,dK]at hx;((repeat'(first|refine Vb (X4 @cr @fK @dK.eq_1 @cS) ?_|(refine Xi ?_ ?_<;>try intro ht)|exact Xx|fail))<;>try with_reducible intro K hK)
  refine fi hx (aX _) ?_;((try revert hK K);(repeat'(first|refine Vb (X3 @cr @fK @dK.eq_1) ?_|(refine Xi ?_ ?_<;>try intro ht)|fail)))
  ·rw[if_pos (by assumption)]at hr;rw[<- hr];exact dX rfl (aX _) rfl
  ·rw[if_neg (by simp_all)]at hr;exact ak _ (k+1) ⟨AT,hr⟩ AT (Xv X0)
 ·((repeat'(first|refine Vb (X3 @cr @fK @dK.eq_1) ?_|(refine Xi ?_ ?_<;>try intro ht)|exact Xx|fail)))
  rw[jv AT,e9]at hr;rw[<- hr];exact dX rfl (aX _) rfl
def ahY(l:List cP)(g:FuncId)(bF:List AV)(aa:List Ob)(p:cP->Bool)(hl:l.length<9223372036854775808)(hg:∀ x∈l,Holds Tryz.prog g ([.agg (dK x)]++bF) aa (.lit (.bool (p x))) aa):
  Holds Tryz.prog 87 [.tree 6 (rowsOf dK l),.fn g bF] aa (.lit (.bool (l.any p))) aa:=by
 rw[<- yK p l 0];refine Holds.aN 9 aa.length [.tmp 4] Tryz.func87 ?_;((refine Vb (X3 @cr @fK @dK.eq_1) ?_)<;>try with_reducible intro K hK)
 refine fi (ahX l g bF aa p hl hg) (aX _) ?_;((try revert hK K);(refine Vb (X3 @cr @fK @dK.eq_1) ?_))
 exact dX rfl (aX _) rfl
def ahZ(l:List Ct)(g:FuncId)(bF:List AV)(aa:List Ob)(p:Ct->Bool)(hl:l.length<9223372036854775808)(hg:∀ x∈l,Holds Tryz.prog g ([.agg (df x)]++bF) aa (.lit (.bool (p x))) aa):
  Holds Tryz.prog 126 [.tree 4 (rowsOf df l),.fn g bF] aa (Oi (e9 p 0 l)) aa:=by
 generalize an:e9 p 0 l=res;refine Holds.aN 19 aa.length [.tmp 4] Tryz.func126 ?_;refine Vb (X3 @cr @fK @df.eq_1) ?_;refine bb (λk:Nat=>(⟨ao [(0,.tree 4 (rowsOf df l)),(1,.fn g bF),(7,Oi l.length),(8,Oi k)],aa⟩:St)) (λk=>k<=l.length/\e9 p k (l.drop k)=res) (λk=>l.length-k) 0 ⟨aW _,an⟩ (Xv X0) ?_;rintro k⟨hk,hr⟩Ql ak au;by_cases bf:k<l.length
 ·have hx:=hg _ (aE (d:=default) bf);have hd:=kh l k default bf;generalize cS:l.getD k default=x at *;rw[hd,e9]at hr;simp only[ek,gv,df]at hx;((repeat'(first|refine Vb (X4 @cr @fK @df.eq_1 @cS) ?_|(refine Xi ?_ ?_<;>try intro ht)|exact Xx|fail))<;>try with_reducible intro K hK)
  refine fi hx (aX _) ?_;((try revert hK K);(repeat'(first|refine Vb (X3 @cr @fK @df.eq_1) ?_|(refine Xi ?_ ?_<;>try intro ht)|fail)))
  ·rw[if_pos (by assumption)]at hr;rw[<- hr];exact dX rfl (aX _) rfl
  ·rw[if_neg (by simp_all)]at hr;exact ak _ (k+1) ⟨AT,hr⟩ AT (Xv X0)
 ·((repeat'(first|refine Vb (X3 @cr @fK @df.eq_1) ?_|(refine Xi ?_ ?_<;>try intro ht)|exact Xx|fail)))
  rw[jv AT,e9]at hr;rw[<- hr];exact dX rfl (aX _) rfl
def ah0(l:List Ct)(g:FuncId)(bF:List AV)(aa:List Ob)(p:Ct->Bool)(hl:l.length<9223372036854775808)(hg:∀ x∈l,Holds Tryz.prog g ([.agg (df x)]++bF) aa (.lit (.bool (p x))) aa):
  Holds Tryz.prog 92 [.tree 4 (rowsOf df l),.fn g bF] aa (.lit (.bool (l.any p))) aa:=by
 rw[<- yK p l 0];refine Holds.aN 9 aa.length [.tmp 4] Tryz.func92 ?_;((refine Vb (X3 @cr @fK @df.eq_1) ?_)<;>try with_reducible intro K hK)
 refine fi (ahZ l g bF aa p hl hg) (aX _) ?_;((try revert hK K);(refine Vb (X3 @cr @fK @df.eq_1) ?_))
 exact dX rfl (aX _) rfl
def ah1(l:List Int)(g:FuncId)(bF:List AV)(aa:List Ob)(p:Int->Bool)(hl:l.length<9223372036854775808)(hg:∀ x∈l,Holds Tryz.prog g ([Oi x]++bF) aa (.lit (.bool (p x))) aa):
  Holds Tryz.prog 148 [.tree 1 (ints l),.fn g bF] aa (Oi (e9 p 0 l)) aa:=by
 generalize an:e9 p 0 l=res;refine Holds.aN 19 aa.length [.tmp 4] Tryz.func148 ?_;refine Vb @iw ?_;refine bb (λk:Nat=>(⟨ao [(0,.tree 1 (ints l)),(1,.fn g bF),(7,Oi l.length),(8,Oi k)],aa⟩:St)) (λk=>k<=l.length/\e9 p k (l.drop k)=res) (λk=>l.length-k) 0 ⟨aW _,an⟩ (Xv X0) ?_;rintro k⟨hk,hr⟩Ql ak au;by_cases bf:k<l.length
 ·have hx:=hg _ (aE (d:=0) bf);have hd:=kh l k 0 bf;generalize cS:l.getD k 0=x at *;rw[hd,e9]at hr;simp only[ek,gv]at hx;((repeat'(first|refine Vb (X2 @iw @cS) ?_|(refine Xi ?_ ?_<;>try intro ht)|exact Xx|fail))<;>try with_reducible intro K hK)
  refine fi hx (aX _) ?_;((try revert hK K);(repeat'(first|refine Vb @iw ?_|(refine Xi ?_ ?_<;>try intro ht)|fail)))
  ·rw[if_pos (by assumption)]at hr;rw[<- hr];exact dX rfl (aX _) rfl
  ·rw[if_neg (by simp_all)]at hr;exact ak _ (k+1) ⟨AT,hr⟩ AT (Xv X0)
 ·((repeat'(first|refine Vb @iw ?_|(refine Xi ?_ ?_<;>try intro ht)|exact Xx|fail)))
  rw[jv AT,e9]at hr;rw[<- hr];exact dX rfl (aX _) rfl
def Vk(l:List Int)(g:FuncId)(bF:List AV)(aa:List Ob)(p:Int->Bool)(hl:l.length<9223372036854775808)(hg:∀ x∈l,Holds Tryz.prog g ([Oi x]++bF) aa (.lit (.bool (p x))) aa):
  Holds Tryz.prog 124 [.tree 1 (ints l),.fn g bF] aa (.lit (.bool (l.any p))) aa:=by
 rw[<- yK p l 0];refine Holds.aN 9 aa.length [.tmp 4] Tryz.func124 ?_;((refine Vb @iw ?_)<;>try with_reducible intro K hK)
 refine fi (ah1 l g bF aa p hl hg) (aX _) ?_;((try revert hK K);(refine Vb @iw ?_))
 exact dX rfl (aX _) rfl
def ah2(l:List cP):Holds Tryz.prog 119 [.tree 6 (rowsOf dK l)] [] (.lit (.bool (decide (24<l.length)))) []:=by
 refine Holds.aN 6 0 [.tmp 2] Tryz.func119 ?_;repeat'(first|(refine Xr X0 ?_;intro K hK)|(refine hK _ ?_;clear hK K)|refine Xz ?_|(refine Xe ?_;first|refine aU rfl ?_|refine Xl ?_ ?_)|fail)
 (refine congrArg (λb=>AV.lit (Value.bool b)) ?_;rw[nx];simp only[gt_iff_lt,decide_eq_true_eq,beq_iff_eq,bne_iff_ne,bg,l7,kz,decide_eq_false_iff_not,iZ,reduceCtorEq,iff_true,iff_false,true_iff,false_iff,eq_self];omega)
def ah3(m:ah)(hm:MB m):Holds Tryz.prog 86 [.agg (aq m)] [] (.lit (.bool (th m))) []:=by
 have h1:=hm.cls;have h2:=ahW m.cls 119 [] [] (λl=>decide (24<l.length)) h1 (λx _=>by simpa using ah2 x);unfold th;generalize m.cls.any (λl=>decide (24<l.length))=b at *;cases b;all_goals refine Holds.aN 36 0 [.tmp 2] Tryz.func86 ?_
 all_goals repeat'(first|(refine Xq X0 ?_;intro K hK)|refine Xo X0 ?_|refine Xc (h2) ?_|(refine hK _ ?_;clear hK K)|(refine Xg X0 ?_ ?_<;>try intro hb)|refine Xz ?_|(refine Xe ?_;first|refine aU rfl ?_|refine Xl ?_ ?_)|fail)
 all_goals first|rfl|(simp;done)|(refine congrArg (λb=>AV.lit (Value.bool b)) ?_;rw[nx];simp only[or_true,true_or,or_false,false_or,decide_eq_true_eq,beq_iff_eq,bne_iff_ne,bg,l7,kz,decide_eq_false_iff_not,iZ,reduceCtorEq,iff_true,iff_false,true_iff,false_iff,eq_self];omega)
def ah4(m:ah)(o:cP)(ho:o.ch.length<9223372036854775808):Holds Tryz.prog 89 [.agg (aq m),.agg (dK o)] [] (.lit (.bool (ej m.rules none o.ch))) []:=by
 generalize an:ej m.rules none o.ch=res;refine Holds.aN 43 0 [.tmp 4] Tryz.func89 ?_;repeat'(first|(refine Xr X0 ?_;intro K hK)|(refine hK _ ?_;clear hK K)|refine Xz ?_|fail)
 refine bb (λk:Nat=>(⟨ao [(2,.ptr 0 0 0),(3,.ptr 1 0 0),(8,.tree 2 (rowsOf dv o.ch)),(9,Oi o.ch.length),(10,Oi k)],[.var (aq m),.var (dK o)]⟩:St)) (λk=>k<=o.ch.length/\ej m.rules (qR o.ch k) (o.ch.drop k)=res) (λk=>o.ch.length-k) 0 ⟨aW _,an⟩ (Xv X0) ?_;rintro k⟨hk,hr⟩Ql ak au;by_cases bf:k<o.ch.length
 ·have hd:=kh o.ch k default bf;generalize bc:o.ch.getD k default=c at *;rw[hd,Tt]at hr;have xo:=Mo m c.1;have eY:((k:Int)-1).toNat=k-1:=AT;repeat'(first|(refine Xq (X2 @bc @eY) ?_;intro K hK)|refine Xo (X2 @bc @eY) ?_|refine Xc (xo) ?_|refine Xc (Mm c.2) ?_|(refine hK _ ?_;clear hK K)|(refine Xg (X2 @bc @eY) ?_ ?_<;>try intro hb)|(refine Xi ?_ ?_<;>try intro ht)|refine Xz ?_|refine Xh ?_|(refine Xe ?_;first|refine aU rfl ?_|refine Xl ?_ ?_)|refine Xd ?_ ?_|exact Xx|fail)
  ·rw[<- hr];simp[*]
  ·rw[<- hr];simp[*]
  ·rw[<- hr,decide_eq_false (p:=k=0) AT,decide_eq_false (p:=_<c.1) AT];simp
  ·refine ak _ (k+1) ⟨AT,?_⟩ AT (Xs false [0,1] X0);rw[w9,bc,<- hr,decide_eq_true (p:=_<c.1) ht];simp[*]
  ·refine ak _ (k+1) ⟨AT,?_⟩ AT (Xs false [0,1] X0);rw[w9,bc,<- hr,decide_eq_true (p:=k=0) AT];simp[*]
 ·repeat'(first|(refine Xr X0 ?_;intro K hK)|(refine hK _ ?_;clear hK K)|(refine Xi ?_ ?_<;>try intro ht)|refine Xz ?_|refine Xh ?_|(refine Xe ?_;first|refine aU rfl ?_|refine Xl ?_ ?_)|refine Xd ?_ ?_|exact Xx|fail)
  rw[jv AT,ej]at hr;rw[<- hr]
def ah5(a b:Pr):Holds Tryz.prog 91 [.agg (aG a),.agg (aG b)] [] (Oi (ni a b)) []:=by
 refine Holds.aN 22 0 [.tmp 4] Tryz.func91 ?_;repeat'(first|(refine Xr X0 ?_;intro K hK)|(refine hK _ ?_;clear hK K)|refine Xz ?_|fail)
 (try(refine F1 [4,9,14] rfl IP (by decide +kernel) ?_);intro K hK;simp(disch:=omega)only[Ac,↓Pc,simprocAttr])
 repeat'(first|refine Xo X0 ?_|refine Xc (En _ _) ?_|fail)
 refine rj [] (Mq [kd a.dZ b.dZ,kd a.fst b.fst,kd a.snd b.snd] IM) IP trivial ⟨bT.cC rfl (vd _) rfl IP (xX _),trivial⟩ rfl IM ?_;repeat'(first|refine Xo X0 ?_|(refine hK _ ?_;clear hK K)|refine Xz ?_|(refine Xe ?_;first|refine aU rfl ?_|refine Xl ?_ ?_)|fail)
 ·rfl
def ah6(n:Int):Holds Tryz.prog 125 [Oi n] [] (.lit (.bool (oG n))) []:=by
 refine Holds.aN 10 0 [.tmp 2] Tryz.func125 ?_;repeat'(first|(refine Xq X0 ?_;intro K hK)|refine Xo X0 ?_|refine Xc (Mm n) ?_|(refine hK _ ?_;clear hK K)|(refine Xg X0 ?_ ?_<;>try intro hb)|refine Xz ?_|(refine Xe ?_;first|refine aU rfl ?_|refine Xl ?_ ?_)|fail)
 all_goals(simp[oG, *]<;>omega)
def ah7(m:ah)(p:Pr)(hp:p.aB.length<9223372036854775808)(hm:∀ l∈m.cls,l.length<=24)(hl:m.cls.length<=24):Holds Tryz.prog 90 [.agg (aq m),.agg (aG p)] [] (.lit (.bool (gA m p))) []:=by
 have hg:∀ i,(m.cls.getD i default).length<=24:=λi=>by
  rcases du i m.cls.length with h|h
  ·exact hm _ (aE h)
  ·rw[List.getD_eq_getElem?_getD,List.getElem?_eq_none h];decide
 have h1:=hg p.fst.toNat;have h2:=hg p.snd.toNat;have hmul:(0:Int)<=(m.cls.getD p.fst.toNat default).length*(m.cls.getD p.snd.toNat default).length/\((m.cls.getD p.fst.toNat default).length:Int)*(m.cls.getD p.snd.toNat default).length<=24*24:=⟨re AT AT,su AT AT AT AT⟩;have hc:=Vk p.aB 125 [] [] oG hp (λx _=>by simpa using ah6 x);unfold gA;generalize xf:((m.cls.getD p.fst.toNat default).length:Int)*(m.cls.getD p.snd.toNat default).length=mm at *;refine Holds.aN 55 0 [.tmp 4] Tryz.func90 ?_;repeat'(first|(refine Xq @xf ?_;intro K hK)|refine Xo @xf ?_|refine Xc (Mo m p.dZ) ?_|refine Xc (hc) ?_|(refine hK _ ?_;clear hK K)|(refine Xg @xf ?_ ?_<;>try intro hb)|(refine Xi ?_ ?_<;>try intro ht)|refine Xz ?_|(refine Xe ?_;first|refine aU rfl ?_|refine Xl ?_ ?_)|refine Xd ?_ ?_|exact Xx|fail)
 ·rw[hb];rfl
 iterate 4
  ·rw[decide_eq_false AT];simp
 ·rw[decide_eq_true AT];simp[*]
def ah8(m:ah)(c:Ct)(hc:c.aZ.length<9223372036854775808):Holds Tryz.prog 94 [.agg (aq m),.agg (df c)] [] (.lit (.bool (iW m c))) []:=by
 have Mr:=Mo m c.dZ;have gp:=Mm c.cf;generalize an:iW m c=res;unfold iW at an;refine Holds.aN 81 0 [.tmp 4] Tryz.func94 ?_;repeat'(first|(refine Xq X0 ?_;intro K hK)|refine Xo X0 ?_|refine Xc (Mr) ?_|refine Xc (gp) ?_|(refine hK _ ?_;clear hK K)|(refine Xg X0 ?_ ?_<;>try intro hb)|(refine Xi ?_ ?_<;>try intro ht)|refine Xz ?_|(refine Xe ?_;first|refine aU rfl ?_|refine Xl ?_ ?_)|exact Xx|fail)
 ·rw[<- an,hb];rfl
 ·rw[<- an,decide_eq_false AT];simp
 ·rw[<- an,decide_eq_false AT];simp
 ·rw[<- an,ht];simp
 have bR:(jJ m.rules c.dZ&&decide (0<=c.most/\c.most<=1048576)&&jo c.cf)=true:=by rw[decide_eq_true AT];simp[*]
 rw[bR,iy]at an;refine bb (λk:Nat=>(⟨ao [(2,.ptr 0 0 0),(3,.ptr 1 0 0),(29,.tree 3 (rowsOf qC c.aZ)),(30,Oi c.aZ.length),(31,Oi k)],[.var (aq m),.var (df c)]⟩:St)) (λk=>k<=c.aZ.length/\eu m (qR c.aZ k) (c.aZ.drop k)=res) (λk=>c.aZ.length-k) 0 ⟨aW _,an⟩ (Xv X0) ?_;rintro k⟨hk,hr⟩Ql ak au;by_cases bf:k<c.aZ.length
 ·have hd:=kh c.aZ k default bf;generalize bc:c.aZ.getD k default=x at *;rw[hd,Tv]at hr;have eY:((k:Int)-1).toNat=k-1:=AT;generalize cB:c.aZ.getD (k-1) default=y at *;repeat'(first|(refine Xr (X2 @bc @eY) ?_;intro K hK)|refine Xo (X2 @bc @eY) ?_|refine Xc (ahU m x.cls x.opt) ?_|(refine hK _ ?_;clear hK K)|(refine Xg (X2 @bc @eY) ?_ ?_<;>try intro hb)|(refine Xi ?_ ?_<;>try intro ht)|refine Xz ?_|refine Xh ?_|(refine Xe ?_;first|refine aU rfl ?_|refine Xl ?_ ?_)|refine Xd ?_ ?_|exact Xx|fail)
  ·rw[<- hr,hb];simp
  ·rw[<- hr,decide_eq_false (p:=1<=x.wt/\x.wt<=1000) AT];simp
  ·rw[<- hr,decide_eq_false (p:=1<=x.wt/\x.wt<=1000) AT];simp
  have hw:decide (1<=x.wt/\x.wt<=1000)=true:=decide_eq_true AT;have bI:jq m x.cls x.opt=true:=by assumption
  rw[bI,hw,iy,iy]at hr;(try(refine F1 [12,22] rfl IP (by decide +kernel) ?_);intro K hK;simp(disch:=omega)only[Ac,↓Pc,simprocAttr,bc,eY,cB])
  repeat'(first|(refine Xq (X3 @bc @eY @cB) ?_;intro K hK)|refine Xo (X3 @bc @eY @cB) ?_|refine Xc (En _ _) ?_|(refine hK _ ?_;clear hK K)|(refine Xg (X3 @bc @eY @cB) ?_ ?_<;>try intro hb)|(refine Xi ?_ ?_<;>try intro ht)|refine Xz ?_|refine Xd ?_ ?_|exact Xx|fail)
  ·refine rj [] (Mq [kd y.cls x.cls,kd y.opt x.opt] IM) IP trivial ⟨bT.cC rfl (vd _) rfl IP (xX _),trivial⟩ rfl IM ?_;repeat'(first|(refine Xr (X3 @bc @eY @cB) ?_;intro K hK)|refine Xo (X3 @bc @eY @cB) ?_|(refine hK _ ?_;clear hK K)|(refine Xi ?_ ?_<;>try intro ht)|refine Xz ?_|refine Xh ?_|(refine Xe ?_;first|refine aU rfl ?_|refine Xl ?_ ?_)|refine Xd ?_ ?_|exact Xx|fail)
   ·rw[<- hr,decide_eq_false (p:=k=0) AT,decide_eq_false (p:=uE y x<0) (by unfold uE;omega)];simp
   ·refine ak _ (k+1) ⟨AT,?_⟩ AT (Xs false [0,1] X0);rw[w9,bc,<- hr,decide_eq_true (p:=uE y x<0) (by unfold uE;omega)];simp
  ·refine ak _ (k+1) ⟨AT,?_⟩ AT (Xs false [0,1] X0);rw[w9,bc,<- hr,decide_eq_true (p:=k=0) AT];simp
 ·repeat'(first|(refine Xr X0 ?_;intro K hK)|(refine hK _ ?_;clear hK K)|(refine Xi ?_ ?_<;>try intro ht)|refine Xz ?_|refine Xh ?_|(refine Xe ?_;first|refine aU rfl ?_|refine Xl ?_ ?_)|refine Xd ?_ ?_|exact Xx|fail)
  rw[jv AT,eu]at hr;rw[<- hr]
def ah9(m:ah)(o:cP)(ho:o.ch.length<9223372036854775808):Holds Tryz.prog 88 [.agg (dK o),.ptr 0 0 0] [.var (aq m)] (.lit (.bool (!ej m.rules none o.ch))) [.var (aq m)]:=by
 refine Holds.aN 8 1 [.tmp 3] Tryz.func88 ?_;refine Vd X0 (ah4 m o ho) ?_;exact Xw false [0] X0
def ah'(m:ah)(c:Ct)(hc:c.aZ.length<9223372036854775808):Holds Tryz.prog 93 [.agg (df c),.ptr 0 0 0] [.var (aq m)] (.lit (.bool (!iW m c))) [.var (aq m)]:=by
 refine Holds.aN 8 1 [.tmp 3] Tryz.func93 ?_;refine Vd X0 (ah8 m c hc) ?_;exact Xw false [0] X0
def Eo{α:Type}[Inhabited α]{l:List α}{f:α->Bool}{k:Nat}(hk:k<l.length):(l.drop k).any f=(f (l.getD k default)||(l.drop (k+1)).any f):=by
 rw[kh l k default hk,IU]
def D5(m:ah)(hm:MB m):Holds Tryz.prog 56 [.agg (aq m)] [] (Oi (iB m)) []:=by
 generalize an:iB m=res;unfold iB at an;have tz:=hm.cls;have uO:=hm.ae;refine Holds.aN 52 0 [.tmp 2] Tryz.func56 ?_;repeat'(first|(refine Xq X0 ?_;intro K hK)|refine Xc (ah3 m hm) ?_|(refine hK _ ?_;clear hK K)|(refine Xi ?_ ?_<;>try intro ht)|refine Xz ?_|(refine Xe ?_;first|refine aU rfl ?_|refine Xl ?_ ?_)|fail)
 ·rw[if_pos ht]at an;rw[<- an]
 rw[if_neg (by simp[ht])]at an;have aJ:m.cls.length<=24/\∀ l∈m.cls,l.length<=24:=by
  have h:=ht;unfold th at h;rw[decide_eq_false_iff_not]at h;refine⟨AT,λl hl=>?_⟩;rcases du 24 l.length with h1|h1
  ·exact absurd (.inr (.inl (List.any_eq_true.2 ⟨l,hl,by simpa using h1⟩))) h
  ·exact h1
 clear ht;refine bb (λk:Nat=>(⟨ao [(1,.ptr 0 0 0),(10,.tree 1 (rowsOf aV m.cls)),(11,Oi m.cls.length),(12,Oi k)],[.var (aq m)]⟩:St)) (λk=>k<=m.cls.length/\(m.cls.any λl=>l.any λo=>!ej m.rules none o.ch)=(m.cls.drop k).any λl=>l.any λo=>!ej m.rules none o.ch) (λk=>m.cls.length-k) 0 ⟨aW _,rfl⟩ (Xv X0) ?_;rintro k⟨hk,hr⟩Ql ak au;by_cases bf:k<m.cls.length
 ·have cq:=aE (d:=(default:List cP)) bf;rw[Eo bf]at hr;generalize bc:m.cls.getD k default=l at *;have od:=ahY l 88 [.ptr 0 0 0] [.var (aq m)] (λo=>!ej m.rules none o.ch) (hm.opt l cq) (λo ho=>by simpa using ah9 m o (hm.ch l cq o ho));repeat'(first|(refine Xr @bc ?_;intro K hK)|(refine hK _ ?_;clear hK K)|(refine Xi ?_ ?_<;>try intro ht)|refine Xz ?_|refine Xh ?_|refine Xd ?_ ?_|exact Xx|fail)
  refine fi od (aX _) ?_;repeat'(first|(refine Xr @bc ?_;intro K hK)|(refine hK _ ?_;clear hK K)|(refine Xi ?_ ?_<;>try intro ht)|refine Xz ?_|refine Xh ?_|(refine Xe ?_;first|refine aU rfl ?_|refine Xl ?_ ?_)|refine Xd ?_ ?_|exact Xx|fail)
  ·rw[ht,xI]at hr;rw[if_pos hr]at an;rw[<- an]
  ·rw[ht,Bool.false_or]at hr;exact ak _ (k+1) ⟨AT,hr⟩ AT (Xv X0)
 rw[jv AT,List.any_nil]at hr;rw[if_neg (by rw[hr];simp)]at an;((repeat'(first|refine Va X0 ?_|(refine Xi ?_ ?_<;>try intro ht)|exact Xx|fail)))
 refine au _ _ rfl ?_;clear ak au Ql;clear hr bf hk;repeat(refine Xu ?_)
 repeat'(first|(refine Xr X0 ?_;intro K hK)|(refine hK _ ?_;clear hK K)|refine Xz ?_|fail)
 refine bb (λk:Nat=>(⟨ao [(1,.ptr 0 0 0),(21,.tree 4 (rowsOf aG m.ae)),(22,Oi m.ae.length),(23,Oi k)],[.var (aq m)]⟩:St)) (λk=>k<=m.ae.length/\e7 m none m.ae=e7 m (qR m.ae k) (m.ae.drop k)) (λk=>m.ae.length-k) 0 ⟨aW _,rfl⟩ (Xv X0) ?_;rintro k⟨hk,hr⟩Ql ak au;by_cases bf:k<m.ae.length
 ·have cq:=aE (d:=(default:Pr)) bf;have hd:=kh m.ae k default bf;have eY:((k:Int)-1).toNat=k-1:=AT;generalize bc:m.ae.getD k default=p at *;rw[hd,Tu]at hr;generalize cB:m.ae.getD (k-1) default=q at *;repeat'(first|(refine Xq (X3 @bc @eY @cB) ?_;intro K hK)|refine Xo (X3 @bc @eY @cB) ?_|refine Xc (ah7 m p (hm.aB p cq) aJ.2 aJ.1) ?_|refine Xc (ah5 q p) ?_|(refine hK _ ?_;clear hK K)|(refine Xg (X3 @bc @eY @cB) ?_ ?_<;>try intro hb)|(refine Xi ?_ ?_<;>try intro ht)|refine Xz ?_|refine Xh ?_|(refine Xe ?_;first|refine aU rfl ?_|refine Xl ?_ ?_)|refine Xd ?_ ?_|exact Xx|fail)
  ·have Ep:gA m p=false:=by assumption
   rw[Ep,p8,p8]at hr;rw[if_pos hr]at an;rw[<- an]
  ·rw[decide_eq_false (p:=k=0) AT,decide_eq_false (p:=ni q p<0) AT,Bool.or_false,Bool.and_false,p8]at hr;rw[if_pos hr]at an;rw[<- an]
  ·have Ep:gA m p=true:=by assumption
   rw[Ep,decide_eq_true (p:=ni q p<0) AT,Bool.or_true,iy,iy]at hr;refine ak _ (k+1) ⟨AT,?_⟩ AT (Xs false [0] X0);rw[w9,bc];exact hr
  ·have Ep:gA m p=true:=by assumption
   rw[Ep,decide_eq_true (p:=k=0) AT,xI,iy,iy]at hr;refine ak _ (k+1) ⟨AT,?_⟩ AT (Xs false [0] X0);rw[w9,bc];exact hr
 rw[jv AT,e7]at hr;rw[if_neg (by rw[hr];simp)]at an;((repeat'(first|refine Va X0 ?_|(refine Xi ?_ ?_<;>try intro ht)|exact Xx|fail)))
 refine au _ _ rfl ?_;clear ak au Ql;clear hr bf hk;repeat(refine Xu ?_)
 have od:=ah0 m.aC 93 [.ptr 0 0 0] [.var (aq m)] (λc=>!iW m c) hm.aC (λc hc=>by simpa using ah' m c (hm.mz c hc));repeat'(first|(refine Xr X0 ?_;intro K hK)|refine Xz ?_|fail)
 refine fi od (aX _) ?_;repeat'(first|(refine Xr X0 ?_;intro K hK)|(refine hK _ ?_;clear hK K)|(refine Xi ?_ ?_<;>try intro ht)|refine Xz ?_|(refine Xe ?_;first|refine aU rfl ?_|refine Xl ?_ ?_)|fail)
 ·rw[if_pos ht]at an;rw[<- an]
 ·rw[if_neg (by rw[ht];simp)]at an;rw[<- an]
end T

