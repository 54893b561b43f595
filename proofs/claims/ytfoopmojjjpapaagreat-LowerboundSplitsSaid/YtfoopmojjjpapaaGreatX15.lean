import Derived.Test.YtfoopmojjjpapaaGreatX14
import Derived.Test.YtfoopmojjjpapaaGreatX11
import Derived.Test.YtfoopmojjjpapaaGreatProg
import Derived.KernelRfl
set_option linter.all false
set_option maxHeartbeats 0
set_option maxRecDepth 20000
open Int renaming natCast_add→ED,cast_ofNat_Int→Hk,mul_nonneg→sY,mul_le_mul→qG
open List renaming length_append→bN,length_cons→du,length_nil→ln,drop_eq_nil_of_le→jL,cons_append→dw,nil_append→eJ
open Nat renaming zero_add→gR,zero_le→aP,le_refl→aZ,add_zero→jK
open Bool renaming eq_iff_iff→mz,and_eq_true→bc,or_eq_true→lQ,not_eq_true'→kq,false_eq_true→jB
open Go Go.Am Go.Proofs
namespace T
def VU:ty Tryz.prog 2 = { kind:=5,size:=1,bytes:=8,elem:=0,len:=0,zero:=some [.int .i64 0],aS:=[] }:=by kernel_rfl
def VV:ty Tryz.prog 3 = { kind:=5,size:=1,bytes:=8,elem:=0,len:=0,zero:=some [.int .i64 0],aS:=[] }:=by kernel_rfl
def VW:ty Tryz.prog 4 = { kind:=6,size:=1,bytes:=1,elem:=0,len:=0,zero:=some [.bool false],aS:=[] }:=by kernel_rfl
def VX:ty Tryz.prog 5 = { kind:=5,size:=1,bytes:=1,elem:=0,len:=0,zero:=some [.int .u8 0],aS:=[] }:=by kernel_rfl
def VY:ty Tryz.prog 6 = { kind:=5,size:=1,bytes:=1,elem:=0,len:=0,zero:=some [.int .u8 0],aS:=[] }:=by kernel_rfl
def VZ:ty Tryz.prog 7 = { kind:=3,size:=4,bytes:=24,elem:=0,len:=0,zero:=some [.int .i64 0,.int .i64 0,.bool false,.int .u8 0],aS:=[(0,2,1),(1,3,1),(2,4,1),(3,6,1)] }:=by kernel_rfl
def V0:ty Tryz.prog 8 = { kind:=3,size:=4,bytes:=24,elem:=0,len:=0,zero:=some [.int .i64 0,.int .i64 0,.bool false,.int .u8 0],aS:=[(0,2,1),(1,3,1),(2,4,1),(3,6,1)] }:=by kernel_rfl
def V3:ty Tryz.prog 9 = { kind:=4,size:=1,bytes:=16,elem:=0,len:=0,zero:=some [.string ⟨#[]⟩],aS:=[] }:=by kernel_rfl
def V4:ty Tryz.prog 10 = { kind:=4,size:=1,bytes:=16,elem:=0,len:=0,zero:=some [.string ⟨#[]⟩],aS:=[] }:=by kernel_rfl
def V5:ty Tryz.prog 11 = { kind:=4,size:=1,bytes:=16,elem:=0,len:=0,zero:=some [.string ⟨#[]⟩],aS:=[] }:=by kernel_rfl
def V6:ty Tryz.prog 12 = { kind:=5,size:=1,bytes:=8,elem:=0,len:=0,zero:=some [.int .u64 0],aS:=[] }:=by kernel_rfl
def V7:ty Tryz.prog 13 = { kind:=3,size:=2,bytes:=24,elem:=0,len:=0,zero:=some [.string ⟨#[]⟩,.int .u64 0],aS:=[(0,9,1),(1,12,1)] }:=by kernel_rfl
def V8:ty Tryz.prog 14 = { kind:=3,size:=2,bytes:=24,elem:=0,len:=0,zero:=some [.string ⟨#[]⟩,.int .u64 0],aS:=[(0,9,1),(1,12,1)] }:=by kernel_rfl
def V9:ty Tryz.prog 15 = { kind:=7,size:=1,bytes:=8,elem:=234,len:=0,zero:=some [.pointer none],aS:=[] }:=by kernel_rfl
def V':ty Tryz.prog 16 = { kind:=7,size:=1,bytes:=8,elem:=237,len:=0,zero:=some [.pointer none],aS:=[] }:=by kernel_rfl
def Wa:ty Tryz.prog 17 = { kind:=7,size:=1,bytes:=8,elem:=245,len:=0,zero:=some [.pointer none],aS:=[] }:=by kernel_rfl
def Wd:ty Tryz.prog 18 = { kind:=3,size:=1,bytes:=8,elem:=0,len:=0,zero:=some [.pointer none],aS:=[(0,17,1)] }:=by kernel_rfl
def We:ty Tryz.prog 19 = { kind:=3,size:=1,bytes:=8,elem:=0,len:=0,zero:=some [.pointer none],aS:=[(0,17,1)] }:=by kernel_rfl
def Wf:ty Tryz.prog 21 = { kind:=5,size:=1,bytes:=4,elem:=0,len:=0,zero:=some [.int .i32 0],aS:=[] }:=by kernel_rfl
def Wg:ty Tryz.prog 22 = { kind:=1,size:=1,bytes:=24,elem:=3,len:=0,zero:=some [.slice none 0 0],aS:=[] }:=by kernel_rfl
def Wh:ty Tryz.prog 23 = { kind:=1,size:=1,bytes:=24,elem:=49,len:=0,zero:=some [.slice none 0 0],aS:=[] }:=by kernel_rfl
def Wi:ty Tryz.prog 26 = { kind:=7,size:=1,bytes:=8,elem:=83,len:=0,zero:=some [.pointer none],aS:=[] }:=by kernel_rfl
def Wj:ty Tryz.prog 28 = { kind:=1,size:=1,bytes:=24,elem:=79,len:=0,zero:=some [.slice none 0 0],aS:=[] }:=by kernel_rfl
def Wl:ty Tryz.prog 29 = { kind:=1,size:=1,bytes:=24,elem:=81,len:=0,zero:=some [.slice none 0 0],aS:=[] }:=by kernel_rfl
def Wm:ty Tryz.prog 30 = { kind:=1,size:=1,bytes:=24,elem:=105,len:=0,zero:=some [.slice none 0 0],aS:=[] }:=by kernel_rfl
def Wn:ty Tryz.prog 31 = { kind:=3,size:=4,bytes:=80,elem:=0,len:=0,zero:=some [.slice none 0 0,.slice none 0 0,.slice none 0 0,.int .i64 0],aS:=[(0,28,1),(1,29,1),(2,30,1),(3,3,1)] }:=by kernel_rfl
def Wo:ty Tryz.prog 32 = { kind:=3,size:=4,bytes:=80,elem:=0,len:=0,zero:=some [.slice none 0 0,.slice none 0 0,.slice none 0 0,.int .i64 0],aS:=[(0,28,1),(1,29,1),(2,30,1),(3,3,1)] }:=by kernel_rfl
def Wp:ty Tryz.prog 36 = { kind:=1,size:=1,bytes:=24,elem:=23,len:=0,zero:=some [.slice none 0 0],aS:=[] }:=by kernel_rfl
def Wq:ty Tryz.prog 38 = { kind:=1,size:=1,bytes:=24,elem:=94,len:=0,zero:=some [.slice none 0 0],aS:=[] }:=by kernel_rfl
def Wr:ty Tryz.prog 39 = { kind:=5,size:=1,bytes:=8,elem:=0,len:=0,zero:=some [.int .i64 0],aS:=[] }:=by kernel_rfl
def Ws:ty Tryz.prog 49 = { kind:=1,size:=1,bytes:=24,elem:=4,len:=0,zero:=some [.slice none 0 0],aS:=[] }:=by kernel_rfl
def Wt:ty Tryz.prog 51 = { kind:=1,size:=1,bytes:=24,elem:=109,len:=0,zero:=some [.slice none 0 0],aS:=[] }:=by kernel_rfl
def Wu:ty Tryz.prog 52 = { kind:=3,size:=1,bytes:=24,elem:=0,len:=0,zero:=some [.slice none 0 0],aS:=[(0,51,1)] }:=by kernel_rfl
def Wv:ty Tryz.prog 53 = { kind:=3,size:=1,bytes:=24,elem:=0,len:=0,zero:=some [.slice none 0 0],aS:=[(0,51,1)] }:=by kernel_rfl
def Ww:ty Tryz.prog 65 = { kind:=1,size:=1,bytes:=24,elem:=22,len:=0,zero:=some [.slice none 0 0],aS:=[] }:=by kernel_rfl
def Wx:ty Tryz.prog 70 = { kind:=3,size:=2,bytes:=16,elem:=0,len:=0,zero:=some [.int .i64 0,.int .i64 0],aS:=[(0,3,1),(1,3,1)] }:=by kernel_rfl
def Wy:ty Tryz.prog 71 = { kind:=3,size:=2,bytes:=16,elem:=0,len:=0,zero:=some [.int .i64 0,.int .i64 0],aS:=[(0,3,1),(1,3,1)] }:=by kernel_rfl
def WC:ty Tryz.prog 72 = { kind:=1,size:=1,bytes:=24,elem:=71,len:=0,zero:=some [.slice none 0 0],aS:=[] }:=by kernel_rfl
def WD:ty Tryz.prog 73 = { kind:=3,size:=4,bytes:=32,elem:=0,len:=0,zero:=some [.int .i64 0,.int .i64 0,.int .i64 0,.int .i64 0],aS:=[(0,3,1),(1,3,1),(2,3,1),(3,3,1)] }:=by kernel_rfl
def WE:ty Tryz.prog 74 = { kind:=3,size:=4,bytes:=32,elem:=0,len:=0,zero:=some [.int .i64 0,.int .i64 0,.int .i64 0,.int .i64 0],aS:=[(0,3,1),(1,3,1),(2,3,1),(3,3,1)] }:=by kernel_rfl
def WG:ty Tryz.prog 75 = { kind:=3,size:=5,bytes:=40,elem:=0,len:=0,zero:=some [.int .i64 0,.int .i64 0,.int .i64 0,.int .i64 0,.int .i64 0],aS:=[(0,74,4),(4,3,1)] }:=by kernel_rfl
def WH:ty Tryz.prog 76 = { kind:=3,size:=5,bytes:=40,elem:=0,len:=0,zero:=some [.int .i64 0,.int .i64 0,.int .i64 0,.int .i64 0,.int .i64 0],aS:=[(0,74,4),(4,3,1)] }:=by kernel_rfl
def WI:ty Tryz.prog 77 = { kind:=3,size:=6,bytes:=64,elem:=0,len:=0,zero:=some [.int .i64 0,.int .i64 0,.int .i64 0,.int .i64 0,.int .i64 0,.slice none 0 0],aS:=[(0,76,5),(5,72,1)] }:=by kernel_rfl
def WJ:ty Tryz.prog 78 = { kind:=3,size:=6,bytes:=64,elem:=0,len:=0,zero:=some [.int .i64 0,.int .i64 0,.int .i64 0,.int .i64 0,.int .i64 0,.slice none 0 0],aS:=[(0,76,5),(5,72,1)] }:=by kernel_rfl
def WK:ty Tryz.prog 79 = { kind:=1,size:=1,bytes:=24,elem:=78,len:=0,zero:=some [.slice none 0 0],aS:=[] }:=by kernel_rfl
def WL:ty Tryz.prog 80 = { kind:=3,size:=4,bytes:=48,elem:=0,len:=0,zero:=some [.int .i64 0,.int .i64 0,.int .i64 0,.slice none 0 0],aS:=[(0,3,1),(1,3,1),(2,3,1),(3,22,1)] }:=by kernel_rfl
def WN:ty Tryz.prog 81 = { kind:=3,size:=4,bytes:=48,elem:=0,len:=0,zero:=some [.int .i64 0,.int .i64 0,.int .i64 0,.slice none 0 0],aS:=[(0,3,1),(1,3,1),(2,3,1),(3,22,1)] }:=by kernel_rfl
def WO:ty Tryz.prog 82 = { kind:=3,size:=2,bytes:=32,elem:=0,len:=0,zero:=some [.slice none 0 0,.int .i64 0],aS:=[(0,22,1),(1,3,1)] }:=by kernel_rfl
def WQ:ty Tryz.prog 83 = { kind:=3,size:=2,bytes:=32,elem:=0,len:=0,zero:=some [.slice none 0 0,.int .i64 0],aS:=[(0,22,1),(1,3,1)] }:=by kernel_rfl
def WR:ty Tryz.prog 86 = { kind:=7,size:=1,bytes:=8,elem:=132,len:=0,zero:=some [.pointer none],aS:=[] }:=by kernel_rfl
def WT:ty Tryz.prog 93 = { kind:=3,size:=4,bytes:=32,elem:=0,len:=0,zero:=some [.int .i64 0,.int .i64 0,.int .i64 0,.int .i64 0],aS:=[(0,3,1),(1,3,1),(2,3,1),(3,3,1)] }:=by kernel_rfl
def WU:ty Tryz.prog 94 = { kind:=3,size:=4,bytes:=32,elem:=0,len:=0,zero:=some [.int .i64 0,.int .i64 0,.int .i64 0,.int .i64 0],aS:=[(0,3,1),(1,3,1),(2,3,1),(3,3,1)] }:=by kernel_rfl
def WV:ty Tryz.prog 95 = { kind:=1,size:=1,bytes:=24,elem:=96,len:=0,zero:=some [.slice none 0 0],aS:=[] }:=by kernel_rfl
def WW:ty Tryz.prog 96 = { kind:=1,size:=1,bytes:=24,elem:=100,len:=0,zero:=some [.slice none 0 0],aS:=[] }:=by kernel_rfl
def WX:ty Tryz.prog 99 = { kind:=3,size:=2,bytes:=16,elem:=0,len:=0,zero:=some [.bool false,.int .i64 0],aS:=[(0,4,1),(1,3,1)] }:=by kernel_rfl
def WY:ty Tryz.prog 100 = { kind:=3,size:=2,bytes:=16,elem:=0,len:=0,zero:=some [.bool false,.int .i64 0],aS:=[(0,4,1),(1,3,1)] }:=by kernel_rfl
def WZ:ty Tryz.prog 103 = { kind:=1,size:=1,bytes:=24,elem:=121,len:=0,zero:=some [.slice none 0 0],aS:=[] }:=by kernel_rfl
def W2:ty Tryz.prog 104 = { kind:=3,size:=4,bytes:=48,elem:=0,len:=0,zero:=some [.int .i64 0,.slice none 0 0,.int .i64 0,.int .i64 0],aS:=[(0,3,1),(1,103,1),(2,3,1),(3,3,1)] }:=by kernel_rfl
def W3:ty Tryz.prog 105 = { kind:=3,size:=4,bytes:=48,elem:=0,len:=0,zero:=some [.int .i64 0,.slice none 0 0,.int .i64 0,.int .i64 0],aS:=[(0,3,1),(1,103,1),(2,3,1),(3,3,1)] }:=by kernel_rfl
def W4:ty Tryz.prog 107 = { kind:=1,size:=1,bytes:=24,elem:=150,len:=0,zero:=some [.slice none 0 0],aS:=[] }:=by kernel_rfl
def W5:ty Tryz.prog 108 = { kind:=3,size:=5,bytes:=104,elem:=0,len:=0,zero:=some [.int .i64 0,.slice none 0 0,.slice none 0 0,.slice none 0 0,.slice none 0 0],aS:=[(0,3,1),(1,22,1),(2,38,1),(3,22,1),(4,107,1)] }:=by kernel_rfl
def W6:ty Tryz.prog 109 = { kind:=3,size:=5,bytes:=104,elem:=0,len:=0,zero:=some [.int .i64 0,.slice none 0 0,.slice none 0 0,.slice none 0 0,.slice none 0 0],aS:=[(0,3,1),(1,22,1),(2,38,1),(3,22,1),(4,107,1)] }:=by kernel_rfl
def W7:ty Tryz.prog 110 = { kind:=1,size:=1,bytes:=24,elem:=149,len:=0,zero:=some [.slice none 0 0],aS:=[] }:=by kernel_rfl
def W8:ty Tryz.prog 116 = { kind:=8,size:=1,bytes:=8,elem:=4,len:=0,zero:=some [.map none],aS:=[] }:=by kernel_rfl
def W9:ty Tryz.prog 119 = { kind:=7,size:=1,bytes:=8,elem:=53,len:=0,zero:=some [.pointer none],aS:=[] }:=by kernel_rfl
def Xa:ty Tryz.prog 120 = { kind:=3,size:=3,bytes:=24,elem:=0,len:=0,zero:=some [.int .i64 0,.int .i64 0,.int .i64 0],aS:=[(0,3,1),(1,3,1),(2,3,1)] }:=by kernel_rfl
def Xf:ty Tryz.prog 121 = { kind:=3,size:=3,bytes:=24,elem:=0,len:=0,zero:=some [.int .i64 0,.int .i64 0,.int .i64 0],aS:=[(0,3,1),(1,3,1),(2,3,1)] }:=by kernel_rfl
def Xj:ty Tryz.prog 126 = { kind:=3,size:=2,bytes:=32,elem:=0,len:=0,zero:=some [.int .i64 0,.slice none 0 0],aS:=[(0,3,1),(1,23,1)] }:=by kernel_rfl
def Xm:ty Tryz.prog 127 = { kind:=3,size:=2,bytes:=32,elem:=0,len:=0,zero:=some [.int .i64 0,.slice none 0 0],aS:=[(0,3,1),(1,23,1)] }:=by kernel_rfl
def Xp:ty Tryz.prog 130 = { kind:=8,size:=1,bytes:=8,elem:=3,len:=0,zero:=some [.map none],aS:=[] }:=by kernel_rfl
def Xt:ty Tryz.prog 131 = { kind:=3,size:=8,bytes:=160,elem:=0,len:=0,zero:=some [.slice none 0 0,.slice none 0 0,.slice none 0 0,.int .i64 0,.slice none 0 0,.slice none 0 0,.slice none 0 0,.map none],aS:=[(0,32,4),(4,23,1),(5,65,1),(6,65,1),(7,130,1)] }:=by kernel_rfl
def XA:ty Tryz.prog 132 = { kind:=3,size:=8,bytes:=160,elem:=0,len:=0,zero:=some [.slice none 0 0,.slice none 0 0,.slice none 0 0,.int .i64 0,.slice none 0 0,.slice none 0 0,.slice none 0 0,.map none],aS:=[(0,32,4),(4,23,1),(5,65,1),(6,65,1),(7,130,1)] }:=by kernel_rfl
def XB:ty Tryz.prog 136 = { kind:=3,size:=3,bytes:=24,elem:=0,len:=0,zero:=some [.int .i64 0,.int .i64 0,.int .i64 0],aS:=[(0,3,1),(1,3,1),(2,3,1)] }:=by kernel_rfl
def XC:ty Tryz.prog 137 = { kind:=3,size:=3,bytes:=24,elem:=0,len:=0,zero:=some [.int .i64 0,.int .i64 0,.int .i64 0],aS:=[(0,3,1),(1,3,1),(2,3,1)] }:=by kernel_rfl
def XD:ty Tryz.prog 141 = { kind:=7,size:=1,bytes:=8,elem:=179,len:=0,zero:=some [.pointer none],aS:=[] }:=by kernel_rfl
def XE:ty Tryz.prog 148 = { kind:=3,size:=2,bytes:=16,elem:=0,len:=0,zero:=some [.int .i64 0,.int .i64 0],aS:=[(0,3,1),(1,3,1)] }:=by kernel_rfl
def XF:ty Tryz.prog 149 = { kind:=3,size:=2,bytes:=16,elem:=0,len:=0,zero:=some [.int .i64 0,.int .i64 0],aS:=[(0,3,1),(1,3,1)] }:=by kernel_rfl
def XG:ty Tryz.prog 150 = { kind:=1,size:=1,bytes:=24,elem:=152,len:=0,zero:=some [.slice none 0 0],aS:=[] }:=by kernel_rfl
def XH:ty Tryz.prog 151 = { kind:=3,size:=2,bytes:=16,elem:=0,len:=0,zero:=some [.int .i64 0,.int .i64 0],aS:=[(0,3,1),(1,3,1)] }:=by kernel_rfl
def XI:ty Tryz.prog 152 = { kind:=3,size:=2,bytes:=16,elem:=0,len:=0,zero:=some [.int .i64 0,.int .i64 0],aS:=[(0,3,1),(1,3,1)] }:=by kernel_rfl
def XJ:ty Tryz.prog 162 = { kind:=3,size:=3,bytes:=56,elem:=0,len:=0,zero:=some [.int .i64 0,.slice none 0 0,.slice none 0 0],aS:=[(0,127,2),(2,22,1)] }:=by kernel_rfl
def XK:ty Tryz.prog 163 = { kind:=3,size:=3,bytes:=56,elem:=0,len:=0,zero:=some [.int .i64 0,.slice none 0 0,.slice none 0 0],aS:=[(0,127,2),(2,22,1)] }:=by kernel_rfl
def XL:ty Tryz.prog 164 = { kind:=1,size:=1,bytes:=24,elem:=163,len:=0,zero:=some [.slice none 0 0],aS:=[] }:=by kernel_rfl
def XM:ty Tryz.prog 174 = { kind:=5,size:=1,bytes:=8,elem:=0,len:=0,zero:=some [.int .u64 0],aS:=[] }:=by kernel_rfl
def XN:ty Tryz.prog 177 = { kind:=1,size:=1,bytes:=24,elem:=180,len:=0,zero:=some [.slice none 0 0],aS:=[] }:=by kernel_rfl
def XO:ty Tryz.prog 178 = { kind:=3,size:=6,bytes:=128,elem:=0,len:=0,zero:=some [.slice none 0 0,.slice none 0 0,.slice none 0 0,.int .i64 0,.slice none 0 0,.slice none 0 0],aS:=[(0,32,4),(4,177,1),(5,177,1)] }:=by kernel_rfl
def XP:ty Tryz.prog 179 = { kind:=3,size:=6,bytes:=128,elem:=0,len:=0,zero:=some [.slice none 0 0,.slice none 0 0,.slice none 0 0,.int .i64 0,.slice none 0 0,.slice none 0 0],aS:=[(0,32,4),(4,177,1),(5,177,1)] }:=by kernel_rfl
def XQ:ty Tryz.prog 180 = { kind:=1,size:=1,bytes:=24,elem:=182,len:=0,zero:=some [.slice none 0 0],aS:=[] }:=by kernel_rfl
def XR:ty Tryz.prog 181 = { kind:=3,size:=2,bytes:=16,elem:=0,len:=0,zero:=some [.int .i64 0,.bool false],aS:=[(0,3,1),(1,4,1)] }:=by kernel_rfl
def XS:ty Tryz.prog 182 = { kind:=3,size:=2,bytes:=16,elem:=0,len:=0,zero:=some [.int .i64 0,.bool false],aS:=[(0,3,1),(1,4,1)] }:=by kernel_rfl
def XT:ty Tryz.prog 200 = { kind:=5,size:=1,bytes:=8,elem:=0,len:=0,zero:=some [.int .i64 0],aS:=[] }:=by kernel_rfl
def XU:ty Tryz.prog 207 = { kind:=5,size:=1,bytes:=4,elem:=0,len:=0,zero:=some [.int .u32 0],aS:=[] }:=by kernel_rfl
def XV:ty Tryz.prog 209 = { kind:=5,size:=1,bytes:=8,elem:=0,len:=0,zero:=some [.int .u64 0],aS:=[] }:=by kernel_rfl
def XW:ty Tryz.prog 210 = { kind:=7,size:=1,bytes:=8,elem:=182,len:=0,zero:=some [.pointer none],aS:=[] }:=by kernel_rfl
def XX:ty Tryz.prog 211 = { kind:=8,size:=1,bytes:=8,elem:=212,len:=0,zero:=some [.map none],aS:=[] }:=by kernel_rfl
def XZ:ty Tryz.prog 212 = { kind:=8,size:=1,bytes:=8,elem:=3,len:=0,zero:=some [.map none],aS:=[] }:=by kernel_rfl
def X1:ty Tryz.prog 222 = { kind:=5,size:=1,bytes:=8,elem:=0,len:=0,zero:=some [.int .u64 0],aS:=[] }:=by kernel_rfl
def X6:ty Tryz.prog 226 = { kind:=7,size:=1,bytes:=8,elem:=3,len:=0,zero:=some [.pointer none],aS:=[] }:=by kernel_rfl
def X7:ty Tryz.prog 229 = { kind:=7,size:=1,bytes:=8,elem:=222,len:=0,zero:=some [.pointer none],aS:=[] }:=by kernel_rfl
def X8:ty Tryz.prog 233 = { kind:=3,size:=4,bytes:=40,elem:=0,len:=0,zero:=some [.pointer none,.pointer none,.pointer none,.string ⟨#[]⟩],aS:=[(0,17,1),(1,17,1),(2,17,1),(3,9,1)] }:=by kernel_rfl
def X9:ty Tryz.prog 234 = { kind:=3,size:=4,bytes:=40,elem:=0,len:=0,zero:=some [.pointer none,.pointer none,.pointer none,.string ⟨#[]⟩],aS:=[(0,17,1),(1,17,1),(2,17,1),(3,9,1)] }:=by kernel_rfl
def X':ty Tryz.prog 235 = { kind:=2,size:=0,bytes:=0,elem:=16,len:=0,zero:=some [],aS:=[] }:=by kernel_rfl
def Ya:ty Tryz.prog 236 = { kind:=3,size:=0,bytes:=0,elem:=0,len:=0,zero:=some [],aS:=[(0,235,0)] }:=by kernel_rfl
def Yb:ty Tryz.prog 237 = { kind:=3,size:=0,bytes:=0,elem:=0,len:=0,zero:=some [],aS:=[(0,235,0)] }:=by kernel_rfl
def Yc:ty Tryz.prog 238 = { kind:=5,size:=1,bytes:=1,elem:=0,len:=0,zero:=some [.int .u8 0],aS:=[] }:=by kernel_rfl
def Yd:ty Tryz.prog 239 = { kind:=5,size:=1,bytes:=1,elem:=0,len:=0,zero:=some [.int .u8 0],aS:=[] }:=by kernel_rfl
def Ye:ty Tryz.prog 241 = { kind:=7,size:=1,bytes:=8,elem:=5,len:=0,zero:=some [.pointer none],aS:=[] }:=by kernel_rfl
def Yf:ty Tryz.prog 242 = { kind:=5,size:=1,bytes:=4,elem:=0,len:=0,zero:=some [.int .i32 0],aS:=[] }:=by kernel_rfl
def Yg:ty Tryz.prog 243 = { kind:=5,size:=1,bytes:=4,elem:=0,len:=0,zero:=some [.int .i32 0],aS:=[] }:=by kernel_rfl
def Yh:ty Tryz.prog 244 = { kind:=3,size:=11,bytes:=48,elem:=0,len:=0,zero:=some [.int .u64 0,.int .u64 0,.int .u32 0,.int .u8 0,.int .u8 0,.int .u8 0,.int .u8 0,.nilFunc,.pointer none,.int .i32 0,.int .i32 0],aS:=[(0,12,1),(1,12,1),(2,207,1),(3,238,1),(4,5,1),(5,5,1),(6,239,1),(7,240,1),(8,241,1),(9,242,1),(10,243,1)] }:=by kernel_rfl
def Yi:ty Tryz.prog 245 = { kind:=3,size:=11,bytes:=48,elem:=0,len:=0,zero:=some [.int .u64 0,.int .u64 0,.int .u32 0,.int .u8 0,.int .u8 0,.int .u8 0,.int .u8 0,.nilFunc,.pointer none,.int .i32 0,.int .i32 0],aS:=[(0,12,1),(1,12,1),(2,207,1),(3,238,1),(4,5,1),(5,5,1),(6,239,1),(7,240,1),(8,241,1),(9,242,1),(10,243,1)] }:=by kernel_rfl
def Yj:Tryz.prog.underlying 2=some (.int .i64):=by kernel_rfl
def Yk:Tryz.prog.underlying 3=some (.int .i64):=by kernel_rfl
def Yl:Tryz.prog.underlying 5=some (.int .u8):=by kernel_rfl
def Ym:Tryz.prog.underlying 6=some (.int .u8):=by kernel_rfl
def Yn:Tryz.prog.underlying 12=some (.int .u64):=by kernel_rfl
def Yo:Tryz.prog.underlying 21=some (.int .i32):=by kernel_rfl
def Yp:Tryz.prog.underlying 39=some (.int .i64):=by kernel_rfl
def Yq:Tryz.prog.underlying 174=some (.int .u64):=by kernel_rfl
def Yr:Tryz.prog.underlying 200=some (.int .i64):=by kernel_rfl
def Ys:Tryz.prog.underlying 207=some (.int .u32):=by kernel_rfl
def Yt:Tryz.prog.underlying 209=some (.int .u64):=by kernel_rfl
def Yu:Tryz.prog.underlying 222=some (.int .u64):=by kernel_rfl
def Yv:Tryz.prog.underlying 238=some (.int .u8):=by kernel_rfl
def Yw:Tryz.prog.underlying 239=some (.int .u8):=by kernel_rfl
def Yx:Tryz.prog.underlying 242=some (.int .i32):=by kernel_rfl
def Yy:Tryz.prog.underlying 243=some (.int .i32):=by kernel_rfl
def Yz:zeroV Tryz.prog 4=some (.bool false):=by kernel_rfl
def YA:AZ Tryz.prog 116=0:=by kernel_rfl
def YB:jM Tryz.prog 116 0:=jM.int (kt:=3) (et:=4) (by kernel_rfl) (by kernel_rfl)
def YC:zeroV Tryz.prog 3=some (.int .i64 0):=by kernel_rfl
def YD:AZ Tryz.prog 130=3:=by kernel_rfl
def YE:jM Tryz.prog 130 3:=jM.aii (kt:=137) (et:=3) (by kernel_rfl) (by kernel_rfl) Hg (by kernel_rfl)
def YF:zeroV Tryz.prog 212=some (.map none):=by kernel_rfl
def YG:AZ Tryz.prog 211=0:=by kernel_rfl
def YH:jM Tryz.prog 211 0:=jM.int (kt:=3) (et:=212) (by kernel_rfl) (by kernel_rfl)
def YI:AZ Tryz.prog 212=0:=by kernel_rfl
def YJ:jM Tryz.prog 212 0:=jM.int (kt:=3) (et:=3) (by kernel_rfl) (by kernel_rfl)
def YK:A2 Tryz.prog 9=false:=by kernel_rfl
def YL:Tryz.prog.underlying 9=some .string:=by kernel_rfl
def wu:type_of% VU/\type_of% VV/\type_of% VW/\type_of% VX/\type_of% VY/\type_of% VZ/\type_of% V0/\type_of% V3/\type_of% V4/\type_of% V5/\type_of% V6/\type_of% V7/\type_of% V8/\type_of% V9/\type_of% V'/\type_of% Wa/\type_of% Wd/\type_of% We/\type_of% Wf/\type_of% Wg/\type_of% Wh/\type_of% Wi/\type_of% Wj/\type_of% Wl/\type_of% Wm/\type_of% Wn/\type_of% Wo/\type_of% Wp/\type_of% Wq/\type_of% Wr/\type_of% Ws/\type_of% Wt/\type_of% Wu/\type_of% Wv/\type_of% Ww/\type_of% Wx/\type_of% Wy/\type_of% WC/\type_of% WD/\type_of% WE/\type_of% WG/\type_of% WH/\type_of% WI/\type_of% WJ/\type_of% WK/\type_of% WL/\type_of% WN/\type_of% WO/\type_of% WQ/\type_of% WR/\type_of% WT/\type_of% WU/\type_of% WV/\type_of% WW/\type_of% WX/\type_of% WY/\type_of% WZ/\type_of% W2/\type_of% W3/\type_of% W4/\type_of% W5/\type_of% W6/\type_of% W7/\type_of% W8/\type_of% W9/\type_of% Xa/\type_of% Xf/\type_of% Xj/\type_of% Xm/\type_of% Xp/\type_of% Xt/\type_of% XA/\type_of% XB/\type_of% XC/\type_of% XD/\type_of% XE/\type_of% XF/\type_of% XG/\type_of% XH/\type_of% XI/\type_of% XJ/\type_of% XK/\type_of% XL/\type_of% XM/\type_of% XN/\type_of% XO/\type_of% XP/\type_of% XQ/\type_of% XR/\type_of% XS/\type_of% XT/\type_of% XU/\type_of% XV/\type_of% XW/\type_of% XX/\type_of% XZ/\type_of% X1/\type_of% X6/\type_of% X7/\type_of% X8/\type_of% X9/\type_of% X'/\type_of% Ya/\type_of% Yb/\type_of% Yc/\type_of% Yd/\type_of% Ye/\type_of% Yf/\type_of% Yg/\type_of% Yh/\type_of% Yi/\type_of% Yj/\type_of% Yk/\type_of% Yl/\type_of% Ym/\type_of% Yn/\type_of% Yo/\type_of% Yp/\type_of% Yq/\type_of% Yr/\type_of% Ys/\type_of% Yt/\type_of% Yu/\type_of% Yv/\type_of% Yw/\type_of% Yx/\type_of% Yy/\type_of% Yz/\type_of% YA/\type_of% YB/\type_of% YC/\type_of% YD/\type_of% YE/\type_of% YF/\type_of% YG/\type_of% YH/\type_of% YI/\type_of% YJ/\type_of% YK/\type_of% YL :=
 ⟨VU,VV,VW,VX,VY,VZ,V0,V3,V4,V5,V6,V7,V8,V9,V',Wa,Wd,We,Wf,Wg,Wh,Wi,Wj,Wl,Wm,Wn,Wo,Wp,Wq,Wr,Ws,Wt,Wu,Wv,Ww,Wx,Wy,WC,WD,WE,WG,WH,WI,WJ,WK,WL,WN,WO,WQ,WR,WT,WU,WV,WW,WX,WY,WZ,W2,W3,W4,W5,W6,W7,W8,W9,Xa,Xf,Xj,Xm,Xp,Xt,XA,XB,XC,XD,XE,XF,XG,XH,XI,XJ,XK,XL,XM,XN,XO,XP,XQ,XR,XS,XT,XU,XV,XW,XX,XZ,X1,X6,X7,X8,X9,X',Ya,Yb,Yc,Yd,Ye,Yf,Yg,Yh,Yi,Yj,Yk,Yl,Ym,Yn,Yo,Yp,Yq,Yr,Ys,Yt,Yu,Yv,Yw,Yx,Yy,Yz,YA,YB,YC,YD,YE,YF,YG,YH,YI,YJ,YK,YL⟩
def Ac:=Q4 @wu @Bc @Sc @Rc
def Kc:=Q4 @ui @Lc @wu @Rc
def Oc:=aaL @qL.eq_1 @qL.eq_2 @or_true @false_or @Bc @Sc @Rc
def Hr:=aaP @uu.eq_1 @uu.eq_2 @Bc @Rc @ui @Lc @wu (QZ @and_true @ED @Hk)
def Tc:=aaP @Has.eq_1 @Has.eq_2 @bN.{0} @du.{0} @ln.{0} @gR @ui (aaJ @Lc @wu @Rc @and_true @ED @Hk)
def Qc:=aaP @C9.eq_1 @C9.eq_2 @dV.eq_1 @dV.eq_2 @dV.eq_3 @dP.eq_1 @YM (aaJ @YN @ln.{0} @ui @Lc @wu @Rc)
inductive Sq(P:Program)(N n0:Nat)(y:Code)(Q:Exit->St->Prop):Exit->St->Prop
 |n (s:St) (h:W P N n0 y Q s):Sq P N n0 y Q .normal s
 |e (e:Exit) (s:St) (hi:uX e=false) (h:Q e s):Sq P N n0 y Q e s
inductive Bq(id:Nat)(Q:Exit->St->Prop):Exit->St->Prop
 |n (s:St) (h:Q .normal s):Bq id Q .normal s
 |x (s:St) (h:Q .normal s):Bq id Q (.exit id) s
 |e (e:Exit) (s:St) (hi:BL id e=false) (h:Q e s):Bq id Q e s
section
variable {P:Program} {N n0:Nat} {σ:St} {Q:Exit->St->Prop}
def Xk{x y:Code}(h:W P N n0 x (Sq P N n0 y Q) σ):W P N n0 (.seq x y) Q σ:=Wk λ_ h1 h2=>S4 h λ_ _ h=>by
 cases h with
 |n _ h=>exact h1 _ h
 |e _ _ hi h=>exact h2 _ _ hi h
def Xb{id:Nat}{c:Code}(h:W P N n0 c (Bq id Q) σ):W P N n0 (.block id c) Q σ:=Wb λ_ h1 h2 h3=>S4 h λ_ _ h=>by
 cases h with
 |n _ h=>exact h1 _ h
 |x _ h=>exact h2 _ h
 |e _ _ hi h=>exact h3 _ _ hi h
def hn{y:Code}(s:St)(h:W P N n0 y Q s):Sq P N n0 y Q .normal s:=.n s h
def he{y:Code}(e:Exit)(s:St)(hi:uX e=false)(h:Q e s):Sq P N n0 y Q e s:=.e e s hi h
def dR{id:Nat}(s:St)(h:Q .normal s):Bq id Q .normal s:=.n s h
def fl{id:Nat}(s:St)(h:Q .normal s):Bq id Q (.exit id) s:=.x s h
def gk{id:Nat}(e:Exit)(s:St)(hi:BL id e=false)(h:Q e s):Bq id Q e s:=.e e s hi h
def wo{x y:Code}(h:∀ Q':Exit->St->Prop,(∀ s,W P N n0 y Q s->Q' .normal s)->(∀ e s,uX e=false->Q e s->Q' e s)->W P N n0 x Q' σ):W P N n0 x (Sq P N n0 y Q) σ:=h _ .n .e
def YO{x y z:Code}(h:∀ Q':Exit->St->Prop,(∀ s,W P N n0 y Q s->Q' .normal s)->(∀ e s,uX e=false->Q e s->Q' e s)->W P N n0 x (Sq P N n0 z Q') σ):W P N n0 x (Sq P N n0 z (Sq P N n0 y Q)) σ:=h _ .n .e
def aid{x y z:Code}{id:Nat}(h:∀ Q':Exit->St->Prop,(∀ s,W P N n0 y Q s->Q' .normal s)->(∀ e s,uX e=false->Q e s->Q' e s)->W P N n0 x (Sq P N n0 z (Bq id Q')) σ):W P N n0 x (Sq P N n0 z (Bq id (Sq P N n0 y Q))) σ:=h _ .n .e
end
def X0:True:=trivial
def X2{a b:Prop}(x:a)(y:b):a/\b:=⟨x,y⟩
def X3{a b c:Prop}(x:a)(y:b)(z:c):a/\b/\c:=⟨x,y,z⟩
def X4{a b c d:Prop}(x:a)(y:b)(z:c)(u:d):a/\b/\c/\d:=⟨x,y,z,u⟩
def X5{a b c d e:Prop}(x:a)(y:b)(z:c)(u:d)(v:e):a/\b/\c/\d/\e:=⟨x,y,z,u,v⟩
theorem Xr{p q e:Prop}(x:e)(h:q)(k:e->q->p:=by first|(intro hx hq;(first|refine rr ?_|refine wv ?_);intro K hK;simp(disch:=omega)only[Ac,↓Pc,simprocAttr,hx];revert hK;revert K;exact hq)|fail):p:=k x h
theorem Xq{p q e:Prop}(x:e)(h:q)(k:e->q->p:=by first|(intro hx hq;(first|refine rr ?_|refine wv ?_|refine rb ?_|refine Fv ?_|refine ra ?_|refine Fw ?_);intro K hK;simp(disch:=omega)only[Ac,↓Pc,simprocAttr,hx];revert hK;revert K;exact hq)|fail):p:=k x h
theorem Xo{p q e:Prop}(x:e)(h:q)(k:e->q->p:=by first|(intro hx hq;with_reducible refine gO ?_;simp(disch:=omega)only[Ac,↓Pc,simprocAttr,hx];exact hq)|fail):p:=k x h
theorem Xc{p q t:Prop}(c:t)(h:q)(k:t->q->p:=by first|(intro hc hq;(first|refine cg hc rfl rfl ?_|refine cC hc rfl rfl ?_);exact hq)|fail):p:=k c h
theorem Xg{p q r e:Prop}(x:e)(h:q)(h2:r)(k:e->q->r->p/\True:=by first|(intro hx hq hr;refine And.intro ?_ ?_;(with_reducible refine gS (fun ba=>?_) (fun ba=>?_));(focus (have hb:=ba;(try simp only[iL,simprocAttr]at hb);all_goals(simp(disch:=omega)only[Ac,↓Pc,simprocAttr,hx,ba]);all_goals(clear ba;revert hb;exact hq)));(focus (have hb:=ba;(try simp only[iL,simprocAttr]at hb);all_goals(simp(disch:=omega)only[Ac,↓Pc,simprocAttr,hx,ba]);all_goals(clear ba;revert hb;exact hr)));((try have _:True:=hq);(try have _:True:=hr);trivial))|fail):p:=(k x h h2).1
theorem Xi{p q r:Prop}(h:q)(h2:r)(k:q->r->p/\True:=by first|(intro hq hr;refine And.intro ?_ ?_;refine Wc ?_ ?_;(focus (intro ht;(try simp only[iL,simprocAttr]at ht);all_goals(revert ht;exact hq)));(focus (intro ht;(try simp only[iL,simprocAttr]at ht);all_goals(revert ht;exact hr)));((try have _:True:=hq);(try have _:True:=hr);trivial))|fail):p:=(k h h2).1
theorem Xz{p q:Prop}(h:q)(k:q->p:=by first|(intro hq;(first|refine Wz rfl ?_|refine Xk ?_|refine Xb ?_|refine Sq.n _ ?_|refine Sq.e _ _ rfl ?_|refine Bq.n _ ?_|refine Bq.x _ ?_|refine Bq.e _ _ rfl ?_|refine hn _ ?_|refine he _ _ rfl ?_);(repeat(first|refine Wz rfl ?_|refine Xk ?_|refine Xb ?_|refine Sq.n _ ?_|refine Sq.e _ _ rfl ?_|refine Bq.n _ ?_|refine Bq.x _ ?_|refine Bq.e _ _ rfl ?_|refine hn _ ?_|refine he _ _ rfl ?_));exact hq)|fail):p:=k h
theorem Xh{p q:Prop}(h:q)(k:q->p:=by first|(intro hq;(first|refine aq _ _ rfl ?_|refine bm _ _ rfl ?_|refine fK _ _ rfl ?_|refine uS _ _ rfl ?_);exact hq)|fail):p:=k h
theorem Xu{p q:Prop}(h:q)(k:q->p:=by first|(intro hq;(first|refine Sq.n _ ?_|refine Sq.e _ _ rfl ?_|refine Bq.n _ ?_|refine Bq.x _ ?_|refine Bq.e _ _ rfl ?_|refine hn _ ?_|refine he _ _ rfl ?_|refine aq _ _ rfl ?_|refine bm _ _ rfl ?_|refine fK _ _ rfl ?_|refine uS _ _ rfl ?_);exact hq)|fail):p:=k h
theorem Xe{p q:Prop}(h:q)(k:q->p:=by first|(intro hq;simp only[Qc,Kc,simprocAttr];exact hq)|fail):p:=k h
theorem Xy{p q:Prop}(h:q)(k:q->p:=by first|(intro hq;refine Xz ?_;exact hq)|(intro hq;refine Xe ?_;exact hq)|fail):p:=k h
theorem XY{p q:Prop}(h:q)(k:q->p:=by first|(intro hq;refine Xz ?_;exact hq)|(intro hq;refine Xh ?_;exact hq)|(intro hq;refine Xe ?_;exact hq)|fail):p:=k h
theorem Xx{p:Prop}(h:p:=by first|omega|with_reducible rfl|exact trivial|fail):p:=h
theorem Xl{n0:Nat}{e:Nat->AV}{os:List Ob}{v res:AV}{bh:List Ob}(ho:os=bh)(h:v=res)(hl:n0<=bh.length:=by(simp only[List.length_cons,List.length_nil];omega)):oU n0 ⟨e,os⟩ v res bh:=eN ho hl h
theorem Xd{p q r:Prop}(h:q)(h2:r)(k:q->r->p:=by first|(intro hq hr;with_reducible refine And.intro ?_ ?_;exact hq;exact hr)|fail):p:=k h h2
theorem Xv{n0:Nat}{σ S:St}{e:Prop}(x:e)(k:e->aD n0 σ S:=by first|(intro hx;refine aD.ar _ _ rfl ?_;simp only[Tc,↓reduceIte,Nat.reduceEqDiff,Nat.reduceBEq,Nat.reduceAdd,hx];(try trivial);done)|fail):aD n0 σ S:=k x
theorem Xs{n0:Nat}{σ:St}{l:List (Nat×AV)}{co:List Ob}{e:Prop}(snap:Bool)(aj:List Nat)(x:e)(h1:e->qL (bE σ.aa.length aj) σ.aa aj co:=by(intro hx;simp only[Oc,simprocAttr,hx]))(h2:e->uu (a7 σ (kept aj co) (bE σ.aa.length aj) snap) σ.env l:=by(intro hx;simp only[Hr,↓reduceIte,Nat.reduceEqDiff,Nat.reduceBEq,Nat.reduceAdd,hx];(try(and_intros<;>first|exact .pure rfl|exact .eq rfl|exact .fz rfl (by simp only[Bc,Rc])))))(bG:aj.Nodup:=by decide)(hn:n0<=aj.length:=by decide)(bZ:∀ i,i<n0->aj.getD i 0=i:=by decide):aD n0 σ ⟨ar l,co⟩:=aD.se aj snap (h1 x) (h2 x) bG hn bZ
theorem Xw{n0:Nat}{σ:St}{v res:AV}{bh:List Ob}{e:Prop}(snap:Bool)(aj:List Nat)(x:e)(h1:e->qL (bE σ.aa.length aj) σ.aa aj bh:=by(intro hx;simp only[Oc,simprocAttr,hx]))(h2:a7 σ (kept aj bh) (bE σ.aa.length aj) snap res v:=by first|exact .pure rfl|exact .eq rfl|exact .fz rfl (by simp only[Bc,Rc]))(bG:aj.Nodup:=by decide)(hn:n0<=aj.length:=by decide)(bZ:∀ i,i<n0->aj.getD i 0=i:=by decide):oU n0 σ v res bh:=Nk aj snap (h1 x) h2 bG hn bZ
theorem Xn(aj:List Nat){P:Program}{σ:St}{f:FuncId}{args dO:List AV}{b7:List Ob}{dst:Option Tmp}{K:St->Prop}{res:AV}{dm:List Ob}(h:Holds P f dO b7 res dm)(hK:K (({ σ with aa:=fF σ.aa aj (dm.map (bO (bE σ.aa.length aj))) }:St).put dst (br (bE σ.aa.length aj) res)))(bG:aj.Nodup:=by decide)(ho:zE (bE σ.aa.length aj) σ.aa aj b7:=by((repeat'(first|exact trivial|with_reducible refine And.intro ?_ ?_|refine And.intro ?_ ?_))<;>first|rfl|(rw[Hu];rfl)|(rw[CX];rfl)|(rw[oz];rfl)|(rw[Lh];rfl)))(ha:jN (a7 σ (·∈aj) (bE σ.aa.length aj) false) dO args:=by((repeat'(first|exact trivial|refine And.intro ?_ ?_))<;>(first|exact .pure rfl|exact .eq rfl|exact .fz rfl (by simp only[Bc,Rc])))):uf P f args dst K σ:=jf aj h bG ho ha hK
def Pw:=aaJ @rO @od @mX @mY @cy.eq_1 @eC.eq_1
theorem Va{p q e:Prop}(x:e)(h:q)(k:e->q->p:=by first|(intro hx hq;(try with_reducible intro K hK);(first|((first|refine rr ?_|refine wv ?_);intro K hK;simp(disch:=omega)only[Ac,↓Pc,simprocAttr,hx];show _)|(with_reducible refine gO ?_;simp(disch:=omega)only[Ac,↓Pc,simprocAttr,hx];show _)|(refine hK _ ?_;clear hK K)|refine Wz rfl ?_|refine Xk ?_|refine Xb ?_|refine Sq.n _ ?_|refine Sq.e _ _ rfl ?_|refine Bq.n _ ?_|refine Bq.x _ ?_|refine Bq.e _ _ rfl ?_|refine hn _ ?_|refine he _ _ rfl ?_|(simp only[Qc,Kc,simprocAttr];show _)|(with_reducible refine And.intro ?_ ?_;(focus (clear hq;first|omega|with_reducible rfl|exact trivial))));(repeat(first|((first|refine rr ?_|refine wv ?_);intro K hK;simp(disch:=omega)only[Ac,↓Pc,simprocAttr,hx];show _)|(with_reducible refine gO ?_;simp(disch:=omega)only[Ac,↓Pc,simprocAttr,hx];show _)|(refine hK _ ?_;clear hK K)|refine Wz rfl ?_|refine Xk ?_|refine Xb ?_|refine Sq.n _ ?_|refine Sq.e _ _ rfl ?_|refine Bq.n _ ?_|refine Bq.x _ ?_|refine Bq.e _ _ rfl ?_|refine hn _ ?_|refine he _ _ rfl ?_|(simp only[Qc,Kc,simprocAttr];show _)|(with_reducible refine And.intro ?_ ?_;(focus (clear hq;first|omega|with_reducible rfl|exact trivial)))));(try revert hK);(try revert K);exact hq)|fail):p:=k x h
theorem Vb{p q e:Prop}(x:e)(h:q)(k:e->q->p:=by first|(intro hx hq;(try with_reducible intro K hK);(first|((first|refine rr ?_|refine wv ?_);intro K hK;simp(disch:=omega)only[Ac,↓Pc,simprocAttr,hx];show _)|(with_reducible refine gO ?_;simp(disch:=omega)only[Ac,↓Pc,simprocAttr,hx];show _)|(refine hK _ ?_;clear hK K)|refine Wz rfl ?_|refine Xk ?_|refine Xb ?_|refine Sq.n _ ?_|refine Sq.e _ _ rfl ?_|refine Bq.n _ ?_|refine Bq.x _ ?_|refine Bq.e _ _ rfl ?_|refine hn _ ?_|refine he _ _ rfl ?_|refine aq _ _ rfl ?_|refine bm _ _ rfl ?_|refine fK _ _ rfl ?_|refine uS _ _ rfl ?_|(simp only[Qc,Kc,simprocAttr];show _)|(with_reducible refine And.intro ?_ ?_;(focus (clear hq;first|omega|with_reducible rfl|exact trivial))));(repeat(first|((first|refine rr ?_|refine wv ?_);intro K hK;simp(disch:=omega)only[Ac,↓Pc,simprocAttr,hx];show _)|(with_reducible refine gO ?_;simp(disch:=omega)only[Ac,↓Pc,simprocAttr,hx];show _)|(refine hK _ ?_;clear hK K)|refine Wz rfl ?_|refine Xk ?_|refine Xb ?_|refine Sq.n _ ?_|refine Sq.e _ _ rfl ?_|refine Bq.n _ ?_|refine Bq.x _ ?_|refine Bq.e _ _ rfl ?_|refine hn _ ?_|refine he _ _ rfl ?_|refine aq _ _ rfl ?_|refine bm _ _ rfl ?_|refine fK _ _ rfl ?_|refine uS _ _ rfl ?_|(simp only[Qc,Kc,simprocAttr];show _)|(with_reducible refine And.intro ?_ ?_;(focus (clear hq;first|omega|with_reducible rfl|exact trivial)))));(try revert hK);(try revert K);exact hq)|fail):p:=k x h
theorem Vc{p q e t:Prop}(x:e)(c:t)(h:q)(k:e->t->q->p:=by first|(intro hx hc hq;(try with_reducible intro K hK);(first|((first|refine rr ?_|refine wv ?_|refine rb ?_|refine Fv ?_|refine ra ?_|refine Fw ?_);intro K hK;simp(disch:=omega)only[Ac,↓Pc,simprocAttr,hx];show _)|(with_reducible refine gO ?_;simp(disch:=omega)only[Ac,↓Pc,simprocAttr,hx];show _)|(refine hK _ ?_;clear hK K)|refine Wz rfl ?_|refine Xk ?_|refine Xb ?_|refine Sq.n _ ?_|refine Sq.e _ _ rfl ?_|refine Bq.n _ ?_|refine Bq.x _ ?_|refine Bq.e _ _ rfl ?_|refine hn _ ?_|refine he _ _ rfl ?_|(simp only[Qc,Kc,simprocAttr];show _)|(with_reducible refine And.intro ?_ ?_;(focus (clear hq;first|omega|with_reducible rfl|exact trivial)))|(apply cg;(focus(repeat(first|exact hc|exact hc.1|have hc:=hc.2)));rfl;rfl)|(apply cC;(focus(repeat(first|exact hc|exact hc.1|have hc:=hc.2)));rfl;rfl));(repeat(first|((first|refine rr ?_|refine wv ?_|refine rb ?_|refine Fv ?_|refine ra ?_|refine Fw ?_);intro K hK;simp(disch:=omega)only[Ac,↓Pc,simprocAttr,hx];show _)|(with_reducible refine gO ?_;simp(disch:=omega)only[Ac,↓Pc,simprocAttr,hx];show _)|(refine hK _ ?_;clear hK K)|refine Wz rfl ?_|refine Xk ?_|refine Xb ?_|refine Sq.n _ ?_|refine Sq.e _ _ rfl ?_|refine Bq.n _ ?_|refine Bq.x _ ?_|refine Bq.e _ _ rfl ?_|refine hn _ ?_|refine he _ _ rfl ?_|(simp only[Qc,Kc,simprocAttr];show _)|(with_reducible refine And.intro ?_ ?_;(focus (clear hq;first|omega|with_reducible rfl|exact trivial)))|(apply cg;(focus(repeat(first|exact hc|exact hc.1|have hc:=hc.2)));rfl;rfl)|(apply cC;(focus(repeat(first|exact hc|exact hc.1|have hc:=hc.2)));rfl;rfl)));(try revert hK);(try revert K);exact hq)|fail):p:=k x c h
theorem Vd{p q e t:Prop}(x:e)(c:t)(h:q)(k:e->t->q->p:=by first|(intro hx hc hq;(try with_reducible intro K hK);(first|((first|refine rr ?_|refine wv ?_|refine rb ?_|refine Fv ?_|refine ra ?_|refine Fw ?_);intro K hK;simp(disch:=omega)only[Ac,↓Pc,simprocAttr,hx];show _)|(with_reducible refine gO ?_;simp(disch:=omega)only[Ac,↓Pc,simprocAttr,hx];show _)|(refine hK _ ?_;clear hK K)|refine Wz rfl ?_|refine Xk ?_|refine Xb ?_|refine Sq.n _ ?_|refine Sq.e _ _ rfl ?_|refine Bq.n _ ?_|refine Bq.x _ ?_|refine Bq.e _ _ rfl ?_|refine hn _ ?_|refine he _ _ rfl ?_|refine aq _ _ rfl ?_|refine bm _ _ rfl ?_|refine fK _ _ rfl ?_|refine uS _ _ rfl ?_|(simp only[Qc,Kc,simprocAttr];show _)|(with_reducible refine And.intro ?_ ?_;(focus (clear hq;first|omega|with_reducible rfl|exact trivial)))|(apply cg;(focus(repeat(first|exact hc|exact hc.1|have hc:=hc.2)));rfl;rfl)|(apply cC;(focus(repeat(first|exact hc|exact hc.1|have hc:=hc.2)));rfl;rfl));(repeat(first|((first|refine rr ?_|refine wv ?_|refine rb ?_|refine Fv ?_|refine ra ?_|refine Fw ?_);intro K hK;simp(disch:=omega)only[Ac,↓Pc,simprocAttr,hx];show _)|(with_reducible refine gO ?_;simp(disch:=omega)only[Ac,↓Pc,simprocAttr,hx];show _)|(refine hK _ ?_;clear hK K)|refine Wz rfl ?_|refine Xk ?_|refine Xb ?_|refine Sq.n _ ?_|refine Sq.e _ _ rfl ?_|refine Bq.n _ ?_|refine Bq.x _ ?_|refine Bq.e _ _ rfl ?_|refine hn _ ?_|refine he _ _ rfl ?_|refine aq _ _ rfl ?_|refine bm _ _ rfl ?_|refine fK _ _ rfl ?_|refine uS _ _ rfl ?_|(simp only[Qc,Kc,simprocAttr];show _)|(with_reducible refine And.intro ?_ ?_;(focus (clear hq;first|omega|with_reducible rfl|exact trivial)))|(apply cg;(focus(repeat(first|exact hc|exact hc.1|have hc:=hc.2)));rfl;rfl)|(apply cC;(focus(repeat(first|exact hc|exact hc.1|have hc:=hc.2)));rfl;rfl)));(try revert hK);(try revert K);exact hq)|fail):p:=k x c h
theorem V2{p q r e:Prop}(x:e)(h:q)(h2:r)(k:e->q->r->p/\True:=by first|(intro hx hq hr;refine And.intro ?_ ?_;(try with_reducible intro K hK);(with_reducible refine gS (fun ba=>?_) (fun ba=>?_));(focus (have hb:=ba;(try simp only[iL,simprocAttr]at hb);all_goals(simp(disch:=omega)only[Ac,↓Pc,simprocAttr,hx,ba]);all_goals(clear ba;(try revert hK);(try revert K);revert hb;exact hq)));(focus (have hb:=ba;(try simp only[iL,simprocAttr]at hb);all_goals(simp(disch:=omega)only[Ac,↓Pc,simprocAttr,hx,ba]);all_goals(clear ba;(try revert hK);(try revert K);revert hb;exact hr)));((try have _:True:=hq);(try have _:True:=hr);trivial))|fail):p:=(k x h h2).1
theorem VD{p q r:Prop}(h:q)(h2:r)(k:q->r->p:=by first|(intro hq hr;(try with_reducible intro K hK);with_reducible refine And.intro ?_ ?_;(focus ((try clear hK K);(try revert hK);(try revert K);exact hq));(focus ((try clear hK K);(try revert hK);(try revert K);exact hr)))|fail):p:=k h h2
def U1(n m:Int)(hm:cY m):Holds Tryz.prog 14 [QM n,QM m] [] (QM (xH n m)) []:=by
 unfold cY at hm;refine Holds.aM 16 0 [.tmp 4] Tryz.func14 ?_;repeat'(first|(refine Xr X0 ?_;intro K hK)|(refine hK _ ?_;clear hK K)|(refine Xi ?_ ?_<;>try intro ht)|refine Xz ?_|(refine Xe ?_;first|refine aN rfl ?_|refine Xl ?_ ?_)|refine Xd ?_ ?_|exact Xx|fail)
 ·rw[xH,if_pos ht]
 ·have:=Nl n m Ey;omega
 ·rw[xH,if_neg Ey,(Nl n m Ey).1 ht]
 ·rw[xH,if_neg Ey,(Nl n m Ey).2.1 ht]
def ahn(xs:List Int):Holds Tryz.prog 8 [.tree 1 (ints xs)] [] (.lit (.bool (decide (xs.length<=400)))) []:=by
 refine Holds.aM 6 0 [.tmp 2] Tryz.func8 ?_;repeat'(first|(refine Xr X0 ?_;intro K hK)|(refine hK _ ?_;clear hK K)|refine Xz ?_|(refine Xe ?_;first|refine aN rfl ?_|refine Xl ?_ ?_)|fail)
 ·congr 3;simp;omega
def iB(L:List Int)(k:Nat)(n:Int)(hn:cY n)(hk:k<=L.length)(hL:L.length<1000000):Holds Tryz.prog 24 [.ptr 0 0 0,QM n] [.var [.tree 1 (ints L),QM k]] (QM (ek L k n))
  [.var [.tree 1 (ints L),QM (cQ L k)]]:=by
 refine Holds.aM 35 1 [.tmp 4] Tryz.func24 ?_;repeat'(first|(refine Xq X0 ?_;intro K hK)|refine Xo X0 ?_|refine Xc (U1 _ _ hn) ?_|(refine hK _ ?_;clear hK K)|(refine Xi ?_ ?_<;>try intro ht)|refine Xz ?_|(refine Xe ?_;first|refine aN rfl ?_|refine Xl ?_ ?_)|refine Xd ?_ ?_|exact Xx|fail)
 ·rw[cQ,if_pos Ey]
 ·rw[ek,if_pos Ey]
 ·rw[cQ,if_neg Ey,ED];rfl
 ·rw[ek,if_neg Ey,show((k:Int)+1-1).toNat=k by omega]
def Dk(L:List Int)(k:Nat)(n:Int)(hn:cY n)(fY:0<n)(hk:k<=L.length)(hL:L.length<1000000):Holds Tryz.prog 31 [.ptr 0 0 0,QM n] [.var [.tree 1 (ints L),QM k]] (.lit (.bool (BE L k n)))
  [.var [.tree 1 (ints L),QM (cQ L k)]]:=by
 refine Holds.aM 11 1 [.tmp 4] Tryz.func31 ?_;repeat'(first|(refine Xr X0 ?_;intro K hK)|(refine hK _ ?_;clear hK K)|fail)
 refine gr (iB L k n hn hk hL) G9 ?_;unfold cY at hn;repeat'(first|refine Xo X0 ?_|(refine hK _ ?_;clear hK K)|refine Xz ?_|(refine Xe ?_;first|refine aN rfl ?_|refine Xl ?_ ?_)|refine Xd ?_ ?_|exact Xx|fail)
 ·rfl
def MX(L:List Int)(k:Nat)(hk:k<=L.length)(hL:L.length<1000000):Holds Tryz.prog 68 [.ptr 0 0 0] [.var [.tree 1 (ints L),QM k]] (QM (qX L k))
  [.var [.tree 1 (ints L),QM (xK L k)]]:=by
 have h6:=kh (L:=L) (k:=k) (n:=6) Ey;have h20:=kh (L:=L) (k:=cQ L k) (n:=20) Ey;refine Holds.aM 14 1 [.tmp 2] Tryz.func68 ?_;repeat'(first|(refine Xr X0 ?_;intro K hK)|(refine hK _ ?_;clear hK K)|refine Xz ?_|fail)
 refine gr (iB L k 6 (by unfold cY;omega) hk hL) G9 ?_;have c1:ek L k 6<=3->xK L k=cQ L k:=λh=>by rw[xK,if_pos h]
 have c2:ek L k 6<3->qX L k=0:=λh=>by rw[qX,if_pos h]
 have c3:ek L k 6=3->qX L k=1099511627776:=λh=>by rw[qX,if_neg Ey,if_pos h]
 have c4:¬ ek L k 6<=3->xK L k=cQ L (cQ L k):=λh=>by rw[xK,if_neg h]
 have c5:¬ ek L k 6<=3->qX L k=1+ek L (cQ L k) 20:=λh=>by rw[qX,if_neg Ey,if_neg Ey]
 repeat'(first|(refine Xr X0 ?_;intro K hK)|(refine hK _ ?_;clear hK K)|(refine Xi ?_ ?_<;>try intro ht)|refine Xz ?_|(refine Xe ?_;first|refine aN rfl ?_|refine Xl ?_ ?_)|exact Xx|fail)
 iterate 3
  ·rw[c1 Ey]
  ·rw[c2 Ey]
 ·rw[c1 Ey]
 ·rw[c3 Ey]
 ·refine gr (iB L (cQ L k) 20 (by unfold cY;omega) (fJ hk) hL) G9 ?_;repeat'(first|refine Xo X0 ?_|(refine hK _ ?_;clear hK K)|refine Xz ?_|(refine Xe ?_;first|refine aN rfl ?_|refine Xl ?_ ?_)|refine Xd ?_ ?_|exact Xx|fail)
  ·rw[c4 Ey]
  ·rw[c5 Ey]
def UZ(L:List Int):Holds Tryz.prog 10 [.tree 1 (ints L)] [] (.ptr 0 0 0) [.var [.tree 1 (ints L),QM (0:Nat)]]:=by
 refine Holds.aM 6 0 [.tmp 2] Tryz.func10 ?_;refine Vb X0 ?_;rw[show(0:Int)=((0:Nat):Int) from rfl];exact eN rfl G9 rfl
def aik(a b:Int)(ha:bX a)(hb:bX b):Holds Tryz.prog 110 [QM a,QM b] [] (QM (eM a b)) []:=by
 unfold bX at *;refine Holds.aM 9 0 [.tmp 4] Tryz.func110 ?_;repeat'(first|(refine Xr X0 ?_;intro K hK)|(refine hK _ ?_;clear hK K)|refine Xz ?_|(refine Xe ?_;first|refine aN rfl ?_|refine Xl ?_ ?_)|refine Xd ?_ ?_|exact Xx|fail)
 ·rfl
def ail(a b:Int)(ha:bX a)(hb:bX b):Holds Tryz.prog 83 [QM a,QM b] [] (QM (eM a b)) []:=by
 unfold bX at *;refine Holds.aM 9 0 [.tmp 4] Tryz.func83 ?_;repeat'(first|(refine Xr X0 ?_;intro K hK)|(refine hK _ ?_;clear hK K)|refine Xz ?_|(refine Xe ?_;first|refine aN rfl ?_|refine Xl ?_ ?_)|refine Xd ?_ ?_|exact Xx|fail)
 ·rfl
def Ng(n:Int):Holds Tryz.prog 123 [QM n] [] (.lit (.bool (jV n))) []:=by
 refine Holds.aM 13 0 [.tmp 2] Tryz.func123 ?_;repeat'(first|(refine Xr X0 ?_;intro K hK)|(refine hK _ ?_;clear hK K)|(refine Xg X0 ?_ ?_<;>try intro hb)|refine Xz ?_|(refine Xe ?_;first|refine aN rfl ?_|refine Xl ?_ ?_)|fail)
 all_goals(refine congrArg (λb=>AV.lit (Value.bool b)) ?_;rw[mz];simp only[jV,decide_eq_true_eq,beq_iff_eq,bne_iff_ne,bc,lQ,kq,decide_eq_false_iff_not,jB,reduceCtorEq,iff_true,iff_false,true_iff,false_iff,eq_self];omega)
def M9(n:Int):Holds Tryz.prog 62 [QM n] [] (.lit (.bool (jV n))) []:=by
 refine Holds.aM 13 0 [.tmp 2] Tryz.func62 ?_;repeat'(first|(refine Xr X0 ?_;intro K hK)|(refine hK _ ?_;clear hK K)|(refine Xg X0 ?_ ?_<;>try intro hb)|refine Xz ?_|(refine Xe ?_;first|refine aN rfl ?_|refine Xl ?_ ?_)|fail)
 all_goals(refine congrArg (λb=>AV.lit (Value.bool b)) ?_;rw[mz];simp only[jV,decide_eq_true_eq,beq_iff_eq,bne_iff_ne,bc,lQ,kq,decide_eq_false_iff_not,jB,reduceCtorEq,iff_true,iff_false,true_iff,false_iff,eq_self];omega)
def Nf(m:ah)(n:Int):Holds Tryz.prog 122 [.agg (ao m),QM n] [] (.lit (.bool (ki m.rules n))) []:=by
 refine Holds.aM 13 0 [.tmp 4] Tryz.func122 ?_;repeat'(first|(refine Xr @ao.eq_1 ?_;intro K hK)|(refine hK _ ?_;clear hK K)|(refine Xg @ao.eq_1 ?_ ?_<;>try intro hb)|refine Xz ?_|(refine Xe ?_;first|refine aN rfl ?_|refine Xl ?_ ?_)|fail)
 all_goals(refine congrArg (λb=>AV.lit (Value.bool b)) ?_;rw[mz];simp only[ki,decide_eq_true_eq,beq_iff_eq,bne_iff_ne,bc,lQ,kq,decide_eq_false_iff_not,jB,reduceCtorEq,iff_true,iff_false,true_iff,false_iff,eq_self];omega)
def M7(m:ah)(n:Int):Holds Tryz.prog 61 [.agg (ao m),QM n] [] (.lit (.bool (ki m.rules n))) []:=by
 refine Holds.aM 13 0 [.tmp 4] Tryz.func61 ?_;repeat'(first|(refine Xr @ao.eq_1 ?_;intro K hK)|(refine hK _ ?_;clear hK K)|(refine Xg @ao.eq_1 ?_ ?_<;>try intro hb)|refine Xz ?_|(refine Xe ?_;first|refine aN rfl ?_|refine Xl ?_ ?_)|fail)
 all_goals(refine congrArg (λb=>AV.lit (Value.bool b)) ?_;rw[mz];simp only[ki,decide_eq_true_eq,beq_iff_eq,bne_iff_ne,bc,lQ,kq,decide_eq_false_iff_not,jB,reduceCtorEq,iff_true,iff_false,true_iff,false_iff,eq_self];omega)
def aim(n:Int):Holds Tryz.prog 107 [QM n] [] (.lit (.bool false)) []:=by
 refine Holds.aM 6 0 [.tmp 2] Tryz.func107 ?_;repeat'(first|(refine Xr @bne_self_eq_false.{0} ?_;intro K hK)|(refine hK _ ?_;clear hK K)|refine Xz ?_|(refine Xe ?_;first|refine aN rfl ?_|refine Xl ?_ ?_)|exact Xx|fail)
def Fo(a b:Int):Holds Tryz.prog 76 [QM a,QM b] [] (QM (kX a b)) []:=by
 refine Holds.aM 20 0 [.tmp 4] Tryz.func76 ?_;repeat'(first|(refine Xq X0 ?_;intro K hK)|refine Xo X0 ?_|refine Xc (aim _) ?_|(refine hK _ ?_;clear hK K)|(refine Xi ?_ ?_<;>try intro ht)|refine Xz ?_|(refine Xe ?_;first|refine aN rfl ?_|refine Xl ?_ ?_)|exact Xx|fail)
 all_goals(unfold kX;congr 2;(repeat' split)<;>omega)
def Nh(l:List Int)(hl:l.length<1000000):Holds Tryz.prog 75 [.tree 1 (ints l)] [] (QM (sq l)) []:=by
 generalize an:sq l=res;refine Holds.aM 18 0 [.tmp 2] Tryz.func75 ?_;repeat'(first|(refine Xr X0 ?_;intro K hK)|(refine hK _ ?_;clear hK K)|refine Xz ?_|fail)
 refine aQ (λk:Nat=>(⟨ar [(3,QM 0),(6,.tree 1 (ints l)),(7,QM l.length),(8,QM k)],[]⟩:St)) (λk=>k<=l.length/\sq (l.drop k)=res) (λk=>l.length-k) 0 ⟨aP _,an⟩ (Xv X0) ?_;rintro k⟨hk,hr⟩Ql ak aq;repeat'(first|(refine Xr X0 ?_;intro K hK)|(refine hK _ ?_;clear hK K)|(refine Xi ?_ ?_<;>try intro ht)|refine Xz ?_|refine Xh ?_|(refine Xe ?_;first|refine aN rfl ?_|refine Xl ?_ ?_)|refine Xd ?_ ?_|exact Xx|fail)
 ·rw[kR _ _ 0 Ey,sq,if_pos (by assumption)]at hr;rw[hr]
 ·rw[kR _ _ 0 Ey,sq,if_neg Ey]at hr;exact ak _ (k+1) ⟨Ey,hr⟩ Ey (Xv X0)
 ·rw[jL Ey,sq]at hr;rw[hr]
def ah6(m:ah)(c o:Int):Holds Tryz.prog 127 [.agg (ao m),QM c,QM o] [] (.lit (.bool (iD m c o))) []:=by
 refine Holds.aM 30 0 [.tmp 6] Tryz.func127 ?_;repeat'(first|(refine Xr (X4 @ao.eq_1 @cF @gJ @aT.eq_1) ?_;intro K hK)|(refine hK _ ?_;clear hK K)|(refine Xg (X4 @ao.eq_1 @cF @gJ @aT.eq_1) ?_ ?_<;>try intro hb)|refine Xz ?_|(refine Xe ?_;first|refine aN rfl ?_|refine Xl ?_ ?_)|refine Xd ?_ ?_|exact Xx|fail)
 all_goals(refine congrArg (λb=>AV.lit (Value.bool b)) ?_;rw[mz];simp only[iD,decide_eq_true_eq,beq_iff_eq,bne_iff_ne,bc,lQ,kq,decide_eq_false_iff_not,jB,reduceCtorEq,iff_true,iff_false,true_iff,false_iff,eq_self];omega)
def Na(m:ah)(c o:Int):Holds Tryz.prog 82 [.agg (ao m),QM c,QM o] [] (.lit (.bool (iD m c o))) []:=by
 refine Holds.aM 30 0 [.tmp 6] Tryz.func82 ?_;repeat'(first|(refine Xr (X4 @ao.eq_1 @cF @gJ @aT.eq_1) ?_;intro K hK)|(refine hK _ ?_;clear hK K)|(refine Xg (X4 @ao.eq_1 @cF @gJ @aT.eq_1) ?_ ?_<;>try intro hb)|refine Xz ?_|(refine Xe ?_;first|refine aN rfl ?_|refine Xl ?_ ?_)|refine Xd ?_ ?_|exact Xx|fail)
 all_goals(refine congrArg (λb=>AV.lit (Value.bool b)) ?_;rw[mz];simp only[iD,decide_eq_true_eq,beq_iff_eq,bne_iff_ne,bc,lQ,kq,decide_eq_false_iff_not,jB,reduceCtorEq,iff_true,iff_false,true_iff,false_iff,eq_self];omega)
def ain(c:Ct)(n:Int)(h1:0<=c.most)(h2:n<=1048576)(h3:0<=n)(h4:bX c.cA):Holds Tryz.prog 144 [.agg (dz c),QM n] [] (QM (l7 c.most c.cA n)) []:=by
 unfold bX at h4;have hm:c.most<n->0<=(n-c.most)*c.cA/\(n-c.most)*c.cA<=1048576*1099511627776:=λh=>⟨sY Ey h4.1,qG Ey h4.2 h4.1 Ey⟩;refine Holds.aM 17 0 [.tmp 4] Tryz.func144 ?_;repeat'(first|(refine Xr @dz.eq_1 ?_;intro K hK)|(refine hK _ ?_;clear hK K)|(refine Xi ?_ ?_<;>try intro ht)|refine Xz ?_|(refine Xe ?_;first|refine aN rfl ?_|refine Xl ?_ ?_)|refine Xd ?_ ?_|exact Xx|fail)
 ·rw[l7,if_pos ht]
 ·rw[l7,if_neg Ey]
def aio(n c:Int)(h2:n<=1048576)(h4:bX c):Holds Tryz.prog 48 [QM n,QM c] [] (QM (Dy n c)) []:=by
 unfold bX at h4;have hm:0<n->0<=n*c/\n*c<=1048576*1099511627776:=λh=>⟨sY Ey h4.1,qG Ey h4.2 h4.1 Ey⟩;refine Holds.aM 13 0 [.tmp 4] Tryz.func48 ?_;repeat'(first|(refine Xr X0 ?_;intro K hK)|(refine hK _ ?_;clear hK K)|(refine Xi ?_ ?_<;>try intro ht)|refine Xz ?_|(refine Xe ?_;first|refine aN rfl ?_|refine Xl ?_ ?_)|refine Xd ?_ ?_|exact Xx|fail)
 ·rw[Dy,if_pos ht]
 ·rw[Dy,if_neg Ey,if_pos Ey]
 ·rw[Dy,if_neg Ey,if_neg Ey]
def gm{α:Type}(p:α->Bool):Nat->List α->Int
 |_,[]=>-1
 |k,x::r=>if p x=true then(k:Int) else gm p (k+1) r
def Ab{α:Type}(p:α->Bool):∀ (l:List α) (k:Nat),decide (0<=gm p k l)=l.any p
 |[],k=>rfl
 |x::r,k=>by
  rw[gm,List.any_cons];split
  ·rename_i h;rw[h];simp
  ·rename_i h;rw[Ab p r (k+1)];simp_all
def aip(l:List (List cP))(g:FuncId)(bF:List AV)(aa:List Ob)(p:(List cP)->Bool)(hl:l.length<9223372036854775808)(hg:∀ x∈l,Holds Tryz.prog g ([.tree 6 (rowsOf cB x)]++bF) aa (.lit (.bool (p x))) aa):
  Holds Tryz.prog 147 [.tree 1 (rowsOf aT l),.fn g bF] aa (QM (gm p 0 l)) aa:=by
 generalize an:gm p 0 l=res;refine Holds.aM 19 aa.length [.tmp 4] Tryz.func147 ?_;refine Vb (X3 @cF @gJ @aT.eq_1) ?_;refine aQ (λk:Nat=>(⟨ar [(0,.tree 1 (rowsOf aT l)),(1,.fn g bF),(7,QM l.length),(8,QM k)],aa⟩:St)) (λk=>k<=l.length/\gm p k (l.drop k)=res) (λk=>l.length-k) 0 ⟨aP _,an⟩ (Xv X0) ?_;rintro k⟨hk,hr⟩Ql ak aq;by_cases bj:k<l.length
 ·have hx:=hg _ (aF (d:=default) bj);have hd:=kR l k default bj;generalize cd:l.getD k default=x at *;rw[hd,gm]at hr;simp only[dw,eJ,aT]at hx;((repeat'(first|refine Vb (X4 @cF @gJ @aT.eq_1 @cd) ?_|(refine Xi ?_ ?_<;>try intro ht)|exact Xx|fail))<;>try with_reducible intro K hK)
  refine gr hx (aZ _) ?_;((try revert hK K);(repeat'(first|refine Vb (X3 @cF @gJ @aT.eq_1) ?_|(refine Xi ?_ ?_<;>try intro ht)|fail)))
  ·rw[if_pos (by assumption)]at hr;rw[<- hr];exact eN rfl (aZ _) rfl
  ·rw[if_neg (by simp_all)]at hr;exact ak _ (k+1) ⟨Ey,hr⟩ Ey (Xv X0)
 ·((repeat'(first|refine Vb (X3 @cF @gJ @aT.eq_1) ?_|(refine Xi ?_ ?_<;>try intro ht)|exact Xx|fail)))
  rw[jL Ey,gm]at hr;rw[<- hr];exact eN rfl (aZ _) rfl
def ah0(l:List (List cP))(g:FuncId)(bF:List AV)(aa:List Ob)(p:(List cP)->Bool)(hl:l.length<9223372036854775808)(hg:∀ x∈l,Holds Tryz.prog g ([.tree 6 (rowsOf cB x)]++bF) aa (.lit (.bool (p x))) aa):
  Holds Tryz.prog 120 [.tree 1 (rowsOf aT l),.fn g bF] aa (.lit (.bool (l.any p))) aa:=by
 rw[<- Ab p l 0];refine Holds.aM 9 aa.length [.tmp 4] Tryz.func120 ?_;((refine Vb (X3 @cF @gJ @aT.eq_1) ?_)<;>try with_reducible intro K hK)
 refine gr (aip l g bF aa p hl hg) (aZ _) ?_;((try revert hK K);(refine Vb (X3 @cF @gJ @aT.eq_1) ?_))
 exact eN rfl (aZ _) rfl
def aiq(l:List cP)(g:FuncId)(bF:List AV)(aa:List Ob)(p:cP->Bool)(hl:l.length<9223372036854775808)(hg:∀ x∈l,Holds Tryz.prog g ([.agg (cB x)]++bF) aa (.lit (.bool (p x))) aa):
  Holds Tryz.prog 121 [.tree 6 (rowsOf cB l),.fn g bF] aa (QM (gm p 0 l)) aa:=by
 generalize an:gm p 0 l=res;refine Holds.aM 19 aa.length [.tmp 4] Tryz.func121 ?_;refine Vb (X3 @cF @gJ @cB.eq_1) ?_;refine aQ (λk:Nat=>(⟨ar [(0,.tree 6 (rowsOf cB l)),(1,.fn g bF),(7,QM l.length),(8,QM k)],aa⟩:St)) (λk=>k<=l.length/\gm p k (l.drop k)=res) (λk=>l.length-k) 0 ⟨aP _,an⟩ (Xv X0) ?_;rintro k⟨hk,hr⟩Ql ak aq;by_cases bj:k<l.length
 ·have hx:=hg _ (aF (d:=default) bj);have hd:=kR l k default bj;generalize cd:l.getD k default=x at *;rw[hd,gm]at hr;simp only[dw,eJ,cB]at hx;((repeat'(first|refine Vb (X4 @cF @gJ @cB.eq_1 @cd) ?_|(refine Xi ?_ ?_<;>try intro ht)|exact Xx|fail))<;>try with_reducible intro K hK)
  refine gr hx (aZ _) ?_;((try revert hK K);(repeat'(first|refine Vb (X3 @cF @gJ @cB.eq_1) ?_|(refine Xi ?_ ?_<;>try intro ht)|fail)))
  ·rw[if_pos (by assumption)]at hr;rw[<- hr];exact eN rfl (aZ _) rfl
  ·rw[if_neg (by simp_all)]at hr;exact ak _ (k+1) ⟨Ey,hr⟩ Ey (Xv X0)
 ·((repeat'(first|refine Vb (X3 @cF @gJ @cB.eq_1) ?_|(refine Xi ?_ ?_<;>try intro ht)|exact Xx|fail)))
  rw[jL Ey,gm]at hr;rw[<- hr];exact eN rfl (aZ _) rfl
def ah9(l:List cP)(g:FuncId)(bF:List AV)(aa:List Ob)(p:cP->Bool)(hl:l.length<9223372036854775808)(hg:∀ x∈l,Holds Tryz.prog g ([.agg (cB x)]++bF) aa (.lit (.bool (p x))) aa):
  Holds Tryz.prog 87 [.tree 6 (rowsOf cB l),.fn g bF] aa (.lit (.bool (l.any p))) aa:=by
 rw[<- Ab p l 0];refine Holds.aM 9 aa.length [.tmp 4] Tryz.func87 ?_;((refine Vb (X3 @cF @gJ @cB.eq_1) ?_)<;>try with_reducible intro K hK)
 refine gr (aiq l g bF aa p hl hg) (aZ _) ?_;((try revert hK K);(refine Vb (X3 @cF @gJ @cB.eq_1) ?_))
 exact eN rfl (aZ _) rfl
def air(l:List Ct)(g:FuncId)(bF:List AV)(aa:List Ob)(p:Ct->Bool)(hl:l.length<9223372036854775808)(hg:∀ x∈l,Holds Tryz.prog g ([.agg (dz x)]++bF) aa (.lit (.bool (p x))) aa):
  Holds Tryz.prog 126 [.tree 4 (rowsOf dz l),.fn g bF] aa (QM (gm p 0 l)) aa:=by
 generalize an:gm p 0 l=res;refine Holds.aM 19 aa.length [.tmp 4] Tryz.func126 ?_;refine Vb (X3 @cF @gJ @dz.eq_1) ?_;refine aQ (λk:Nat=>(⟨ar [(0,.tree 4 (rowsOf dz l)),(1,.fn g bF),(7,QM l.length),(8,QM k)],aa⟩:St)) (λk=>k<=l.length/\gm p k (l.drop k)=res) (λk=>l.length-k) 0 ⟨aP _,an⟩ (Xv X0) ?_;rintro k⟨hk,hr⟩Ql ak aq;by_cases bj:k<l.length
 ·have hx:=hg _ (aF (d:=default) bj);have hd:=kR l k default bj;generalize cd:l.getD k default=x at *;rw[hd,gm]at hr;simp only[dw,eJ,dz]at hx;((repeat'(first|refine Vb (X4 @cF @gJ @dz.eq_1 @cd) ?_|(refine Xi ?_ ?_<;>try intro ht)|exact Xx|fail))<;>try with_reducible intro K hK)
  refine gr hx (aZ _) ?_;((try revert hK K);(repeat'(first|refine Vb (X3 @cF @gJ @dz.eq_1) ?_|(refine Xi ?_ ?_<;>try intro ht)|fail)))
  ·rw[if_pos (by assumption)]at hr;rw[<- hr];exact eN rfl (aZ _) rfl
  ·rw[if_neg (by simp_all)]at hr;exact ak _ (k+1) ⟨Ey,hr⟩ Ey (Xv X0)
 ·((repeat'(first|refine Vb (X3 @cF @gJ @dz.eq_1) ?_|(refine Xi ?_ ?_<;>try intro ht)|exact Xx|fail)))
  rw[jL Ey,gm]at hr;rw[<- hr];exact eN rfl (aZ _) rfl
def ah'(l:List Ct)(g:FuncId)(bF:List AV)(aa:List Ob)(p:Ct->Bool)(hl:l.length<9223372036854775808)(hg:∀ x∈l,Holds Tryz.prog g ([.agg (dz x)]++bF) aa (.lit (.bool (p x))) aa):
  Holds Tryz.prog 92 [.tree 4 (rowsOf dz l),.fn g bF] aa (.lit (.bool (l.any p))) aa:=by
 rw[<- Ab p l 0];refine Holds.aM 9 aa.length [.tmp 4] Tryz.func92 ?_;((refine Vb (X3 @cF @gJ @dz.eq_1) ?_)<;>try with_reducible intro K hK)
 refine gr (air l g bF aa p hl hg) (aZ _) ?_;((try revert hK K);(refine Vb (X3 @cF @gJ @dz.eq_1) ?_))
 exact eN rfl (aZ _) rfl
def ais(l:List Int)(g:FuncId)(bF:List AV)(aa:List Ob)(p:Int->Bool)(hl:l.length<9223372036854775808)(hg:∀ x∈l,Holds Tryz.prog g ([QM x]++bF) aa (.lit (.bool (p x))) aa):
  Holds Tryz.prog 148 [.tree 1 (ints l),.fn g bF] aa (QM (gm p 0 l)) aa:=by
 generalize an:gm p 0 l=res;refine Holds.aM 19 aa.length [.tmp 4] Tryz.func148 ?_;refine Vb @jK ?_;refine aQ (λk:Nat=>(⟨ar [(0,.tree 1 (ints l)),(1,.fn g bF),(7,QM l.length),(8,QM k)],aa⟩:St)) (λk=>k<=l.length/\gm p k (l.drop k)=res) (λk=>l.length-k) 0 ⟨aP _,an⟩ (Xv X0) ?_;rintro k⟨hk,hr⟩Ql ak aq;by_cases bj:k<l.length
 ·have hx:=hg _ (aF (d:=0) bj);have hd:=kR l k 0 bj;generalize cd:l.getD k 0=x at *;rw[hd,gm]at hr;simp only[dw,eJ]at hx;((repeat'(first|refine Vb (X2 @jK @cd) ?_|(refine Xi ?_ ?_<;>try intro ht)|exact Xx|fail))<;>try with_reducible intro K hK)
  refine gr hx (aZ _) ?_;((try revert hK K);(repeat'(first|refine Vb @jK ?_|(refine Xi ?_ ?_<;>try intro ht)|fail)))
  ·rw[if_pos (by assumption)]at hr;rw[<- hr];exact eN rfl (aZ _) rfl
  ·rw[if_neg (by simp_all)]at hr;exact ak _ (k+1) ⟨Ey,hr⟩ Ey (Xv X0)
 ·((repeat'(first|refine Vb @jK ?_|(refine Xi ?_ ?_<;>try intro ht)|exact Xx|fail)))
  rw[jL Ey,gm]at hr;rw[<- hr];exact eN rfl (aZ _) rfl
def VO(l:List Int)(g:FuncId)(bF:List AV)(aa:List Ob)(p:Int->Bool)(hl:l.length<9223372036854775808)(hg:∀ x∈l,Holds Tryz.prog g ([QM x]++bF) aa (.lit (.bool (p x))) aa):
  Holds Tryz.prog 124 [.tree 1 (ints l),.fn g bF] aa (.lit (.bool (l.any p))) aa:=by
 rw[<- Ab p l 0];refine Holds.aM 9 aa.length [.tmp 4] Tryz.func124 ?_;((refine Vb @jK ?_)<;>try with_reducible intro K hK)
 refine gr (ais l g bF aa p hl hg) (aZ _) ?_;((try revert hK K);(refine Vb @jK ?_))
 exact eN rfl (aZ _) rfl
end T

