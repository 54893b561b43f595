import Derived.Test.YtfoopmojjjpapaaGreatX14
import Derived.Test.YtfoopmojjjpapaaGreatX10
import Derived.Test.YtfoopmojjjpapaaGreatProg
import Derived.KernelRfl
set_option linter.all false
set_option maxHeartbeats 0
set_option maxRecDepth 20000
open Int renaming natCast_add→y7,cast_ofNat_Int→Fv,mul_nonneg→tQ,mul_le_mul→u6
open List renaming length_append→bI,length_cons→cV,length_nil→nr,drop_eq_nil_of_le→j9,any_cons→O7,cons_append→e9,nil_append→iH
open Nat renaming zero_add→gq,zero_le→aS,le_refl→aU,add_zero→il,lt_or_ge→dw
open Bool renaming eq_iff_iff→nP,and_eq_true→a7,or_eq_true→kL,not_eq_true'→lg,false_eq_true→jd,true_and→iI,true_or→xK,false_and→pV
open Go Go.Am Go.Proofs
namespace T
def Ya:ty Tryz.prog 2 = { kind:=5,size:=1,bytes:=8,elem:=0,len:=0,zero:=some [.int .i64 0],aN:=[] }:=by kernel_rfl
def Yb:ty Tryz.prog 3 = { kind:=5,size:=1,bytes:=8,elem:=0,len:=0,zero:=some [.int .i64 0],aN:=[] }:=by kernel_rfl
def Yc:ty Tryz.prog 4 = { kind:=6,size:=1,bytes:=1,elem:=0,len:=0,zero:=some [.bool false],aN:=[] }:=by kernel_rfl
def Yd:ty Tryz.prog 5 = { kind:=5,size:=1,bytes:=1,elem:=0,len:=0,zero:=some [.int .u8 0],aN:=[] }:=by kernel_rfl
def Ye:ty Tryz.prog 6 = { kind:=5,size:=1,bytes:=1,elem:=0,len:=0,zero:=some [.int .u8 0],aN:=[] }:=by kernel_rfl
def Yf:ty Tryz.prog 7 = { kind:=3,size:=4,bytes:=24,elem:=0,len:=0,zero:=some [.int .i64 0,.int .i64 0,.bool false,.int .u8 0],aN:=[(0,2,1),(1,3,1),(2,4,1),(3,6,1)] }:=by kernel_rfl
def Yg:ty Tryz.prog 8 = { kind:=3,size:=4,bytes:=24,elem:=0,len:=0,zero:=some [.int .i64 0,.int .i64 0,.bool false,.int .u8 0],aN:=[(0,2,1),(1,3,1),(2,4,1),(3,6,1)] }:=by kernel_rfl
def Yh:ty Tryz.prog 9 = { kind:=4,size:=1,bytes:=16,elem:=0,len:=0,zero:=some [.string ⟨#[]⟩],aN:=[] }:=by kernel_rfl
def Yi:ty Tryz.prog 10 = { kind:=4,size:=1,bytes:=16,elem:=0,len:=0,zero:=some [.string ⟨#[]⟩],aN:=[] }:=by kernel_rfl
def Yj:ty Tryz.prog 11 = { kind:=4,size:=1,bytes:=16,elem:=0,len:=0,zero:=some [.string ⟨#[]⟩],aN:=[] }:=by kernel_rfl
def Yk:ty Tryz.prog 12 = { kind:=5,size:=1,bytes:=8,elem:=0,len:=0,zero:=some [.int .u64 0],aN:=[] }:=by kernel_rfl
def Yl:ty Tryz.prog 13 = { kind:=3,size:=2,bytes:=24,elem:=0,len:=0,zero:=some [.string ⟨#[]⟩,.int .u64 0],aN:=[(0,9,1),(1,12,1)] }:=by kernel_rfl
def Ym:ty Tryz.prog 14 = { kind:=3,size:=2,bytes:=24,elem:=0,len:=0,zero:=some [.string ⟨#[]⟩,.int .u64 0],aN:=[(0,9,1),(1,12,1)] }:=by kernel_rfl
def Yn:ty Tryz.prog 15 = { kind:=7,size:=1,bytes:=8,elem:=234,len:=0,zero:=some [.pointer none],aN:=[] }:=by kernel_rfl
def Yo:ty Tryz.prog 16 = { kind:=7,size:=1,bytes:=8,elem:=237,len:=0,zero:=some [.pointer none],aN:=[] }:=by kernel_rfl
def Yp:ty Tryz.prog 17 = { kind:=7,size:=1,bytes:=8,elem:=245,len:=0,zero:=some [.pointer none],aN:=[] }:=by kernel_rfl
def Yq:ty Tryz.prog 18 = { kind:=3,size:=1,bytes:=8,elem:=0,len:=0,zero:=some [.pointer none],aN:=[(0,17,1)] }:=by kernel_rfl
def Yr:ty Tryz.prog 19 = { kind:=3,size:=1,bytes:=8,elem:=0,len:=0,zero:=some [.pointer none],aN:=[(0,17,1)] }:=by kernel_rfl
def Ys:ty Tryz.prog 21 = { kind:=5,size:=1,bytes:=4,elem:=0,len:=0,zero:=some [.int .i32 0],aN:=[] }:=by kernel_rfl
def Yt:ty Tryz.prog 22 = { kind:=1,size:=1,bytes:=24,elem:=3,len:=0,zero:=some [.slice none 0 0],aN:=[] }:=by kernel_rfl
def Yu:ty Tryz.prog 23 = { kind:=1,size:=1,bytes:=24,elem:=49,len:=0,zero:=some [.slice none 0 0],aN:=[] }:=by kernel_rfl
def Yv:ty Tryz.prog 26 = { kind:=7,size:=1,bytes:=8,elem:=83,len:=0,zero:=some [.pointer none],aN:=[] }:=by kernel_rfl
def Yw:ty Tryz.prog 28 = { kind:=1,size:=1,bytes:=24,elem:=79,len:=0,zero:=some [.slice none 0 0],aN:=[] }:=by kernel_rfl
def Yx:ty Tryz.prog 29 = { kind:=1,size:=1,bytes:=24,elem:=81,len:=0,zero:=some [.slice none 0 0],aN:=[] }:=by kernel_rfl
def Yy:ty Tryz.prog 30 = { kind:=1,size:=1,bytes:=24,elem:=105,len:=0,zero:=some [.slice none 0 0],aN:=[] }:=by kernel_rfl
def Yz:ty Tryz.prog 31 = { kind:=3,size:=4,bytes:=80,elem:=0,len:=0,zero:=some [.slice none 0 0,.slice none 0 0,.slice none 0 0,.int .i64 0],aN:=[(0,28,1),(1,29,1),(2,30,1),(3,3,1)] }:=by kernel_rfl
def YA:ty Tryz.prog 32 = { kind:=3,size:=4,bytes:=80,elem:=0,len:=0,zero:=some [.slice none 0 0,.slice none 0 0,.slice none 0 0,.int .i64 0],aN:=[(0,28,1),(1,29,1),(2,30,1),(3,3,1)] }:=by kernel_rfl
def YB:ty Tryz.prog 36 = { kind:=1,size:=1,bytes:=24,elem:=23,len:=0,zero:=some [.slice none 0 0],aN:=[] }:=by kernel_rfl
def YC:ty Tryz.prog 38 = { kind:=1,size:=1,bytes:=24,elem:=94,len:=0,zero:=some [.slice none 0 0],aN:=[] }:=by kernel_rfl
def YD:ty Tryz.prog 39 = { kind:=5,size:=1,bytes:=8,elem:=0,len:=0,zero:=some [.int .i64 0],aN:=[] }:=by kernel_rfl
def YE:ty Tryz.prog 49 = { kind:=1,size:=1,bytes:=24,elem:=4,len:=0,zero:=some [.slice none 0 0],aN:=[] }:=by kernel_rfl
def YF:ty Tryz.prog 51 = { kind:=1,size:=1,bytes:=24,elem:=109,len:=0,zero:=some [.slice none 0 0],aN:=[] }:=by kernel_rfl
def YG:ty Tryz.prog 52 = { kind:=3,size:=1,bytes:=24,elem:=0,len:=0,zero:=some [.slice none 0 0],aN:=[(0,51,1)] }:=by kernel_rfl
def YH:ty Tryz.prog 53 = { kind:=3,size:=1,bytes:=24,elem:=0,len:=0,zero:=some [.slice none 0 0],aN:=[(0,51,1)] }:=by kernel_rfl
def YI:ty Tryz.prog 65 = { kind:=1,size:=1,bytes:=24,elem:=22,len:=0,zero:=some [.slice none 0 0],aN:=[] }:=by kernel_rfl
def YJ:ty Tryz.prog 70 = { kind:=3,size:=2,bytes:=16,elem:=0,len:=0,zero:=some [.int .i64 0,.int .i64 0],aN:=[(0,3,1),(1,3,1)] }:=by kernel_rfl
def YK:ty Tryz.prog 71 = { kind:=3,size:=2,bytes:=16,elem:=0,len:=0,zero:=some [.int .i64 0,.int .i64 0],aN:=[(0,3,1),(1,3,1)] }:=by kernel_rfl
def YL:ty Tryz.prog 72 = { kind:=1,size:=1,bytes:=24,elem:=71,len:=0,zero:=some [.slice none 0 0],aN:=[] }:=by kernel_rfl
def YM:ty Tryz.prog 73 = { kind:=3,size:=4,bytes:=32,elem:=0,len:=0,zero:=some [.int .i64 0,.int .i64 0,.int .i64 0,.int .i64 0],aN:=[(0,3,1),(1,3,1),(2,3,1),(3,3,1)] }:=by kernel_rfl
def YN:ty Tryz.prog 74 = { kind:=3,size:=4,bytes:=32,elem:=0,len:=0,zero:=some [.int .i64 0,.int .i64 0,.int .i64 0,.int .i64 0],aN:=[(0,3,1),(1,3,1),(2,3,1),(3,3,1)] }:=by kernel_rfl
def YO:ty Tryz.prog 75 = { kind:=3,size:=5,bytes:=40,elem:=0,len:=0,zero:=some [.int .i64 0,.int .i64 0,.int .i64 0,.int .i64 0,.int .i64 0],aN:=[(0,74,4),(4,3,1)] }:=by kernel_rfl
def YP:ty Tryz.prog 76 = { kind:=3,size:=5,bytes:=40,elem:=0,len:=0,zero:=some [.int .i64 0,.int .i64 0,.int .i64 0,.int .i64 0,.int .i64 0],aN:=[(0,74,4),(4,3,1)] }:=by kernel_rfl
def YQ:ty Tryz.prog 77 = { kind:=3,size:=6,bytes:=64,elem:=0,len:=0,zero:=some [.int .i64 0,.int .i64 0,.int .i64 0,.int .i64 0,.int .i64 0,.slice none 0 0],aN:=[(0,76,5),(5,72,1)] }:=by kernel_rfl
def YR:ty Tryz.prog 78 = { kind:=3,size:=6,bytes:=64,elem:=0,len:=0,zero:=some [.int .i64 0,.int .i64 0,.int .i64 0,.int .i64 0,.int .i64 0,.slice none 0 0],aN:=[(0,76,5),(5,72,1)] }:=by kernel_rfl
def YS:ty Tryz.prog 79 = { kind:=1,size:=1,bytes:=24,elem:=78,len:=0,zero:=some [.slice none 0 0],aN:=[] }:=by kernel_rfl
def YT:ty Tryz.prog 80 = { kind:=3,size:=4,bytes:=48,elem:=0,len:=0,zero:=some [.int .i64 0,.int .i64 0,.int .i64 0,.slice none 0 0],aN:=[(0,3,1),(1,3,1),(2,3,1),(3,22,1)] }:=by kernel_rfl
def YU:ty Tryz.prog 81 = { kind:=3,size:=4,bytes:=48,elem:=0,len:=0,zero:=some [.int .i64 0,.int .i64 0,.int .i64 0,.slice none 0 0],aN:=[(0,3,1),(1,3,1),(2,3,1),(3,22,1)] }:=by kernel_rfl
def YV:ty Tryz.prog 82 = { kind:=3,size:=2,bytes:=32,elem:=0,len:=0,zero:=some [.slice none 0 0,.int .i64 0],aN:=[(0,22,1),(1,3,1)] }:=by kernel_rfl
def YW:ty Tryz.prog 83 = { kind:=3,size:=2,bytes:=32,elem:=0,len:=0,zero:=some [.slice none 0 0,.int .i64 0],aN:=[(0,22,1),(1,3,1)] }:=by kernel_rfl
def YX:ty Tryz.prog 86 = { kind:=7,size:=1,bytes:=8,elem:=132,len:=0,zero:=some [.pointer none],aN:=[] }:=by kernel_rfl
def YY:ty Tryz.prog 93 = { kind:=3,size:=4,bytes:=32,elem:=0,len:=0,zero:=some [.int .i64 0,.int .i64 0,.int .i64 0,.int .i64 0],aN:=[(0,3,1),(1,3,1),(2,3,1),(3,3,1)] }:=by kernel_rfl
def YZ:ty Tryz.prog 94 = { kind:=3,size:=4,bytes:=32,elem:=0,len:=0,zero:=some [.int .i64 0,.int .i64 0,.int .i64 0,.int .i64 0],aN:=[(0,3,1),(1,3,1),(2,3,1),(3,3,1)] }:=by kernel_rfl
def Y0:ty Tryz.prog 95 = { kind:=1,size:=1,bytes:=24,elem:=96,len:=0,zero:=some [.slice none 0 0],aN:=[] }:=by kernel_rfl
def Y1:ty Tryz.prog 96 = { kind:=1,size:=1,bytes:=24,elem:=100,len:=0,zero:=some [.slice none 0 0],aN:=[] }:=by kernel_rfl
def Y2:ty Tryz.prog 99 = { kind:=3,size:=2,bytes:=16,elem:=0,len:=0,zero:=some [.bool false,.int .i64 0],aN:=[(0,4,1),(1,3,1)] }:=by kernel_rfl
def Y3:ty Tryz.prog 100 = { kind:=3,size:=2,bytes:=16,elem:=0,len:=0,zero:=some [.bool false,.int .i64 0],aN:=[(0,4,1),(1,3,1)] }:=by kernel_rfl
def Y4:ty Tryz.prog 103 = { kind:=1,size:=1,bytes:=24,elem:=121,len:=0,zero:=some [.slice none 0 0],aN:=[] }:=by kernel_rfl
def Y5:ty Tryz.prog 104 = { kind:=3,size:=4,bytes:=48,elem:=0,len:=0,zero:=some [.int .i64 0,.slice none 0 0,.int .i64 0,.int .i64 0],aN:=[(0,3,1),(1,103,1),(2,3,1),(3,3,1)] }:=by kernel_rfl
def Y6:ty Tryz.prog 105 = { kind:=3,size:=4,bytes:=48,elem:=0,len:=0,zero:=some [.int .i64 0,.slice none 0 0,.int .i64 0,.int .i64 0],aN:=[(0,3,1),(1,103,1),(2,3,1),(3,3,1)] }:=by kernel_rfl
def Y7:ty Tryz.prog 107 = { kind:=1,size:=1,bytes:=24,elem:=150,len:=0,zero:=some [.slice none 0 0],aN:=[] }:=by kernel_rfl
def Y8:ty Tryz.prog 108 = { kind:=3,size:=5,bytes:=104,elem:=0,len:=0,zero:=some [.int .i64 0,.slice none 0 0,.slice none 0 0,.slice none 0 0,.slice none 0 0],aN:=[(0,3,1),(1,22,1),(2,38,1),(3,22,1),(4,107,1)] }:=by kernel_rfl
def Y9:ty Tryz.prog 109 = { kind:=3,size:=5,bytes:=104,elem:=0,len:=0,zero:=some [.int .i64 0,.slice none 0 0,.slice none 0 0,.slice none 0 0,.slice none 0 0],aN:=[(0,3,1),(1,22,1),(2,38,1),(3,22,1),(4,107,1)] }:=by kernel_rfl
def Y':ty Tryz.prog 110 = { kind:=1,size:=1,bytes:=24,elem:=149,len:=0,zero:=some [.slice none 0 0],aN:=[] }:=by kernel_rfl
def Za:ty Tryz.prog 116 = { kind:=8,size:=1,bytes:=8,elem:=4,len:=0,zero:=some [.map none],aN:=[] }:=by kernel_rfl
def Zb:ty Tryz.prog 119 = { kind:=7,size:=1,bytes:=8,elem:=53,len:=0,zero:=some [.pointer none],aN:=[] }:=by kernel_rfl
def Zc:ty Tryz.prog 120 = { kind:=3,size:=3,bytes:=24,elem:=0,len:=0,zero:=some [.int .i64 0,.int .i64 0,.int .i64 0],aN:=[(0,3,1),(1,3,1),(2,3,1)] }:=by kernel_rfl
def Zd:ty Tryz.prog 121 = { kind:=3,size:=3,bytes:=24,elem:=0,len:=0,zero:=some [.int .i64 0,.int .i64 0,.int .i64 0],aN:=[(0,3,1),(1,3,1),(2,3,1)] }:=by kernel_rfl
def Ze:ty Tryz.prog 126 = { kind:=3,size:=2,bytes:=32,elem:=0,len:=0,zero:=some [.int .i64 0,.slice none 0 0],aN:=[(0,3,1),(1,23,1)] }:=by kernel_rfl
def Zf:ty Tryz.prog 127 = { kind:=3,size:=2,bytes:=32,elem:=0,len:=0,zero:=some [.int .i64 0,.slice none 0 0],aN:=[(0,3,1),(1,23,1)] }:=by kernel_rfl
def Zg:ty Tryz.prog 130 = { kind:=8,size:=1,bytes:=8,elem:=3,len:=0,zero:=some [.map none],aN:=[] }:=by kernel_rfl
def Zh:ty Tryz.prog 131 = { kind:=3,size:=8,bytes:=160,elem:=0,len:=0,zero:=some [.slice none 0 0,.slice none 0 0,.slice none 0 0,.int .i64 0,.slice none 0 0,.slice none 0 0,.slice none 0 0,.map none],aN:=[(0,32,4),(4,23,1),(5,65,1),(6,65,1),(7,130,1)] }:=by kernel_rfl
def Zi:ty Tryz.prog 132 = { kind:=3,size:=8,bytes:=160,elem:=0,len:=0,zero:=some [.slice none 0 0,.slice none 0 0,.slice none 0 0,.int .i64 0,.slice none 0 0,.slice none 0 0,.slice none 0 0,.map none],aN:=[(0,32,4),(4,23,1),(5,65,1),(6,65,1),(7,130,1)] }:=by kernel_rfl
def Zj:ty Tryz.prog 136 = { kind:=3,size:=3,bytes:=24,elem:=0,len:=0,zero:=some [.int .i64 0,.int .i64 0,.int .i64 0],aN:=[(0,3,1),(1,3,1),(2,3,1)] }:=by kernel_rfl
def Zk:ty Tryz.prog 137 = { kind:=3,size:=3,bytes:=24,elem:=0,len:=0,zero:=some [.int .i64 0,.int .i64 0,.int .i64 0],aN:=[(0,3,1),(1,3,1),(2,3,1)] }:=by kernel_rfl
def Zl:ty Tryz.prog 141 = { kind:=7,size:=1,bytes:=8,elem:=179,len:=0,zero:=some [.pointer none],aN:=[] }:=by kernel_rfl
def Zm:ty Tryz.prog 148 = { kind:=3,size:=2,bytes:=16,elem:=0,len:=0,zero:=some [.int .i64 0,.int .i64 0],aN:=[(0,3,1),(1,3,1)] }:=by kernel_rfl
def Zn:ty Tryz.prog 149 = { kind:=3,size:=2,bytes:=16,elem:=0,len:=0,zero:=some [.int .i64 0,.int .i64 0],aN:=[(0,3,1),(1,3,1)] }:=by kernel_rfl
def Zo:ty Tryz.prog 150 = { kind:=1,size:=1,bytes:=24,elem:=152,len:=0,zero:=some [.slice none 0 0],aN:=[] }:=by kernel_rfl
def Zp:ty Tryz.prog 151 = { kind:=3,size:=2,bytes:=16,elem:=0,len:=0,zero:=some [.int .i64 0,.int .i64 0],aN:=[(0,3,1),(1,3,1)] }:=by kernel_rfl
def Zq:ty Tryz.prog 152 = { kind:=3,size:=2,bytes:=16,elem:=0,len:=0,zero:=some [.int .i64 0,.int .i64 0],aN:=[(0,3,1),(1,3,1)] }:=by kernel_rfl
def Zr:ty Tryz.prog 162 = { kind:=3,size:=3,bytes:=56,elem:=0,len:=0,zero:=some [.int .i64 0,.slice none 0 0,.slice none 0 0],aN:=[(0,127,2),(2,22,1)] }:=by kernel_rfl
def Zs:ty Tryz.prog 163 = { kind:=3,size:=3,bytes:=56,elem:=0,len:=0,zero:=some [.int .i64 0,.slice none 0 0,.slice none 0 0],aN:=[(0,127,2),(2,22,1)] }:=by kernel_rfl
def Zt:ty Tryz.prog 164 = { kind:=1,size:=1,bytes:=24,elem:=163,len:=0,zero:=some [.slice none 0 0],aN:=[] }:=by kernel_rfl
def Zu:ty Tryz.prog 174 = { kind:=5,size:=1,bytes:=8,elem:=0,len:=0,zero:=some [.int .u64 0],aN:=[] }:=by kernel_rfl
def Zv:ty Tryz.prog 177 = { kind:=1,size:=1,bytes:=24,elem:=180,len:=0,zero:=some [.slice none 0 0],aN:=[] }:=by kernel_rfl
def Zw:ty Tryz.prog 178 = { kind:=3,size:=6,bytes:=128,elem:=0,len:=0,zero:=some [.slice none 0 0,.slice none 0 0,.slice none 0 0,.int .i64 0,.slice none 0 0,.slice none 0 0],aN:=[(0,32,4),(4,177,1),(5,177,1)] }:=by kernel_rfl
def Zx:ty Tryz.prog 179 = { kind:=3,size:=6,bytes:=128,elem:=0,len:=0,zero:=some [.slice none 0 0,.slice none 0 0,.slice none 0 0,.int .i64 0,.slice none 0 0,.slice none 0 0],aN:=[(0,32,4),(4,177,1),(5,177,1)] }:=by kernel_rfl
def Zy:ty Tryz.prog 180 = { kind:=1,size:=1,bytes:=24,elem:=182,len:=0,zero:=some [.slice none 0 0],aN:=[] }:=by kernel_rfl
def Zz:ty Tryz.prog 181 = { kind:=3,size:=2,bytes:=16,elem:=0,len:=0,zero:=some [.int .i64 0,.bool false],aN:=[(0,3,1),(1,4,1)] }:=by kernel_rfl
def ZA:ty Tryz.prog 182 = { kind:=3,size:=2,bytes:=16,elem:=0,len:=0,zero:=some [.int .i64 0,.bool false],aN:=[(0,3,1),(1,4,1)] }:=by kernel_rfl
def ZB:ty Tryz.prog 200 = { kind:=5,size:=1,bytes:=8,elem:=0,len:=0,zero:=some [.int .i64 0],aN:=[] }:=by kernel_rfl
def ZC:ty Tryz.prog 207 = { kind:=5,size:=1,bytes:=4,elem:=0,len:=0,zero:=some [.int .u32 0],aN:=[] }:=by kernel_rfl
def ZD:ty Tryz.prog 209 = { kind:=5,size:=1,bytes:=8,elem:=0,len:=0,zero:=some [.int .u64 0],aN:=[] }:=by kernel_rfl
def ZE:ty Tryz.prog 210 = { kind:=7,size:=1,bytes:=8,elem:=182,len:=0,zero:=some [.pointer none],aN:=[] }:=by kernel_rfl
def ZF:ty Tryz.prog 211 = { kind:=8,size:=1,bytes:=8,elem:=212,len:=0,zero:=some [.map none],aN:=[] }:=by kernel_rfl
def ZG:ty Tryz.prog 212 = { kind:=8,size:=1,bytes:=8,elem:=3,len:=0,zero:=some [.map none],aN:=[] }:=by kernel_rfl
def ZH:ty Tryz.prog 222 = { kind:=5,size:=1,bytes:=8,elem:=0,len:=0,zero:=some [.int .u64 0],aN:=[] }:=by kernel_rfl
def ZI:ty Tryz.prog 226 = { kind:=7,size:=1,bytes:=8,elem:=3,len:=0,zero:=some [.pointer none],aN:=[] }:=by kernel_rfl
def ZJ:ty Tryz.prog 229 = { kind:=7,size:=1,bytes:=8,elem:=222,len:=0,zero:=some [.pointer none],aN:=[] }:=by kernel_rfl
def ZK:ty Tryz.prog 233 = { kind:=3,size:=4,bytes:=40,elem:=0,len:=0,zero:=some [.pointer none,.pointer none,.pointer none,.string ⟨#[]⟩],aN:=[(0,17,1),(1,17,1),(2,17,1),(3,9,1)] }:=by kernel_rfl
def ZL:ty Tryz.prog 234 = { kind:=3,size:=4,bytes:=40,elem:=0,len:=0,zero:=some [.pointer none,.pointer none,.pointer none,.string ⟨#[]⟩],aN:=[(0,17,1),(1,17,1),(2,17,1),(3,9,1)] }:=by kernel_rfl
def ZM:ty Tryz.prog 235 = { kind:=2,size:=0,bytes:=0,elem:=16,len:=0,zero:=some [],aN:=[] }:=by kernel_rfl
def ZN:ty Tryz.prog 236 = { kind:=3,size:=0,bytes:=0,elem:=0,len:=0,zero:=some [],aN:=[(0,235,0)] }:=by kernel_rfl
def ZO:ty Tryz.prog 237 = { kind:=3,size:=0,bytes:=0,elem:=0,len:=0,zero:=some [],aN:=[(0,235,0)] }:=by kernel_rfl
def ZP:ty Tryz.prog 238 = { kind:=5,size:=1,bytes:=1,elem:=0,len:=0,zero:=some [.int .u8 0],aN:=[] }:=by kernel_rfl
def ZQ:ty Tryz.prog 239 = { kind:=5,size:=1,bytes:=1,elem:=0,len:=0,zero:=some [.int .u8 0],aN:=[] }:=by kernel_rfl
def ZR:ty Tryz.prog 241 = { kind:=7,size:=1,bytes:=8,elem:=5,len:=0,zero:=some [.pointer none],aN:=[] }:=by kernel_rfl
def ZS:ty Tryz.prog 242 = { kind:=5,size:=1,bytes:=4,elem:=0,len:=0,zero:=some [.int .i32 0],aN:=[] }:=by kernel_rfl
def ZT:ty Tryz.prog 243 = { kind:=5,size:=1,bytes:=4,elem:=0,len:=0,zero:=some [.int .i32 0],aN:=[] }:=by kernel_rfl
def ZU:ty Tryz.prog 244 = { kind:=3,size:=11,bytes:=48,elem:=0,len:=0,zero:=some [.int .u64 0,.int .u64 0,.int .u32 0,.int .u8 0,.int .u8 0,.int .u8 0,.int .u8 0,.nilFunc,.pointer none,.int .i32 0,.int .i32 0],aN:=[(0,12,1),(1,12,1),(2,207,1),(3,238,1),(4,5,1),(5,5,1),(6,239,1),(7,240,1),(8,241,1),(9,242,1),(10,243,1)] }:=by kernel_rfl
def ZV:ty Tryz.prog 245 = { kind:=3,size:=11,bytes:=48,elem:=0,len:=0,zero:=some [.int .u64 0,.int .u64 0,.int .u32 0,.int .u8 0,.int .u8 0,.int .u8 0,.int .u8 0,.nilFunc,.pointer none,.int .i32 0,.int .i32 0],aN:=[(0,12,1),(1,12,1),(2,207,1),(3,238,1),(4,5,1),(5,5,1),(6,239,1),(7,240,1),(8,241,1),(9,242,1),(10,243,1)] }:=by kernel_rfl
def ZW:Tryz.prog.underlying 2=some (.int .i64):=by kernel_rfl
def ZX:Tryz.prog.underlying 3=some (.int .i64):=by kernel_rfl
def ZY:Tryz.prog.underlying 5=some (.int .u8):=by kernel_rfl
def ZZ:Tryz.prog.underlying 6=some (.int .u8):=by kernel_rfl
def Z0:Tryz.prog.underlying 12=some (.int .u64):=by kernel_rfl
def Z1:Tryz.prog.underlying 21=some (.int .i32):=by kernel_rfl
def Z2:Tryz.prog.underlying 39=some (.int .i64):=by kernel_rfl
def Z3:Tryz.prog.underlying 174=some (.int .u64):=by kernel_rfl
def Z4:Tryz.prog.underlying 200=some (.int .i64):=by kernel_rfl
def Z5:Tryz.prog.underlying 207=some (.int .u32):=by kernel_rfl
def Z6:Tryz.prog.underlying 209=some (.int .u64):=by kernel_rfl
def Z7:Tryz.prog.underlying 222=some (.int .u64):=by kernel_rfl
def Z8:Tryz.prog.underlying 238=some (.int .u8):=by kernel_rfl
def Z9:Tryz.prog.underlying 239=some (.int .u8):=by kernel_rfl
def aaa:Tryz.prog.underlying 242=some (.int .i32):=by kernel_rfl
def aab:Tryz.prog.underlying 243=some (.int .i32):=by kernel_rfl
def zv4:zeroV Tryz.prog 4=some (.bool false):=by kernel_rfl
def aad:za Tryz.prog 116=0:=by kernel_rfl
def aae:jl Tryz.prog 116 0:=jl.int (kt:=3) (et:=4) (by kernel_rfl) (by kernel_rfl)
def zv3:zeroV Tryz.prog 3=some (.int .i64 0):=by kernel_rfl
def aag:za Tryz.prog 130=3:=by kernel_rfl
def aah:jl Tryz.prog 130 3:=jl.ai5 (kt:=137) (et:=3) (by kernel_rfl) (by kernel_rfl) Fs (by kernel_rfl)
def aai:zeroV Tryz.prog 212=some (.map none):=by kernel_rfl
def aaj:za Tryz.prog 211=0:=by kernel_rfl
def aak:jl Tryz.prog 211 0:=jl.int (kt:=3) (et:=212) (by kernel_rfl) (by kernel_rfl)
def aal:za Tryz.prog 212=0:=by kernel_rfl
def aam:jl Tryz.prog 212 0:=jl.int (kt:=3) (et:=3) (by kernel_rfl) (by kernel_rfl)
def aan:zb Tryz.prog 9=false:=by kernel_rfl
def aao:Tryz.prog.underlying 9=some .string:=by kernel_rfl
def uJ:type_of% Ya/\type_of% Yb/\type_of% Yc/\type_of% Yd/\type_of% Ye/\type_of% Yf/\type_of% Yg/\type_of% Yh/\type_of% Yi/\type_of% Yj/\type_of% Yk/\type_of% Yl/\type_of% Ym/\type_of% Yn/\type_of% Yo/\type_of% Yp/\type_of% Yq/\type_of% Yr/\type_of% Ys/\type_of% Yt/\type_of% Yu/\type_of% Yv/\type_of% Yw/\type_of% Yx/\type_of% Yy/\type_of% Yz/\type_of% YA/\type_of% YB/\type_of% YC/\type_of% YD/\type_of% YE/\type_of% YF/\type_of% YG/\type_of% YH/\type_of% YI/\type_of% YJ/\type_of% YK/\type_of% YL/\type_of% YM/\type_of% YN/\type_of% YO/\type_of% YP/\type_of% YQ/\type_of% YR/\type_of% YS/\type_of% YT/\type_of% YU/\type_of% YV/\type_of% YW/\type_of% YX/\type_of% YY/\type_of% YZ/\type_of% Y0/\type_of% Y1/\type_of% Y2/\type_of% Y3/\type_of% Y4/\type_of% Y5/\type_of% Y6/\type_of% Y7/\type_of% Y8/\type_of% Y9/\type_of% Y'/\type_of% Za/\type_of% Zb/\type_of% Zc/\type_of% Zd/\type_of% Ze/\type_of% Zf/\type_of% Zg/\type_of% Zh/\type_of% Zi/\type_of% Zj/\type_of% Zk/\type_of% Zl/\type_of% Zm/\type_of% Zn/\type_of% Zo/\type_of% Zp/\type_of% Zq/\type_of% Zr/\type_of% Zs/\type_of% Zt/\type_of% Zu/\type_of% Zv/\type_of% Zw/\type_of% Zx/\type_of% Zy/\type_of% Zz/\type_of% ZA/\type_of% ZB/\type_of% ZC/\type_of% ZD/\type_of% ZE/\type_of% ZF/\type_of% ZG/\type_of% ZH/\type_of% ZI/\type_of% ZJ/\type_of% ZK/\type_of% ZL/\type_of% ZM/\type_of% ZN/\type_of% ZO/\type_of% ZP/\type_of% ZQ/\type_of% ZR/\type_of% ZS/\type_of% ZT/\type_of% ZU/\type_of% ZV/\type_of% ZW/\type_of% ZX/\type_of% ZY/\type_of% ZZ/\type_of% Z0/\type_of% Z1/\type_of% Z2/\type_of% Z3/\type_of% Z4/\type_of% Z5/\type_of% Z6/\type_of% Z7/\type_of% Z8/\type_of% Z9/\type_of% aaa/\type_of% aab/\type_of% zv4/\type_of% aad/\type_of% aae/\type_of% zv3/\type_of% aag/\type_of% aah/\type_of% aai/\type_of% aaj/\type_of% aak/\type_of% aal/\type_of% aam/\type_of% aan/\type_of% aao :=
 ⟨Ya,Yb,Yc,Yd,Ye,Yf,Yg,Yh,Yi,Yj,Yk,Yl,Ym,Yn,Yo,Yp,Yq,Yr,Ys,Yt,Yu,Yv,Yw,Yx,Yy,Yz,YA,YB,YC,YD,YE,YF,YG,YH,YI,YJ,YK,YL,YM,YN,YO,YP,YQ,YR,YS,YT,YU,YV,YW,YX,YY,YZ,Y0,Y1,Y2,Y3,Y4,Y5,Y6,Y7,Y8,Y9,Y',Za,Zb,Zc,Zd,Ze,Zf,Zg,Zh,Zi,Zj,Zk,Zl,Zm,Zn,Zo,Zp,Zq,Zr,Zs,Zt,Zu,Zv,Zw,Zx,Zy,Zz,ZA,ZB,ZC,ZD,ZE,ZF,ZG,ZH,ZI,ZJ,ZK,ZL,ZM,ZN,ZO,ZP,ZQ,ZR,ZS,ZT,ZU,ZV,ZW,ZX,ZY,ZZ,Z0,Z1,Z2,Z3,Z4,Z5,Z6,Z7,Z8,Z9,aaa,aab,zv4,aad,aae,zv3,aag,aah,aai,aaj,aak,aal,aam,aan,aao⟩
def Ac:=O0 @uJ @Bc @Sc @Rc
def Kc:=O0 @r8 @Lc @uJ @Rc
def Oc:=aa' @oY.eq_1 @oY.eq_2 @or_true @false_or @Bc @Sc @Rc
def Hr:=aba @ss.eq_1 @ss.eq_2 @Bc @Rc @r8 @Lc @uJ (OZ @and_true @y7 @Fv)
def Tc:=aba @Has.eq_1 @Has.eq_2 @bI.{0} @cV.{0} @nr.{0} @gq @r8 (aaf @Lc @uJ @Rc @and_true @y7 @Fv)
def Qc:=aba @Bk.eq_1 @Bk.eq_2 @gG.eq_1 @gG.eq_2 @gG.eq_3 @gv.eq_1 @Td (aaf @Te @nr.{0} @r8 @Lc @uJ @Rc)
inductive Sq(P:Program)(N n0:Nat)(y:Code)(Q:Exit->St->Prop):Exit->St->Prop
 |n (s:St) (h:W P N n0 y Q s):Sq P N n0 y Q .normal s
 |e (e:Exit) (s:St) (hi:uq e=false) (h:Q e s):Sq P N n0 y Q e s
inductive Bq(id:Nat)(Q:Exit->St->Prop):Exit->St->Prop
 |n (s:St) (h:Q .normal s):Bq id Q .normal s
 |x (s:St) (h:Q .normal s):Bq id Q (.exit id) s
 |e (e:Exit) (s:St) (hi:zN id e=false) (h:Q e s):Bq id Q e s
section
variable {P:Program} {N n0:Nat} {σ:St} {Q:Exit->St->Prop}
def Xk{x y:Code}(h:W P N n0 x (Sq P N n0 y Q) σ):W P N n0 (.seq x y) Q σ:=Wk λ_ h1 h2=>Re h λ_ _ h=>by
 cases h with
 |n _ h=>exact h1 _ h
 |e _ _ hi h=>exact h2 _ _ hi h
def Xb{id:Nat}{c:Code}(h:W P N n0 c (Bq id Q) σ):W P N n0 (.block id c) Q σ:=Wb λ_ h1 h2 h3=>Re h λ_ _ h=>by
 cases h with
 |n _ h=>exact h1 _ h
 |x _ h=>exact h2 _ h
 |e _ _ hi h=>exact h3 _ _ hi h
def hn{y:Code}(s:St)(h:W P N n0 y Q s):Sq P N n0 y Q .normal s:=.n s h
def he{y:Code}(e:Exit)(s:St)(hi:uq e=false)(h:Q e s):Sq P N n0 y Q e s:=.e e s hi h
def dE{id:Nat}(s:St)(h:Q .normal s):Bq id Q .normal s:=.n s h
def ee{id:Nat}(s:St)(h:Q .normal s):Bq id Q (.exit id) s:=.x s h
def fj{id:Nat}(e:Exit)(s:St)(hi:zN id e=false)(h:Q e s):Bq id Q e s:=.e e s hi h
def vP{x y:Code}(h:∀ Q':Exit->St->Prop,(∀ s,W P N n0 y Q s->Q' .normal s)->(∀ e s,uq e=false->Q e s->Q' e s)->W P N n0 x Q' σ):W P N n0 x (Sq P N n0 y Q) σ:=h _ .n .e
def an1{x y z:Code}(h:∀ Q':Exit->St->Prop,(∀ s,W P N n0 y Q s->Q' .normal s)->(∀ e s,uq e=false->Q e s->Q' e s)->W P N n0 x (Sq P N n0 z Q') σ):W P N n0 x (Sq P N n0 z (Sq P N n0 y Q)) σ:=h _ .n .e
def ai6{x y z:Code}{id:Nat}(h:∀ Q':Exit->St->Prop,(∀ s,W P N n0 y Q s->Q' .normal s)->(∀ e s,uq e=false->Q e s->Q' e s)->W P N n0 x (Sq P N n0 z (Bq id Q')) σ):W P N n0 x (Sq P N n0 z (Bq id (Sq P N n0 y Q))) σ:=h _ .n .e
end
def X0:True:=trivial
def X2{a b:Prop}(x:a)(y:b):a/\b:=⟨x,y⟩
def X3{a b c:Prop}(x:a)(y:b)(z:c):a/\b/\c:=⟨x,y,z⟩
def X4{a b c d:Prop}(x:a)(y:b)(z:c)(u:d):a/\b/\c/\d:=⟨x,y,z,u⟩
def X5{a b c d e:Prop}(x:a)(y:b)(z:c)(u:d)(v:e):a/\b/\c/\d/\e:=⟨x,y,z,u,v⟩
theorem Xr{p q e:Prop}(x:e)(h:q)(k:e->q->p:=by first|(intro hx hq;(first|refine rr ?_|refine qw ?_);intro K hK;simp(disch:=omega)only[Ac,↓Pc,simprocAttr,hx];revert hK;revert K;exact hq)|fail):p:=k x h
theorem Xq{p q e:Prop}(x:e)(h:q)(k:e->q->p:=by first|(intro hx hq;(first|refine rr ?_|refine qw ?_|refine rb ?_|refine DF ?_|refine ra ?_|refine DG ?_);intro K hK;simp(disch:=omega)only[Ac,↓Pc,simprocAttr,hx];revert hK;revert K;exact hq)|fail):p:=k x h
theorem Xo{p q e:Prop}(x:e)(h:q)(k:e->q->p:=by first|(intro hx hq;with_reducible refine gO ?_;simp(disch:=omega)only[Ac,↓Pc,simprocAttr,hx];exact hq)|fail):p:=k x h
theorem Xc{p q t:Prop}(c:t)(h:q)(k:t->q->p:=by first|(intro hc hq;(first|refine b7 hc rfl rfl ?_|refine cd hc rfl rfl ?_);exact hq)|fail):p:=k c h
theorem Xg{p q r e:Prop}(x:e)(h:q)(h2:r)(k:e->q->r->p/\True:=by first|(intro hx hq hr;refine And.intro ?_ ?_;(with_reducible refine gS (fun aV=>?_) (fun aV=>?_));(focus (have hb:=aV;(try simp only[gQ,simprocAttr]at hb);all_goals(simp(disch:=omega)only[Ac,↓Pc,simprocAttr,hx,aV]);all_goals(clear aV;revert hb;exact hq)));(focus (have hb:=aV;(try simp only[gQ,simprocAttr]at hb);all_goals(simp(disch:=omega)only[Ac,↓Pc,simprocAttr,hx,aV]);all_goals(clear aV;revert hb;exact hr)));((try have _:True:=hq);(try have _:True:=hr);trivial))|fail):p:=(k x h h2).1
theorem Xi{p q r:Prop}(h:q)(h2:r)(k:q->r->p/\True:=by first|(intro hq hr;refine And.intro ?_ ?_;refine Wc ?_ ?_;(focus (intro ht;(try simp only[gQ,simprocAttr]at ht);all_goals(revert ht;exact hq)));(focus (intro ht;(try simp only[gQ,simprocAttr]at ht);all_goals(revert ht;exact hr)));((try have _:True:=hq);(try have _:True:=hr);trivial))|fail):p:=(k h h2).1
theorem Xz{p q:Prop}(h:q)(k:q->p:=by first|(intro hq;(first|refine Wz rfl ?_|refine Xk ?_|refine Xb ?_|refine Sq.n _ ?_|refine Sq.e _ _ rfl ?_|refine Bq.n _ ?_|refine Bq.x _ ?_|refine Bq.e _ _ rfl ?_|refine hn _ ?_|refine he _ _ rfl ?_);(repeat(first|refine Wz rfl ?_|refine Xk ?_|refine Xb ?_|refine Sq.n _ ?_|refine Sq.e _ _ rfl ?_|refine Bq.n _ ?_|refine Bq.x _ ?_|refine Bq.e _ _ rfl ?_|refine hn _ ?_|refine he _ _ rfl ?_));exact hq)|fail):p:=k h
theorem Xh{p q:Prop}(h:q)(k:q->p:=by first|(intro hq;(first|refine ax _ _ rfl ?_|refine bG _ _ rfl ?_|refine iB _ _ rfl ?_|refine xy _ _ rfl ?_);exact hq)|fail):p:=k h
theorem Xu{p q:Prop}(h:q)(k:q->p:=by first|(intro hq;(first|refine Sq.n _ ?_|refine Sq.e _ _ rfl ?_|refine Bq.n _ ?_|refine Bq.x _ ?_|refine Bq.e _ _ rfl ?_|refine hn _ ?_|refine he _ _ rfl ?_|refine ax _ _ rfl ?_|refine bG _ _ rfl ?_|refine iB _ _ rfl ?_|refine xy _ _ rfl ?_);exact hq)|fail):p:=k h
theorem Xe{p q:Prop}(h:q)(k:q->p:=by first|(intro hq;simp only[Qc,Kc,simprocAttr];exact hq)|fail):p:=k h
theorem Xy{p q:Prop}(h:q)(k:q->p:=by first|(intro hq;refine Xz ?_;exact hq)|(intro hq;refine Xe ?_;exact hq)|fail):p:=k h
theorem XY{p q:Prop}(h:q)(k:q->p:=by first|(intro hq;refine Xz ?_;exact hq)|(intro hq;refine Xh ?_;exact hq)|(intro hq;refine Xe ?_;exact hq)|fail):p:=k h
theorem Xx{p:Prop}(h:p:=by first|omega|with_reducible rfl|exact trivial|fail):p:=h
theorem Xl{n0:Nat}{e:Nat->AV}{os:List Ob}{v res:AV}{bb:List Ob}(ho:os=bb)(h:v=res)(hl:n0<=bb.length:=by(simp only[List.length_cons,List.length_nil];omega)):nR n0 ⟨e,os⟩ v res bb:=dX ho hl h
theorem Xd{p q r:Prop}(h:q)(h2:r)(k:q->r->p:=by first|(intro hq hr;with_reducible refine And.intro ?_ ?_;exact hq;exact hr)|fail):p:=k h h2
theorem Xv{n0:Nat}{σ S:St}{e:Prop}(x:e)(k:e->aH n0 σ S:=by first|(intro hx;refine aH.ar _ _ rfl ?_;simp only[Tc,↓reduceIte,Nat.reduceEqDiff,Nat.reduceBEq,Nat.reduceAdd,hx];(try trivial);done)|fail):aH n0 σ S:=k x
theorem Xs{n0:Nat}{σ:St}{l:List (Nat×AV)}{co:List Ob}{e:Prop}(snap:Bool)(ak:List Nat)(x:e)(h1:e->oY (bq σ.aa.length ak) σ.aa ak co:=by(intro hx;simp only[Oc,simprocAttr,hx]))(h2:e->ss (cC σ (kept ak co) (bq σ.aa.length ak) snap) σ.env l:=by(intro hx;simp only[Hr,↓reduceIte,Nat.reduceEqDiff,Nat.reduceBEq,Nat.reduceAdd,hx];(try(and_intros<;>first|exact .pure rfl|exact .eq rfl|exact .fz rfl (by simp only[Bc,Rc])))))(bT:ak.Nodup:=by decide)(hn:n0<=ak.length:=by decide)(bV:∀ i,i<n0->ak.getD i 0=i:=by decide):aH n0 σ ⟨ar l,co⟩:=aH.se ak snap (h1 x) (h2 x) bT hn bV
theorem Xw{n0:Nat}{σ:St}{v res:AV}{bb:List Ob}{e:Prop}(snap:Bool)(ak:List Nat)(x:e)(h1:e->oY (bq σ.aa.length ak) σ.aa ak bb:=by(intro hx;simp only[Oc,simprocAttr,hx]))(h2:cC σ (kept ak bb) (bq σ.aa.length ak) snap res v:=by first|exact .pure rfl|exact .eq rfl|exact .fz rfl (by simp only[Bc,Rc]))(bT:ak.Nodup:=by decide)(hn:n0<=ak.length:=by decide)(bV:∀ i,i<n0->ak.getD i 0=i:=by decide):nR n0 σ v res bb:=afF ak snap (h1 x) h2 bT hn bV
theorem Xn(ak:List Nat){P:Program}{σ:St}{f:FuncId}{args dp:List AV}{bW:List Ob}{dst:Option Tmp}{K:St->Prop}{res:AV}{cS:List Ob}(h:Holds P f dp bW res cS)(hK:K (({ σ with aa:=fc σ.aa ak (cS.map (bM (bq σ.aa.length ak))) }:St).put dst (bh (bq σ.aa.length ak) res)))(bT:ak.Nodup:=by decide)(ho:xV (bq σ.aa.length ak) σ.aa ak bW:=by((repeat'(first|exact trivial|with_reducible refine And.intro ?_ ?_|refine And.intro ?_ ?_))<;>first|rfl|(rw[FG];rfl)|(rw[A7];rfl)|(rw[Dz];rfl)|(rw[JB];rfl)))(ha:nS (cC σ (·∈ak) (bq σ.aa.length ak) false) dp args:=by((repeat'(first|exact trivial|refine And.intro ?_ ?_))<;>(first|exact .pure rfl|exact .eq rfl|exact .fz rfl (by simp only[Bc,Rc])))):rX P f args dst K σ:=tU ak h bT ho ha hK
def Pw:=aaf @p8 @p9 @nU @nV @cp.eq_1 @ew.eq_1
theorem Va{p q e:Prop}(x:e)(h:q)(k:e->q->p:=by first|(intro hx hq;(try with_reducible intro K hK);(first|((first|refine rr ?_|refine qw ?_);intro K hK;simp(disch:=omega)only[Ac,↓Pc,simprocAttr,hx];show _)|(with_reducible refine gO ?_;simp(disch:=omega)only[Ac,↓Pc,simprocAttr,hx];show _)|(refine hK _ ?_;clear hK K)|refine Wz rfl ?_|refine Xk ?_|refine Xb ?_|refine Sq.n _ ?_|refine Sq.e _ _ rfl ?_|refine Bq.n _ ?_|refine Bq.x _ ?_|refine Bq.e _ _ rfl ?_|refine hn _ ?_|refine he _ _ rfl ?_|(simp only[Qc,Kc,simprocAttr];show _)|(with_reducible refine And.intro ?_ ?_;(focus (clear hq;first|omega|with_reducible rfl|exact trivial))));(repeat(first|((first|refine rr ?_|refine qw ?_);intro K hK;simp(disch:=omega)only[Ac,↓Pc,simprocAttr,hx];show _)|(with_reducible refine gO ?_;simp(disch:=omega)only[Ac,↓Pc,simprocAttr,hx];show _)|(refine hK _ ?_;clear hK K)|refine Wz rfl ?_|refine Xk ?_|refine Xb ?_|refine Sq.n _ ?_|refine Sq.e _ _ rfl ?_|refine Bq.n _ ?_|refine Bq.x _ ?_|refine Bq.e _ _ rfl ?_|refine hn _ ?_|refine he _ _ rfl ?_|(simp only[Qc,Kc,simprocAttr];show _)|(with_reducible refine And.intro ?_ ?_;(focus (clear hq;first|omega|with_reducible rfl|exact trivial)))));(try revert hK);(try revert K);exact hq)|fail):p:=k x h
theorem Vb{p q e:Prop}(x:e)(h:q)(k:e->q->p:=by first|(intro hx hq;(try with_reducible intro K hK);(first|((first|refine rr ?_|refine qw ?_);intro K hK;simp(disch:=omega)only[Ac,↓Pc,simprocAttr,hx];show _)|(with_reducible refine gO ?_;simp(disch:=omega)only[Ac,↓Pc,simprocAttr,hx];show _)|(refine hK _ ?_;clear hK K)|refine Wz rfl ?_|refine Xk ?_|refine Xb ?_|refine Sq.n _ ?_|refine Sq.e _ _ rfl ?_|refine Bq.n _ ?_|refine Bq.x _ ?_|refine Bq.e _ _ rfl ?_|refine hn _ ?_|refine he _ _ rfl ?_|refine ax _ _ rfl ?_|refine bG _ _ rfl ?_|refine iB _ _ rfl ?_|refine xy _ _ rfl ?_|(simp only[Qc,Kc,simprocAttr];show _)|(with_reducible refine And.intro ?_ ?_;(focus (clear hq;first|omega|with_reducible rfl|exact trivial))));(repeat(first|((first|refine rr ?_|refine qw ?_);intro K hK;simp(disch:=omega)only[Ac,↓Pc,simprocAttr,hx];show _)|(with_reducible refine gO ?_;simp(disch:=omega)only[Ac,↓Pc,simprocAttr,hx];show _)|(refine hK _ ?_;clear hK K)|refine Wz rfl ?_|refine Xk ?_|refine Xb ?_|refine Sq.n _ ?_|refine Sq.e _ _ rfl ?_|refine Bq.n _ ?_|refine Bq.x _ ?_|refine Bq.e _ _ rfl ?_|refine hn _ ?_|refine he _ _ rfl ?_|refine ax _ _ rfl ?_|refine bG _ _ rfl ?_|refine iB _ _ rfl ?_|refine xy _ _ rfl ?_|(simp only[Qc,Kc,simprocAttr];show _)|(with_reducible refine And.intro ?_ ?_;(focus (clear hq;first|omega|with_reducible rfl|exact trivial)))));(try revert hK);(try revert K);exact hq)|fail):p:=k x h
theorem Vc{p q e t:Prop}(x:e)(c:t)(h:q)(k:e->t->q->p:=by first|(intro hx hc hq;(try with_reducible intro K hK);(first|((first|refine rr ?_|refine qw ?_|refine rb ?_|refine DF ?_|refine ra ?_|refine DG ?_);intro K hK;simp(disch:=omega)only[Ac,↓Pc,simprocAttr,hx];show _)|(with_reducible refine gO ?_;simp(disch:=omega)only[Ac,↓Pc,simprocAttr,hx];show _)|(refine hK _ ?_;clear hK K)|refine Wz rfl ?_|refine Xk ?_|refine Xb ?_|refine Sq.n _ ?_|refine Sq.e _ _ rfl ?_|refine Bq.n _ ?_|refine Bq.x _ ?_|refine Bq.e _ _ rfl ?_|refine hn _ ?_|refine he _ _ rfl ?_|(simp only[Qc,Kc,simprocAttr];show _)|(with_reducible refine And.intro ?_ ?_;(focus (clear hq;first|omega|with_reducible rfl|exact trivial)))|(apply b7;(focus(repeat(first|exact hc|exact hc.1|have hc:=hc.2)));rfl;rfl)|(apply cd;(focus(repeat(first|exact hc|exact hc.1|have hc:=hc.2)));rfl;rfl));(repeat(first|((first|refine rr ?_|refine qw ?_|refine rb ?_|refine DF ?_|refine ra ?_|refine DG ?_);intro K hK;simp(disch:=omega)only[Ac,↓Pc,simprocAttr,hx];show _)|(with_reducible refine gO ?_;simp(disch:=omega)only[Ac,↓Pc,simprocAttr,hx];show _)|(refine hK _ ?_;clear hK K)|refine Wz rfl ?_|refine Xk ?_|refine Xb ?_|refine Sq.n _ ?_|refine Sq.e _ _ rfl ?_|refine Bq.n _ ?_|refine Bq.x _ ?_|refine Bq.e _ _ rfl ?_|refine hn _ ?_|refine he _ _ rfl ?_|(simp only[Qc,Kc,simprocAttr];show _)|(with_reducible refine And.intro ?_ ?_;(focus (clear hq;first|omega|with_reducible rfl|exact trivial)))|(apply b7;(focus(repeat(first|exact hc|exact hc.1|have hc:=hc.2)));rfl;rfl)|(apply cd;(focus(repeat(first|exact hc|exact hc.1|have hc:=hc.2)));rfl;rfl)));(try revert hK);(try revert K);exact hq)|fail):p:=k x c h
theorem Vd{p q e t:Prop}(x:e)(c:t)(h:q)(k:e->t->q->p:=by first|(intro hx hc hq;(try with_reducible intro K hK);(first|((first|refine rr ?_|refine qw ?_|refine rb ?_|refine DF ?_|refine ra ?_|refine DG ?_);intro K hK;simp(disch:=omega)only[Ac,↓Pc,simprocAttr,hx];show _)|(with_reducible refine gO ?_;simp(disch:=omega)only[Ac,↓Pc,simprocAttr,hx];show _)|(refine hK _ ?_;clear hK K)|refine Wz rfl ?_|refine Xk ?_|refine Xb ?_|refine Sq.n _ ?_|refine Sq.e _ _ rfl ?_|refine Bq.n _ ?_|refine Bq.x _ ?_|refine Bq.e _ _ rfl ?_|refine hn _ ?_|refine he _ _ rfl ?_|refine ax _ _ rfl ?_|refine bG _ _ rfl ?_|refine iB _ _ rfl ?_|refine xy _ _ rfl ?_|(simp only[Qc,Kc,simprocAttr];show _)|(with_reducible refine And.intro ?_ ?_;(focus (clear hq;first|omega|with_reducible rfl|exact trivial)))|(apply b7;(focus(repeat(first|exact hc|exact hc.1|have hc:=hc.2)));rfl;rfl)|(apply cd;(focus(repeat(first|exact hc|exact hc.1|have hc:=hc.2)));rfl;rfl));(repeat(first|((first|refine rr ?_|refine qw ?_|refine rb ?_|refine DF ?_|refine ra ?_|refine DG ?_);intro K hK;simp(disch:=omega)only[Ac,↓Pc,simprocAttr,hx];show _)|(with_reducible refine gO ?_;simp(disch:=omega)only[Ac,↓Pc,simprocAttr,hx];show _)|(refine hK _ ?_;clear hK K)|refine Wz rfl ?_|refine Xk ?_|refine Xb ?_|refine Sq.n _ ?_|refine Sq.e _ _ rfl ?_|refine Bq.n _ ?_|refine Bq.x _ ?_|refine Bq.e _ _ rfl ?_|refine hn _ ?_|refine he _ _ rfl ?_|refine ax _ _ rfl ?_|refine bG _ _ rfl ?_|refine iB _ _ rfl ?_|refine xy _ _ rfl ?_|(simp only[Qc,Kc,simprocAttr];show _)|(with_reducible refine And.intro ?_ ?_;(focus (clear hq;first|omega|with_reducible rfl|exact trivial)))|(apply b7;(focus(repeat(first|exact hc|exact hc.1|have hc:=hc.2)));rfl;rfl)|(apply cd;(focus(repeat(first|exact hc|exact hc.1|have hc:=hc.2)));rfl;rfl)));(try revert hK);(try revert K);exact hq)|fail):p:=k x c h
theorem V2{p q r e:Prop}(x:e)(h:q)(h2:r)(k:e->q->r->p/\True:=by first|(intro hx hq hr;refine And.intro ?_ ?_;(try with_reducible intro K hK);(with_reducible refine gS (fun aV=>?_) (fun aV=>?_));(focus (have hb:=aV;(try simp only[gQ,simprocAttr]at hb);all_goals(simp(disch:=omega)only[Ac,↓Pc,simprocAttr,hx,aV]);all_goals(clear aV;(try revert hK);(try revert K);revert hb;exact hq)));(focus (have hb:=aV;(try simp only[gQ,simprocAttr]at hb);all_goals(simp(disch:=omega)only[Ac,↓Pc,simprocAttr,hx,aV]);all_goals(clear aV;(try revert hK);(try revert K);revert hb;exact hr)));((try have _:True:=hq);(try have _:True:=hr);trivial))|fail):p:=(k x h h2).1
theorem VD{p q r:Prop}(h:q)(h2:r)(k:q->r->p:=by first|(intro hq hr;(try with_reducible intro K hK);with_reducible refine And.intro ?_ ?_;(focus ((try clear hK K);(try revert hK);(try revert K);exact hq));(focus ((try clear hK K);(try revert hK);(try revert K);exact hr)))|fail):p:=k h h2
def ai7(n m:Int)(hm:jv m):Holds Tryz.prog 14 [OJ n,OJ m] [] (OJ (yI n m)) []:=by
 unfold jv at hm;refine Holds.aQ 16 0 [.tmp 4] Tryz.func14 ?_;repeat'(first|(refine Xr X0 ?_;intro K hK)|(refine hK _ ?_;clear hK K)|(refine Xi ?_ ?_<;>try intro ht)|refine Xz ?_|(refine Xe ?_;first|refine aW rfl ?_|refine Xl ?_ ?_)|refine Xd ?_ ?_|exact Xx|fail)
 ·rw[yI,if_pos ht]
 ·have:=Mt n m CZ;omega
 ·rw[yI,if_neg CZ,(Mt n m CZ).1 ht]
 ·rw[yI,if_neg CZ,(Mt n m CZ).2.1 ht]
def afH(xs:List Int):Holds Tryz.prog 8 [.tree 1 (ints xs)] [] (.lit (.bool (decide (xs.length<=400)))) []:=by
 refine Holds.aQ 6 0 [.tmp 2] Tryz.func8 ?_;repeat'(first|(refine Xr X0 ?_;intro K hK)|(refine hK _ ?_;clear hK K)|refine Xz ?_|(refine Xe ?_;first|refine aW rfl ?_|refine Xl ?_ ?_)|fail)
 ·congr 3;simp;omega
def wY(L:List Int)(k:Nat)(n:Int)(hn:jv n)(hk:k<=L.length)(hL:L.length<1000000):Holds Tryz.prog 24 [.ptr 0 0 0,OJ n] [.var [.tree 1 (ints L),OJ k]] (OJ (nc L k n))
  [.var [.tree 1 (ints L),OJ (kQ L k)]]:=by
 refine Holds.aQ 35 1 [.tmp 4] Tryz.func24 ?_;repeat'(first|(refine Xq X0 ?_;intro K hK)|refine Xo X0 ?_|refine Xc (ai7 _ _ hn) ?_|(refine hK _ ?_;clear hK K)|(refine Xi ?_ ?_<;>try intro ht)|refine Xz ?_|(refine Xe ?_;first|refine aW rfl ?_|refine Xl ?_ ?_)|refine Xd ?_ ?_|exact Xx|fail)
 ·rw[kQ,if_pos CZ]
 ·rw[nc,if_pos CZ]
 ·rw[kQ,if_neg CZ,y7];rfl
 ·rw[nc,if_neg CZ,show((k:Int)+1-1).toNat=k by omega]
def aap(L:List Int)(k:Nat)(n:Int)(hn:jv n)(kx:0<n)(hk:k<=L.length)(hL:L.length<1000000):Holds Tryz.prog 31 [.ptr 0 0 0,OJ n] [.var [.tree 1 (ints L),OJ k]] (.lit (.bool (Em L k n)))
  [.var [.tree 1 (ints L),OJ (kQ L k)]]:=by
 refine Holds.aQ 11 1 [.tmp 4] Tryz.func31 ?_;repeat'(first|(refine Xr X0 ?_;intro K hK)|(refine hK _ ?_;clear hK K)|fail)
 refine gj (wY L k n hn hk hL) Fl ?_;unfold jv at hn;repeat'(first|refine Xo X0 ?_|(refine hK _ ?_;clear hK K)|refine Xz ?_|(refine Xe ?_;first|refine aW rfl ?_|refine Xl ?_ ?_)|refine Xd ?_ ?_|exact Xx|fail)
 ·rfl
def Th(L:List Int):Holds Tryz.prog 10 [.tree 1 (ints L)] [] (.ptr 0 0 0) [.var [.tree 1 (ints L),OJ (0:Nat)]]:=by
 refine Holds.aQ 6 0 [.tmp 2] Tryz.func10 ?_;refine Vb X0 ?_;rw[show(0:Int)=((0:Nat):Int) from rfl];exact dX rfl Fl rfl
def ai8(a b:Int)(ha:bQ a)(hb:bQ b):Holds Tryz.prog 110 [OJ a,OJ b] [] (OJ (dK a b)) []:=by
 unfold bQ at *;refine Holds.aQ 9 0 [.tmp 4] Tryz.func110 ?_;repeat'(first|(refine Xr X0 ?_;intro K hK)|(refine hK _ ?_;clear hK K)|refine Xz ?_|(refine Xe ?_;first|refine aW rfl ?_|refine Xl ?_ ?_)|refine Xd ?_ ?_|exact Xx|fail)
 ·rfl
def ai9(a b:Int)(ha:bQ a)(hb:bQ b):Holds Tryz.prog 83 [OJ a,OJ b] [] (OJ (dK a b)) []:=by
 unfold bQ at *;refine Holds.aQ 9 0 [.tmp 4] Tryz.func83 ?_;repeat'(first|(refine Xr X0 ?_;intro K hK)|(refine hK _ ?_;clear hK K)|refine Xz ?_|(refine Xe ?_;first|refine aW rfl ?_|refine Xl ?_ ?_)|refine Xd ?_ ?_|exact Xx|fail)
 ·rfl
def MK(n:Int):Holds Tryz.prog 123 [OJ n] [] (.lit (.bool (lB n))) []:=by
 refine Holds.aQ 13 0 [.tmp 2] Tryz.func123 ?_;repeat'(first|(refine Xr X0 ?_;intro K hK)|(refine hK _ ?_;clear hK K)|(refine Xg X0 ?_ ?_<;>try intro hb)|refine Xz ?_|(refine Xe ?_;first|refine aW rfl ?_|refine Xl ?_ ?_)|fail)
 all_goals(refine congrArg (λb=>AV.lit (Value.bool b)) ?_;rw[nP];simp only[lB,decide_eq_true_eq,beq_iff_eq,bne_iff_ne,a7,kL,lg,decide_eq_false_iff_not,jd,reduceCtorEq,iff_true,iff_false,true_iff,false_iff,eq_self];omega)
def ML(n:Int):Holds Tryz.prog 62 [OJ n] [] (.lit (.bool (lB n))) []:=by
 refine Holds.aQ 13 0 [.tmp 2] Tryz.func62 ?_;repeat'(first|(refine Xr X0 ?_;intro K hK)|(refine hK _ ?_;clear hK K)|(refine Xg X0 ?_ ?_<;>try intro hb)|refine Xz ?_|(refine Xe ?_;first|refine aW rfl ?_|refine Xl ?_ ?_)|fail)
 all_goals(refine congrArg (λb=>AV.lit (Value.bool b)) ?_;rw[nP];simp only[lB,decide_eq_true_eq,beq_iff_eq,bne_iff_ne,a7,kL,lg,decide_eq_false_iff_not,jd,reduceCtorEq,iff_true,iff_false,true_iff,false_iff,eq_self];omega)
def MN(m:aj)(n:Int):Holds Tryz.prog 122 [.agg (ay m),OJ n] [] (.lit (.bool (k8 m.rules n))) []:=by
 refine Holds.aQ 13 0 [.tmp 4] Tryz.func122 ?_;repeat'(first|(refine Xr @ay.eq_1 ?_;intro K hK)|(refine hK _ ?_;clear hK K)|(refine Xg @ay.eq_1 ?_ ?_<;>try intro hb)|refine Xz ?_|(refine Xe ?_;first|refine aW rfl ?_|refine Xl ?_ ?_)|fail)
 all_goals(refine congrArg (λb=>AV.lit (Value.bool b)) ?_;rw[nP];simp only[k8,decide_eq_true_eq,beq_iff_eq,bne_iff_ne,a7,kL,lg,decide_eq_false_iff_not,jd,reduceCtorEq,iff_true,iff_false,true_iff,false_iff,eq_self];omega)
def MO(m:aj)(n:Int):Holds Tryz.prog 61 [.agg (ay m),OJ n] [] (.lit (.bool (k8 m.rules n))) []:=by
 refine Holds.aQ 13 0 [.tmp 4] Tryz.func61 ?_;repeat'(first|(refine Xr @ay.eq_1 ?_;intro K hK)|(refine hK _ ?_;clear hK K)|(refine Xg @ay.eq_1 ?_ ?_<;>try intro hb)|refine Xz ?_|(refine Xe ?_;first|refine aW rfl ?_|refine Xl ?_ ?_)|fail)
 all_goals(refine congrArg (λb=>AV.lit (Value.bool b)) ?_;rw[nP];simp only[k8,decide_eq_true_eq,beq_iff_eq,bne_iff_ne,a7,kL,lg,decide_eq_false_iff_not,jd,reduceCtorEq,iff_true,iff_false,true_iff,false_iff,eq_self];omega)
def ai'(n:Int):Holds Tryz.prog 107 [OJ n] [] (.lit (.bool false)) []:=by
 refine Holds.aQ 6 0 [.tmp 2] Tryz.func107 ?_;repeat'(first|(refine Xr @bne_self_eq_false.{0} ?_;intro K hK)|(refine hK _ ?_;clear hK K)|refine Xz ?_|(refine Xe ?_;first|refine aW rfl ?_|refine Xl ?_ ?_)|exact Xx|fail)
def D6(a b:Int):Holds Tryz.prog 76 [OJ a,OJ b] [] (OJ (kh a b)) []:=by
 refine Holds.aQ 20 0 [.tmp 4] Tryz.func76 ?_;repeat'(first|(refine Xq X0 ?_;intro K hK)|refine Xo X0 ?_|refine Xc (ai' _) ?_|(refine hK _ ?_;clear hK K)|(refine Xi ?_ ?_<;>try intro ht)|refine Xz ?_|(refine Xe ?_;first|refine aW rfl ?_|refine Xl ?_ ?_)|exact Xx|fail)
 all_goals(unfold kh;congr 2;(repeat' split)<;>omega)
def LU(l:List Int)(hl:l.length<1000000):Holds Tryz.prog 75 [.tree 1 (ints l)] [] (OJ (qJ l)) []:=by
 generalize au:qJ l=res;refine Holds.aQ 18 0 [.tmp 2] Tryz.func75 ?_;repeat'(first|(refine Xr X0 ?_;intro K hK)|(refine hK _ ?_;clear hK K)|refine Xz ?_|fail)
 refine bd (λk:Nat=>(⟨ar [(3,OJ 0),(6,.tree 1 (ints l)),(7,OJ l.length),(8,OJ k)],[]⟩:St)) (λk=>k<=l.length/\qJ (l.drop k)=res) (λk=>l.length-k) 0 ⟨aS _,au⟩ (Xv X0) ?_;rintro k⟨hk,hr⟩Ql ao ax;repeat'(first|(refine Xr X0 ?_;intro K hK)|(refine hK _ ?_;clear hK K)|(refine Xi ?_ ?_<;>try intro ht)|refine Xz ?_|refine Xh ?_|(refine Xe ?_;first|refine aW rfl ?_|refine Xl ?_ ?_)|refine Xd ?_ ?_|exact Xx|fail)
 ·rw[lk _ _ 0 CZ,qJ,if_pos (by assumption)]at hr;rw[hr]
 ·rw[lk _ _ 0 CZ,qJ,if_neg CZ]at hr;exact ao _ (k+1) ⟨CZ,hr⟩ CZ (Xv X0)
 ·rw[j9 CZ,qJ]at hr;rw[hr]
def aja(m:aj)(c o:Int):Holds Tryz.prog 127 [.agg (ay m),OJ c,OJ o] [] (.lit (.bool (jy m c o))) []:=by
 refine Holds.aQ 30 0 [.tmp 6] Tryz.func127 ?_;repeat'(first|(refine Xr (X4 @ay.eq_1 @cU @fU @bm.eq_1) ?_;intro K hK)|(refine hK _ ?_;clear hK K)|(refine Xg (X4 @ay.eq_1 @cU @fU @bm.eq_1) ?_ ?_<;>try intro hb)|refine Xz ?_|(refine Xe ?_;first|refine aW rfl ?_|refine Xl ?_ ?_)|refine Xd ?_ ?_|exact Xx|fail)
 all_goals(refine congrArg (λb=>AV.lit (Value.bool b)) ?_;rw[nP];simp only[jy,decide_eq_true_eq,beq_iff_eq,bne_iff_ne,a7,kL,lg,decide_eq_false_iff_not,jd,reduceCtorEq,iff_true,iff_false,true_iff,false_iff,eq_self];omega)
def aaq(m:aj)(c o:Int):Holds Tryz.prog 82 [.agg (ay m),OJ c,OJ o] [] (.lit (.bool (jy m c o))) []:=by
 refine Holds.aQ 30 0 [.tmp 6] Tryz.func82 ?_;repeat'(first|(refine Xr (X4 @ay.eq_1 @cU @fU @bm.eq_1) ?_;intro K hK)|(refine hK _ ?_;clear hK K)|(refine Xg (X4 @ay.eq_1 @cU @fU @bm.eq_1) ?_ ?_<;>try intro hb)|refine Xz ?_|(refine Xe ?_;first|refine aW rfl ?_|refine Xl ?_ ?_)|refine Xd ?_ ?_|exact Xx|fail)
 all_goals(refine congrArg (λb=>AV.lit (Value.bool b)) ?_;rw[nP];simp only[jy,decide_eq_true_eq,beq_iff_eq,bne_iff_ne,a7,kL,lg,decide_eq_false_iff_not,jd,reduceCtorEq,iff_true,iff_false,true_iff,false_iff,eq_self];omega)
def ai2(c:Ct)(n:Int)(h1:0<=c.most)(h2:n<=1048576)(h3:0<=n)(h4:bQ c.cI):Holds Tryz.prog 144 [.agg (ej c),OJ n] [] (OJ (k0 c.most c.cI n)) []:=by
 unfold bQ at h4;have hm:c.most<n->0<=(n-c.most)*c.cI/\(n-c.most)*c.cI<=1048576*1099511627776:=λh=>⟨tQ CZ h4.1,u6 CZ h4.2 h4.1 CZ⟩;refine Holds.aQ 17 0 [.tmp 4] Tryz.func144 ?_;repeat'(first|(refine Xr @ej.eq_1 ?_;intro K hK)|(refine hK _ ?_;clear hK K)|(refine Xi ?_ ?_<;>try intro ht)|refine Xz ?_|(refine Xe ?_;first|refine aW rfl ?_|refine Xl ?_ ?_)|refine Xd ?_ ?_|exact Xx|fail)
 ·rw[k0,if_pos ht]
 ·rw[k0,if_neg CZ]
def ajb(n c:Int)(h2:n<=1048576)(h4:bQ c):Holds Tryz.prog 48 [OJ n,OJ c] [] (OJ (Cb n c)) []:=by
 unfold bQ at h4;have hm:0<n->0<=n*c/\n*c<=1048576*1099511627776:=λh=>⟨tQ CZ h4.1,u6 CZ h4.2 h4.1 CZ⟩;refine Holds.aQ 13 0 [.tmp 4] Tryz.func48 ?_;repeat'(first|(refine Xr X0 ?_;intro K hK)|(refine hK _ ?_;clear hK K)|(refine Xi ?_ ?_<;>try intro ht)|refine Xz ?_|(refine Xe ?_;first|refine aW rfl ?_|refine Xl ?_ ?_)|refine Xd ?_ ?_|exact Xx|fail)
 ·rw[Cb,if_pos ht]
 ·rw[Cb,if_neg CZ,if_pos CZ]
 ·rw[Cb,if_neg CZ,if_neg CZ]
def fD{α:Type}(p:α->Bool):Nat->List α->Int
 |_,[]=>-1
 |k,x::r=>if p x=true then(k:Int) else fD p (k+1) r
def yN{α:Type}(p:α->Bool):∀ (l:List α) (k:Nat),decide (0<=fD p k l)=l.any p
 |[],k=>rfl
 |x::r,k=>by
  rw[fD,O7];split
  ·rename_i h;rw[h];simp
  ·rename_i h;rw[yN p r (k+1)];simp_all
def ajc(l:List (List dq))(g:FuncId)(bn:List AV)(aa:List Ob)(p:(List dq)->Bool)(hl:l.length<9223372036854775808)(hg:∀ x∈l,Holds Tryz.prog g ([.tree 6 (rowsOf cA x)]++bn) aa (.lit (.bool (p x))) aa):
  Holds Tryz.prog 147 [.tree 1 (rowsOf bm l),.fn g bn] aa (OJ (fD p 0 l)) aa:=by
 generalize au:fD p 0 l=res;refine Holds.aQ 19 aa.length [.tmp 4] Tryz.func147 ?_;refine Vb (X3 @cU @fU @bm.eq_1) ?_;refine bd (λk:Nat=>(⟨ar [(0,.tree 1 (rowsOf bm l)),(1,.fn g bn),(7,OJ l.length),(8,OJ k)],aa⟩:St)) (λk=>k<=l.length/\fD p k (l.drop k)=res) (λk=>l.length-k) 0 ⟨aS _,au⟩ (Xv X0) ?_;rintro k⟨hk,hr⟩Ql ao ax;by_cases bc:k<l.length
 ·have hx:=hg _ (aF (d:=default) bc);have hd:=lk l k default bc;generalize cE:l.getD k default=x at *;rw[hd,fD]at hr;simp only[e9,iH,bm]at hx;((repeat'(first|refine Vb (X4 @cU @fU @bm.eq_1 @cE) ?_|(refine Xi ?_ ?_<;>try intro ht)|exact Xx|fail))<;>try with_reducible intro K hK)
  refine gj hx (aU _) ?_;((try revert hK K);(repeat'(first|refine Vb (X3 @cU @fU @bm.eq_1) ?_|(refine Xi ?_ ?_<;>try intro ht)|fail)))
  ·rw[if_pos (by assumption)]at hr;rw[<- hr];exact dX rfl (aU _) rfl
  ·rw[if_neg (by simp_all)]at hr;exact ao _ (k+1) ⟨CZ,hr⟩ CZ (Xv X0)
 ·((repeat'(first|refine Vb (X3 @cU @fU @bm.eq_1) ?_|(refine Xi ?_ ?_<;>try intro ht)|exact Xx|fail)))
  rw[j9 CZ,fD]at hr;rw[<- hr];exact dX rfl (aU _) rfl
def ajd(l:List (List dq))(g:FuncId)(bn:List AV)(aa:List Ob)(p:(List dq)->Bool)(hl:l.length<9223372036854775808)(hg:∀ x∈l,Holds Tryz.prog g ([.tree 6 (rowsOf cA x)]++bn) aa (.lit (.bool (p x))) aa):
  Holds Tryz.prog 120 [.tree 1 (rowsOf bm l),.fn g bn] aa (.lit (.bool (l.any p))) aa:=by
 rw[<- yN p l 0];refine Holds.aQ 9 aa.length [.tmp 4] Tryz.func120 ?_;((refine Vb (X3 @cU @fU @bm.eq_1) ?_)<;>try with_reducible intro K hK)
 refine gj (ajc l g bn aa p hl hg) (aU _) ?_;((try revert hK K);(refine Vb (X3 @cU @fU @bm.eq_1) ?_))
 exact dX rfl (aU _) rfl
def aje(l:List dq)(g:FuncId)(bn:List AV)(aa:List Ob)(p:dq->Bool)(hl:l.length<9223372036854775808)(hg:∀ x∈l,Holds Tryz.prog g ([.agg (cA x)]++bn) aa (.lit (.bool (p x))) aa):
  Holds Tryz.prog 121 [.tree 6 (rowsOf cA l),.fn g bn] aa (OJ (fD p 0 l)) aa:=by
 generalize au:fD p 0 l=res;refine Holds.aQ 19 aa.length [.tmp 4] Tryz.func121 ?_;refine Vb (X3 @cU @fU @cA.eq_1) ?_;refine bd (λk:Nat=>(⟨ar [(0,.tree 6 (rowsOf cA l)),(1,.fn g bn),(7,OJ l.length),(8,OJ k)],aa⟩:St)) (λk=>k<=l.length/\fD p k (l.drop k)=res) (λk=>l.length-k) 0 ⟨aS _,au⟩ (Xv X0) ?_;rintro k⟨hk,hr⟩Ql ao ax;by_cases bc:k<l.length
 ·have hx:=hg _ (aF (d:=default) bc);have hd:=lk l k default bc;generalize cE:l.getD k default=x at *;rw[hd,fD]at hr;simp only[e9,iH,cA]at hx;((repeat'(first|refine Vb (X4 @cU @fU @cA.eq_1 @cE) ?_|(refine Xi ?_ ?_<;>try intro ht)|exact Xx|fail))<;>try with_reducible intro K hK)
  refine gj hx (aU _) ?_;((try revert hK K);(repeat'(first|refine Vb (X3 @cU @fU @cA.eq_1) ?_|(refine Xi ?_ ?_<;>try intro ht)|fail)))
  ·rw[if_pos (by assumption)]at hr;rw[<- hr];exact dX rfl (aU _) rfl
  ·rw[if_neg (by simp_all)]at hr;exact ao _ (k+1) ⟨CZ,hr⟩ CZ (Xv X0)
 ·((repeat'(first|refine Vb (X3 @cU @fU @cA.eq_1) ?_|(refine Xi ?_ ?_<;>try intro ht)|exact Xx|fail)))
  rw[j9 CZ,fD]at hr;rw[<- hr];exact dX rfl (aU _) rfl
def ajf(l:List dq)(g:FuncId)(bn:List AV)(aa:List Ob)(p:dq->Bool)(hl:l.length<9223372036854775808)(hg:∀ x∈l,Holds Tryz.prog g ([.agg (cA x)]++bn) aa (.lit (.bool (p x))) aa):
  Holds Tryz.prog 87 [.tree 6 (rowsOf cA l),.fn g bn] aa (.lit (.bool (l.any p))) aa:=by
 rw[<- yN p l 0];refine Holds.aQ 9 aa.length [.tmp 4] Tryz.func87 ?_;((refine Vb (X3 @cU @fU @cA.eq_1) ?_)<;>try with_reducible intro K hK)
 refine gj (aje l g bn aa p hl hg) (aU _) ?_;((try revert hK K);(refine Vb (X3 @cU @fU @cA.eq_1) ?_))
 exact dX rfl (aU _) rfl
def ajg(l:List Ct)(g:FuncId)(bn:List AV)(aa:List Ob)(p:Ct->Bool)(hl:l.length<9223372036854775808)(hg:∀ x∈l,Holds Tryz.prog g ([.agg (ej x)]++bn) aa (.lit (.bool (p x))) aa):
  Holds Tryz.prog 126 [.tree 4 (rowsOf ej l),.fn g bn] aa (OJ (fD p 0 l)) aa:=by
 generalize au:fD p 0 l=res;refine Holds.aQ 19 aa.length [.tmp 4] Tryz.func126 ?_;refine Vb (X3 @cU @fU @ej.eq_1) ?_;refine bd (λk:Nat=>(⟨ar [(0,.tree 4 (rowsOf ej l)),(1,.fn g bn),(7,OJ l.length),(8,OJ k)],aa⟩:St)) (λk=>k<=l.length/\fD p k (l.drop k)=res) (λk=>l.length-k) 0 ⟨aS _,au⟩ (Xv X0) ?_;rintro k⟨hk,hr⟩Ql ao ax;by_cases bc:k<l.length
 ·have hx:=hg _ (aF (d:=default) bc);have hd:=lk l k default bc;generalize cE:l.getD k default=x at *;rw[hd,fD]at hr;simp only[e9,iH,ej]at hx;((repeat'(first|refine Vb (X4 @cU @fU @ej.eq_1 @cE) ?_|(refine Xi ?_ ?_<;>try intro ht)|exact Xx|fail))<;>try with_reducible intro K hK)
  refine gj hx (aU _) ?_;((try revert hK K);(repeat'(first|refine Vb (X3 @cU @fU @ej.eq_1) ?_|(refine Xi ?_ ?_<;>try intro ht)|fail)))
  ·rw[if_pos (by assumption)]at hr;rw[<- hr];exact dX rfl (aU _) rfl
  ·rw[if_neg (by simp_all)]at hr;exact ao _ (k+1) ⟨CZ,hr⟩ CZ (Xv X0)
 ·((repeat'(first|refine Vb (X3 @cU @fU @ej.eq_1) ?_|(refine Xi ?_ ?_<;>try intro ht)|exact Xx|fail)))
  rw[j9 CZ,fD]at hr;rw[<- hr];exact dX rfl (aU _) rfl
def ajh(l:List Ct)(g:FuncId)(bn:List AV)(aa:List Ob)(p:Ct->Bool)(hl:l.length<9223372036854775808)(hg:∀ x∈l,Holds Tryz.prog g ([.agg (ej x)]++bn) aa (.lit (.bool (p x))) aa):
  Holds Tryz.prog 92 [.tree 4 (rowsOf ej l),.fn g bn] aa (.lit (.bool (l.any p))) aa:=by
 rw[<- yN p l 0];refine Holds.aQ 9 aa.length [.tmp 4] Tryz.func92 ?_;((refine Vb (X3 @cU @fU @ej.eq_1) ?_)<;>try with_reducible intro K hK)
 refine gj (ajg l g bn aa p hl hg) (aU _) ?_;((try revert hK K);(refine Vb (X3 @cU @fU @ej.eq_1) ?_))
 exact dX rfl (aU _) rfl
def aji(l:List Int)(g:FuncId)(bn:List AV)(aa:List Ob)(p:Int->Bool)(hl:l.length<9223372036854775808)(hg:∀ x∈l,Holds Tryz.prog g ([OJ x]++bn) aa (.lit (.bool (p x))) aa):
  Holds Tryz.prog 148 [.tree 1 (ints l),.fn g bn] aa (OJ (fD p 0 l)) aa:=by
 generalize au:fD p 0 l=res;refine Holds.aQ 19 aa.length [.tmp 4] Tryz.func148 ?_;refine Vb @il ?_;refine bd (λk:Nat=>(⟨ar [(0,.tree 1 (ints l)),(1,.fn g bn),(7,OJ l.length),(8,OJ k)],aa⟩:St)) (λk=>k<=l.length/\fD p k (l.drop k)=res) (λk=>l.length-k) 0 ⟨aS _,au⟩ (Xv X0) ?_;rintro k⟨hk,hr⟩Ql ao ax;by_cases bc:k<l.length
 ·have hx:=hg _ (aF (d:=0) bc);have hd:=lk l k 0 bc;generalize cE:l.getD k 0=x at *;rw[hd,fD]at hr;simp only[e9,iH]at hx;((repeat'(first|refine Vb (X2 @il @cE) ?_|(refine Xi ?_ ?_<;>try intro ht)|exact Xx|fail))<;>try with_reducible intro K hK)
  refine gj hx (aU _) ?_;((try revert hK K);(repeat'(first|refine Vb @il ?_|(refine Xi ?_ ?_<;>try intro ht)|fail)))
  ·rw[if_pos (by assumption)]at hr;rw[<- hr];exact dX rfl (aU _) rfl
  ·rw[if_neg (by simp_all)]at hr;exact ao _ (k+1) ⟨CZ,hr⟩ CZ (Xv X0)
 ·((repeat'(first|refine Vb @il ?_|(refine Xi ?_ ?_<;>try intro ht)|exact Xx|fail)))
  rw[j9 CZ,fD]at hr;rw[<- hr];exact dX rfl (aU _) rfl
def aar(l:List Int)(g:FuncId)(bn:List AV)(aa:List Ob)(p:Int->Bool)(hl:l.length<9223372036854775808)(hg:∀ x∈l,Holds Tryz.prog g ([OJ x]++bn) aa (.lit (.bool (p x))) aa):
  Holds Tryz.prog 124 [.tree 1 (ints l),.fn g bn] aa (.lit (.bool (l.any p))) aa:=by
 rw[<- yN p l 0];refine Holds.aQ 9 aa.length [.tmp 4] Tryz.func124 ?_;((refine Vb @il ?_)<;>try with_reducible intro K hK)
 refine gj (aji l g bn aa p hl hg) (aU _) ?_;((try revert hK K);(refine Vb @il ?_))
 exact dX rfl (aU _) rfl
def ajj(l:List dq):Holds Tryz.prog 119 [.tree 6 (rowsOf cA l)] [] (.lit (.bool (decide (24<l.length)))) []:=by
 refine Holds.aQ 6 0 [.tmp 2] Tryz.func119 ?_;repeat'(first|(refine Xr X0 ?_;intro K hK)|(refine hK _ ?_;clear hK K)|refine Xz ?_|(refine Xe ?_;first|refine aW rfl ?_|refine Xl ?_ ?_)|fail)
 (refine congrArg (λb=>AV.lit (Value.bool b)) ?_;rw[nP];simp only[gt_iff_lt,decide_eq_true_eq,beq_iff_eq,bne_iff_ne,a7,kL,lg,decide_eq_false_iff_not,jd,reduceCtorEq,iff_true,iff_false,true_iff,false_iff,eq_self];omega)
def ajk(m:aj)(hm:MB m):Holds Tryz.prog 86 [.agg (ay m)] [] (.lit (.bool (tg m))) []:=by
 have h1:=hm.cls;have h2:=ajd m.cls 119 [] [] (λl=>decide (24<l.length)) h1 (λx _=>by simpa using ajj x);unfold tg;generalize m.cls.any (λl=>decide (24<l.length))=b at *;cases b;all_goals refine Holds.aQ 36 0 [.tmp 2] Tryz.func86 ?_
 all_goals repeat'(first|(refine Xq X0 ?_;intro K hK)|refine Xo X0 ?_|refine Xc (h2) ?_|(refine hK _ ?_;clear hK K)|(refine Xg X0 ?_ ?_<;>try intro hb)|refine Xz ?_|(refine Xe ?_;first|refine aW rfl ?_|refine Xl ?_ ?_)|fail)
 all_goals first|rfl|(simp;done)|(refine congrArg (λb=>AV.lit (Value.bool b)) ?_;rw[nP];simp only[or_true,true_or,or_false,false_or,decide_eq_true_eq,beq_iff_eq,bne_iff_ne,a7,kL,lg,decide_eq_false_iff_not,jd,reduceCtorEq,iff_true,iff_false,true_iff,false_iff,eq_self];omega)
def ajl(m:aj)(o:dq)(ho:o.ch.length<9223372036854775808):Holds Tryz.prog 89 [.agg (ay m),.agg (cA o)] [] (.lit (.bool (gy m.rules none o.ch))) []:=by
 generalize au:gy m.rules none o.ch=res;refine Holds.aQ 43 0 [.tmp 4] Tryz.func89 ?_;repeat'(first|(refine Xr X0 ?_;intro K hK)|(refine hK _ ?_;clear hK K)|refine Xz ?_|fail)
 refine bd (λk:Nat=>(⟨ar [(2,.ptr 0 0 0),(3,.ptr 1 0 0),(8,.tree 2 (rowsOf dt o.ch)),(9,OJ o.ch.length),(10,OJ k)],[.var (ay m),.var (cA o)]⟩:St)) (λk=>k<=o.ch.length/\gy m.rules (qO o.ch k) (o.ch.drop k)=res) (λk=>o.ch.length-k) 0 ⟨aS _,au⟩ (Xv X0) ?_;rintro k⟨hk,hr⟩Ql ao ax;by_cases bc:k<o.ch.length
 ·have hd:=lk o.ch k default bc;generalize bf:o.ch.getD k default=c at *;rw[hd,V']at hr;have hnc:=MN m c.1;have eJ:((k:Int)-1).toNat=k-1:=CZ;repeat'(first|(refine Xq (X2 @bf @eJ) ?_;intro K hK)|refine Xo (X2 @bf @eJ) ?_|refine Xc (hnc) ?_|refine Xc (MK c.2) ?_|(refine hK _ ?_;clear hK K)|(refine Xg (X2 @bf @eJ) ?_ ?_<;>try intro hb)|(refine Xi ?_ ?_<;>try intro ht)|refine Xz ?_|refine Xh ?_|(refine Xe ?_;first|refine aW rfl ?_|refine Xl ?_ ?_)|refine Xd ?_ ?_|exact Xx|fail)
  ·rw[<- hr];simp[*]
  ·rw[<- hr];simp[*]
  ·rw[<- hr,decide_eq_false (p:=k=0) CZ,decide_eq_false (p:=_<c.1) CZ];simp
  ·refine ao _ (k+1) ⟨CZ,?_⟩ CZ (Xs false [0,1] X0);rw[xo,bf,<- hr,decide_eq_true (p:=_<c.1) ht];simp[*]
  ·refine ao _ (k+1) ⟨CZ,?_⟩ CZ (Xs false [0,1] X0);rw[xo,bf,<- hr,decide_eq_true (p:=k=0) CZ];simp[*]
 ·repeat'(first|(refine Xr X0 ?_;intro K hK)|(refine hK _ ?_;clear hK K)|(refine Xi ?_ ?_<;>try intro ht)|refine Xz ?_|refine Xh ?_|(refine Xe ?_;first|refine aW rfl ?_|refine Xl ?_ ?_)|refine Xd ?_ ?_|exact Xx|fail)
  rw[j9 CZ,gy]at hr;rw[<- hr]
def ajn(a b:Pr):Holds Tryz.prog 91 [.agg (aL a),.agg (aL b)] [] (OJ (nm a b)) []:=by
 refine Holds.aQ 22 0 [.tmp 4] Tryz.func91 ?_;repeat'(first|(refine Xr X0 ?_;intro K hK)|(refine hK _ ?_;clear hK K)|refine Xz ?_|fail)
 (try(refine Gr [4,9,14] rfl Fs (by decide +kernel) ?_);intro K hK;simp(disch:=omega)only[Ac,↓Pc,simprocAttr])
 repeat'(first|refine Xo X0 ?_|refine Xc (D6 _ _) ?_|fail)
 refine vh [] (LU [kh a.ei b.ei,kh a.fst b.fst,kh a.snd b.snd] Fl) Fs trivial ⟨cC.cJ rfl (x7 _) rfl Fs (Bf _),trivial⟩ rfl Fl ?_;repeat'(first|refine Xo X0 ?_|(refine hK _ ?_;clear hK K)|refine Xz ?_|(refine Xe ?_;first|refine aW rfl ?_|refine Xl ?_ ?_)|fail)
 ·rfl
def ajo(n:Int):Holds Tryz.prog 125 [OJ n] [] (.lit (.bool (pG n))) []:=by
 refine Holds.aQ 10 0 [.tmp 2] Tryz.func125 ?_;repeat'(first|(refine Xq X0 ?_;intro K hK)|refine Xo X0 ?_|refine Xc (MK n) ?_|(refine hK _ ?_;clear hK K)|(refine Xg X0 ?_ ?_<;>try intro hb)|refine Xz ?_|(refine Xe ?_;first|refine aW rfl ?_|refine Xl ?_ ?_)|fail)
 all_goals(simp[pG, *]<;>omega)
def ajp(m:aj)(p:Pr)(hp:p.aC.length<9223372036854775808)(hm:∀ l∈m.cls,l.length<=24)(hl:m.cls.length<=24):Holds Tryz.prog 90 [.agg (ay m),.agg (aL p)] [] (.lit (.bool (iD m p))) []:=by
 have hg:∀ i,(m.cls.getD i default).length<=24:=λi=>by
  rcases dw i m.cls.length with h|h
  ·exact hm _ (aF h)
  ·rw[List.getD_eq_getElem?_getD,List.getElem?_eq_none h];decide
 have h1:=hg p.fst.toNat;have h2:=hg p.snd.toNat;have hmul:(0:Int)<=(m.cls.getD p.fst.toNat default).length*(m.cls.getD p.snd.toNat default).length/\((m.cls.getD p.fst.toNat default).length:Int)*(m.cls.getD p.snd.toNat default).length<=24*24:=⟨tQ CZ CZ,u6 CZ CZ CZ CZ⟩;have hc:=aar p.aC 125 [] [] pG hp (λx _=>by simpa using ajo x);unfold iD;generalize xr:((m.cls.getD p.fst.toNat default).length:Int)*(m.cls.getD p.snd.toNat default).length=mm at *;refine Holds.aQ 55 0 [.tmp 4] Tryz.func90 ?_;repeat'(first|(refine Xq @xr ?_;intro K hK)|refine Xo @xr ?_|refine Xc (MN m p.ei) ?_|refine Xc (hc) ?_|(refine hK _ ?_;clear hK K)|(refine Xg @xr ?_ ?_<;>try intro hb)|(refine Xi ?_ ?_<;>try intro ht)|refine Xz ?_|(refine Xe ?_;first|refine aW rfl ?_|refine Xl ?_ ?_)|refine Xd ?_ ?_|exact Xx|fail)
 ·rw[hb];rfl
 iterate 4
  ·rw[decide_eq_false CZ];simp
 ·rw[decide_eq_true CZ];simp[*]
def ajq(m:aj)(c:Ct)(hc:c.a6.length<9223372036854775808):Holds Tryz.prog 94 [.agg (ay m),.agg (ej c)] [] (.lit (.bool (kH m c))) []:=by
 have MP:=MN m c.ei;have eK:=MK c.cI;generalize au:kH m c=res;unfold kH at au;refine Holds.aQ 81 0 [.tmp 4] Tryz.func94 ?_;repeat'(first|(refine Xq X0 ?_;intro K hK)|refine Xo X0 ?_|refine Xc (MP) ?_|refine Xc (eK) ?_|(refine hK _ ?_;clear hK K)|(refine Xg X0 ?_ ?_<;>try intro hb)|(refine Xi ?_ ?_<;>try intro ht)|refine Xz ?_|(refine Xe ?_;first|refine aW rfl ?_|refine Xl ?_ ?_)|exact Xx|fail)
 ·rw[<- au,hb];rfl
 ·rw[<- au,decide_eq_false CZ];simp
 ·rw[<- au,decide_eq_false CZ];simp
 ·rw[<- au,ht];simp
 have dP:(k8 m.rules c.ei&&decide (0<=c.most/\c.most<=1048576)&&lB c.cI)=true:=by rw[decide_eq_true CZ];simp[*]
 rw[dP,iI]at au;refine bd (λk:Nat=>(⟨ar [(2,.ptr 0 0 0),(3,.ptr 1 0 0),(29,.tree 3 (rowsOf yd c.a6)),(30,OJ c.a6.length),(31,OJ k)],[.var (ay m),.var (ej c)]⟩:St)) (λk=>k<=c.a6.length/\e7 m (qO c.a6 k) (c.a6.drop k)=res) (λk=>c.a6.length-k) 0 ⟨aS _,au⟩ (Xv X0) ?_;rintro k⟨hk,hr⟩Ql ao ax;by_cases bc:k<c.a6.length
 ·have hd:=lk c.a6 k default bc;generalize bf:c.a6.getD k default=x at *;rw[hd,Wd]at hr;have eJ:((k:Int)-1).toNat=k-1:=CZ;generalize cg:c.a6.getD (k-1) default=y at *;repeat'(first|(refine Xr (X2 @bf @eJ) ?_;intro K hK)|refine Xo (X2 @bf @eJ) ?_|refine Xc (aja m x.cls x.opt) ?_|(refine hK _ ?_;clear hK K)|(refine Xg (X2 @bf @eJ) ?_ ?_<;>try intro hb)|(refine Xi ?_ ?_<;>try intro ht)|refine Xz ?_|refine Xh ?_|(refine Xe ?_;first|refine aW rfl ?_|refine Xl ?_ ?_)|refine Xd ?_ ?_|exact Xx|fail)
  ·rw[<- hr,hb];simp
  ·rw[<- hr,decide_eq_false (p:=1<=x.wt/\x.wt<=1000) CZ];simp
  ·rw[<- hr,decide_eq_false (p:=1<=x.wt/\x.wt<=1000) CZ];simp
  have hw:decide (1<=x.wt/\x.wt<=1000)=true:=decide_eq_true CZ;have bK:jy m x.cls x.opt=true:=by assumption
  rw[bK,hw,iI,iI]at hr;(try(refine Gr [12,22] rfl Fs (by decide +kernel) ?_);intro K hK;simp(disch:=omega)only[Ac,↓Pc,simprocAttr,bf,eJ,cg])
  repeat'(first|(refine Xq (X3 @bf @eJ @cg) ?_;intro K hK)|refine Xo (X3 @bf @eJ @cg) ?_|refine Xc (D6 _ _) ?_|(refine hK _ ?_;clear hK K)|(refine Xg (X3 @bf @eJ @cg) ?_ ?_<;>try intro hb)|(refine Xi ?_ ?_<;>try intro ht)|refine Xz ?_|refine Xd ?_ ?_|exact Xx|fail)
  ·refine vh [] (LU [kh y.cls x.cls,kh y.opt x.opt] Fl) Fs trivial ⟨cC.cJ rfl (x7 _) rfl Fs (Bf _),trivial⟩ rfl Fl ?_;repeat'(first|(refine Xr (X3 @bf @eJ @cg) ?_;intro K hK)|refine Xo (X3 @bf @eJ @cg) ?_|(refine hK _ ?_;clear hK K)|(refine Xi ?_ ?_<;>try intro ht)|refine Xz ?_|refine Xh ?_|(refine Xe ?_;first|refine aW rfl ?_|refine Xl ?_ ?_)|refine Xd ?_ ?_|exact Xx|fail)
   ·rw[<- hr,decide_eq_false (p:=k=0) CZ,decide_eq_false (p:=uG y x<0) (by unfold uG;omega)];simp
   ·refine ao _ (k+1) ⟨CZ,?_⟩ CZ (Xs false [0,1] X0);rw[xo,bf,<- hr,decide_eq_true (p:=uG y x<0) (by unfold uG;omega)];simp
  ·refine ao _ (k+1) ⟨CZ,?_⟩ CZ (Xs false [0,1] X0);rw[xo,bf,<- hr,decide_eq_true (p:=k=0) CZ];simp
 ·repeat'(first|(refine Xr X0 ?_;intro K hK)|(refine hK _ ?_;clear hK K)|(refine Xi ?_ ?_<;>try intro ht)|refine Xz ?_|refine Xh ?_|(refine Xe ?_;first|refine aW rfl ?_|refine Xl ?_ ?_)|refine Xd ?_ ?_|exact Xx|fail)
  rw[j9 CZ,e7]at hr;rw[<- hr]
def ajr(m:aj)(o:dq)(ho:o.ch.length<9223372036854775808):Holds Tryz.prog 88 [.agg (cA o),.ptr 0 0 0] [.var (ay m)] (.lit (.bool (!gy m.rules none o.ch))) [.var (ay m)]:=by
 refine Holds.aQ 8 1 [.tmp 3] Tryz.func88 ?_;refine Vd X0 (ajl m o ho) ?_;exact Xw false [0] X0
def ajs(m:aj)(c:Ct)(hc:c.a6.length<9223372036854775808):Holds Tryz.prog 93 [.agg (ej c),.ptr 0 0 0] [.var (ay m)] (.lit (.bool (!kH m c))) [.var (ay m)]:=by
 refine Holds.aQ 8 1 [.tmp 3] Tryz.func93 ?_;refine Vd X0 (ajq m c hc) ?_;exact Xw false [0] X0
def Ew{α:Type}[Inhabited α]{l:List α}{f:α->Bool}{k:Nat}(hk:k<l.length):(l.drop k).any f=(f (l.getD k default)||(l.drop (k+1)).any f):=by
 rw[lk l k default hk,O7]
def MQ(m:aj)(hm:MB m):Holds Tryz.prog 56 [.agg (ay m)] [] (OJ (j6 m)) []:=by
 generalize au:j6 m=res;unfold j6 at au;have xf:=hm.cls;have xd:=hm.ae;refine Holds.aQ 52 0 [.tmp 2] Tryz.func56 ?_;repeat'(first|(refine Xq X0 ?_;intro K hK)|refine Xc (ajk m hm) ?_|(refine hK _ ?_;clear hK K)|(refine Xi ?_ ?_<;>try intro ht)|refine Xz ?_|(refine Xe ?_;first|refine aW rfl ?_|refine Xl ?_ ?_)|fail)
 ·rw[if_pos ht]at au;rw[<- au]
 rw[if_neg (by simp[ht])]at au;have aO:m.cls.length<=24/\∀ l∈m.cls,l.length<=24:=by
  have h:=ht;unfold tg at h;rw[decide_eq_false_iff_not]at h;refine⟨CZ,λl hl=>?_⟩;rcases dw 24 l.length with h1|h1
  ·exact absurd (.inr (.inl (List.any_eq_true.2 ⟨l,hl,by simpa using h1⟩))) h
  ·exact h1
 clear ht;refine bd (λk:Nat=>(⟨ar [(1,.ptr 0 0 0),(10,.tree 1 (rowsOf bm m.cls)),(11,OJ m.cls.length),(12,OJ k)],[.var (ay m)]⟩:St)) (λk=>k<=m.cls.length/\(m.cls.any λl=>l.any λo=>!gy m.rules none o.ch)=(m.cls.drop k).any λl=>l.any λo=>!gy m.rules none o.ch) (λk=>m.cls.length-k) 0 ⟨aS _,rfl⟩ (Xv X0) ?_;rintro k⟨hk,hr⟩Ql ao ax;by_cases bc:k<m.cls.length
 ·have cD:=aF (d:=(default:List dq)) bc;rw[Ew bc]at hr;generalize bf:m.cls.getD k default=l at *;have oc:=ajf l 88 [.ptr 0 0 0] [.var (ay m)] (λo=>!gy m.rules none o.ch) (hm.opt l cD) (λo ho=>by simpa using ajr m o (hm.ch l cD o ho));repeat'(first|(refine Xr @bf ?_;intro K hK)|(refine hK _ ?_;clear hK K)|(refine Xi ?_ ?_<;>try intro ht)|refine Xz ?_|refine Xh ?_|refine Xd ?_ ?_|exact Xx|fail)
  refine gj oc (aU _) ?_;repeat'(first|(refine Xr @bf ?_;intro K hK)|(refine hK _ ?_;clear hK K)|(refine Xi ?_ ?_<;>try intro ht)|refine Xz ?_|refine Xh ?_|(refine Xe ?_;first|refine aW rfl ?_|refine Xl ?_ ?_)|refine Xd ?_ ?_|exact Xx|fail)
  ·rw[ht,xK]at hr;rw[if_pos hr]at au;rw[<- au]
  ·rw[ht,Bool.false_or]at hr;exact ao _ (k+1) ⟨CZ,hr⟩ CZ (Xv X0)
 rw[j9 CZ,List.any_nil]at hr;rw[if_neg (by rw[hr];simp)]at au;((repeat'(first|refine Va X0 ?_|(refine Xi ?_ ?_<;>try intro ht)|exact Xx|fail)))
 refine ax _ _ rfl ?_;clear ao ax Ql;clear hr bc hk;repeat(refine Xu ?_)
 repeat'(first|(refine Xr X0 ?_;intro K hK)|(refine hK _ ?_;clear hK K)|refine Xz ?_|fail)
 refine bd (λk:Nat=>(⟨ar [(1,.ptr 0 0 0),(21,.tree 4 (rowsOf aL m.ae)),(22,OJ m.ae.length),(23,OJ k)],[.var (ay m)]⟩:St)) (λk=>k<=m.ae.length/\gp m none m.ae=gp m (qO m.ae k) (m.ae.drop k)) (λk=>m.ae.length-k) 0 ⟨aS _,rfl⟩ (Xv X0) ?_;rintro k⟨hk,hr⟩Ql ao ax;by_cases bc:k<m.ae.length
 ·have cD:=aF (d:=(default:Pr)) bc;have hd:=lk m.ae k default bc;have eJ:((k:Int)-1).toNat=k-1:=CZ;generalize bf:m.ae.getD k default=p at *;rw[hd,Wa]at hr;generalize cg:m.ae.getD (k-1) default=q at *;repeat'(first|(refine Xq (X3 @bf @eJ @cg) ?_;intro K hK)|refine Xo (X3 @bf @eJ @cg) ?_|refine Xc (ajp m p (hm.aC p cD) aO.2 aO.1) ?_|refine Xc (ajn q p) ?_|(refine hK _ ?_;clear hK K)|(refine Xg (X3 @bf @eJ @cg) ?_ ?_<;>try intro hb)|(refine Xi ?_ ?_<;>try intro ht)|refine Xz ?_|refine Xh ?_|(refine Xe ?_;first|refine aW rfl ?_|refine Xl ?_ ?_)|refine Xd ?_ ?_|exact Xx|fail)
  ·have Ex:iD m p=false:=by assumption
   rw[Ex,pV,pV]at hr;rw[if_pos hr]at au;rw[<- au]
  ·rw[decide_eq_false (p:=k=0) CZ,decide_eq_false (p:=nm q p<0) CZ,Bool.or_false,Bool.and_false,pV]at hr;rw[if_pos hr]at au;rw[<- au]
  ·have Ex:iD m p=true:=by assumption
   rw[Ex,decide_eq_true (p:=nm q p<0) CZ,Bool.or_true,iI,iI]at hr;refine ao _ (k+1) ⟨CZ,?_⟩ CZ (Xs false [0] X0);rw[xo,bf];exact hr
  ·have Ex:iD m p=true:=by assumption
   rw[Ex,decide_eq_true (p:=k=0) CZ,xK,iI,iI]at hr;refine ao _ (k+1) ⟨CZ,?_⟩ CZ (Xs false [0] X0);rw[xo,bf];exact hr
 rw[j9 CZ,gp]at hr;rw[if_neg (by rw[hr];simp)]at au;((repeat'(first|refine Va X0 ?_|(refine Xi ?_ ?_<;>try intro ht)|exact Xx|fail)))
 refine ax _ _ rfl ?_;clear ao ax Ql;clear hr bc hk;repeat(refine Xu ?_)
 have oc:=ajh m.aK 93 [.ptr 0 0 0] [.var (ay m)] (λc=>!kH m c) hm.aK (λc hc=>by simpa using ajs m c (hm.En c hc));repeat'(first|(refine Xr X0 ?_;intro K hK)|refine Xz ?_|fail)
 refine gj oc (aU _) ?_;repeat'(first|(refine Xr X0 ?_;intro K hK)|(refine hK _ ?_;clear hK K)|(refine Xi ?_ ?_<;>try intro ht)|refine Xz ?_|(refine Xe ?_;first|refine aW rfl ?_|refine Xl ?_ ?_)|fail)
 ·rw[if_pos ht]at au;rw[<- au]
 ·rw[if_neg (by rw[ht];simp)]at au;rw[<- au]
end T

