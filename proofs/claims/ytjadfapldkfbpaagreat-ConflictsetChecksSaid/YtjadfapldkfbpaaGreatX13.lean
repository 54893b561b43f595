import Derived.Test.YtjadfapldkfbpaaGreatX12
import Derived.Test.YtjadfapldkfbpaaGreatX10
import Derived.Test.YtjadfapldkfbpaaGreatProg
import Derived.KernelRfl
set_option linter.all false
set_option maxHeartbeats 0
set_option maxRecDepth 20000
open Int renaming natCast_add→BV,cast_ofNat_Int→G',mul_nonneg→xz,mul_le_mul→rp
open List renaming length_append→bQ,length_cons→eu,length_nil→k8,drop_eq_nil_of_le→cM,cons_append→dP,nil_append→dZ
open Nat renaming zero_add→gf,zero_le→aF,le_refl→aR,add_zero→iY
open Bool renaming eq_iff_iff→mR,and_eq_true→bk,or_eq_true→kB,not_eq_true'→kz,false_eq_true→ju
open Go Go.Am Go.Proofs
namespace T
def Uh:ty Tryz.prog 2 = { kind:=5,size:=1,bytes:=8,elem:=0,len:=0,zero:=some [.int .i64 0],a5:=[] }:=by kernel_rfl
def Ui:ty Tryz.prog 3 = { kind:=5,size:=1,bytes:=8,elem:=0,len:=0,zero:=some [.int .i64 0],a5:=[] }:=by kernel_rfl
def Uj:ty Tryz.prog 4 = { kind:=6,size:=1,bytes:=1,elem:=0,len:=0,zero:=some [.bool false],a5:=[] }:=by kernel_rfl
def Uk:ty Tryz.prog 5 = { kind:=5,size:=1,bytes:=1,elem:=0,len:=0,zero:=some [.int .u8 0],a5:=[] }:=by kernel_rfl
def Ul:ty Tryz.prog 6 = { kind:=5,size:=1,bytes:=1,elem:=0,len:=0,zero:=some [.int .u8 0],a5:=[] }:=by kernel_rfl
def Um:ty Tryz.prog 7 = { kind:=3,size:=4,bytes:=24,elem:=0,len:=0,zero:=some [.int .i64 0,.int .i64 0,.bool false,.int .u8 0],a5:=[(0,2,1),(1,3,1),(2,4,1),(3,6,1)] }:=by kernel_rfl
def Un:ty Tryz.prog 8 = { kind:=3,size:=4,bytes:=24,elem:=0,len:=0,zero:=some [.int .i64 0,.int .i64 0,.bool false,.int .u8 0],a5:=[(0,2,1),(1,3,1),(2,4,1),(3,6,1)] }:=by kernel_rfl
def Uo:ty Tryz.prog 9 = { kind:=4,size:=1,bytes:=16,elem:=0,len:=0,zero:=some [.string ⟨#[]⟩],a5:=[] }:=by kernel_rfl
def Uq:ty Tryz.prog 10 = { kind:=4,size:=1,bytes:=16,elem:=0,len:=0,zero:=some [.string ⟨#[]⟩],a5:=[] }:=by kernel_rfl
def Ur:ty Tryz.prog 11 = { kind:=4,size:=1,bytes:=16,elem:=0,len:=0,zero:=some [.string ⟨#[]⟩],a5:=[] }:=by kernel_rfl
def Us:ty Tryz.prog 12 = { kind:=5,size:=1,bytes:=8,elem:=0,len:=0,zero:=some [.int .u64 0],a5:=[] }:=by kernel_rfl
def Ut:ty Tryz.prog 13 = { kind:=3,size:=2,bytes:=24,elem:=0,len:=0,zero:=some [.string ⟨#[]⟩,.int .u64 0],a5:=[(0,9,1),(1,12,1)] }:=by kernel_rfl
def Uu:ty Tryz.prog 14 = { kind:=3,size:=2,bytes:=24,elem:=0,len:=0,zero:=some [.string ⟨#[]⟩,.int .u64 0],a5:=[(0,9,1),(1,12,1)] }:=by kernel_rfl
def Uv:ty Tryz.prog 15 = { kind:=7,size:=1,bytes:=8,elem:=239,len:=0,zero:=some [.pointer none],a5:=[] }:=by kernel_rfl
def Uw:ty Tryz.prog 16 = { kind:=7,size:=1,bytes:=8,elem:=242,len:=0,zero:=some [.pointer none],a5:=[] }:=by kernel_rfl
def Ux:ty Tryz.prog 17 = { kind:=7,size:=1,bytes:=8,elem:=250,len:=0,zero:=some [.pointer none],a5:=[] }:=by kernel_rfl
def Uy:ty Tryz.prog 18 = { kind:=3,size:=1,bytes:=8,elem:=0,len:=0,zero:=some [.pointer none],a5:=[(0,17,1)] }:=by kernel_rfl
def Uz:ty Tryz.prog 19 = { kind:=3,size:=1,bytes:=8,elem:=0,len:=0,zero:=some [.pointer none],a5:=[(0,17,1)] }:=by kernel_rfl
def UA:ty Tryz.prog 21 = { kind:=5,size:=1,bytes:=4,elem:=0,len:=0,zero:=some [.int .i32 0],a5:=[] }:=by kernel_rfl
def UB:ty Tryz.prog 22 = { kind:=1,size:=1,bytes:=24,elem:=3,len:=0,zero:=some [.slice none 0 0],a5:=[] }:=by kernel_rfl
def UC:ty Tryz.prog 23 = { kind:=1,size:=1,bytes:=24,elem:=47,len:=0,zero:=some [.slice none 0 0],a5:=[] }:=by kernel_rfl
def UD:ty Tryz.prog 24 = { kind:=3,size:=1,bytes:=24,elem:=0,len:=0,zero:=some [.slice none 0 0],a5:=[(0,23,1)] }:=by kernel_rfl
def Mf:ty Tryz.prog 25 = { kind:=3,size:=1,bytes:=24,elem:=0,len:=0,zero:=some [.slice none 0 0],a5:=[(0,23,1)] }:=by kernel_rfl
def UE:ty Tryz.prog 26 = { kind:=1,size:=1,bytes:=24,elem:=22,len:=0,zero:=some [.slice none 0 0],a5:=[] }:=by kernel_rfl
def UF:ty Tryz.prog 27 = { kind:=3,size:=3,bytes:=72,elem:=0,len:=0,zero:=some [.slice none 0 0,.slice none 0 0,.slice none 0 0],a5:=[(0,22,1),(1,25,1),(2,26,1)] }:=by kernel_rfl
def Mg:ty Tryz.prog 28 = { kind:=3,size:=3,bytes:=72,elem:=0,len:=0,zero:=some [.slice none 0 0,.slice none 0 0,.slice none 0 0],a5:=[(0,22,1),(1,25,1),(2,26,1)] }:=by kernel_rfl
def UG:ty Tryz.prog 31 = { kind:=7,size:=1,bytes:=8,elem:=66,len:=0,zero:=some [.pointer none],a5:=[] }:=by kernel_rfl
def UH:ty Tryz.prog 33 = { kind:=1,size:=1,bytes:=24,elem:=61,len:=0,zero:=some [.slice none 0 0],a5:=[] }:=by kernel_rfl
def UJ:ty Tryz.prog 34 = { kind:=1,size:=1,bytes:=24,elem:=71,len:=0,zero:=some [.slice none 0 0],a5:=[] }:=by kernel_rfl
def UK:ty Tryz.prog 35 = { kind:=1,size:=1,bytes:=24,elem:=96,len:=0,zero:=some [.slice none 0 0],a5:=[] }:=by kernel_rfl
def UL:ty Tryz.prog 36 = { kind:=3,size:=4,bytes:=80,elem:=0,len:=0,zero:=some [.slice none 0 0,.slice none 0 0,.slice none 0 0,.int .i64 0],a5:=[(0,33,1),(1,34,1),(2,35,1),(3,3,1)] }:=by kernel_rfl
def UM:ty Tryz.prog 37 = { kind:=3,size:=4,bytes:=80,elem:=0,len:=0,zero:=some [.slice none 0 0,.slice none 0 0,.slice none 0 0,.int .i64 0],a5:=[(0,33,1),(1,34,1),(2,35,1),(3,3,1)] }:=by kernel_rfl
def UN:ty Tryz.prog 39 = { kind:=5,size:=1,bytes:=8,elem:=0,len:=0,zero:=some [.int .i64 0],a5:=[] }:=by kernel_rfl
def UO:ty Tryz.prog 44 = { kind:=1,size:=1,bytes:=24,elem:=156,len:=0,zero:=some [.slice none 0 0],a5:=[] }:=by kernel_rfl
def UP:ty Tryz.prog 45 = { kind:=1,size:=1,bytes:=24,elem:=164,len:=0,zero:=some [.slice none 0 0],a5:=[] }:=by kernel_rfl
def UQ:ty Tryz.prog 46 = { kind:=3,size:=5,bytes:=104,elem:=0,len:=0,zero:=some [.int .i64 0,.slice none 0 0,.slice none 0 0,.slice none 0 0,.slice none 0 0],a5:=[(0,3,1),(1,22,1),(2,44,1),(3,22,1),(4,45,1)] }:=by kernel_rfl
def Me:ty Tryz.prog 47 = { kind:=3,size:=5,bytes:=104,elem:=0,len:=0,zero:=some [.int .i64 0,.slice none 0 0,.slice none 0 0,.slice none 0 0,.slice none 0 0],a5:=[(0,3,1),(1,22,1),(2,44,1),(3,22,1),(4,45,1)] }:=by kernel_rfl
def UR:ty Tryz.prog 49 = { kind:=1,size:=1,bytes:=24,elem:=28,len:=0,zero:=some [.slice none 0 0],a5:=[] }:=by kernel_rfl
def US:ty Tryz.prog 52 = { kind:=3,size:=2,bytes:=16,elem:=0,len:=0,zero:=some [.int .i64 0,.int .i64 0],a5:=[(0,3,1),(1,3,1)] }:=by kernel_rfl
def UT:ty Tryz.prog 53 = { kind:=3,size:=2,bytes:=16,elem:=0,len:=0,zero:=some [.int .i64 0,.int .i64 0],a5:=[(0,3,1),(1,3,1)] }:=by kernel_rfl
def UU:ty Tryz.prog 54 = { kind:=1,size:=1,bytes:=24,elem:=53,len:=0,zero:=some [.slice none 0 0],a5:=[] }:=by kernel_rfl
def UW:ty Tryz.prog 55 = { kind:=3,size:=4,bytes:=32,elem:=0,len:=0,zero:=some [.int .i64 0,.int .i64 0,.int .i64 0,.int .i64 0],a5:=[(0,3,1),(1,3,1),(2,3,1),(3,3,1)] }:=by kernel_rfl
def UX:ty Tryz.prog 56 = { kind:=3,size:=4,bytes:=32,elem:=0,len:=0,zero:=some [.int .i64 0,.int .i64 0,.int .i64 0,.int .i64 0],a5:=[(0,3,1),(1,3,1),(2,3,1),(3,3,1)] }:=by kernel_rfl
def UY:ty Tryz.prog 57 = { kind:=3,size:=5,bytes:=40,elem:=0,len:=0,zero:=some [.int .i64 0,.int .i64 0,.int .i64 0,.int .i64 0,.int .i64 0],a5:=[(0,56,4),(4,3,1)] }:=by kernel_rfl
def UZ:ty Tryz.prog 58 = { kind:=3,size:=5,bytes:=40,elem:=0,len:=0,zero:=some [.int .i64 0,.int .i64 0,.int .i64 0,.int .i64 0,.int .i64 0],a5:=[(0,56,4),(4,3,1)] }:=by kernel_rfl
def U0:ty Tryz.prog 59 = { kind:=3,size:=6,bytes:=64,elem:=0,len:=0,zero:=some [.int .i64 0,.int .i64 0,.int .i64 0,.int .i64 0,.int .i64 0,.slice none 0 0],a5:=[(0,58,5),(5,54,1)] }:=by kernel_rfl
def U1:ty Tryz.prog 60 = { kind:=3,size:=6,bytes:=64,elem:=0,len:=0,zero:=some [.int .i64 0,.int .i64 0,.int .i64 0,.int .i64 0,.int .i64 0,.slice none 0 0],a5:=[(0,58,5),(5,54,1)] }:=by kernel_rfl
def U2:ty Tryz.prog 61 = { kind:=1,size:=1,bytes:=24,elem:=60,len:=0,zero:=some [.slice none 0 0],a5:=[] }:=by kernel_rfl
def U3:ty Tryz.prog 65 = { kind:=3,size:=2,bytes:=32,elem:=0,len:=0,zero:=some [.slice none 0 0,.int .i64 0],a5:=[(0,22,1),(1,3,1)] }:=by kernel_rfl
def U4:ty Tryz.prog 66 = { kind:=3,size:=2,bytes:=32,elem:=0,len:=0,zero:=some [.slice none 0 0,.int .i64 0],a5:=[(0,22,1),(1,3,1)] }:=by kernel_rfl
def U5:ty Tryz.prog 70 = { kind:=3,size:=4,bytes:=48,elem:=0,len:=0,zero:=some [.int .i64 0,.int .i64 0,.int .i64 0,.slice none 0 0],a5:=[(0,3,1),(1,3,1),(2,3,1),(3,22,1)] }:=by kernel_rfl
def U6:ty Tryz.prog 71 = { kind:=3,size:=4,bytes:=48,elem:=0,len:=0,zero:=some [.int .i64 0,.int .i64 0,.int .i64 0,.slice none 0 0],a5:=[(0,3,1),(1,3,1),(2,3,1),(3,22,1)] }:=by kernel_rfl
def U7:ty Tryz.prog 73 = { kind:=1,size:=1,bytes:=24,elem:=3,len:=0,zero:=some [.slice none 0 0],a5:=[] }:=by kernel_rfl
def U8:ty Tryz.prog 76 = { kind:=3,size:=4,bytes:=64,elem:=0,len:=0,zero:=some [.slice none 0 0,.int .i64 0,.int .i64 0,.slice none 0 0],a5:=[(0,22,1),(1,3,1),(2,3,1),(3,25,1)] }:=by kernel_rfl
def U9:ty Tryz.prog 77 = { kind:=3,size:=4,bytes:=64,elem:=0,len:=0,zero:=some [.slice none 0 0,.int .i64 0,.int .i64 0,.slice none 0 0],a5:=[(0,22,1),(1,3,1),(2,3,1),(3,25,1)] }:=by kernel_rfl
def U':ty Tryz.prog 83 = { kind:=7,size:=1,bytes:=8,elem:=25,len:=0,zero:=some [.pointer none],a5:=[] }:=by kernel_rfl
def Ve:ty Tryz.prog 86 = { kind:=1,size:=1,bytes:=24,elem:=4,len:=0,zero:=some [.slice none 0 0],a5:=[] }:=by kernel_rfl
def Vf:ty Tryz.prog 94 = { kind:=1,size:=1,bytes:=24,elem:=98,len:=0,zero:=some [.slice none 0 0],a5:=[] }:=by kernel_rfl
def Vg:ty Tryz.prog 95 = { kind:=3,size:=4,bytes:=48,elem:=0,len:=0,zero:=some [.int .i64 0,.slice none 0 0,.int .i64 0,.int .i64 0],a5:=[(0,3,1),(1,94,1),(2,3,1),(3,3,1)] }:=by kernel_rfl
def Vh:ty Tryz.prog 96 = { kind:=3,size:=4,bytes:=48,elem:=0,len:=0,zero:=some [.int .i64 0,.slice none 0 0,.int .i64 0,.int .i64 0],a5:=[(0,3,1),(1,94,1),(2,3,1),(3,3,1)] }:=by kernel_rfl
def Vi:ty Tryz.prog 97 = { kind:=3,size:=3,bytes:=24,elem:=0,len:=0,zero:=some [.int .i64 0,.int .i64 0,.int .i64 0],a5:=[(0,3,1),(1,3,1),(2,3,1)] }:=by kernel_rfl
def Vj:ty Tryz.prog 98 = { kind:=3,size:=3,bytes:=24,elem:=0,len:=0,zero:=some [.int .i64 0,.int .i64 0,.int .i64 0],a5:=[(0,3,1),(1,3,1),(2,3,1)] }:=by kernel_rfl
def Vk:ty Tryz.prog 127 = { kind:=1,size:=1,bytes:=24,elem:=86,len:=0,zero:=some [.slice none 0 0],a5:=[] }:=by kernel_rfl
def Vl:ty Tryz.prog 128 = { kind:=3,size:=2,bytes:=32,elem:=0,len:=0,zero:=some [.int .i64 0,.slice none 0 0],a5:=[(0,3,1),(1,127,1)] }:=by kernel_rfl
def Vm:ty Tryz.prog 129 = { kind:=3,size:=2,bytes:=32,elem:=0,len:=0,zero:=some [.int .i64 0,.slice none 0 0],a5:=[(0,3,1),(1,127,1)] }:=by kernel_rfl
def Vn:ty Tryz.prog 139 = { kind:=1,size:=1,bytes:=24,elem:=182,len:=0,zero:=some [.slice none 0 0],a5:=[] }:=by kernel_rfl
def Vo:ty Tryz.prog 155 = { kind:=3,size:=4,bytes:=32,elem:=0,len:=0,zero:=some [.int .i64 0,.int .i64 0,.int .i64 0,.int .i64 0],a5:=[(0,3,1),(1,3,1),(2,3,1),(3,3,1)] }:=by kernel_rfl
def Mb:ty Tryz.prog 156 = { kind:=3,size:=4,bytes:=32,elem:=0,len:=0,zero:=some [.int .i64 0,.int .i64 0,.int .i64 0,.int .i64 0],a5:=[(0,3,1),(1,3,1),(2,3,1),(3,3,1)] }:=by kernel_rfl
def Vp:ty Tryz.prog 159 = { kind:=3,size:=3,bytes:=56,elem:=0,len:=0,zero:=some [.int .i64 0,.slice none 0 0,.slice none 0 0],a5:=[(0,129,2),(2,22,1)] }:=by kernel_rfl
def Vq:ty Tryz.prog 160 = { kind:=3,size:=3,bytes:=56,elem:=0,len:=0,zero:=some [.int .i64 0,.slice none 0 0,.slice none 0 0],a5:=[(0,129,2),(2,22,1)] }:=by kernel_rfl
def Vr:ty Tryz.prog 161 = { kind:=1,size:=1,bytes:=24,elem:=160,len:=0,zero:=some [.slice none 0 0],a5:=[] }:=by kernel_rfl
def Vs:ty Tryz.prog 164 = { kind:=1,size:=1,bytes:=24,elem:=169,len:=0,zero:=some [.slice none 0 0],a5:=[] }:=by kernel_rfl
def Vt:ty Tryz.prog 168 = { kind:=3,size:=2,bytes:=16,elem:=0,len:=0,zero:=some [.int .i64 0,.int .i64 0],a5:=[(0,3,1),(1,3,1)] }:=by kernel_rfl
def Md:ty Tryz.prog 169 = { kind:=3,size:=2,bytes:=16,elem:=0,len:=0,zero:=some [.int .i64 0,.int .i64 0],a5:=[(0,3,1),(1,3,1)] }:=by kernel_rfl
def Vu:ty Tryz.prog 170 = { kind:=7,size:=1,bytes:=8,elem:=207,len:=0,zero:=some [.pointer none],a5:=[] }:=by kernel_rfl
def Vv:ty Tryz.prog 176 = { kind:=7,size:=1,bytes:=8,elem:=178,len:=0,zero:=some [.pointer none],a5:=[] }:=by kernel_rfl
def Vw:ty Tryz.prog 177 = { kind:=3,size:=1,bytes:=24,elem:=0,len:=0,zero:=some [.slice none 0 0],a5:=[(0,22,1)] }:=by kernel_rfl
def Vx:ty Tryz.prog 178 = { kind:=3,size:=1,bytes:=24,elem:=0,len:=0,zero:=some [.slice none 0 0],a5:=[(0,22,1)] }:=by kernel_rfl
def Vy:ty Tryz.prog 181 = { kind:=3,size:=2,bytes:=16,elem:=0,len:=0,zero:=some [.int .i64 0,.int .i64 0],a5:=[(0,3,1),(1,3,1)] }:=by kernel_rfl
def Vz:ty Tryz.prog 182 = { kind:=3,size:=2,bytes:=16,elem:=0,len:=0,zero:=some [.int .i64 0,.int .i64 0],a5:=[(0,3,1),(1,3,1)] }:=by kernel_rfl
def VA:ty Tryz.prog 186 = { kind:=1,size:=1,bytes:=24,elem:=187,len:=0,zero:=some [.slice none 0 0],a5:=[] }:=by kernel_rfl
def VB:ty Tryz.prog 187 = { kind:=1,size:=1,bytes:=24,elem:=191,len:=0,zero:=some [.slice none 0 0],a5:=[] }:=by kernel_rfl
def VC:ty Tryz.prog 190 = { kind:=3,size:=2,bytes:=16,elem:=0,len:=0,zero:=some [.bool false,.int .i64 0],a5:=[(0,4,1),(1,3,1)] }:=by kernel_rfl
def VE:ty Tryz.prog 191 = { kind:=3,size:=2,bytes:=16,elem:=0,len:=0,zero:=some [.bool false,.int .i64 0],a5:=[(0,4,1),(1,3,1)] }:=by kernel_rfl
def VF:ty Tryz.prog 205 = { kind:=1,size:=1,bytes:=24,elem:=208,len:=0,zero:=some [.slice none 0 0],a5:=[] }:=by kernel_rfl
def VG:ty Tryz.prog 206 = { kind:=3,size:=6,bytes:=128,elem:=0,len:=0,zero:=some [.slice none 0 0,.slice none 0 0,.slice none 0 0,.int .i64 0,.slice none 0 0,.slice none 0 0],a5:=[(0,37,4),(4,205,1),(5,205,1)] }:=by kernel_rfl
def VH:ty Tryz.prog 207 = { kind:=3,size:=6,bytes:=128,elem:=0,len:=0,zero:=some [.slice none 0 0,.slice none 0 0,.slice none 0 0,.int .i64 0,.slice none 0 0,.slice none 0 0],a5:=[(0,37,4),(4,205,1),(5,205,1)] }:=by kernel_rfl
def VI:ty Tryz.prog 208 = { kind:=1,size:=1,bytes:=24,elem:=210,len:=0,zero:=some [.slice none 0 0],a5:=[] }:=by kernel_rfl
def VJ:ty Tryz.prog 209 = { kind:=3,size:=2,bytes:=16,elem:=0,len:=0,zero:=some [.int .i64 0,.bool false],a5:=[(0,3,1),(1,4,1)] }:=by kernel_rfl
def VK:ty Tryz.prog 210 = { kind:=3,size:=2,bytes:=16,elem:=0,len:=0,zero:=some [.int .i64 0,.bool false],a5:=[(0,3,1),(1,4,1)] }:=by kernel_rfl
def VL:ty Tryz.prog 222 = { kind:=5,size:=1,bytes:=8,elem:=0,len:=0,zero:=some [.int .u64 0],a5:=[] }:=by kernel_rfl
def VN:ty Tryz.prog 226 = { kind:=7,size:=1,bytes:=8,elem:=210,len:=0,zero:=some [.pointer none],a5:=[] }:=by kernel_rfl
def VO:ty Tryz.prog 227 = { kind:=8,size:=1,bytes:=8,elem:=228,len:=0,zero:=some [.map none],a5:=[] }:=by kernel_rfl
def VP:ty Tryz.prog 228 = { kind:=8,size:=1,bytes:=8,elem:=3,len:=0,zero:=some [.map none],a5:=[] }:=by kernel_rfl
def VQ:ty Tryz.prog 230 = { kind:=5,size:=1,bytes:=4,elem:=0,len:=0,zero:=some [.int .u32 0],a5:=[] }:=by kernel_rfl
def VR:ty Tryz.prog 233 = { kind:=5,size:=1,bytes:=8,elem:=0,len:=0,zero:=some [.int .u64 0],a5:=[] }:=by kernel_rfl
def VS:ty Tryz.prog 238 = { kind:=3,size:=4,bytes:=40,elem:=0,len:=0,zero:=some [.pointer none,.pointer none,.pointer none,.string ⟨#[]⟩],a5:=[(0,17,1),(1,17,1),(2,17,1),(3,9,1)] }:=by kernel_rfl
def VT:ty Tryz.prog 239 = { kind:=3,size:=4,bytes:=40,elem:=0,len:=0,zero:=some [.pointer none,.pointer none,.pointer none,.string ⟨#[]⟩],a5:=[(0,17,1),(1,17,1),(2,17,1),(3,9,1)] }:=by kernel_rfl
def VU:ty Tryz.prog 240 = { kind:=2,size:=0,bytes:=0,elem:=16,len:=0,zero:=some [],a5:=[] }:=by kernel_rfl
def VV:ty Tryz.prog 241 = { kind:=3,size:=0,bytes:=0,elem:=0,len:=0,zero:=some [],a5:=[(0,240,0)] }:=by kernel_rfl
def VW:ty Tryz.prog 242 = { kind:=3,size:=0,bytes:=0,elem:=0,len:=0,zero:=some [],a5:=[(0,240,0)] }:=by kernel_rfl
def VX:ty Tryz.prog 243 = { kind:=5,size:=1,bytes:=1,elem:=0,len:=0,zero:=some [.int .u8 0],a5:=[] }:=by kernel_rfl
def VY:ty Tryz.prog 244 = { kind:=5,size:=1,bytes:=1,elem:=0,len:=0,zero:=some [.int .u8 0],a5:=[] }:=by kernel_rfl
def VZ:ty Tryz.prog 246 = { kind:=7,size:=1,bytes:=8,elem:=5,len:=0,zero:=some [.pointer none],a5:=[] }:=by kernel_rfl
def V0:ty Tryz.prog 247 = { kind:=5,size:=1,bytes:=4,elem:=0,len:=0,zero:=some [.int .i32 0],a5:=[] }:=by kernel_rfl
def V1:ty Tryz.prog 248 = { kind:=5,size:=1,bytes:=4,elem:=0,len:=0,zero:=some [.int .i32 0],a5:=[] }:=by kernel_rfl
def V3:ty Tryz.prog 249 = { kind:=3,size:=11,bytes:=48,elem:=0,len:=0,zero:=some [.int .u64 0,.int .u64 0,.int .u32 0,.int .u8 0,.int .u8 0,.int .u8 0,.int .u8 0,.nilFunc,.pointer none,.int .i32 0,.int .i32 0],a5:=[(0,12,1),(1,12,1),(2,230,1),(3,243,1),(4,5,1),(5,5,1),(6,244,1),(7,245,1),(8,246,1),(9,247,1),(10,248,1)] }:=by kernel_rfl
def V4:ty Tryz.prog 250 = { kind:=3,size:=11,bytes:=48,elem:=0,len:=0,zero:=some [.int .u64 0,.int .u64 0,.int .u32 0,.int .u8 0,.int .u8 0,.int .u8 0,.int .u8 0,.nilFunc,.pointer none,.int .i32 0,.int .i32 0],a5:=[(0,12,1),(1,12,1),(2,230,1),(3,243,1),(4,5,1),(5,5,1),(6,244,1),(7,245,1),(8,246,1),(9,247,1),(10,248,1)] }:=by kernel_rfl
def V5:Tryz.prog.underlying 2=some (.int .i64):=by kernel_rfl
def V6:Tryz.prog.underlying 3=some (.int .i64):=by kernel_rfl
def V7:Tryz.prog.underlying 5=some (.int .u8):=by kernel_rfl
def V8:Tryz.prog.underlying 6=some (.int .u8):=by kernel_rfl
def V9:Tryz.prog.underlying 12=some (.int .u64):=by kernel_rfl
def V':Tryz.prog.underlying 21=some (.int .i32):=by kernel_rfl
def Wa:Tryz.prog.underlying 39=some (.int .i64):=by kernel_rfl
def Wd:Tryz.prog.underlying 222=some (.int .u64):=by kernel_rfl
def We:Tryz.prog.underlying 230=some (.int .u32):=by kernel_rfl
def Wf:Tryz.prog.underlying 233=some (.int .u64):=by kernel_rfl
def Wg:Tryz.prog.underlying 243=some (.int .u8):=by kernel_rfl
def Wh:Tryz.prog.underlying 244=some (.int .u8):=by kernel_rfl
def Wi:Tryz.prog.underlying 247=some (.int .i32):=by kernel_rfl
def Wj:Tryz.prog.underlying 248=some (.int .i32):=by kernel_rfl
def Wl:zeroV Tryz.prog 228=some (.map none):=by kernel_rfl
def Wm:D2 Tryz.prog 227=0:=by kernel_rfl
def Wn:mV Tryz.prog 227 0:=mV.int (kt:=3) (et:=228) (by kernel_rfl) (by kernel_rfl)
def Wo:zeroV Tryz.prog 3=some (.int .i64 0):=by kernel_rfl
def Wp:D2 Tryz.prog 228=0:=by kernel_rfl
def Wq:mV Tryz.prog 228 0:=mV.int (kt:=3) (et:=3) (by kernel_rfl) (by kernel_rfl)
def Wr:Af Tryz.prog 9=false:=by kernel_rfl
def rT:type_of% Uh/\type_of% Ui/\type_of% Uj/\type_of% Uk/\type_of% Ul/\type_of% Um/\type_of% Un/\type_of% Uo/\type_of% Uq/\type_of% Ur/\type_of% Us/\type_of% Ut/\type_of% Uu/\type_of% Uv/\type_of% Uw/\type_of% Ux/\type_of% Uy/\type_of% Uz/\type_of% UA/\type_of% UB/\type_of% UC/\type_of% UD/\type_of% Mf/\type_of% UE/\type_of% UF/\type_of% Mg/\type_of% UG/\type_of% UH/\type_of% UJ/\type_of% UK/\type_of% UL/\type_of% UM/\type_of% UN/\type_of% UO/\type_of% UP/\type_of% UQ/\type_of% Me/\type_of% UR/\type_of% US/\type_of% UT/\type_of% UU/\type_of% UW/\type_of% UX/\type_of% UY/\type_of% UZ/\type_of% U0/\type_of% U1/\type_of% U2/\type_of% U3/\type_of% U4/\type_of% U5/\type_of% U6/\type_of% U7/\type_of% U8/\type_of% U9/\type_of% U'/\type_of% Ve/\type_of% Vf/\type_of% Vg/\type_of% Vh/\type_of% Vi/\type_of% Vj/\type_of% Vk/\type_of% Vl/\type_of% Vm/\type_of% Vn/\type_of% Vo/\type_of% Mb/\type_of% Vp/\type_of% Vq/\type_of% Vr/\type_of% Vs/\type_of% Vt/\type_of% Md/\type_of% Vu/\type_of% Vv/\type_of% Vw/\type_of% Vx/\type_of% Vy/\type_of% Vz/\type_of% VA/\type_of% VB/\type_of% VC/\type_of% VE/\type_of% VF/\type_of% VG/\type_of% VH/\type_of% VI/\type_of% VJ/\type_of% VK/\type_of% VL/\type_of% VN/\type_of% VO/\type_of% VP/\type_of% VQ/\type_of% VR/\type_of% VS/\type_of% VT/\type_of% VU/\type_of% VV/\type_of% VW/\type_of% VX/\type_of% VY/\type_of% VZ/\type_of% V0/\type_of% V1/\type_of% V3/\type_of% V4/\type_of% V5/\type_of% V6/\type_of% V7/\type_of% V8/\type_of% V9/\type_of% V'/\type_of% Wa/\type_of% Wd/\type_of% We/\type_of% Wf/\type_of% Wg/\type_of% Wh/\type_of% Wi/\type_of% Wj/\type_of% Wl/\type_of% Wm/\type_of% Wn/\type_of% Wo/\type_of% Wp/\type_of% Wq/\type_of% Wr :=
 ⟨Uh,Ui,Uj,Uk,Ul,Um,Un,Uo,Uq,Ur,Us,Ut,Uu,Uv,Uw,Ux,Uy,Uz,UA,UB,UC,UD,Mf,UE,UF,Mg,UG,UH,UJ,UK,UL,UM,UN,UO,UP,UQ,Me,UR,US,UT,UU,UW,UX,UY,UZ,U0,U1,U2,U3,U4,U5,U6,U7,U8,U9,U',Ve,Vf,Vg,Vh,Vi,Vj,Vk,Vl,Vm,Vn,Vo,Mb,Vp,Vq,Vr,Vs,Vt,Md,Vu,Vv,Vw,Vx,Vy,Vz,VA,VB,VC,VE,VF,VG,VH,VI,VJ,VK,VL,VN,VO,VP,VQ,VR,VS,VT,VU,VV,VW,VX,VY,VZ,V0,V1,V3,V4,V5,V6,V7,V8,V9,V',Wa,Wd,We,Wf,Wg,Wh,Wi,Wj,Wl,Wm,Wn,Wo,Wp,Wq,Wr⟩
def Ac:=aan @rT @Bc @Sc @Rc
def Kc:=aan @n8 @Lc @rT @Rc
def Oc:=aat @qn.eq_1 @qn.eq_2 @or_true @false_or @Bc @Sc @Rc
def Hr:=aau @tF.eq_1 @tF.eq_2 @Bc @Rc @n8 @Lc @rT (aam @and_true @BV @G')
def Tc:=aau @Has.eq_1 @Has.eq_2 @bQ.{0} @eu.{0} @k8.{0} @gf @n8 (aaq @Lc @rT @Rc @and_true @BV @G')
def Qc:=aau @Cg.eq_1 @Cg.eq_2 @eQ.eq_1 @eQ.eq_2 @eQ.eq_3 @eG.eq_1 @TO (aaq @TP @k8.{0} @n8 @Lc @rT @Rc)
inductive Sq(P:Program)(N n0:Nat)(y:Code)(Q:Exit->St->Prop):Exit->St->Prop
 |n (s:St) (h:W P N n0 y Q s):Sq P N n0 y Q .normal s
 |e (e:Exit) (s:St) (hi:tT e=false) (h:Q e s):Sq P N n0 y Q e s
inductive Bq(id:Nat)(Q:Exit->St->Prop):Exit->St->Prop
 |n (s:St) (h:Q .normal s):Bq id Q .normal s
 |x (s:St) (h:Q .normal s):Bq id Q (.exit id) s
 |e (e:Exit) (s:St) (hi:AL id e=false) (h:Q e s):Bq id Q e s
section
variable {P:Program} {N n0:Nat} {σ:St} {Q:Exit->St->Prop}
def Xk{x y:Code}(h:W P N n0 x (Sq P N n0 y Q) σ):W P N n0 (.seq x y) Q σ:=Wk λ_ h1 h2=>RX h λ_ _ h=>by
 cases h with
 |n _ h=>exact h1 _ h
 |e _ _ hi h=>exact h2 _ _ hi h
def Xb{id:Nat}{c:Code}(h:W P N n0 c (Bq id Q) σ):W P N n0 (.block id c) Q σ:=Wb λ_ h1 h2 h3=>RX h λ_ _ h=>by
 cases h with
 |n _ h=>exact h1 _ h
 |x _ h=>exact h2 _ h
 |e _ _ hi h=>exact h3 _ _ hi h
def hn{y:Code}(s:St)(h:W P N n0 y Q s):Sq P N n0 y Q .normal s:=.n s h
def he{y:Code}(e:Exit)(s:St)(hi:tT e=false)(h:Q e s):Sq P N n0 y Q e s:=.e e s hi h
def kP{id:Nat}(s:St)(h:Q .normal s):Bq id Q .normal s:=.n s h
def oC{id:Nat}(s:St)(h:Q .normal s):Bq id Q (.exit id) s:=.x s h
def qJ{id:Nat}(e:Exit)(s:St)(hi:AL id e=false)(h:Q e s):Bq id Q e s:=.e e s hi h
def E1{x y:Code}(h:∀ Q':Exit->St->Prop,(∀ s,W P N n0 y Q s->Q' .normal s)->(∀ e s,tT e=false->Q e s->Q' e s)->W P N n0 x Q' σ):W P N n0 x (Sq P N n0 y Q) σ:=h _ .n .e
def Ms{x y z:Code}(h:∀ Q':Exit->St->Prop,(∀ s,W P N n0 y Q s->Q' .normal s)->(∀ e s,tT e=false->Q e s->Q' e s)->W P N n0 x (Sq P N n0 z Q') σ):W P N n0 x (Sq P N n0 z (Sq P N n0 y Q)) σ:=h _ .n .e
def afX{x y z:Code}{id:Nat}(h:∀ Q':Exit->St->Prop,(∀ s,W P N n0 y Q s->Q' .normal s)->(∀ e s,tT e=false->Q e s->Q' e s)->W P N n0 x (Sq P N n0 z (Bq id Q')) σ):W P N n0 x (Sq P N n0 z (Bq id (Sq P N n0 y Q))) σ:=h _ .n .e
end
def X0:True:=trivial
def X2{a b:Prop}(x:a)(y:b):a/\b:=⟨x,y⟩
def X3{a b c:Prop}(x:a)(y:b)(z:c):a/\b/\c:=⟨x,y,z⟩
def X4{a b c d:Prop}(x:a)(y:b)(z:c)(u:d):a/\b/\c/\d:=⟨x,y,z,u⟩
def X5{a b c d e:Prop}(x:a)(y:b)(z:c)(u:d)(v:e):a/\b/\c/\d/\e:=⟨x,y,z,u,v⟩
theorem Xr{p q e:Prop}(x:e)(h:q)(k:e->q->p:=by first|(intro hx hq;(first|refine rr ?_|refine wv ?_);intro K hK;simp(disch:=omega)only[Ac,↓Pc,simprocAttr,hx];revert hK;revert K;exact hq)|fail):p:=k x h
theorem Xq{p q e:Prop}(x:e)(h:q)(k:e->q->p:=by first|(intro hx hq;(first|refine rr ?_|refine wv ?_|refine rb ?_|refine EN ?_|refine ra ?_|refine EO ?_);intro K hK;simp(disch:=omega)only[Ac,↓Pc,simprocAttr,hx];revert hK;revert K;exact hq)|fail):p:=k x h
theorem Xo{p q e:Prop}(x:e)(h:q)(k:e->q->p:=by first|(intro hx hq;with_reducible refine gO ?_;simp(disch:=omega)only[Ac,↓Pc,simprocAttr,hx];exact hq)|fail):p:=k x h
theorem Xc{p q t:Prop}(c:t)(h:q)(k:t->q->p:=by first|(intro hc hq;(first|refine cA hc rfl rfl ?_|refine bK hc rfl rfl ?_);exact hq)|fail):p:=k c h
theorem Xg{p q r e:Prop}(x:e)(h:q)(h2:r)(k:e->q->r->p/\True:=by first|(intro hx hq hr;refine And.intro ?_ ?_;(with_reducible refine gS (fun cW=>?_) (fun cW=>?_));(focus (have hb:=cW;(try simp only[pJ,simprocAttr]at hb);all_goals(simp(disch:=omega)only[Ac,↓Pc,simprocAttr,hx,cW]);all_goals(clear cW;revert hb;exact hq)));(focus (have hb:=cW;(try simp only[pJ,simprocAttr]at hb);all_goals(simp(disch:=omega)only[Ac,↓Pc,simprocAttr,hx,cW]);all_goals(clear cW;revert hb;exact hr)));((try have _:True:=hq);(try have _:True:=hr);trivial))|fail):p:=(k x h h2).1
theorem Xi{p q r:Prop}(h:q)(h2:r)(k:q->r->p/\True:=by first|(intro hq hr;refine And.intro ?_ ?_;refine Wc ?_ ?_;(focus (intro ht;(try simp only[pJ,simprocAttr]at ht);all_goals(revert ht;exact hq)));(focus (intro ht;(try simp only[pJ,simprocAttr]at ht);all_goals(revert ht;exact hr)));((try have _:True:=hq);(try have _:True:=hr);trivial))|fail):p:=(k h h2).1
theorem Xz{p q:Prop}(h:q)(k:q->p:=by first|(intro hq;(first|refine Wz rfl ?_|refine Xk ?_|refine Xb ?_|refine Sq.n _ ?_|refine Sq.e _ _ rfl ?_|refine Bq.n _ ?_|refine Bq.x _ ?_|refine Bq.e _ _ rfl ?_|refine hn _ ?_|refine he _ _ rfl ?_);(repeat(first|refine Wz rfl ?_|refine Xk ?_|refine Xb ?_|refine Sq.n _ ?_|refine Sq.e _ _ rfl ?_|refine Bq.n _ ?_|refine Bq.x _ ?_|refine Bq.e _ _ rfl ?_|refine hn _ ?_|refine he _ _ rfl ?_));exact hq)|fail):p:=k h
theorem Xh{p q:Prop}(h:q)(k:q->p:=by first|(intro hq;(first|refine ar _ _ rfl ?_|refine ba _ _ rfl ?_|refine eR _ _ rfl ?_|refine oD _ _ rfl ?_);exact hq)|fail):p:=k h
theorem Xu{p q:Prop}(h:q)(k:q->p:=by first|(intro hq;(first|refine Sq.n _ ?_|refine Sq.e _ _ rfl ?_|refine Bq.n _ ?_|refine Bq.x _ ?_|refine Bq.e _ _ rfl ?_|refine hn _ ?_|refine he _ _ rfl ?_|refine ar _ _ rfl ?_|refine ba _ _ rfl ?_|refine eR _ _ rfl ?_|refine oD _ _ rfl ?_);exact hq)|fail):p:=k h
theorem Xe{p q:Prop}(h:q)(k:q->p:=by first|(intro hq;simp only[Qc,Kc,simprocAttr];exact hq)|fail):p:=k h
theorem Xy{p q:Prop}(h:q)(k:q->p:=by first|(intro hq;refine Xz ?_;exact hq)|(intro hq;refine Xe ?_;exact hq)|fail):p:=k h
theorem XY{p q:Prop}(h:q)(k:q->p:=by first|(intro hq;refine Xz ?_;exact hq)|(intro hq;refine Xh ?_;exact hq)|(intro hq;refine Xe ?_;exact hq)|fail):p:=k h
theorem Xx{p:Prop}(h:p:=by first|omega|with_reducible rfl|exact trivial|fail):p:=h
theorem Xl{n0:Nat}{e:Nat->AV}{os:List Ob}{v res:AV}{bI:List Ob}(ho:os=bI)(h:v=res)(hl:n0<=bI.length:=by(simp only[List.length_cons,List.length_nil];omega)):pH n0 ⟨e,os⟩ v res bI:=ey ho hl h
theorem Xd{p q r:Prop}(h:q)(h2:r)(k:q->r->p:=by first|(intro hq hr;with_reducible refine And.intro ?_ ?_;exact hq;exact hr)|fail):p:=k h h2
theorem Xv{n0:Nat}{σ S:St}{e:Prop}(x:e)(k:e->ay n0 σ S:=by first|(intro hx;refine ay.au _ _ rfl ?_;simp only[Tc,↓reduceIte,Nat.reduceEqDiff,Nat.reduceBEq,Nat.reduceAdd,hx];(try trivial);done)|fail):ay n0 σ S:=k x
theorem Xs{n0:Nat}{σ:St}{l:List (Nat×AV)}{co:List Ob}{e:Prop}(snap:Bool)(aq:List Nat)(x:e)(h1:e->qn (bA σ.aa.length aq) σ.aa aq co:=by(intro hx;simp only[Oc,simprocAttr,hx]))(h2:e->tF (aI σ (kept aq co) (bA σ.aa.length aq) snap) σ.env l:=by(intro hx;simp only[Hr,↓reduceIte,Nat.reduceEqDiff,Nat.reduceBEq,Nat.reduceAdd,hx];(try(and_intros<;>first|exact .pure rfl|exact .eq rfl|exact .fz rfl (by simp only[Bc,Rc])))))(b7:aq.Nodup:=by decide)(hn:n0<=aq.length:=by decide)(cT:∀ i,i<n0->aq.getD i 0=i:=by decide):ay n0 σ ⟨au l,co⟩:=ay.se aq snap (h1 x) (h2 x) b7 hn cT
theorem Xw{n0:Nat}{σ:St}{v res:AV}{bI:List Ob}{e:Prop}(snap:Bool)(aq:List Nat)(x:e)(h1:e->qn (bA σ.aa.length aq) σ.aa aq bI:=by(intro hx;simp only[Oc,simprocAttr,hx]))(h2:aI σ (kept aq bI) (bA σ.aa.length aq) snap res v:=by first|exact .pure rfl|exact .eq rfl|exact .fz rfl (by simp only[Bc,Rc]))(b7:aq.Nodup:=by decide)(hn:n0<=aq.length:=by decide)(cT:∀ i,i<n0->aq.getD i 0=i:=by decide):pH n0 σ v res bI:=Ma aq snap (h1 x) h2 b7 hn cT
theorem Xn(aq:List Nat){P:Program}{σ:St}{f:FuncId}{args dU:List AV}{cg:List Ob}{dst:Option Tmp}{K:St->Prop}{res:AV}{dt:List Ob}(h:an P f dU cg res dt)(hK:K (({ σ with aa:=fi σ.aa aq (dt.map (bU (bA σ.aa.length aq))) }:St).put dst (br (bA σ.aa.length aq) res)))(b7:aq.Nodup:=by decide)(ho:xB (bA σ.aa.length aq) σ.aa aq cg:=by((repeat'(first|exact trivial|with_reducible refine And.intro ?_ ?_|refine And.intro ?_ ?_))<;>first|rfl|(rw[uR];rfl)|(rw[Ai];rfl)|(rw[rM];rfl)|(rw[Ho];rfl)))(ha:eY (aI σ (·∈aq) (bA σ.aa.length aq) false) dU args:=by((repeat'(first|exact trivial|refine And.intro ?_ ?_))<;>(first|exact .pure rfl|exact .eq rfl|exact .fz rfl (by simp only[Bc,Rc])))):sI P f args dst K σ:=ez aq h b7 ho ha hK
theorem Xf(aq:List Nat){P:Program}{σ:St}{f:FuncId}{args dU:List AV}{cg:List Ob}{dst:Option Tmp}{K:St->Prop}{res:AV}{dt:List Ob}(h:an P f dU cg res dt)(hK:K (({ σ with aa:=fi σ.aa aq (dt.map (bU (bA σ.aa.length aq))) }:St).put dst (br (bA σ.aa.length aq) res)))(b7:aq.Nodup:=by decide)(ho:xB (bA σ.aa.length aq) σ.aa aq cg:=by((repeat'(first|exact trivial|with_reducible refine And.intro ?_ ?_|refine And.intro ?_ ?_))<;>first|rfl|(rw[uR];rfl)|(rw[Ai];rfl)|(rw[rM];rfl)|(rw[Ho];rfl)))(ha:eY (aI σ (·∈aq) (bA σ.aa.length aq) true) dU args:=by((repeat'(first|exact trivial|refine And.intro ?_ ?_))<;>(first|exact .pure rfl|exact .eq rfl|exact .fz rfl (by simp only[Bc,Rc]))))(dV:flat res=true:=by rfl)(Ag:∀ o∈dt,xC o:=by simp[xC]):sI P f args dst K σ:=pI aq h b7 ho ha dV Ag hK
def Pw:=aaq @D7 @xG @uP @uQ @du.eq_1 @e7.eq_1
theorem Va{p q e:Prop}(x:e)(h:q)(k:e->q->p:=by first|(intro hx hq;(try with_reducible intro K hK);(first|((first|refine rr ?_|refine wv ?_);intro K hK;simp(disch:=omega)only[Ac,↓Pc,simprocAttr,hx];show _)|(with_reducible refine gO ?_;simp(disch:=omega)only[Ac,↓Pc,simprocAttr,hx];show _)|(refine hK _ ?_;clear hK K)|refine Wz rfl ?_|refine Xk ?_|refine Xb ?_|refine Sq.n _ ?_|refine Sq.e _ _ rfl ?_|refine Bq.n _ ?_|refine Bq.x _ ?_|refine Bq.e _ _ rfl ?_|refine hn _ ?_|refine he _ _ rfl ?_|(simp only[Qc,Kc,simprocAttr];show _)|(with_reducible refine And.intro ?_ ?_;(focus (clear hq;first|omega|with_reducible rfl|exact trivial))));(repeat(first|((first|refine rr ?_|refine wv ?_);intro K hK;simp(disch:=omega)only[Ac,↓Pc,simprocAttr,hx];show _)|(with_reducible refine gO ?_;simp(disch:=omega)only[Ac,↓Pc,simprocAttr,hx];show _)|(refine hK _ ?_;clear hK K)|refine Wz rfl ?_|refine Xk ?_|refine Xb ?_|refine Sq.n _ ?_|refine Sq.e _ _ rfl ?_|refine Bq.n _ ?_|refine Bq.x _ ?_|refine Bq.e _ _ rfl ?_|refine hn _ ?_|refine he _ _ rfl ?_|(simp only[Qc,Kc,simprocAttr];show _)|(with_reducible refine And.intro ?_ ?_;(focus (clear hq;first|omega|with_reducible rfl|exact trivial)))));(try revert hK);(try revert K);exact hq)|fail):p:=k x h
theorem Vb{p q e:Prop}(x:e)(h:q)(k:e->q->p:=by first|(intro hx hq;(try with_reducible intro K hK);(first|((first|refine rr ?_|refine wv ?_);intro K hK;simp(disch:=omega)only[Ac,↓Pc,simprocAttr,hx];show _)|(with_reducible refine gO ?_;simp(disch:=omega)only[Ac,↓Pc,simprocAttr,hx];show _)|(refine hK _ ?_;clear hK K)|refine Wz rfl ?_|refine Xk ?_|refine Xb ?_|refine Sq.n _ ?_|refine Sq.e _ _ rfl ?_|refine Bq.n _ ?_|refine Bq.x _ ?_|refine Bq.e _ _ rfl ?_|refine hn _ ?_|refine he _ _ rfl ?_|refine ar _ _ rfl ?_|refine ba _ _ rfl ?_|refine eR _ _ rfl ?_|refine oD _ _ rfl ?_|(simp only[Qc,Kc,simprocAttr];show _)|(with_reducible refine And.intro ?_ ?_;(focus (clear hq;first|omega|with_reducible rfl|exact trivial))));(repeat(first|((first|refine rr ?_|refine wv ?_);intro K hK;simp(disch:=omega)only[Ac,↓Pc,simprocAttr,hx];show _)|(with_reducible refine gO ?_;simp(disch:=omega)only[Ac,↓Pc,simprocAttr,hx];show _)|(refine hK _ ?_;clear hK K)|refine Wz rfl ?_|refine Xk ?_|refine Xb ?_|refine Sq.n _ ?_|refine Sq.e _ _ rfl ?_|refine Bq.n _ ?_|refine Bq.x _ ?_|refine Bq.e _ _ rfl ?_|refine hn _ ?_|refine he _ _ rfl ?_|refine ar _ _ rfl ?_|refine ba _ _ rfl ?_|refine eR _ _ rfl ?_|refine oD _ _ rfl ?_|(simp only[Qc,Kc,simprocAttr];show _)|(with_reducible refine And.intro ?_ ?_;(focus (clear hq;first|omega|with_reducible rfl|exact trivial)))));(try revert hK);(try revert K);exact hq)|fail):p:=k x h
theorem Vc{p q e t:Prop}(x:e)(c:t)(h:q)(k:e->t->q->p:=by first|(intro hx hc hq;(try with_reducible intro K hK);(first|((first|refine rr ?_|refine wv ?_|refine rb ?_|refine EN ?_|refine ra ?_|refine EO ?_);intro K hK;simp(disch:=omega)only[Ac,↓Pc,simprocAttr,hx];show _)|(with_reducible refine gO ?_;simp(disch:=omega)only[Ac,↓Pc,simprocAttr,hx];show _)|(refine hK _ ?_;clear hK K)|refine Wz rfl ?_|refine Xk ?_|refine Xb ?_|refine Sq.n _ ?_|refine Sq.e _ _ rfl ?_|refine Bq.n _ ?_|refine Bq.x _ ?_|refine Bq.e _ _ rfl ?_|refine hn _ ?_|refine he _ _ rfl ?_|(simp only[Qc,Kc,simprocAttr];show _)|(with_reducible refine And.intro ?_ ?_;(focus (clear hq;first|omega|with_reducible rfl|exact trivial)))|(apply cA;(focus(repeat(first|exact hc|exact hc.1|have hc:=hc.2)));rfl;rfl)|(apply bK;(focus(repeat(first|exact hc|exact hc.1|have hc:=hc.2)));rfl;rfl));(repeat(first|((first|refine rr ?_|refine wv ?_|refine rb ?_|refine EN ?_|refine ra ?_|refine EO ?_);intro K hK;simp(disch:=omega)only[Ac,↓Pc,simprocAttr,hx];show _)|(with_reducible refine gO ?_;simp(disch:=omega)only[Ac,↓Pc,simprocAttr,hx];show _)|(refine hK _ ?_;clear hK K)|refine Wz rfl ?_|refine Xk ?_|refine Xb ?_|refine Sq.n _ ?_|refine Sq.e _ _ rfl ?_|refine Bq.n _ ?_|refine Bq.x _ ?_|refine Bq.e _ _ rfl ?_|refine hn _ ?_|refine he _ _ rfl ?_|(simp only[Qc,Kc,simprocAttr];show _)|(with_reducible refine And.intro ?_ ?_;(focus (clear hq;first|omega|with_reducible rfl|exact trivial)))|(apply cA;(focus(repeat(first|exact hc|exact hc.1|have hc:=hc.2)));rfl;rfl)|(apply bK;(focus(repeat(first|exact hc|exact hc.1|have hc:=hc.2)));rfl;rfl)));(try revert hK);(try revert K);exact hq)|fail):p:=k x c h
theorem Vd{p q e t:Prop}(x:e)(c:t)(h:q)(k:e->t->q->p:=by first|(intro hx hc hq;(try with_reducible intro K hK);(first|((first|refine rr ?_|refine wv ?_|refine rb ?_|refine EN ?_|refine ra ?_|refine EO ?_);intro K hK;simp(disch:=omega)only[Ac,↓Pc,simprocAttr,hx];show _)|(with_reducible refine gO ?_;simp(disch:=omega)only[Ac,↓Pc,simprocAttr,hx];show _)|(refine hK _ ?_;clear hK K)|refine Wz rfl ?_|refine Xk ?_|refine Xb ?_|refine Sq.n _ ?_|refine Sq.e _ _ rfl ?_|refine Bq.n _ ?_|refine Bq.x _ ?_|refine Bq.e _ _ rfl ?_|refine hn _ ?_|refine he _ _ rfl ?_|refine ar _ _ rfl ?_|refine ba _ _ rfl ?_|refine eR _ _ rfl ?_|refine oD _ _ rfl ?_|(simp only[Qc,Kc,simprocAttr];show _)|(with_reducible refine And.intro ?_ ?_;(focus (clear hq;first|omega|with_reducible rfl|exact trivial)))|(apply cA;(focus(repeat(first|exact hc|exact hc.1|have hc:=hc.2)));rfl;rfl)|(apply bK;(focus(repeat(first|exact hc|exact hc.1|have hc:=hc.2)));rfl;rfl));(repeat(first|((first|refine rr ?_|refine wv ?_|refine rb ?_|refine EN ?_|refine ra ?_|refine EO ?_);intro K hK;simp(disch:=omega)only[Ac,↓Pc,simprocAttr,hx];show _)|(with_reducible refine gO ?_;simp(disch:=omega)only[Ac,↓Pc,simprocAttr,hx];show _)|(refine hK _ ?_;clear hK K)|refine Wz rfl ?_|refine Xk ?_|refine Xb ?_|refine Sq.n _ ?_|refine Sq.e _ _ rfl ?_|refine Bq.n _ ?_|refine Bq.x _ ?_|refine Bq.e _ _ rfl ?_|refine hn _ ?_|refine he _ _ rfl ?_|refine ar _ _ rfl ?_|refine ba _ _ rfl ?_|refine eR _ _ rfl ?_|refine oD _ _ rfl ?_|(simp only[Qc,Kc,simprocAttr];show _)|(with_reducible refine And.intro ?_ ?_;(focus (clear hq;first|omega|with_reducible rfl|exact trivial)))|(apply cA;(focus(repeat(first|exact hc|exact hc.1|have hc:=hc.2)));rfl;rfl)|(apply bK;(focus(repeat(first|exact hc|exact hc.1|have hc:=hc.2)));rfl;rfl)));(try revert hK);(try revert K);exact hq)|fail):p:=k x c h
theorem V2{p q r e:Prop}(x:e)(h:q)(h2:r)(k:e->q->r->p/\True:=by first|(intro hx hq hr;refine And.intro ?_ ?_;(try with_reducible intro K hK);(with_reducible refine gS (fun cW=>?_) (fun cW=>?_));(focus (have hb:=cW;(try simp only[pJ,simprocAttr]at hb);all_goals(simp(disch:=omega)only[Ac,↓Pc,simprocAttr,hx,cW]);all_goals(clear cW;(try revert hK);(try revert K);revert hb;exact hq)));(focus (have hb:=cW;(try simp only[pJ,simprocAttr]at hb);all_goals(simp(disch:=omega)only[Ac,↓Pc,simprocAttr,hx,cW]);all_goals(clear cW;(try revert hK);(try revert K);revert hb;exact hr)));((try have _:True:=hq);(try have _:True:=hr);trivial))|fail):p:=(k x h h2).1
theorem VD{p q r:Prop}(h:q)(h2:r)(k:q->r->p:=by first|(intro hq hr;(try with_reducible intro K hK);with_reducible refine And.intro ?_ ?_;(focus ((try clear hK K);(try revert hK);(try revert K);exact hq));(focus ((try clear hK K);(try revert hK);(try revert K);exact hr)))|fail):p:=k h h2
def Iw(n m:Int)(hm:dS m):an Tryz.prog 9 [aaa n,aaa m] [] (aaa (ve n m)) []:=by
 unfold dS at hm;refine an.aC 16 0 [.tmp 4] Tryz.func9 ?_;repeat'(first|(refine Xr X0 ?_;intro K hK)|(refine hK _ ?_;clear hK K)|(refine Xi ?_ ?_<;>try intro ht)|refine Xz ?_|(refine Xe ?_;first|refine aE rfl ?_|refine Xl ?_ ?_)|refine Xd ?_ ?_|exact Xx|fail)
 ·rw[ve,if_pos ht]
 ·have:=Mh n m G3;omega
 ·rw[ve,if_neg G3,(Mh n m G3).1 ht]
 ·rw[ve,if_neg G3,(Mh n m G3).2.1 ht]
def afY(xs:List Int):an Tryz.prog 4 [.tree 1 (ints xs)] [] (.lit (.bool (decide (xs.length<=400)))) []:=by
 refine an.aC 6 0 [.tmp 2] Tryz.func4 ?_;repeat'(first|(refine Xr X0 ?_;intro K hK)|(refine hK _ ?_;clear hK K)|refine Xz ?_|(refine Xe ?_;first|refine aE rfl ?_|refine Xl ?_ ?_)|fail)
 ·congr 3;simp;omega
def iw(L:List Int)(k:Nat)(n:Int)(hn:dS n)(hk:k<=L.length)(hL:L.length<1000000):an Tryz.prog 24 [.ptr 0 0 0,aaa n] [.var [.tree 1 (ints L),aaa k]] (aaa (da L k n))
  [.var [.tree 1 (ints L),aaa (bR L k)]]:=by
 refine an.aC 35 1 [.tmp 4] Tryz.func24 ?_;repeat'(first|(refine Xq X0 ?_;intro K hK)|refine Xo X0 ?_|refine Xc (Iw _ _ hn) ?_|(refine hK _ ?_;clear hK K)|(refine Xi ?_ ?_<;>try intro ht)|refine Xz ?_|(refine Xe ?_;first|refine aE rfl ?_|refine Xl ?_ ?_)|refine Xd ?_ ?_|exact Xx|fail)
 ·rw[bR,if_pos G3]
 ·rw[da,if_pos G3]
 ·rw[bR,if_neg G3,BV];rfl
 ·rw[da,if_neg G3,show((k:Int)+1-1).toNat=k by omega]
def AS(L:List Int)(k:Nat)(n:Int)(hn:dS n)(eA:0<n)(hk:k<=L.length)(hL:L.length<1000000):an Tryz.prog 16 [.ptr 0 0 0,aaa n] [.var [.tree 1 (ints L),aaa k]] (.lit (.bool (xV L k n)))
  [.var [.tree 1 (ints L),aaa (bR L k)]]:=by
 refine an.aC 11 1 [.tmp 4] Tryz.func16 ?_;repeat'(first|(refine Xr X0 ?_;intro K hK)|(refine hK _ ?_;clear hK K)|fail)
 refine il (iw L k n hn hk hL) G9 ?_;unfold dS at hn;repeat'(first|refine Xo X0 ?_|(refine hK _ ?_;clear hK K)|refine Xz ?_|(refine Xe ?_;first|refine aE rfl ?_|refine Xl ?_ ?_)|refine Xd ?_ ?_|exact Xx|fail)
 ·rfl
def Mt(L:List Int)(k:Nat)(hk:k<=L.length)(hL:L.length<1000000):an Tryz.prog 37 [.ptr 0 0 0] [.var [.tree 1 (ints L),aaa k]] (aaa (qE L k))
  [.var [.tree 1 (ints L),aaa (wx L k)]]:=by
 have h6:=kd (L:=L) (k:=k) (n:=6) G3;have h20:=kd (L:=L) (k:=bR L k) (n:=20) G3;refine an.aC 14 1 [.tmp 2] Tryz.func37 ?_;repeat'(first|(refine Xr X0 ?_;intro K hK)|(refine hK _ ?_;clear hK K)|refine Xz ?_|fail)
 refine il (iw L k 6 (by unfold dS;omega) hk hL) G9 ?_;have c1:da L k 6<=3->wx L k=bR L k:=λh=>by rw[wx,if_pos h]
 have c2:da L k 6<3->qE L k=0:=λh=>by rw[qE,if_pos h]
 have c3:da L k 6=3->qE L k=1099511627776:=λh=>by rw[qE,if_neg G3,if_pos h]
 have c4:¬ da L k 6<=3->wx L k=bR L (bR L k):=λh=>by rw[wx,if_neg h]
 have c5:¬ da L k 6<=3->qE L k=1+da L (bR L k) 20:=λh=>by rw[qE,if_neg G3,if_neg G3]
 repeat'(first|(refine Xr X0 ?_;intro K hK)|(refine hK _ ?_;clear hK K)|(refine Xi ?_ ?_<;>try intro ht)|refine Xz ?_|(refine Xe ?_;first|refine aE rfl ?_|refine Xl ?_ ?_)|exact Xx|fail)
 iterate 3
  ·rw[c1 G3]
  ·rw[c2 G3]
 ·rw[c1 G3]
 ·rw[c3 G3]
 ·refine il (iw L (bR L k) 20 (by unfold dS;omega) (dN hk) hL) G9 ?_;repeat'(first|refine Xo X0 ?_|(refine hK _ ?_;clear hK K)|refine Xz ?_|(refine Xe ?_;first|refine aE rfl ?_|refine Xl ?_ ?_)|refine Xd ?_ ?_|exact Xx|fail)
  ·rw[c4 G3]
  ·rw[c5 G3]
def Ws(L:List Int):an Tryz.prog 6 [.tree 1 (ints L)] [] (.ptr 0 0 0) [.var [.tree 1 (ints L),aaa (0:Nat)]]:=by
 refine an.aC 6 0 [.tmp 2] Tryz.func6 ?_;refine Vb X0 ?_;rw[show(0:Int)=((0:Nat):Int) from rfl];exact ey rfl G9 rfl
def afZ(a b:List Int)(hl:a.length<9223372036854775808):an Tryz.prog 15 [.tree 1 (ints a),.tree 1 (ints b)] [] (.lit (.bool (decide (a=b)))) []:=by
 refine an.aC 26 0 [.tmp 4] Tryz.func15 ?_;repeat'(first|(refine Xr X0 ?_;intro K hK)|(refine hK _ ?_;clear hK K)|(refine Xi ?_ ?_<;>try intro ht)|refine Xz ?_|(refine Xe ?_;first|refine aE rfl ?_|refine Xl ?_ ?_)|fail)
 ·congr 2;simp;intro h;subst h;exact absurd rfl ht
 ·refine aO (λk:Nat=>(⟨au [(0,.tree 1 (ints a)),(1,.tree 1 (ints b)),(5,aaa k)],[]⟩:St)) (λk=>k<=a.length/\(a=b↔a.drop k=b.drop k)) (λk=>a.length-k) 0 ⟨aF _,G9⟩ (Xv X0) ?_;intro k ⟨hk,hc⟩ Ql ak ar;repeat'(first|(refine Xr X0 ?_;intro K hK)|(refine hK _ ?_;clear hK K)|(refine Xi ?_ ?_<;>try intro ht)|refine Xz ?_|refine Xh ?_|(refine Xe ?_;first|refine aE rfl ?_|refine Xl ?_ ?_)|refine Xd ?_ ?_|exact Xx|fail)
  ·congr 2;simp only[decide_eq_false_iff_not,eq_comm (a:=false)];rw[hc,cN _ _ 0 G3,cN b _ 0 G3];simp only[List.cons.injEq];exact λh=>ht h.1
  ·refine ak _ (k+1) ⟨G3,?_⟩ G3 (Xv X0);rw[hc,cN _ _ 0 G3,cN b _ 0 G3,ht];simp
  ·congr 2;rw[show a=b by rw[hc,cM G3,cM G3]];simp
def Mu(a b:Int)(ha:bZ a)(hb:bZ b):an Tryz.prog 116 [aaa a,aaa b] [] (aaa (fl a b)) []:=by
 unfold bZ at *;refine an.aC 9 0 [.tmp 4] Tryz.func116 ?_;repeat'(first|(refine Xr X0 ?_;intro K hK)|(refine hK _ ?_;clear hK K)|refine Xz ?_|(refine Xe ?_;first|refine aE rfl ?_|refine Xl ?_ ?_)|refine Xd ?_ ?_|exact Xx|fail)
 ·rfl
def E2(a b:Int)(ha:bZ a)(hb:bZ b):an Tryz.prog 86 [aaa a,aaa b] [] (aaa (fl a b)) []:=by
 unfold bZ at *;refine an.aC 9 0 [.tmp 4] Tryz.func86 ?_;repeat'(first|(refine Xr X0 ?_;intro K hK)|(refine hK _ ?_;clear hK K)|refine Xz ?_|(refine Xe ?_;first|refine aE rfl ?_|refine Xl ?_ ?_)|refine Xd ?_ ?_|exact Xx|fail)
 ·rfl
def Mw(n:Int):an Tryz.prog 91 [aaa n] [] (.lit (.bool (jH n))) []:=by
 refine an.aC 13 0 [.tmp 2] Tryz.func91 ?_;repeat'(first|(refine Xr X0 ?_;intro K hK)|(refine hK _ ?_;clear hK K)|(refine Xg X0 ?_ ?_<;>try intro hb)|refine Xz ?_|(refine Xe ?_;first|refine aE rfl ?_|refine Xl ?_ ?_)|fail)
 all_goals(refine congrArg (λb=>AV.lit (Value.bool b)) ?_;rw[mR];simp only[jH,decide_eq_true_eq,beq_iff_eq,bne_iff_ne,bk,kB,kz,decide_eq_false_iff_not,ju,reduceCtorEq,iff_true,iff_false,true_iff,false_iff,eq_self];omega)
def Mx(n:Int):an Tryz.prog 76 [aaa n] [] (.lit (.bool (jH n))) []:=by
 refine an.aC 13 0 [.tmp 2] Tryz.func76 ?_;repeat'(first|(refine Xr X0 ?_;intro K hK)|(refine hK _ ?_;clear hK K)|(refine Xg X0 ?_ ?_<;>try intro hb)|refine Xz ?_|(refine Xe ?_;first|refine aE rfl ?_|refine Xl ?_ ?_)|fail)
 all_goals(refine congrArg (λb=>AV.lit (Value.bool b)) ?_;rw[mR];simp only[jH,decide_eq_true_eq,beq_iff_eq,bne_iff_ne,bk,kB,kz,decide_eq_false_iff_not,ju,reduceCtorEq,iff_true,iff_false,true_iff,false_iff,eq_self];omega)
def My(m:ah)(n:Int):an Tryz.prog 90 [.agg (ao m),aaa n] [] (.lit (.bool (jI m.rules n))) []:=by
 refine an.aC 13 0 [.tmp 4] Tryz.func90 ?_;repeat'(first|(refine Xr @ao.eq_1 ?_;intro K hK)|(refine hK _ ?_;clear hK K)|(refine Xg @ao.eq_1 ?_ ?_<;>try intro hb)|refine Xz ?_|(refine Xe ?_;first|refine aE rfl ?_|refine Xl ?_ ?_)|fail)
 all_goals(refine congrArg (λb=>AV.lit (Value.bool b)) ?_;rw[mR];simp only[jI,decide_eq_true_eq,beq_iff_eq,bne_iff_ne,bk,kB,kz,decide_eq_false_iff_not,ju,reduceCtorEq,iff_true,iff_false,true_iff,false_iff,eq_self];omega)
def Mz(m:ah)(n:Int):an Tryz.prog 75 [.agg (ao m),aaa n] [] (.lit (.bool (jI m.rules n))) []:=by
 refine an.aC 13 0 [.tmp 4] Tryz.func75 ?_;repeat'(first|(refine Xr @ao.eq_1 ?_;intro K hK)|(refine hK _ ?_;clear hK K)|(refine Xg @ao.eq_1 ?_ ?_<;>try intro hb)|refine Xz ?_|(refine Xe ?_;first|refine aE rfl ?_|refine Xl ?_ ?_)|fail)
 all_goals(refine congrArg (λb=>AV.lit (Value.bool b)) ?_;rw[mR];simp only[jI,decide_eq_true_eq,beq_iff_eq,bne_iff_ne,bk,kB,kz,decide_eq_false_iff_not,ju,reduceCtorEq,iff_true,iff_false,true_iff,false_iff,eq_self];omega)
def af0(n:Int):an Tryz.prog 129 [aaa n] [] (.lit (.bool false)) []:=by
 refine an.aC 6 0 [.tmp 2] Tryz.func129 ?_;repeat'(first|(refine Xr @bne_self_eq_false.{0} ?_;intro K hK)|(refine hK _ ?_;clear hK K)|refine Xz ?_|(refine Xe ?_;first|refine aE rfl ?_|refine Xl ?_ ?_)|exact Xx|fail)
def Wt(a b:Int):an Tryz.prog 95 [aaa a,aaa b] [] (aaa (pW a b)) []:=by
 refine an.aC 20 0 [.tmp 4] Tryz.func95 ?_;repeat'(first|(refine Xq X0 ?_;intro K hK)|refine Xo X0 ?_|refine Xc (af0 _) ?_|(refine hK _ ?_;clear hK K)|(refine Xi ?_ ?_<;>try intro ht)|refine Xz ?_|(refine Xe ?_;first|refine aE rfl ?_|refine Xl ?_ ?_)|exact Xx|fail)
 all_goals(unfold pW;congr 2;(repeat' split)<;>omega)
def Wu(l:List Int)(hl:l.length<1000000):an Tryz.prog 94 [.tree 1 (ints l)] [] (aaa (vf l)) []:=by
 generalize aj:vf l=res;refine an.aC 18 0 [.tmp 2] Tryz.func94 ?_;repeat'(first|(refine Xr X0 ?_;intro K hK)|(refine hK _ ?_;clear hK K)|refine Xz ?_|fail)
 refine aO (λk:Nat=>(⟨au [(3,aaa 0),(6,.tree 1 (ints l)),(7,aaa l.length),(8,aaa k)],[]⟩:St)) (λk=>k<=l.length/\vf (l.drop k)=res) (λk=>l.length-k) 0 ⟨aF _,aj⟩ (Xv X0) ?_;rintro k⟨hk,hr⟩Ql ak ar;repeat'(first|(refine Xr X0 ?_;intro K hK)|(refine hK _ ?_;clear hK K)|(refine Xi ?_ ?_<;>try intro ht)|refine Xz ?_|refine Xh ?_|(refine Xe ?_;first|refine aE rfl ?_|refine Xl ?_ ?_)|refine Xd ?_ ?_|exact Xx|fail)
 ·rw[cN _ _ 0 G3,vf,if_pos (by assumption)]at hr;rw[hr]
 ·rw[cN _ _ 0 G3,vf,if_neg G3]at hr;exact ak _ (k+1) ⟨G3,hr⟩ G3 (Xv X0)
 ·rw[cM G3,vf]at hr;rw[hr]
def Wv(m:ah)(c o:Int):an Tryz.prog 97 [.agg (ao m),aaa c,aaa o] [] (.lit (.bool (eU m c o))) []:=by
 refine an.aC 30 0 [.tmp 6] Tryz.func97 ?_;repeat'(first|(refine Xr (X4 @ao.eq_1 @bX @fY @a9.eq_1) ?_;intro K hK)|(refine hK _ ?_;clear hK K)|(refine Xg (X4 @ao.eq_1 @bX @fY @a9.eq_1) ?_ ?_<;>try intro hb)|refine Xz ?_|(refine Xe ?_;first|refine aE rfl ?_|refine Xl ?_ ?_)|refine Xd ?_ ?_|exact Xx|fail)
 all_goals(refine congrArg (λb=>AV.lit (Value.bool b)) ?_;rw[mR];simp only[eU,decide_eq_true_eq,beq_iff_eq,bne_iff_ne,bk,kB,kz,decide_eq_false_iff_not,ju,reduceCtorEq,iff_true,iff_false,true_iff,false_iff,eq_self];omega)
def E3(m:ah)(c o:Int):an Tryz.prog 83 [.agg (ao m),aaa c,aaa o] [] (.lit (.bool (eU m c o))) []:=by
 refine an.aC 30 0 [.tmp 6] Tryz.func83 ?_;repeat'(first|(refine Xr (X4 @ao.eq_1 @bX @fY @a9.eq_1) ?_;intro K hK)|(refine hK _ ?_;clear hK K)|(refine Xg (X4 @ao.eq_1 @bX @fY @a9.eq_1) ?_ ?_<;>try intro hb)|refine Xz ?_|(refine Xe ?_;first|refine aE rfl ?_|refine Xl ?_ ?_)|refine Xd ?_ ?_|exact Xx|fail)
 all_goals(refine congrArg (λb=>AV.lit (Value.bool b)) ?_;rw[mR];simp only[eU,decide_eq_true_eq,beq_iff_eq,bne_iff_ne,bk,kB,kz,decide_eq_false_iff_not,ju,reduceCtorEq,iff_true,iff_false,true_iff,false_iff,eq_self];omega)
def Ww(c:Ct)(n:Int)(h1:0<=c.most)(h2:n<=1048576)(h3:0<=n)(h4:bZ c.b8):an Tryz.prog 115 [.agg (aV c),aaa n] [] (aaa (mz c.most c.b8 n)) []:=by
 unfold bZ at h4;have hm:c.most<n->0<=(n-c.most)*c.b8/\(n-c.most)*c.b8<=1048576*1099511627776:=λh=>⟨xz G3 h4.1,rp G3 h4.2 h4.1 G3⟩;refine an.aC 17 0 [.tmp 4] Tryz.func115 ?_;repeat'(first|(refine Xr @aV.eq_1 ?_;intro K hK)|(refine hK _ ?_;clear hK K)|(refine Xi ?_ ?_<;>try intro ht)|refine Xz ?_|(refine Xe ?_;first|refine aE rfl ?_|refine Xl ?_ ?_)|refine Xd ?_ ?_|exact Xx|fail)
 ·rw[mz,if_pos ht]
 ·rw[mz,if_neg G3]
def Wx(n c:Int)(h2:n<=1048576)(h4:bZ c):an Tryz.prog 124 [aaa n,aaa c] [] (aaa (CG n c)) []:=by
 unfold bZ at h4;have hm:0<n->0<=n*c/\n*c<=1048576*1099511627776:=λh=>⟨xz G3 h4.1,rp G3 h4.2 h4.1 G3⟩;refine an.aC 13 0 [.tmp 4] Tryz.func124 ?_;repeat'(first|(refine Xr X0 ?_;intro K hK)|(refine hK _ ?_;clear hK K)|(refine Xi ?_ ?_<;>try intro ht)|refine Xz ?_|(refine Xe ?_;first|refine aE rfl ?_|refine Xl ?_ ?_)|refine Xd ?_ ?_|exact Xx|fail)
 ·rw[CG,if_pos ht]
 ·rw[CG,if_neg G3,if_pos G3]
 ·rw[CG,if_neg G3,if_neg G3]
def MA(l:List Int)(r c:Int)(hr:0<=r/\r<l.length)(hc:bZ c)(hl:bZ (l.getD r.toNat 0)):an Tryz.prog 114 [.ptr 0 0 0,aaa r,aaa c] [.var [.ref 1 1 0 l.length],.arr 1 (ints l)] (.bH [])
  [.var [.ref 1 1 0 l.length],.arr 1 (ints (l.set r.toNat (fl (l.getD r.toNat 0) c)))]:=by
 refine an.aC 21 2 [] Tryz.func114 ?_;(try(refine Cw [13] rfl Kq (by decide +kernel) ?_);intro K hK;simp(disch:=omega)only[Ac,↓Pc,simprocAttr])
 repeat'(first|refine Xo X0 ?_|refine Xc (Mu _ _ hl hc) ?_|(refine hK _ ?_;clear hK K)|(refine Xe ?_;first|refine aE rfl ?_|refine Xl ?_ ?_)|refine Xd ?_ ?_|exact Xx|fail)
def dH{α:Type}(p:α->Bool):Nat->List α->Int
 |_,[]=>-1
 |k,x::r=>if p x=true then(k:Int) else dH p (k+1) r
def zj{α:Type}(p:α->Bool):∀ (l:List α) (k:Nat),decide (0<=dH p k l)=l.any p
 |[],k=>rfl
 |x::r,k=>by
  rw[dH,List.any_cons];split
  ·rename_i h;rw[h];simp
  ·rename_i h;rw[zj p r (k+1)];simp_all
def af1(l:List (List bV))(g:FuncId)(a6:List AV)(aa:List Ob)(p:(List bV)->Bool)(hl:l.length<9223372036854775808)(hg:∀ x∈l,an Tryz.prog g ([.tree 6 (rowsOf cK x)]++a6) aa (.lit (.bool (p x))) aa):
  an Tryz.prog 127 [.tree 1 (rowsOf a9 l),.fn g a6] aa (aaa (dH p 0 l)) aa:=by
 generalize aj:dH p 0 l=res;refine an.aC 19 aa.length [.tmp 4] Tryz.func127 ?_;refine Vb (X3 @bX @fY @a9.eq_1) ?_;refine aO (λk:Nat=>(⟨au [(0,.tree 1 (rowsOf a9 l)),(1,.fn g a6),(7,aaa l.length),(8,aaa k)],aa⟩:St)) (λk=>k<=l.length/\dH p k (l.drop k)=res) (λk=>l.length-k) 0 ⟨aF _,aj⟩ (Xv X0) ?_;rintro k⟨hk,hr⟩Ql ak ar;by_cases aL:k<l.length
 ·have hx:=hg _ (aB (d:=default) aL);have hd:=cN l k default aL;generalize aS:l.getD k default=x at *;rw[hd,dH]at hr;simp only[dP,dZ,a9]at hx;((repeat'(first|refine Vb (X4 @bX @fY @a9.eq_1 @aS) ?_|(refine Xi ?_ ?_<;>try intro ht)|exact Xx|fail))<;>try with_reducible intro K hK)
  refine il hx (aR _) ?_;((try revert hK K);(repeat'(first|refine Vb (X3 @bX @fY @a9.eq_1) ?_|(refine Xi ?_ ?_<;>try intro ht)|fail)))
  ·rw[if_pos (by assumption)]at hr;rw[<- hr];exact ey rfl (aR _) rfl
  ·rw[if_neg (by simp_all)]at hr;exact ak _ (k+1) ⟨G3,hr⟩ G3 (Xv X0)
 ·((repeat'(first|refine Vb (X3 @bX @fY @a9.eq_1) ?_|(refine Xi ?_ ?_<;>try intro ht)|exact Xx|fail)))
  rw[cM G3,dH]at hr;rw[<- hr];exact ey rfl (aR _) rfl
def af2(l:List (List bV))(g:FuncId)(a6:List AV)(aa:List Ob)(p:(List bV)->Bool)(hl:l.length<9223372036854775808)(hg:∀ x∈l,an Tryz.prog g ([.tree 6 (rowsOf cK x)]++a6) aa (.lit (.bool (p x))) aa):
  an Tryz.prog 88 [.tree 1 (rowsOf a9 l),.fn g a6] aa (.lit (.bool (l.any p))) aa:=by
 rw[<- zj p l 0];refine an.aC 9 aa.length [.tmp 4] Tryz.func88 ?_;((refine Vb (X3 @bX @fY @a9.eq_1) ?_)<;>try with_reducible intro K hK)
 refine il (af1 l g a6 aa p hl hg) (aR _) ?_;((try revert hK K);(refine Vb (X3 @bX @fY @a9.eq_1) ?_))
 exact ey rfl (aR _) rfl
def af3(l:List bV)(g:FuncId)(a6:List AV)(aa:List Ob)(p:bV->Bool)(hl:l.length<9223372036854775808)(hg:∀ x∈l,an Tryz.prog g ([.agg (cK x)]++a6) aa (.lit (.bool (p x))) aa):
  an Tryz.prog 89 [.tree 6 (rowsOf cK l),.fn g a6] aa (aaa (dH p 0 l)) aa:=by
 generalize aj:dH p 0 l=res;refine an.aC 19 aa.length [.tmp 4] Tryz.func89 ?_;refine Vb (X3 @bX @fY @cK.eq_1) ?_;refine aO (λk:Nat=>(⟨au [(0,.tree 6 (rowsOf cK l)),(1,.fn g a6),(7,aaa l.length),(8,aaa k)],aa⟩:St)) (λk=>k<=l.length/\dH p k (l.drop k)=res) (λk=>l.length-k) 0 ⟨aF _,aj⟩ (Xv X0) ?_;rintro k⟨hk,hr⟩Ql ak ar;by_cases aL:k<l.length
 ·have hx:=hg _ (aB (d:=default) aL);have hd:=cN l k default aL;generalize aS:l.getD k default=x at *;rw[hd,dH]at hr;simp only[dP,dZ,cK]at hx;((repeat'(first|refine Vb (X4 @bX @fY @cK.eq_1 @aS) ?_|(refine Xi ?_ ?_<;>try intro ht)|exact Xx|fail))<;>try with_reducible intro K hK)
  refine il hx (aR _) ?_;((try revert hK K);(repeat'(first|refine Vb (X3 @bX @fY @cK.eq_1) ?_|(refine Xi ?_ ?_<;>try intro ht)|fail)))
  ·rw[if_pos (by assumption)]at hr;rw[<- hr];exact ey rfl (aR _) rfl
  ·rw[if_neg (by simp_all)]at hr;exact ak _ (k+1) ⟨G3,hr⟩ G3 (Xv X0)
 ·((repeat'(first|refine Vb (X3 @bX @fY @cK.eq_1) ?_|(refine Xi ?_ ?_<;>try intro ht)|exact Xx|fail)))
  rw[cM G3,dH]at hr;rw[<- hr];exact ey rfl (aR _) rfl
def af4(l:List bV)(g:FuncId)(a6:List AV)(aa:List Ob)(p:bV->Bool)(hl:l.length<9223372036854775808)(hg:∀ x∈l,an Tryz.prog g ([.agg (cK x)]++a6) aa (.lit (.bool (p x))) aa):
  an Tryz.prog 41 [.tree 6 (rowsOf cK l),.fn g a6] aa (.lit (.bool (l.any p))) aa:=by
 rw[<- zj p l 0];refine an.aC 9 aa.length [.tmp 4] Tryz.func41 ?_;((refine Vb (X3 @bX @fY @cK.eq_1) ?_)<;>try with_reducible intro K hK)
 refine il (af3 l g a6 aa p hl hg) (aR _) ?_;((try revert hK K);(refine Vb (X3 @bX @fY @cK.eq_1) ?_))
 exact ey rfl (aR _) rfl
def Wy(l:List Ct)(g:FuncId)(a6:List AV)(aa:List Ob)(p:Ct->Bool)(hl:l.length<9223372036854775808)(hg:∀ x∈l,an Tryz.prog g ([.agg (aV x)]++a6) aa (.lit (.bool (p x))) aa):
  an Tryz.prog 96 [.tree 4 (rowsOf aV l),.fn g a6] aa (aaa (dH p 0 l)) aa:=by
 generalize aj:dH p 0 l=res;refine an.aC 19 aa.length [.tmp 4] Tryz.func96 ?_;refine Vb (X3 @bX @fY @aV.eq_1) ?_;refine aO (λk:Nat=>(⟨au [(0,.tree 4 (rowsOf aV l)),(1,.fn g a6),(7,aaa l.length),(8,aaa k)],aa⟩:St)) (λk=>k<=l.length/\dH p k (l.drop k)=res) (λk=>l.length-k) 0 ⟨aF _,aj⟩ (Xv X0) ?_;rintro k⟨hk,hr⟩Ql ak ar;by_cases aL:k<l.length
 ·have hx:=hg _ (aB (d:=default) aL);have hd:=cN l k default aL;generalize aS:l.getD k default=x at *;rw[hd,dH]at hr;simp only[dP,dZ,aV]at hx;((repeat'(first|refine Vb (X4 @bX @fY @aV.eq_1 @aS) ?_|(refine Xi ?_ ?_<;>try intro ht)|exact Xx|fail))<;>try with_reducible intro K hK)
  refine il hx (aR _) ?_;((try revert hK K);(repeat'(first|refine Vb (X3 @bX @fY @aV.eq_1) ?_|(refine Xi ?_ ?_<;>try intro ht)|fail)))
  ·rw[if_pos (by assumption)]at hr;rw[<- hr];exact ey rfl (aR _) rfl
  ·rw[if_neg (by simp_all)]at hr;exact ak _ (k+1) ⟨G3,hr⟩ G3 (Xv X0)
 ·((repeat'(first|refine Vb (X3 @bX @fY @aV.eq_1) ?_|(refine Xi ?_ ?_<;>try intro ht)|exact Xx|fail)))
  rw[cM G3,dH]at hr;rw[<- hr];exact ey rfl (aR _) rfl
def af5(l:List Ct)(g:FuncId)(a6:List AV)(aa:List Ob)(p:Ct->Bool)(hl:l.length<9223372036854775808)(hg:∀ x∈l,an Tryz.prog g ([.agg (aV x)]++a6) aa (.lit (.bool (p x))) aa):
  an Tryz.prog 46 [.tree 4 (rowsOf aV l),.fn g a6] aa (.lit (.bool (l.any p))) aa:=by
 rw[<- zj p l 0];refine an.aC 9 aa.length [.tmp 4] Tryz.func46 ?_;((refine Vb (X3 @bX @fY @aV.eq_1) ?_)<;>try with_reducible intro K hK)
 refine il (Wy l g a6 aa p hl hg) (aR _) ?_;((try revert hK K);(refine Vb (X3 @bX @fY @aV.eq_1) ?_))
 exact ey rfl (aR _) rfl
def af6(l:List Int)(g:FuncId)(a6:List AV)(aa:List Ob)(p:Int->Bool)(hl:l.length<9223372036854775808)(hg:∀ x∈l,an Tryz.prog g ([aaa x]++a6) aa (.lit (.bool (p x))) aa):
  an Tryz.prog 128 [.tree 1 (ints l),.fn g a6] aa (aaa (dH p 0 l)) aa:=by
 generalize aj:dH p 0 l=res;refine an.aC 19 aa.length [.tmp 4] Tryz.func128 ?_;refine Vb @iY ?_;refine aO (λk:Nat=>(⟨au [(0,.tree 1 (ints l)),(1,.fn g a6),(7,aaa l.length),(8,aaa k)],aa⟩:St)) (λk=>k<=l.length/\dH p k (l.drop k)=res) (λk=>l.length-k) 0 ⟨aF _,aj⟩ (Xv X0) ?_;rintro k⟨hk,hr⟩Ql ak ar;by_cases aL:k<l.length
 ·have hx:=hg _ (aB (d:=0) aL);have hd:=cN l k 0 aL;generalize aS:l.getD k 0=x at *;rw[hd,dH]at hr;simp only[dP,dZ]at hx;((repeat'(first|refine Vb (X2 @iY @aS) ?_|(refine Xi ?_ ?_<;>try intro ht)|exact Xx|fail))<;>try with_reducible intro K hK)
  refine il hx (aR _) ?_;((try revert hK K);(repeat'(first|refine Vb @iY ?_|(refine Xi ?_ ?_<;>try intro ht)|fail)))
  ·rw[if_pos (by assumption)]at hr;rw[<- hr];exact ey rfl (aR _) rfl
  ·rw[if_neg (by simp_all)]at hr;exact ak _ (k+1) ⟨G3,hr⟩ G3 (Xv X0)
 ·((repeat'(first|refine Vb @iY ?_|(refine Xi ?_ ?_<;>try intro ht)|exact Xx|fail)))
  rw[cM G3,dH]at hr;rw[<- hr];exact ey rfl (aR _) rfl
def WA(l:List Int)(g:FuncId)(a6:List AV)(aa:List Ob)(p:Int->Bool)(hl:l.length<9223372036854775808)(hg:∀ x∈l,an Tryz.prog g ([aaa x]++a6) aa (.lit (.bool (p x))) aa):
  an Tryz.prog 92 [.tree 1 (ints l),.fn g a6] aa (.lit (.bool (l.any p))) aa:=by
 rw[<- zj p l 0];refine an.aC 9 aa.length [.tmp 4] Tryz.func92 ?_;((refine Vb @iY ?_)<;>try with_reducible intro K hK)
 refine il (af6 l g a6 aa p hl hg) (aR _) ?_;((try revert hK K);(refine Vb @iY ?_))
 exact ey rfl (aR _) rfl
end T

