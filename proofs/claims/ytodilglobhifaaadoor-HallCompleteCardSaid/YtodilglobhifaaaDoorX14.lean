import Derived.Test.YtodilglobhifaaaDoorX13
import Derived.Test.YtodilglobhifaaaDoorX10
import Derived.Test.YtodilglobhifaaaDoorProg
import Derived.KernelRfl
set_option linter.all false
set_option maxHeartbeats 0
set_option maxRecDepth 20000
open Int renaming natCast_add→sP,cast_ofNat_Int→sQ
open List renaming length_append→aJ,length_cons→b8,length_nil→eZ,drop_eq_nil_of_le→dF,cons_append→kR,nil_append→g9
open Nat renaming zero_add→eX,zero_le→bk,le_refl→aH,add_zero→jm
open Bool renaming eq_iff_iff→jL,and_eq_true→bb,or_eq_true→jn,not_eq_true'→fU,false_eq_true→iQ
open Go Go.Am Go.Proofs
namespace T
def Hn:ty Tryd.prog 2 = { kind:=5,size:=1,bytes:=8,elem:=0,len:=0,zero:=some [.int .i64 0],aE:=[] }:=by kernel_rfl
def Ho:ty Tryd.prog 3 = { kind:=5,size:=1,bytes:=8,elem:=0,len:=0,zero:=some [.int .i64 0],aE:=[] }:=by kernel_rfl
def Hp:ty Tryd.prog 4 = { kind:=6,size:=1,bytes:=1,elem:=0,len:=0,zero:=some [.bool false],aE:=[] }:=by kernel_rfl
def Hq:ty Tryd.prog 5 = { kind:=5,size:=1,bytes:=1,elem:=0,len:=0,zero:=some [.int .u8 0],aE:=[] }:=by kernel_rfl
def Hs:ty Tryd.prog 6 = { kind:=5,size:=1,bytes:=1,elem:=0,len:=0,zero:=some [.int .u8 0],aE:=[] }:=by kernel_rfl
def Ht:ty Tryd.prog 7 = { kind:=3,size:=4,bytes:=24,elem:=0,len:=0,zero:=some [.int .i64 0,.int .i64 0,.bool false,.int .u8 0],aE:=[(0,2,1),(1,3,1),(2,4,1),(3,6,1)] }:=by kernel_rfl
def Hu:ty Tryd.prog 8 = { kind:=3,size:=4,bytes:=24,elem:=0,len:=0,zero:=some [.int .i64 0,.int .i64 0,.bool false,.int .u8 0],aE:=[(0,2,1),(1,3,1),(2,4,1),(3,6,1)] }:=by kernel_rfl
def Hv:ty Tryd.prog 9 = { kind:=4,size:=1,bytes:=16,elem:=0,len:=0,zero:=some [.string ⟨#[]⟩],aE:=[] }:=by kernel_rfl
def Hw:ty Tryd.prog 10 = { kind:=4,size:=1,bytes:=16,elem:=0,len:=0,zero:=some [.string ⟨#[]⟩],aE:=[] }:=by kernel_rfl
def Hx:ty Tryd.prog 11 = { kind:=4,size:=1,bytes:=16,elem:=0,len:=0,zero:=some [.string ⟨#[]⟩],aE:=[] }:=by kernel_rfl
def Hy:ty Tryd.prog 12 = { kind:=5,size:=1,bytes:=8,elem:=0,len:=0,zero:=some [.int .u64 0],aE:=[] }:=by kernel_rfl
def Hz:ty Tryd.prog 13 = { kind:=3,size:=2,bytes:=24,elem:=0,len:=0,zero:=some [.string ⟨#[]⟩,.int .u64 0],aE:=[(0,9,1),(1,12,1)] }:=by kernel_rfl
def HA:ty Tryd.prog 14 = { kind:=3,size:=2,bytes:=24,elem:=0,len:=0,zero:=some [.string ⟨#[]⟩,.int .u64 0],aE:=[(0,9,1),(1,12,1)] }:=by kernel_rfl
def HB:ty Tryd.prog 15 = { kind:=7,size:=1,bytes:=8,elem:=149,len:=0,zero:=some [.pointer none],aE:=[] }:=by kernel_rfl
def HC:ty Tryd.prog 16 = { kind:=7,size:=1,bytes:=8,elem:=152,len:=0,zero:=some [.pointer none],aE:=[] }:=by kernel_rfl
def HD:ty Tryd.prog 17 = { kind:=7,size:=1,bytes:=8,elem:=161,len:=0,zero:=some [.pointer none],aE:=[] }:=by kernel_rfl
def HE:ty Tryd.prog 18 = { kind:=3,size:=1,bytes:=8,elem:=0,len:=0,zero:=some [.pointer none],aE:=[(0,17,1)] }:=by kernel_rfl
def HF:ty Tryd.prog 19 = { kind:=3,size:=1,bytes:=8,elem:=0,len:=0,zero:=some [.pointer none],aE:=[(0,17,1)] }:=by kernel_rfl
def HG:ty Tryd.prog 21 = { kind:=5,size:=1,bytes:=4,elem:=0,len:=0,zero:=some [.int .i32 0],aE:=[] }:=by kernel_rfl
def HH:ty Tryd.prog 22 = { kind:=1,size:=1,bytes:=24,elem:=3,len:=0,zero:=some [.slice none 0 0],aE:=[] }:=by kernel_rfl
def HJ:ty Tryd.prog 25 = { kind:=1,size:=1,bytes:=24,elem:=48,len:=0,zero:=some [.slice none 0 0],aE:=[] }:=by kernel_rfl
def HK:ty Tryd.prog 26 = { kind:=1,size:=1,bytes:=24,elem:=57,len:=0,zero:=some [.slice none 0 0],aE:=[] }:=by kernel_rfl
def HL:ty Tryd.prog 27 = { kind:=1,size:=1,bytes:=24,elem:=94,len:=0,zero:=some [.slice none 0 0],aE:=[] }:=by kernel_rfl
def HM:ty Tryd.prog 28 = { kind:=3,size:=4,bytes:=80,elem:=0,len:=0,zero:=some [.slice none 0 0,.slice none 0 0,.slice none 0 0,.int .i64 0],aE:=[(0,25,1),(1,26,1),(2,27,1),(3,3,1)] }:=by kernel_rfl
def HN:ty Tryd.prog 29 = { kind:=3,size:=4,bytes:=80,elem:=0,len:=0,zero:=some [.slice none 0 0,.slice none 0 0,.slice none 0 0,.int .i64 0],aE:=[(0,25,1),(1,26,1),(2,27,1),(3,3,1)] }:=by kernel_rfl
def HO:ty Tryd.prog 30 = { kind:=1,size:=1,bytes:=24,elem:=22,len:=0,zero:=some [.slice none 0 0],aE:=[] }:=by kernel_rfl
def HP:ty Tryd.prog 33 = { kind:=7,size:=1,bytes:=8,elem:=59,len:=0,zero:=some [.pointer none],aE:=[] }:=by kernel_rfl
def HQ:ty Tryd.prog 35 = { kind:=1,size:=1,bytes:=24,elem:=68,len:=0,zero:=some [.slice none 0 0],aE:=[] }:=by kernel_rfl
def HR:ty Tryd.prog 38 = { kind:=1,size:=1,bytes:=24,elem:=78,len:=0,zero:=some [.slice none 0 0],aE:=[] }:=by kernel_rfl
def HS:ty Tryd.prog 41 = { kind:=5,size:=1,bytes:=8,elem:=0,len:=0,zero:=some [.int .i64 0],aE:=[] }:=by kernel_rfl
def HT:ty Tryd.prog 48 = { kind:=1,size:=1,bytes:=24,elem:=55,len:=0,zero:=some [.slice none 0 0],aE:=[] }:=by kernel_rfl
def HU:ty Tryd.prog 49 = { kind:=3,size:=4,bytes:=32,elem:=0,len:=0,zero:=some [.int .i64 0,.int .i64 0,.int .i64 0,.int .i64 0],aE:=[(0,3,1),(1,3,1),(2,3,1),(3,3,1)] }:=by kernel_rfl
def HV:ty Tryd.prog 50 = { kind:=3,size:=4,bytes:=32,elem:=0,len:=0,zero:=some [.int .i64 0,.int .i64 0,.int .i64 0,.int .i64 0],aE:=[(0,3,1),(1,3,1),(2,3,1),(3,3,1)] }:=by kernel_rfl
def HW:ty Tryd.prog 51 = { kind:=3,size:=5,bytes:=40,elem:=0,len:=0,zero:=some [.int .i64 0,.int .i64 0,.int .i64 0,.int .i64 0,.int .i64 0],aE:=[(0,50,4),(4,3,1)] }:=by kernel_rfl
def HX:ty Tryd.prog 52 = { kind:=3,size:=5,bytes:=40,elem:=0,len:=0,zero:=some [.int .i64 0,.int .i64 0,.int .i64 0,.int .i64 0,.int .i64 0],aE:=[(0,50,4),(4,3,1)] }:=by kernel_rfl
def HY:ty Tryd.prog 53 = { kind:=1,size:=1,bytes:=24,elem:=111,len:=0,zero:=some [.slice none 0 0],aE:=[] }:=by kernel_rfl
def HZ:ty Tryd.prog 54 = { kind:=3,size:=6,bytes:=64,elem:=0,len:=0,zero:=some [.int .i64 0,.int .i64 0,.int .i64 0,.int .i64 0,.int .i64 0,.slice none 0 0],aE:=[(0,52,5),(5,53,1)] }:=by kernel_rfl
def H0:ty Tryd.prog 55 = { kind:=3,size:=6,bytes:=64,elem:=0,len:=0,zero:=some [.int .i64 0,.int .i64 0,.int .i64 0,.int .i64 0,.int .i64 0,.slice none 0 0],aE:=[(0,52,5),(5,53,1)] }:=by kernel_rfl
def H2:ty Tryd.prog 56 = { kind:=3,size:=4,bytes:=48,elem:=0,len:=0,zero:=some [.int .i64 0,.int .i64 0,.int .i64 0,.slice none 0 0],aE:=[(0,3,1),(1,3,1),(2,3,1),(3,22,1)] }:=by kernel_rfl
def H3:ty Tryd.prog 57 = { kind:=3,size:=4,bytes:=48,elem:=0,len:=0,zero:=some [.int .i64 0,.int .i64 0,.int .i64 0,.slice none 0 0],aE:=[(0,3,1),(1,3,1),(2,3,1),(3,22,1)] }:=by kernel_rfl
def H4:ty Tryd.prog 58 = { kind:=3,size:=2,bytes:=32,elem:=0,len:=0,zero:=some [.slice none 0 0,.int .i64 0],aE:=[(0,22,1),(1,3,1)] }:=by kernel_rfl
def H5:ty Tryd.prog 59 = { kind:=3,size:=2,bytes:=32,elem:=0,len:=0,zero:=some [.slice none 0 0,.int .i64 0],aE:=[(0,22,1),(1,3,1)] }:=by kernel_rfl
def H6:ty Tryd.prog 62 = { kind:=7,size:=1,bytes:=8,elem:=65,len:=0,zero:=some [.pointer none],aE:=[] }:=by kernel_rfl
def H7:ty Tryd.prog 63 = { kind:=8,size:=1,bytes:=8,elem:=26,len:=0,zero:=some [.map none],aE:=[] }:=by kernel_rfl
def H8:ty Tryd.prog 64 = { kind:=3,size:=5,bytes:=88,elem:=0,len:=0,zero:=some [.slice none 0 0,.slice none 0 0,.slice none 0 0,.int .i64 0,.map none],aE:=[(0,29,4),(4,63,1)] }:=by kernel_rfl
def H9:ty Tryd.prog 65 = { kind:=3,size:=5,bytes:=88,elem:=0,len:=0,zero:=some [.slice none 0 0,.slice none 0 0,.slice none 0 0,.int .i64 0,.map none],aE:=[(0,29,4),(4,63,1)] }:=by kernel_rfl
def H':ty Tryd.prog 66 = { kind:=2,size:=2,bytes:=16,elem:=3,len:=2,zero:=some [.int .i64 0,.int .i64 0],aE:=[] }:=by kernel_rfl
def Ia:ty Tryd.prog 68 = { kind:=1,size:=1,bytes:=24,elem:=70,len:=0,zero:=some [.slice none 0 0],aE:=[] }:=by kernel_rfl
def Ib:ty Tryd.prog 69 = { kind:=3,size:=2,bytes:=16,elem:=0,len:=0,zero:=some [.int .i64 0,.int .i64 0],aE:=[(0,3,1),(1,3,1)] }:=by kernel_rfl
def Ic:ty Tryd.prog 70 = { kind:=3,size:=2,bytes:=16,elem:=0,len:=0,zero:=some [.int .i64 0,.int .i64 0],aE:=[(0,3,1),(1,3,1)] }:=by kernel_rfl
def Ie:ty Tryd.prog 78 = { kind:=1,size:=1,bytes:=24,elem:=4,len:=0,zero:=some [.slice none 0 0],aE:=[] }:=by kernel_rfl
def Ig:ty Tryd.prog 92 = { kind:=1,size:=1,bytes:=24,elem:=118,len:=0,zero:=some [.slice none 0 0],aE:=[] }:=by kernel_rfl
def Ih:ty Tryd.prog 93 = { kind:=3,size:=4,bytes:=48,elem:=0,len:=0,zero:=some [.int .i64 0,.slice none 0 0,.int .i64 0,.int .i64 0],aE:=[(0,3,1),(1,92,1),(2,3,1),(3,3,1)] }:=by kernel_rfl
def Ii:ty Tryd.prog 94 = { kind:=3,size:=4,bytes:=48,elem:=0,len:=0,zero:=some [.int .i64 0,.slice none 0 0,.int .i64 0,.int .i64 0],aE:=[(0,3,1),(1,92,1),(2,3,1),(3,3,1)] }:=by kernel_rfl
def Ij:ty Tryd.prog 99 = { kind:=8,size:=1,bytes:=8,elem:=68,len:=0,zero:=some [.map none],aE:=[] }:=by kernel_rfl
def Ik:ty Tryd.prog 100 = { kind:=1,size:=1,bytes:=24,elem:=103,len:=0,zero:=some [.slice none 0 0],aE:=[] }:=by kernel_rfl
def Il:ty Tryd.prog 102 = { kind:=5,size:=1,bytes:=8,elem:=0,len:=0,zero:=some [.int .u64 0],aE:=[] }:=by kernel_rfl
def Im:ty Tryd.prog 103 = { kind:=2,size:=4,bytes:=32,elem:=3,len:=4,zero:=some [.int .i64 0,.int .i64 0,.int .i64 0,.int .i64 0],aE:=[] }:=by kernel_rfl
def Io:ty Tryd.prog 110 = { kind:=3,size:=2,bytes:=16,elem:=0,len:=0,zero:=some [.int .i64 0,.int .i64 0],aE:=[(0,3,1),(1,3,1)] }:=by kernel_rfl
def Ip:ty Tryd.prog 111 = { kind:=3,size:=2,bytes:=16,elem:=0,len:=0,zero:=some [.int .i64 0,.int .i64 0],aE:=[(0,3,1),(1,3,1)] }:=by kernel_rfl
def Iq:ty Tryd.prog 117 = { kind:=3,size:=3,bytes:=24,elem:=0,len:=0,zero:=some [.int .i64 0,.int .i64 0,.int .i64 0],aE:=[(0,3,1),(1,3,1),(2,3,1)] }:=by kernel_rfl
def Ir:ty Tryd.prog 118 = { kind:=3,size:=3,bytes:=24,elem:=0,len:=0,zero:=some [.int .i64 0,.int .i64 0,.int .i64 0],aE:=[(0,3,1),(1,3,1),(2,3,1)] }:=by kernel_rfl
def Is:ty Tryd.prog 121 = { kind:=5,size:=1,bytes:=4,elem:=0,len:=0,zero:=some [.int .u32 0],aE:=[] }:=by kernel_rfl
def Iu:ty Tryd.prog 123 = { kind:=5,size:=1,bytes:=8,elem:=0,len:=0,zero:=some [.int .u64 0],aE:=[] }:=by kernel_rfl
def Iv:ty Tryd.prog 126 = { kind:=5,size:=1,bytes:=8,elem:=0,len:=0,zero:=some [.int .i64 0],aE:=[] }:=by kernel_rfl
def Iw:ty Tryd.prog 135 = { kind:=2,size:=32,bytes:=32,elem:=5,len:=32,zero:=some [.int .u8 0,.int .u8 0,.int .u8 0,.int .u8 0,.int .u8 0,.int .u8 0,.int .u8 0,.int .u8 0,.int .u8 0,.int .u8 0,.int .u8 0,.int .u8 0,.int .u8 0,.int .u8 0,.int .u8 0,.int .u8 0,.int .u8 0,.int .u8 0,.int .u8 0,.int .u8 0,.int .u8 0,.int .u8 0,.int .u8 0,.int .u8 0,.int .u8 0,.int .u8 0,.int .u8 0,.int .u8 0,.int .u8 0,.int .u8 0,.int .u8 0,.int .u8 0],aE:=[] }:=by kernel_rfl
def Ix:ty Tryd.prog 136 = { kind:=2,size:=64,bytes:=64,elem:=5,len:=64,zero:=some [.int .u8 0,.int .u8 0,.int .u8 0,.int .u8 0,.int .u8 0,.int .u8 0,.int .u8 0,.int .u8 0,.int .u8 0,.int .u8 0,.int .u8 0,.int .u8 0,.int .u8 0,.int .u8 0,.int .u8 0,.int .u8 0,.int .u8 0,.int .u8 0,.int .u8 0,.int .u8 0,.int .u8 0,.int .u8 0,.int .u8 0,.int .u8 0,.int .u8 0,.int .u8 0,.int .u8 0,.int .u8 0,.int .u8 0,.int .u8 0,.int .u8 0,.int .u8 0,.int .u8 0,.int .u8 0,.int .u8 0,.int .u8 0,.int .u8 0,.int .u8 0,.int .u8 0,.int .u8 0,.int .u8 0,.int .u8 0,.int .u8 0,.int .u8 0,.int .u8 0,.int .u8 0,.int .u8 0,.int .u8 0,.int .u8 0,.int .u8 0,.int .u8 0,.int .u8 0,.int .u8 0,.int .u8 0,.int .u8 0,.int .u8 0,.int .u8 0,.int .u8 0,.int .u8 0,.int .u8 0,.int .u8 0,.int .u8 0,.int .u8 0,.int .u8 0],aE:=[] }:=by kernel_rfl
def Iy:ty Tryd.prog 138 = { kind:=5,size:=1,bytes:=8,elem:=0,len:=0,zero:=some [.int .u64 0],aE:=[] }:=by kernel_rfl
def Iz:ty Tryd.prog 142 = { kind:=7,size:=1,bytes:=8,elem:=3,len:=0,zero:=some [.pointer none],aE:=[] }:=by kernel_rfl
def IA:ty Tryd.prog 144 = { kind:=7,size:=1,bytes:=8,elem:=138,len:=0,zero:=some [.pointer none],aE:=[] }:=by kernel_rfl
def IB:ty Tryd.prog 148 = { kind:=3,size:=4,bytes:=40,elem:=0,len:=0,zero:=some [.pointer none,.pointer none,.pointer none,.string ⟨#[]⟩],aE:=[(0,17,1),(1,17,1),(2,17,1),(3,9,1)] }:=by kernel_rfl
def IC:ty Tryd.prog 149 = { kind:=3,size:=4,bytes:=40,elem:=0,len:=0,zero:=some [.pointer none,.pointer none,.pointer none,.string ⟨#[]⟩],aE:=[(0,17,1),(1,17,1),(2,17,1),(3,9,1)] }:=by kernel_rfl
def ID:ty Tryd.prog 150 = { kind:=2,size:=0,bytes:=0,elem:=16,len:=0,zero:=some [],aE:=[] }:=by kernel_rfl
def IE:ty Tryd.prog 151 = { kind:=3,size:=0,bytes:=0,elem:=0,len:=0,zero:=some [],aE:=[(0,150,0)] }:=by kernel_rfl
def IF:ty Tryd.prog 152 = { kind:=3,size:=0,bytes:=0,elem:=0,len:=0,zero:=some [],aE:=[(0,150,0)] }:=by kernel_rfl
def IG:ty Tryd.prog 154 = { kind:=5,size:=1,bytes:=1,elem:=0,len:=0,zero:=some [.int .u8 0],aE:=[] }:=by kernel_rfl
def IH:ty Tryd.prog 155 = { kind:=5,size:=1,bytes:=1,elem:=0,len:=0,zero:=some [.int .u8 0],aE:=[] }:=by kernel_rfl
def II:ty Tryd.prog 157 = { kind:=7,size:=1,bytes:=8,elem:=5,len:=0,zero:=some [.pointer none],aE:=[] }:=by kernel_rfl
def IJ:ty Tryd.prog 158 = { kind:=5,size:=1,bytes:=4,elem:=0,len:=0,zero:=some [.int .i32 0],aE:=[] }:=by kernel_rfl
def IK:ty Tryd.prog 159 = { kind:=5,size:=1,bytes:=4,elem:=0,len:=0,zero:=some [.int .i32 0],aE:=[] }:=by kernel_rfl
def IL:ty Tryd.prog 160 = { kind:=3,size:=11,bytes:=48,elem:=0,len:=0,zero:=some [.int .u64 0,.int .u64 0,.int .u32 0,.int .u8 0,.int .u8 0,.int .u8 0,.int .u8 0,.nilFunc,.pointer none,.int .i32 0,.int .i32 0],aE:=[(0,12,1),(1,12,1),(2,121,1),(3,154,1),(4,5,1),(5,5,1),(6,155,1),(7,156,1),(8,157,1),(9,158,1),(10,159,1)] }:=by kernel_rfl
def IM:ty Tryd.prog 161 = { kind:=3,size:=11,bytes:=48,elem:=0,len:=0,zero:=some [.int .u64 0,.int .u64 0,.int .u32 0,.int .u8 0,.int .u8 0,.int .u8 0,.int .u8 0,.nilFunc,.pointer none,.int .i32 0,.int .i32 0],aE:=[(0,12,1),(1,12,1),(2,121,1),(3,154,1),(4,5,1),(5,5,1),(6,155,1),(7,156,1),(8,157,1),(9,158,1),(10,159,1)] }:=by kernel_rfl
def IN:Tryd.prog.underlying 2=some (.int .i64):=by kernel_rfl
def IP:Tryd.prog.underlying 3=some (.int .i64):=by kernel_rfl
def IQ:Tryd.prog.underlying 5=some (.int .u8):=by kernel_rfl
def IS:Tryd.prog.underlying 6=some (.int .u8):=by kernel_rfl
def IT:Tryd.prog.underlying 12=some (.int .u64):=by kernel_rfl
def IU:Tryd.prog.underlying 21=some (.int .i32):=by kernel_rfl
def IV:Tryd.prog.underlying 41=some (.int .i64):=by kernel_rfl
def IW:Tryd.prog.underlying 102=some (.int .u64):=by kernel_rfl
def IX:Tryd.prog.underlying 121=some (.int .u32):=by kernel_rfl
def IY:Tryd.prog.underlying 123=some (.int .u64):=by kernel_rfl
def IZ:Tryd.prog.underlying 126=some (.int .i64):=by kernel_rfl
def I0:Tryd.prog.underlying 138=some (.int .u64):=by kernel_rfl
def I1:Tryd.prog.underlying 154=some (.int .u8):=by kernel_rfl
def I2:Tryd.prog.underlying 155=some (.int .u8):=by kernel_rfl
def I3:Tryd.prog.underlying 158=some (.int .i32):=by kernel_rfl
def I4:Tryd.prog.underlying 159=some (.int .i32):=by kernel_rfl
def I5:zeroV Tryd.prog 26=some (.slice none 0 0):=by kernel_rfl
def I6:uR Tryd.prog 63=2:=by kernel_rfl
def I7:zeroV Tryd.prog 68=some (.slice none 0 0):=by kernel_rfl
def I8:uR Tryd.prog 99=4:=by kernel_rfl
def I9:Tryd.prog.underlying 9=some .string:=by kernel_rfl
def nJ:type_of% Hn/\type_of% Ho/\type_of% Hp/\type_of% Hq/\type_of% Hs/\type_of% Ht/\type_of% Hu/\type_of% Hv/\type_of% Hw/\type_of% Hx/\type_of% Hy/\type_of% Hz/\type_of% HA/\type_of% HB/\type_of% HC/\type_of% HD/\type_of% HE/\type_of% HF/\type_of% HG/\type_of% HH/\type_of% HJ/\type_of% HK/\type_of% HL/\type_of% HM/\type_of% HN/\type_of% HO/\type_of% HP/\type_of% HQ/\type_of% HR/\type_of% HS/\type_of% HT/\type_of% HU/\type_of% HV/\type_of% HW/\type_of% HX/\type_of% HY/\type_of% HZ/\type_of% H0/\type_of% H2/\type_of% H3/\type_of% H4/\type_of% H5/\type_of% H6/\type_of% H7/\type_of% H8/\type_of% H9/\type_of% H'/\type_of% Ia/\type_of% Ib/\type_of% Ic/\type_of% Ie/\type_of% Ig/\type_of% Ih/\type_of% Ii/\type_of% Ij/\type_of% Ik/\type_of% Il/\type_of% Im/\type_of% Io/\type_of% Ip/\type_of% Iq/\type_of% Ir/\type_of% Is/\type_of% Iu/\type_of% Iv/\type_of% Iw/\type_of% Ix/\type_of% Iy/\type_of% Iz/\type_of% IA/\type_of% IB/\type_of% IC/\type_of% ID/\type_of% IE/\type_of% IF/\type_of% IG/\type_of% IH/\type_of% II/\type_of% IJ/\type_of% IK/\type_of% IL/\type_of% IM/\type_of% IN/\type_of% IP/\type_of% IQ/\type_of% IS/\type_of% IT/\type_of% IU/\type_of% IV/\type_of% IW/\type_of% IX/\type_of% IY/\type_of% IZ/\type_of% I0/\type_of% I1/\type_of% I2/\type_of% I3/\type_of% I4/\type_of% I5/\type_of% I6/\type_of% I7/\type_of% I8/\type_of% I9 :=
 ⟨Hn,Ho,Hp,Hq,Hs,Ht,Hu,Hv,Hw,Hx,Hy,Hz,HA,HB,HC,HD,HE,HF,HG,HH,HJ,HK,HL,HM,HN,HO,HP,HQ,HR,HS,HT,HU,HV,HW,HX,HY,HZ,H0,H2,H3,H4,H5,H6,H7,H8,H9,H',Ia,Ib,Ic,Ie,Ig,Ih,Ii,Ij,Ik,Il,Im,Io,Ip,Iq,Ir,Is,Iu,Iv,Iw,Ix,Iy,Iz,IA,IB,IC,ID,IE,IF,IG,IH,II,IJ,IK,IL,IM,IN,IP,IQ,IS,IT,IU,IV,IW,IX,IY,IZ,I0,I1,I2,I3,I4,I5,I6,I7,I8,I9⟩
def Ac:=U0 @nJ @Bc @Sc @Rc
def Kc:=U0 @oA @Lc @nJ @Rc
def Oc:=U3 @jU.eq_1 @jU.eq_2 @or_true @false_or @Bc @Sc @Rc
def Hr:=U4 @lP.eq_1 @lP.eq_2 @Bc @Rc @oA @Lc @nJ (UZ @and_true @sP @sQ)
def Tc:=U4 @Has.eq_1 @Has.eq_2 @aJ.{0} @b8.{0} @eZ.{0} @eX @oA (U2 @Lc @nJ @Rc @and_true @sP @sQ)
def Qc:=U4 @tp.eq_1 @tp.eq_2 @gL.eq_1 @gL.eq_2 @gL.eq_3 @ic.eq_1 @E6 (U2 @E7 @eZ.{0} @oA @Lc @nJ @Rc)
inductive Sq(P:Program)(N n0:Nat)(y:Code)(Q:Exit->St->Prop):Exit->St->Prop
 |n (s:St) (h:W P N n0 y Q s):Sq P N n0 y Q .normal s
 |e (e:Exit) (s:St) (hi:q7 e=false) (h:Q e s):Sq P N n0 y Q e s
inductive Bq(id:Nat)(Q:Exit->St->Prop):Exit->St->Prop
 |n (s:St) (h:Q .normal s):Bq id Q .normal s
 |x (s:St) (h:Q .normal s):Bq id Q (.exit id) s
 |e (e:Exit) (s:St) (hi:uM id e=false) (h:Q e s):Bq id Q e s
section
variable {P:Program} {N n0:Nat} {σ:St} {Q:Exit->St->Prop}
def Xk{x y:Code}(h:W P N n0 x (Sq P N n0 y Q) σ):W P N n0 (.seq x y) Q σ:=Wk λ_ h1 h2=>G2 h λ_ _ h=>by
 cases h with
 |n _ h=>exact h1 _ h
 |e _ _ hi h=>exact h2 _ _ hi h
def Xb{id:Nat}{c:Code}(h:W P N n0 c (Bq id Q) σ):W P N n0 (.block id c) Q σ:=Wb λ_ h1 h2 h3=>G2 h λ_ _ h=>by
 cases h with
 |n _ h=>exact h1 _ h
 |x _ h=>exact h2 _ h
 |e _ _ hi h=>exact h3 _ _ hi h
def hn{y:Code}(s:St)(h:W P N n0 y Q s):Sq P N n0 y Q .normal s:=.n s h
def he{y:Code}(e:Exit)(s:St)(hi:q7 e=false)(h:Q e s):Sq P N n0 y Q e s:=.e e s hi h
def G7{id:Nat}(s:St)(h:Q .normal s):Bq id Q .normal s:=.n s h
def I'{x y:Code}(h:∀ Q':Exit->St->Prop,(∀ s,W P N n0 y Q s->Q' .normal s)->(∀ e s,q7 e=false->Q e s->Q' e s)->W P N n0 x Q' σ):W P N n0 x (Sq P N n0 y Q) σ:=h _ .n .e
end
def X0:True:=trivial
def X2{a b:Prop}(x:a)(y:b):a/\b:=⟨x,y⟩
def X3{a b c:Prop}(x:a)(y:b)(z:c):a/\b/\c:=⟨x,y,z⟩
def X4{a b c d:Prop}(x:a)(y:b)(z:c)(u:d):a/\b/\c/\d:=⟨x,y,z,u⟩
def X5{a b c d e:Prop}(x:a)(y:b)(z:c)(u:d)(v:e):a/\b/\c/\d/\e:=⟨x,y,z,u,v⟩
theorem Xr{p q e:Prop}(x:e)(h:q)(k:e->q->p:=by first|(intro hx hq;(first|refine rr ?_|refine np ?_);intro K hK;simp(disch:=omega)only[Ac,↓Pc,simprocAttr,hx];revert hK;revert K;exact hq)|fail):p:=k x h
theorem Xq{p q e:Prop}(x:e)(h:q)(k:e->q->p:=by first|(intro hx hq;(first|refine rr ?_|refine np ?_|refine rb ?_|refine uN ?_|refine ra ?_|refine uO ?_);intro K hK;simp(disch:=omega)only[Ac,↓Pc,simprocAttr,hx];revert hK;revert K;exact hq)|fail):p:=k x h
theorem Xo{p q e:Prop}(x:e)(h:q)(k:e->q->p:=by first|(intro hx hq;with_reducible refine gO ?_;simp(disch:=omega)only[Ac,↓Pc,simprocAttr,hx];exact hq)|fail):p:=k x h
theorem Xc{p q t:Prop}(c:t)(h:q)(k:t->q->p:=by first|(intro hc hq;(first|refine ba hc rfl rfl ?_|refine bg hc rfl rfl ?_);exact hq)|fail):p:=k c h
theorem Xg{p q r e:Prop}(x:e)(h:q)(h2:r)(k:e->q->r->p/\True:=by first|(intro hx hq hr;refine And.intro ?_ ?_;(with_reducible refine gS (fun bq=>?_) (fun bq=>?_));(focus (have hb:=bq;(try simp only[ta,simprocAttr]at hb);all_goals(simp(disch:=omega)only[Ac,↓Pc,simprocAttr,hx,bq]);all_goals(clear bq;revert hb;exact hq)));(focus (have hb:=bq;(try simp only[ta,simprocAttr]at hb);all_goals(simp(disch:=omega)only[Ac,↓Pc,simprocAttr,hx,bq]);all_goals(clear bq;revert hb;exact hr)));((try have _:True:=hq);(try have _:True:=hr);trivial))|fail):p:=(k x h h2).1
theorem Xi{p q r:Prop}(h:q)(h2:r)(k:q->r->p/\True:=by first|(intro hq hr;refine And.intro ?_ ?_;refine Wc ?_ ?_;(focus (intro ht;(try simp only[ta,simprocAttr]at ht);all_goals(revert ht;exact hq)));(focus (intro ht;(try simp only[ta,simprocAttr]at ht);all_goals(revert ht;exact hr)));((try have _:True:=hq);(try have _:True:=hr);trivial))|fail):p:=(k h h2).1
theorem Xz{p q:Prop}(h:q)(k:q->p:=by first|(intro hq;(first|refine Wz rfl ?_|refine Xk ?_|refine Xb ?_|refine Sq.n _ ?_|refine Sq.e _ _ rfl ?_|refine Bq.n _ ?_|refine Bq.x _ ?_|refine Bq.e _ _ rfl ?_|refine hn _ ?_|refine he _ _ rfl ?_);(repeat(first|refine Wz rfl ?_|refine Xk ?_|refine Xb ?_|refine Sq.n _ ?_|refine Sq.e _ _ rfl ?_|refine Bq.n _ ?_|refine Bq.x _ ?_|refine Bq.e _ _ rfl ?_|refine hn _ ?_|refine he _ _ rfl ?_));exact hq)|fail):p:=k h
theorem Xh{p q:Prop}(h:q)(k:q->p:=by first|(intro hq;(first|refine aC _ _ rfl ?_|refine cy _ _ rfl ?_|refine lg _ _ rfl ?_|refine nK _ _ rfl ?_);exact hq)|fail):p:=k h
theorem Xu{p q:Prop}(h:q)(k:q->p:=by first|(intro hq;(first|refine Sq.n _ ?_|refine Sq.e _ _ rfl ?_|refine Bq.n _ ?_|refine Bq.x _ ?_|refine Bq.e _ _ rfl ?_|refine hn _ ?_|refine he _ _ rfl ?_|refine aC _ _ rfl ?_|refine cy _ _ rfl ?_|refine lg _ _ rfl ?_|refine nK _ _ rfl ?_);exact hq)|fail):p:=k h
theorem Xe{p q:Prop}(h:q)(k:q->p:=by first|(intro hq;simp only[Qc,Kc,simprocAttr];exact hq)|fail):p:=k h
theorem Xy{p q:Prop}(h:q)(k:q->p:=by first|(intro hq;refine Xz ?_;exact hq)|(intro hq;refine Xe ?_;exact hq)|fail):p:=k h
theorem XY{p q:Prop}(h:q)(k:q->p:=by first|(intro hq;refine Xz ?_;exact hq)|(intro hq;refine Xh ?_;exact hq)|(intro hq;refine Xe ?_;exact hq)|fail):p:=k h
theorem Xx{p:Prop}(h:p:=by first|omega|with_reducible rfl|exact trivial|fail):p:=h
theorem Xl{n0:Nat}{e:Nat->AV}{os:List Ob}{v res:AV}{aL:List Ob}(ho:os=aL)(h:v=res)(hl:n0<=aL.length:=by(simp only[List.length_cons,List.length_nil];omega)):jV n0 ⟨e,os⟩ v res aL:=fZ ho hl h
theorem Xd{p q r:Prop}(h:q)(h2:r)(k:q->r->p:=by first|(intro hq hr;with_reducible refine And.intro ?_ ?_;exact hq;exact hr)|fail):p:=k h h2
theorem Xv{n0:Nat}{σ S:St}{e:Prop}(x:e)(k:e->aR n0 σ S:=by first|(intro hx;refine aR.ax _ _ rfl ?_;simp only[Tc,↓reduceIte,Nat.reduceEqDiff,Nat.reduceBEq,Nat.reduceAdd,hx];(try trivial);done)|fail):aR n0 σ S:=k x
theorem Xs{n0:Nat}{σ:St}{l:List (Nat×AV)}{co:List Ob}{e:Prop}(snap:Bool)(ab:List Nat)(x:e)(h1:e->jU (a9 σ.aa.length ab) σ.aa ab co:=by(intro hx;simp only[Oc,simprocAttr,hx]))(h2:e->lP (bd σ (kept ab co) (a9 σ.aa.length ab) snap) σ.env l:=by(intro hx;simp only[Hr,↓reduceIte,Nat.reduceEqDiff,Nat.reduceBEq,Nat.reduceAdd,hx];(try(and_intros<;>first|exact .pure rfl|exact .eq rfl|exact .fz rfl (by simp only[Bc,Rc])))))(cm:ab.Nodup:=by decide)(hn:n0<=ab.length:=by decide)(bZ:∀ i,i<n0->ab.getD i 0=i:=by decide):aR n0 σ ⟨ax l,co⟩:=aR.se ab snap (h1 x) (h2 x) cm hn bZ
theorem Xw{n0:Nat}{σ:St}{v res:AV}{aL:List Ob}{e:Prop}(snap:Bool)(ab:List Nat)(x:e)(h1:e->jU (a9 σ.aa.length ab) σ.aa ab aL:=by(intro hx;simp only[Oc,simprocAttr,hx]))(h2:bd σ (kept ab aL) (a9 σ.aa.length ab) snap res v:=by first|exact .pure rfl|exact .eq rfl|exact .fz rfl (by simp only[Bc,Rc]))(cm:ab.Nodup:=by decide)(hn:n0<=ab.length:=by decide)(bZ:∀ i,i<n0->ab.getD i 0=i:=by decide):jV n0 σ v res aL:=Nb ab snap (h1 x) h2 cm hn bZ
theorem Xn(ab:List Nat){P:Program}{σ:St}{f:FuncId}{args cE:List AV}{aV:List Ob}{dst:Option Tmp}{K:St->Prop}{res:AV}{bD:List Ob}(h:ao P f cE aV res bD)(hK:K (({ σ with aa:=dv σ.aa ab (bD.map (bf (a9 σ.aa.length ab))) }:St).put dst (aG (a9 σ.aa.length ab) res)))(cm:ab.Nodup:=by decide)(ho:pP (a9 σ.aa.length ab) σ.aa ab aV:=by((repeat'(first|exact trivial|with_reducible refine And.intro ?_ ?_|refine And.intro ?_ ?_))<;>first|rfl|(rw[s7];rfl)|(rw[s8];rfl)|(rw[sW];rfl)|(rw[AP];rfl)))(ha:kA (bd σ (·∈ab) (a9 σ.aa.length ab) false) cE args:=by((repeat'(first|exact trivial|refine And.intro ?_ ?_))<;>(first|exact .pure rfl|exact .eq rfl|exact .fz rfl (by simp only[Bc,Rc])))):mC P f args dst K σ:=rh ab h cm ho ha hK
def Pw:=U2 @GK @GL @xR @xS @dS.eq_1 @dm.eq_1
theorem Va{p q e:Prop}(x:e)(h:q)(k:e->q->p:=by first|(intro hx hq;(try with_reducible intro K hK);(first|((first|refine rr ?_|refine np ?_);intro K hK;simp(disch:=omega)only[Ac,↓Pc,simprocAttr,hx];show _)|(with_reducible refine gO ?_;simp(disch:=omega)only[Ac,↓Pc,simprocAttr,hx];show _)|(refine hK _ ?_;clear hK K)|refine Wz rfl ?_|refine Xk ?_|refine Xb ?_|refine Sq.n _ ?_|refine Sq.e _ _ rfl ?_|refine Bq.n _ ?_|refine Bq.x _ ?_|refine Bq.e _ _ rfl ?_|refine hn _ ?_|refine he _ _ rfl ?_|(simp only[Qc,Kc,simprocAttr];show _)|(with_reducible refine And.intro ?_ ?_;(focus (clear hq;first|omega|with_reducible rfl|exact trivial))));(repeat(first|((first|refine rr ?_|refine np ?_);intro K hK;simp(disch:=omega)only[Ac,↓Pc,simprocAttr,hx];show _)|(with_reducible refine gO ?_;simp(disch:=omega)only[Ac,↓Pc,simprocAttr,hx];show _)|(refine hK _ ?_;clear hK K)|refine Wz rfl ?_|refine Xk ?_|refine Xb ?_|refine Sq.n _ ?_|refine Sq.e _ _ rfl ?_|refine Bq.n _ ?_|refine Bq.x _ ?_|refine Bq.e _ _ rfl ?_|refine hn _ ?_|refine he _ _ rfl ?_|(simp only[Qc,Kc,simprocAttr];show _)|(with_reducible refine And.intro ?_ ?_;(focus (clear hq;first|omega|with_reducible rfl|exact trivial)))));(try revert hK);(try revert K);exact hq)|fail):p:=k x h
theorem Vb{p q e:Prop}(x:e)(h:q)(k:e->q->p:=by first|(intro hx hq;(try with_reducible intro K hK);(first|((first|refine rr ?_|refine np ?_);intro K hK;simp(disch:=omega)only[Ac,↓Pc,simprocAttr,hx];show _)|(with_reducible refine gO ?_;simp(disch:=omega)only[Ac,↓Pc,simprocAttr,hx];show _)|(refine hK _ ?_;clear hK K)|refine Wz rfl ?_|refine Xk ?_|refine Xb ?_|refine Sq.n _ ?_|refine Sq.e _ _ rfl ?_|refine Bq.n _ ?_|refine Bq.x _ ?_|refine Bq.e _ _ rfl ?_|refine hn _ ?_|refine he _ _ rfl ?_|refine aC _ _ rfl ?_|refine cy _ _ rfl ?_|refine lg _ _ rfl ?_|refine nK _ _ rfl ?_|(simp only[Qc,Kc,simprocAttr];show _)|(with_reducible refine And.intro ?_ ?_;(focus (clear hq;first|omega|with_reducible rfl|exact trivial))));(repeat(first|((first|refine rr ?_|refine np ?_);intro K hK;simp(disch:=omega)only[Ac,↓Pc,simprocAttr,hx];show _)|(with_reducible refine gO ?_;simp(disch:=omega)only[Ac,↓Pc,simprocAttr,hx];show _)|(refine hK _ ?_;clear hK K)|refine Wz rfl ?_|refine Xk ?_|refine Xb ?_|refine Sq.n _ ?_|refine Sq.e _ _ rfl ?_|refine Bq.n _ ?_|refine Bq.x _ ?_|refine Bq.e _ _ rfl ?_|refine hn _ ?_|refine he _ _ rfl ?_|refine aC _ _ rfl ?_|refine cy _ _ rfl ?_|refine lg _ _ rfl ?_|refine nK _ _ rfl ?_|(simp only[Qc,Kc,simprocAttr];show _)|(with_reducible refine And.intro ?_ ?_;(focus (clear hq;first|omega|with_reducible rfl|exact trivial)))));(try revert hK);(try revert K);exact hq)|fail):p:=k x h
theorem Vc{p q e t:Prop}(x:e)(c:t)(h:q)(k:e->t->q->p:=by first|(intro hx hc hq;(try with_reducible intro K hK);(first|((first|refine rr ?_|refine np ?_|refine rb ?_|refine uN ?_|refine ra ?_|refine uO ?_);intro K hK;simp(disch:=omega)only[Ac,↓Pc,simprocAttr,hx];show _)|(with_reducible refine gO ?_;simp(disch:=omega)only[Ac,↓Pc,simprocAttr,hx];show _)|(refine hK _ ?_;clear hK K)|refine Wz rfl ?_|refine Xk ?_|refine Xb ?_|refine Sq.n _ ?_|refine Sq.e _ _ rfl ?_|refine Bq.n _ ?_|refine Bq.x _ ?_|refine Bq.e _ _ rfl ?_|refine hn _ ?_|refine he _ _ rfl ?_|(simp only[Qc,Kc,simprocAttr];show _)|(with_reducible refine And.intro ?_ ?_;(focus (clear hq;first|omega|with_reducible rfl|exact trivial)))|(apply ba;(focus(repeat(first|exact hc|exact hc.1|have hc:=hc.2)));rfl;rfl)|(apply bg;(focus(repeat(first|exact hc|exact hc.1|have hc:=hc.2)));rfl;rfl));(repeat(first|((first|refine rr ?_|refine np ?_|refine rb ?_|refine uN ?_|refine ra ?_|refine uO ?_);intro K hK;simp(disch:=omega)only[Ac,↓Pc,simprocAttr,hx];show _)|(with_reducible refine gO ?_;simp(disch:=omega)only[Ac,↓Pc,simprocAttr,hx];show _)|(refine hK _ ?_;clear hK K)|refine Wz rfl ?_|refine Xk ?_|refine Xb ?_|refine Sq.n _ ?_|refine Sq.e _ _ rfl ?_|refine Bq.n _ ?_|refine Bq.x _ ?_|refine Bq.e _ _ rfl ?_|refine hn _ ?_|refine he _ _ rfl ?_|(simp only[Qc,Kc,simprocAttr];show _)|(with_reducible refine And.intro ?_ ?_;(focus (clear hq;first|omega|with_reducible rfl|exact trivial)))|(apply ba;(focus(repeat(first|exact hc|exact hc.1|have hc:=hc.2)));rfl;rfl)|(apply bg;(focus(repeat(first|exact hc|exact hc.1|have hc:=hc.2)));rfl;rfl)));(try revert hK);(try revert K);exact hq)|fail):p:=k x c h
theorem Vd{p q e t:Prop}(x:e)(c:t)(h:q)(k:e->t->q->p:=by first|(intro hx hc hq;(try with_reducible intro K hK);(first|((first|refine rr ?_|refine np ?_|refine rb ?_|refine uN ?_|refine ra ?_|refine uO ?_);intro K hK;simp(disch:=omega)only[Ac,↓Pc,simprocAttr,hx];show _)|(with_reducible refine gO ?_;simp(disch:=omega)only[Ac,↓Pc,simprocAttr,hx];show _)|(refine hK _ ?_;clear hK K)|refine Wz rfl ?_|refine Xk ?_|refine Xb ?_|refine Sq.n _ ?_|refine Sq.e _ _ rfl ?_|refine Bq.n _ ?_|refine Bq.x _ ?_|refine Bq.e _ _ rfl ?_|refine hn _ ?_|refine he _ _ rfl ?_|refine aC _ _ rfl ?_|refine cy _ _ rfl ?_|refine lg _ _ rfl ?_|refine nK _ _ rfl ?_|(simp only[Qc,Kc,simprocAttr];show _)|(with_reducible refine And.intro ?_ ?_;(focus (clear hq;first|omega|with_reducible rfl|exact trivial)))|(apply ba;(focus(repeat(first|exact hc|exact hc.1|have hc:=hc.2)));rfl;rfl)|(apply bg;(focus(repeat(first|exact hc|exact hc.1|have hc:=hc.2)));rfl;rfl));(repeat(first|((first|refine rr ?_|refine np ?_|refine rb ?_|refine uN ?_|refine ra ?_|refine uO ?_);intro K hK;simp(disch:=omega)only[Ac,↓Pc,simprocAttr,hx];show _)|(with_reducible refine gO ?_;simp(disch:=omega)only[Ac,↓Pc,simprocAttr,hx];show _)|(refine hK _ ?_;clear hK K)|refine Wz rfl ?_|refine Xk ?_|refine Xb ?_|refine Sq.n _ ?_|refine Sq.e _ _ rfl ?_|refine Bq.n _ ?_|refine Bq.x _ ?_|refine Bq.e _ _ rfl ?_|refine hn _ ?_|refine he _ _ rfl ?_|refine aC _ _ rfl ?_|refine cy _ _ rfl ?_|refine lg _ _ rfl ?_|refine nK _ _ rfl ?_|(simp only[Qc,Kc,simprocAttr];show _)|(with_reducible refine And.intro ?_ ?_;(focus (clear hq;first|omega|with_reducible rfl|exact trivial)))|(apply ba;(focus(repeat(first|exact hc|exact hc.1|have hc:=hc.2)));rfl;rfl)|(apply bg;(focus(repeat(first|exact hc|exact hc.1|have hc:=hc.2)));rfl;rfl)));(try revert hK);(try revert K);exact hq)|fail):p:=k x c h
theorem V2{p q r e:Prop}(x:e)(h:q)(h2:r)(k:e->q->r->p/\True:=by first|(intro hx hq hr;refine And.intro ?_ ?_;(try with_reducible intro K hK);(with_reducible refine gS (fun bq=>?_) (fun bq=>?_));(focus (have hb:=bq;(try simp only[ta,simprocAttr]at hb);all_goals(simp(disch:=omega)only[Ac,↓Pc,simprocAttr,hx,bq]);all_goals(clear bq;(try revert hK);(try revert K);revert hb;exact hq)));(focus (have hb:=bq;(try simp only[ta,simprocAttr]at hb);all_goals(simp(disch:=omega)only[Ac,↓Pc,simprocAttr,hx,bq]);all_goals(clear bq;(try revert hK);(try revert K);revert hb;exact hr)));((try have _:True:=hq);(try have _:True:=hr);trivial))|fail):p:=(k x h h2).1
theorem VD{p q r:Prop}(h:q)(h2:r)(k:q->r->p:=by first|(intro hq hr;(try with_reducible intro K hK);with_reducible refine And.intro ?_ ?_;(focus ((try clear hK K);(try revert hK);(try revert K);exact hq));(focus ((try clear hK K);(try revert hK);(try revert K);exact hr)))|fail):p:=k h h2
def O9(n m:Int)(hm:rL m):ao Tryd.prog 55 [UX n,UX m] [] (UX (p9 n m)) []:=by
 unfold rL at hm;refine ao.aX 16 0 [.tmp 4] Tryd.func55 ?_;repeat'(first|(refine Xr X0 ?_;intro K hK)|(refine hK _ ?_;clear hK K)|(refine Xi ?_ ?_<;>try intro ht)|refine Xz ?_|(refine Xe ?_;first|refine aY rfl ?_|refine Xl ?_ ?_)|refine Xd ?_ ?_|exact Xx|fail)
 ·rw[p9,if_pos ht]
 ·have:=BL n m z8;omega
 ·rw[p9,if_neg z8,(BL n m z8).1 ht]
 ·rw[p9,if_neg z8,(BL n m z8).2.1 ht]
def O'(xs:List Int):ao Tryd.prog 4 [.tree 1 (ints xs)] [] (.lit (.bool (decide (xs.length<=400)))) []:=by
 refine ao.aX 6 0 [.tmp 2] Tryd.func4 ?_;repeat'(first|(refine Xr X0 ?_;intro K hK)|(refine hK _ ?_;clear hK K)|refine Xz ?_|(refine Xe ?_;first|refine aY rfl ?_|refine Xl ?_ ?_)|fail)
 ·congr 3;simp;omega
def BM(L:List Int)(k:Nat)(n:Int)(hn:rL n)(hk:k<=L.length)(hL:L.length<1000000):ao Tryd.prog 30 [.ptr 0 0 0,UX n] [.var [.tree 1 (ints L),UX k]] (UX (fN L k n))
  [.var [.tree 1 (ints L),UX (iw L k)]]:=by
 refine ao.aX 35 1 [.tmp 4] Tryd.func30 ?_;repeat'(first|(refine Xq X0 ?_;intro K hK)|refine Xo X0 ?_|refine Xc (O9 _ _ hn) ?_|(refine hK _ ?_;clear hK K)|(refine Xi ?_ ?_<;>try intro ht)|refine Xz ?_|(refine Xe ?_;first|refine aY rfl ?_|refine Xl ?_ ?_)|refine Xd ?_ ?_|exact Xx|fail)
 ·rw[iw,if_pos z8]
 ·rw[fN,if_pos z8]
 ·rw[iw,if_neg z8,sP];rfl
 ·rw[fN,if_neg z8,show((k:Int)+1-1).toNat=k by omega]
def Pa(L:List Int):ao Tryd.prog 7 [.tree 1 (ints L)] [] (.ptr 0 0 0) [.var [.tree 1 (ints L),UX (0:Nat)]]:=by
 refine ao.aX 6 0 [.tmp 2] Tryd.func7 ?_;refine Vb X0 ?_;rw[show(0:Int)=((0:Nat):Int) from rfl];exact fZ rfl Eb rfl
def BN(a b:List Int)(hl:a.length<9223372036854775808):ao Tryd.prog 13 [.tree 1 (ints a),.tree 1 (ints b)] [] (.lit (.bool (decide (a=b)))) []:=by
 refine ao.aX 26 0 [.tmp 4] Tryd.func13 ?_;repeat'(first|(refine Xr X0 ?_;intro K hK)|(refine hK _ ?_;clear hK K)|(refine Xi ?_ ?_<;>try intro ht)|refine Xz ?_|(refine Xe ?_;first|refine aY rfl ?_|refine Xl ?_ ?_)|fail)
 ·congr 2;simp;intro h;subst h;exact absurd rfl ht
 ·refine bu (λk:Nat=>(⟨ax [(0,.tree 1 (ints a)),(1,.tree 1 (ints b)),(5,UX k)],[]⟩:St)) (λk=>k<=a.length/\(a=b↔a.drop k=b.drop k)) (λk=>a.length-k) 0 ⟨bk _,Eb⟩ (Xv X0) ?_;intro k ⟨hk,hc⟩ Ql aq aC;repeat'(first|(refine Xr X0 ?_;intro K hK)|(refine hK _ ?_;clear hK K)|(refine Xi ?_ ?_<;>try intro ht)|refine Xz ?_|refine Xh ?_|(refine Xe ?_;first|refine aY rfl ?_|refine Xl ?_ ?_)|refine Xd ?_ ?_|exact Xx|fail)
  ·congr 2;simp only[decide_eq_false_iff_not,eq_comm (a:=false)];rw[hc,di _ _ 0 z8,di b _ 0 z8];simp only[List.cons.injEq];exact λh=>ht h.1
  ·refine aq _ (k+1) ⟨z8,?_⟩ z8 (Xv X0);rw[hc,di _ _ 0 z8,di b _ 0 z8,ht];simp
  ·congr 2;rw[show a=b by rw[hc,dF z8,dF z8]];simp
def BO(n:Int):ao Tryd.prog 60 [UX n] [] (.lit (.bool (iy n))) []:=by
 refine ao.aX 13 0 [.tmp 2] Tryd.func60 ?_;repeat'(first|(refine Xr X0 ?_;intro K hK)|(refine hK _ ?_;clear hK K)|(refine Xg X0 ?_ ?_<;>try intro hb)|refine Xz ?_|(refine Xe ?_;first|refine aY rfl ?_|refine Xl ?_ ?_)|fail)
 all_goals(refine congrArg (λb=>AV.lit (Value.bool b)) ?_;rw[jL];simp only[iy,decide_eq_true_eq,beq_iff_eq,bne_iff_ne,bb,jn,fU,decide_eq_false_iff_not,iQ,reduceCtorEq,iff_true,iff_false,true_iff,false_iff,eq_self];omega)
def BP(n:Int):ao Tryd.prog 51 [UX n] [] (.lit (.bool (iy n))) []:=by
 refine ao.aX 13 0 [.tmp 2] Tryd.func51 ?_;repeat'(first|(refine Xr X0 ?_;intro K hK)|(refine hK _ ?_;clear hK K)|(refine Xg X0 ?_ ?_<;>try intro hb)|refine Xz ?_|(refine Xe ?_;first|refine aY rfl ?_|refine Xl ?_ ?_)|fail)
 all_goals(refine congrArg (λb=>AV.lit (Value.bool b)) ?_;rw[jL];simp only[iy,decide_eq_true_eq,beq_iff_eq,bne_iff_ne,bb,jn,fU,decide_eq_false_iff_not,iQ,reduceCtorEq,iff_true,iff_false,true_iff,false_iff,eq_self];omega)
def BQ(m:ae)(n:Int):ao Tryd.prog 59 [.agg (aP m),UX n] [] (.lit (.bool (gX m.rules n))) []:=by
 refine ao.aX 13 0 [.tmp 4] Tryd.func59 ?_;repeat'(first|(refine Xr @aP.eq_1 ?_;intro K hK)|(refine hK _ ?_;clear hK K)|(refine Xg @aP.eq_1 ?_ ?_<;>try intro hb)|refine Xz ?_|(refine Xe ?_;first|refine aY rfl ?_|refine Xl ?_ ?_)|fail)
 all_goals(refine congrArg (λb=>AV.lit (Value.bool b)) ?_;rw[jL];simp only[gX,decide_eq_true_eq,beq_iff_eq,bne_iff_ne,bb,jn,fU,decide_eq_false_iff_not,iQ,reduceCtorEq,iff_true,iff_false,true_iff,false_iff,eq_self];omega)
def BR(m:ae)(n:Int):ao Tryd.prog 50 [.agg (aP m),UX n] [] (.lit (.bool (gX m.rules n))) []:=by
 refine ao.aX 13 0 [.tmp 4] Tryd.func50 ?_;repeat'(first|(refine Xr @aP.eq_1 ?_;intro K hK)|(refine hK _ ?_;clear hK K)|(refine Xg @aP.eq_1 ?_ ?_<;>try intro hb)|refine Xz ?_|(refine Xe ?_;first|refine aY rfl ?_|refine Xl ?_ ?_)|fail)
 all_goals(refine congrArg (λb=>AV.lit (Value.bool b)) ?_;rw[jL];simp only[gX,decide_eq_true_eq,beq_iff_eq,bne_iff_ne,bb,jn,fU,decide_eq_false_iff_not,iQ,reduceCtorEq,iff_true,iff_false,true_iff,false_iff,eq_self];omega)
def Pb(n:Int):ao Tryd.prog 48 [UX n] [] (.lit (.bool false)) []:=by
 refine ao.aX 6 0 [.tmp 2] Tryd.func48 ?_;repeat'(first|(refine Xr @bne_self_eq_false.{0} ?_;intro K hK)|(refine hK _ ?_;clear hK K)|refine Xz ?_|(refine Xe ?_;first|refine aY rfl ?_|refine Xl ?_ ?_)|exact Xx|fail)
def yx(a b:Int):ao Tryd.prog 24 [UX a,UX b] [] (UX (eO a b)) []:=by
 refine ao.aX 20 0 [.tmp 4] Tryd.func24 ?_;repeat'(first|(refine Xq X0 ?_;intro K hK)|refine Xo X0 ?_|refine Xc (Pb _) ?_|(refine hK _ ?_;clear hK K)|(refine Xi ?_ ?_<;>try intro ht)|refine Xz ?_|(refine Xe ?_;first|refine aY rfl ?_|refine Xl ?_ ?_)|exact Xx|fail)
 all_goals(unfold eO;congr 2;(repeat' split)<;>omega)
def BS(l:List Int)(hl:l.length<1000000):ao Tryd.prog 23 [.tree 1 (ints l)] [] (UX (j8 l)) []:=by
 generalize az:j8 l=res;refine ao.aX 18 0 [.tmp 2] Tryd.func23 ?_;repeat'(first|(refine Xr X0 ?_;intro K hK)|(refine hK _ ?_;clear hK K)|refine Xz ?_|fail)
 refine bu (λk:Nat=>(⟨ax [(3,UX 0),(6,.tree 1 (ints l)),(7,UX l.length),(8,UX k)],[]⟩:St)) (λk=>k<=l.length/\j8 (l.drop k)=res) (λk=>l.length-k) 0 ⟨bk _,az⟩ (Xv X0) ?_;rintro k⟨hk,hr⟩Ql aq aC;repeat'(first|(refine Xr X0 ?_;intro K hK)|(refine hK _ ?_;clear hK K)|(refine Xi ?_ ?_<;>try intro ht)|refine Xz ?_|refine Xh ?_|(refine Xe ?_;first|refine aY rfl ?_|refine Xl ?_ ?_)|refine Xd ?_ ?_|exact Xx|fail)
 ·rw[di _ _ 0 z8,j8,if_pos (by assumption)]at hr;rw[hr]
 ·rw[di _ _ 0 z8,j8,if_neg z8]at hr;exact aq _ (k+1) ⟨z8,hr⟩ z8 (Xv X0)
 ·rw[dF z8,j8]at hr;rw[hr]
def Pe(m:ae)(c o:Int):ao Tryd.prog 64 [.agg (aP m),UX c,UX o] [] (.lit (.bool (gn m c o))) []:=by
 refine ao.aX 30 0 [.tmp 6] Tryd.func64 ?_;repeat'(first|(refine Xr (X4 @aP.eq_1 @cL @fL @cu.eq_1) ?_;intro K hK)|(refine hK _ ?_;clear hK K)|(refine Xg (X4 @aP.eq_1 @cL @fL @cu.eq_1) ?_ ?_<;>try intro hb)|refine Xz ?_|(refine Xe ?_;first|refine aY rfl ?_|refine Xl ?_ ?_)|refine Xd ?_ ?_|exact Xx|fail)
 all_goals(refine congrArg (λb=>AV.lit (Value.bool b)) ?_;rw[jL];simp only[gn,decide_eq_true_eq,beq_iff_eq,bne_iff_ne,bb,jn,fU,decide_eq_false_iff_not,iQ,reduceCtorEq,iff_true,iff_false,true_iff,false_iff,eq_self];omega)
def Pf(m:ae)(c o:Int):ao Tryd.prog 78 [.agg (aP m),UX c,UX o] [] (.lit (.bool (gn m c o))) []:=by
 refine ao.aX 30 0 [.tmp 6] Tryd.func78 ?_;repeat'(first|(refine Xr (X4 @aP.eq_1 @cL @fL @cu.eq_1) ?_;intro K hK)|(refine hK _ ?_;clear hK K)|(refine Xg (X4 @aP.eq_1 @cL @fL @cu.eq_1) ?_ ?_<;>try intro hb)|refine Xz ?_|(refine Xe ?_;first|refine aY rfl ?_|refine Xl ?_ ?_)|refine Xd ?_ ?_|exact Xx|fail)
 all_goals(refine congrArg (λb=>AV.lit (Value.bool b)) ?_;rw[jL];simp only[gn,decide_eq_true_eq,beq_iff_eq,bne_iff_ne,bb,jn,fU,decide_eq_false_iff_not,iQ,reduceCtorEq,iff_true,iff_false,true_iff,false_iff,eq_self];omega)
def dC{α:Type}(p:α->Bool):Nat->List α->Int
 |_,[]=>-1
 |k,x::r=>if p x=true then(k:Int) else dC p (k+1) r
def vr{α:Type}(p:α->Bool):∀ (l:List α) (k:Nat),decide (0<=dC p k l)=l.any p
 |[],k=>rfl
 |x::r,k=>by
  rw[dC,List.any_cons];split
  ·rename_i h;rw[h];simp
  ·rename_i h;rw[vr p r (k+1)];simp_all
def Pg(l:List (List cD))(g:FuncId)(bC:List AV)(aa:List Ob)(p:(List cD)->Bool)(hl:l.length<9223372036854775808)(hg:∀ x∈l,ao Tryd.prog g ([.tree 6 (rowsOf cf x)]++bC) aa (.lit (.bool (p x))) aa):
  ao Tryd.prog 79 [.tree 1 (rowsOf cu l),.fn g bC] aa (UX (dC p 0 l)) aa:=by
 generalize az:dC p 0 l=res;refine ao.aX 19 aa.length [.tmp 4] Tryd.func79 ?_;refine Vb (X3 @cL @fL @cu.eq_1) ?_;refine bu (λk:Nat=>(⟨ax [(0,.tree 1 (rowsOf cu l)),(1,.fn g bC),(7,UX l.length),(8,UX k)],aa⟩:St)) (λk=>k<=l.length/\dC p k (l.drop k)=res) (λk=>l.length-k) 0 ⟨bk _,az⟩ (Xv X0) ?_;rintro k⟨hk,hr⟩Ql aq aC;by_cases aQ:k<l.length
 ·have hx:=hg _ (aO (d:=default) aQ);have hd:=di l k default aQ;generalize bX:l.getD k default=x at *;rw[hd,dC]at hr;simp only[kR,g9,cu]at hx;((repeat'(first|refine Vb (X4 @cL @fL @cu.eq_1 @bX) ?_|(refine Xi ?_ ?_<;>try intro ht)|exact Xx|fail))<;>try with_reducible intro K hK)
  refine kC hx (aH _) ?_;((try revert hK K);(repeat'(first|refine Vb (X3 @cL @fL @cu.eq_1) ?_|(refine Xi ?_ ?_<;>try intro ht)|fail)))
  ·rw[if_pos (by assumption)]at hr;rw[<- hr];exact fZ rfl (aH _) rfl
  ·rw[if_neg (by simp_all)]at hr;exact aq _ (k+1) ⟨z8,hr⟩ z8 (Xv X0)
 ·((repeat'(first|refine Vb (X3 @cL @fL @cu.eq_1) ?_|(refine Xi ?_ ?_<;>try intro ht)|exact Xx|fail)))
  rw[dF z8,dC]at hr;rw[<- hr];exact fZ rfl (aH _) rfl
def Ph(l:List (List cD))(g:FuncId)(bC:List AV)(aa:List Ob)(p:(List cD)->Bool)(hl:l.length<9223372036854775808)(hg:∀ x∈l,ao Tryd.prog g ([.tree 6 (rowsOf cf x)]++bC) aa (.lit (.bool (p x))) aa):
  ao Tryd.prog 57 [.tree 1 (rowsOf cu l),.fn g bC] aa (.lit (.bool (l.any p))) aa:=by
 rw[<- vr p l 0];refine ao.aX 9 aa.length [.tmp 4] Tryd.func57 ?_;((refine Vb (X3 @cL @fL @cu.eq_1) ?_)<;>try with_reducible intro K hK)
 refine kC (Pg l g bC aa p hl hg) (aH _) ?_;((try revert hK K);(refine Vb (X3 @cL @fL @cu.eq_1) ?_))
 exact fZ rfl (aH _) rfl
def Pj(l:List cD)(g:FuncId)(bC:List AV)(aa:List Ob)(p:cD->Bool)(hl:l.length<9223372036854775808)(hg:∀ x∈l,ao Tryd.prog g ([.agg (cf x)]++bC) aa (.lit (.bool (p x))) aa):
  ao Tryd.prog 58 [.tree 6 (rowsOf cf l),.fn g bC] aa (UX (dC p 0 l)) aa:=by
 generalize az:dC p 0 l=res;refine ao.aX 19 aa.length [.tmp 4] Tryd.func58 ?_;refine Vb (X3 @cL @fL @cf.eq_1) ?_;refine bu (λk:Nat=>(⟨ax [(0,.tree 6 (rowsOf cf l)),(1,.fn g bC),(7,UX l.length),(8,UX k)],aa⟩:St)) (λk=>k<=l.length/\dC p k (l.drop k)=res) (λk=>l.length-k) 0 ⟨bk _,az⟩ (Xv X0) ?_;rintro k⟨hk,hr⟩Ql aq aC;by_cases aQ:k<l.length
 ·have hx:=hg _ (aO (d:=default) aQ);have hd:=di l k default aQ;generalize bX:l.getD k default=x at *;rw[hd,dC]at hr;simp only[kR,g9,cf]at hx;((repeat'(first|refine Vb (X4 @cL @fL @cf.eq_1 @bX) ?_|(refine Xi ?_ ?_<;>try intro ht)|exact Xx|fail))<;>try with_reducible intro K hK)
  refine kC hx (aH _) ?_;((try revert hK K);(repeat'(first|refine Vb (X3 @cL @fL @cf.eq_1) ?_|(refine Xi ?_ ?_<;>try intro ht)|fail)))
  ·rw[if_pos (by assumption)]at hr;rw[<- hr];exact fZ rfl (aH _) rfl
  ·rw[if_neg (by simp_all)]at hr;exact aq _ (k+1) ⟨z8,hr⟩ z8 (Xv X0)
 ·((repeat'(first|refine Vb (X3 @cL @fL @cf.eq_1) ?_|(refine Xi ?_ ?_<;>try intro ht)|exact Xx|fail)))
  rw[dF z8,dC]at hr;rw[<- hr];exact fZ rfl (aH _) rfl
def Pk(l:List cD)(g:FuncId)(bC:List AV)(aa:List Ob)(p:cD->Bool)(hl:l.length<9223372036854775808)(hg:∀ x∈l,ao Tryd.prog g ([.agg (cf x)]++bC) aa (.lit (.bool (p x))) aa):
  ao Tryd.prog 32 [.tree 6 (rowsOf cf l),.fn g bC] aa (.lit (.bool (l.any p))) aa:=by
 rw[<- vr p l 0];refine ao.aX 9 aa.length [.tmp 4] Tryd.func32 ?_;((refine Vb (X3 @cL @fL @cf.eq_1) ?_)<;>try with_reducible intro K hK)
 refine kC (Pj l g bC aa p hl hg) (aH _) ?_;((try revert hK K);(refine Vb (X3 @cL @fL @cf.eq_1) ?_))
 exact fZ rfl (aH _) rfl
def Pm(l:List Ct)(g:FuncId)(bC:List AV)(aa:List Ob)(p:Ct->Bool)(hl:l.length<9223372036854775808)(hg:∀ x∈l,ao Tryd.prog g ([.agg (gy x)]++bC) aa (.lit (.bool (p x))) aa):
  ao Tryd.prog 63 [.tree 4 (rowsOf gy l),.fn g bC] aa (UX (dC p 0 l)) aa:=by
 generalize az:dC p 0 l=res;refine ao.aX 19 aa.length [.tmp 4] Tryd.func63 ?_;refine Vb (X3 @cL @fL @gy.eq_1) ?_;refine bu (λk:Nat=>(⟨ax [(0,.tree 4 (rowsOf gy l)),(1,.fn g bC),(7,UX l.length),(8,UX k)],aa⟩:St)) (λk=>k<=l.length/\dC p k (l.drop k)=res) (λk=>l.length-k) 0 ⟨bk _,az⟩ (Xv X0) ?_;rintro k⟨hk,hr⟩Ql aq aC;by_cases aQ:k<l.length
 ·have hx:=hg _ (aO (d:=default) aQ);have hd:=di l k default aQ;generalize bX:l.getD k default=x at *;rw[hd,dC]at hr;simp only[kR,g9,gy]at hx;((repeat'(first|refine Vb (X4 @cL @fL @gy.eq_1 @bX) ?_|(refine Xi ?_ ?_<;>try intro ht)|exact Xx|fail))<;>try with_reducible intro K hK)
  refine kC hx (aH _) ?_;((try revert hK K);(repeat'(first|refine Vb (X3 @cL @fL @gy.eq_1) ?_|(refine Xi ?_ ?_<;>try intro ht)|fail)))
  ·rw[if_pos (by assumption)]at hr;rw[<- hr];exact fZ rfl (aH _) rfl
  ·rw[if_neg (by simp_all)]at hr;exact aq _ (k+1) ⟨z8,hr⟩ z8 (Xv X0)
 ·((repeat'(first|refine Vb (X3 @cL @fL @gy.eq_1) ?_|(refine Xi ?_ ?_<;>try intro ht)|exact Xx|fail)))
  rw[dF z8,dC]at hr;rw[<- hr];exact fZ rfl (aH _) rfl
def Pn(l:List Ct)(g:FuncId)(bC:List AV)(aa:List Ob)(p:Ct->Bool)(hl:l.length<9223372036854775808)(hg:∀ x∈l,ao Tryd.prog g ([.agg (gy x)]++bC) aa (.lit (.bool (p x))) aa):
  ao Tryd.prog 37 [.tree 4 (rowsOf gy l),.fn g bC] aa (.lit (.bool (l.any p))) aa:=by
 rw[<- vr p l 0];refine ao.aX 9 aa.length [.tmp 4] Tryd.func37 ?_;((refine Vb (X3 @cL @fL @gy.eq_1) ?_)<;>try with_reducible intro K hK)
 refine kC (Pm l g bC aa p hl hg) (aH _) ?_;((try revert hK K);(refine Vb (X3 @cL @fL @gy.eq_1) ?_))
 exact fZ rfl (aH _) rfl
def Po(l:List Int)(g:FuncId)(bC:List AV)(aa:List Ob)(p:Int->Bool)(hl:l.length<9223372036854775808)(hg:∀ x∈l,ao Tryd.prog g ([UX x]++bC) aa (.lit (.bool (p x))) aa):
  ao Tryd.prog 80 [.tree 1 (ints l),.fn g bC] aa (UX (dC p 0 l)) aa:=by
 generalize az:dC p 0 l=res;refine ao.aX 19 aa.length [.tmp 4] Tryd.func80 ?_;refine Vb @jm ?_;refine bu (λk:Nat=>(⟨ax [(0,.tree 1 (ints l)),(1,.fn g bC),(7,UX l.length),(8,UX k)],aa⟩:St)) (λk=>k<=l.length/\dC p k (l.drop k)=res) (λk=>l.length-k) 0 ⟨bk _,az⟩ (Xv X0) ?_;rintro k⟨hk,hr⟩Ql aq aC;by_cases aQ:k<l.length
 ·have hx:=hg _ (aO (d:=0) aQ);have hd:=di l k 0 aQ;generalize bX:l.getD k 0=x at *;rw[hd,dC]at hr;simp only[kR,g9]at hx;((repeat'(first|refine Vb (X2 @jm @bX) ?_|(refine Xi ?_ ?_<;>try intro ht)|exact Xx|fail))<;>try with_reducible intro K hK)
  refine kC hx (aH _) ?_;((try revert hK K);(repeat'(first|refine Vb @jm ?_|(refine Xi ?_ ?_<;>try intro ht)|fail)))
  ·rw[if_pos (by assumption)]at hr;rw[<- hr];exact fZ rfl (aH _) rfl
  ·rw[if_neg (by simp_all)]at hr;exact aq _ (k+1) ⟨z8,hr⟩ z8 (Xv X0)
 ·((repeat'(first|refine Vb @jm ?_|(refine Xi ?_ ?_<;>try intro ht)|exact Xx|fail)))
  rw[dF z8,dC]at hr;rw[<- hr];exact fZ rfl (aH _) rfl
def Pp(l:List Int)(g:FuncId)(bC:List AV)(aa:List Ob)(p:Int->Bool)(hl:l.length<9223372036854775808)(hg:∀ x∈l,ao Tryd.prog g ([UX x]++bC) aa (.lit (.bool (p x))) aa):
  ao Tryd.prog 61 [.tree 1 (ints l),.fn g bC] aa (.lit (.bool (l.any p))) aa:=by
 rw[<- vr p l 0];refine ao.aX 9 aa.length [.tmp 4] Tryd.func61 ?_;((refine Vb @jm ?_)<;>try with_reducible intro K hK)
 refine kC (Po l g bC aa p hl hg) (aH _) ?_;((try revert hK K);(refine Vb @jm ?_))
 exact fZ rfl (aH _) rfl
def nL:gg Tryd.prog 63 2:=gg.arr (kt:=66) (et:=26) (e:=3) (by kernel_rfl) (by kernel_rfl) US (by kernel_rfl) (by kernel_rfl) (by kernel_rfl)
def lh:gg Tryd.prog 99 4:=gg.arr (kt:=103) (et:=68) (e:=3) (by kernel_rfl) (by kernel_rfl) US (by kernel_rfl) (by kernel_rfl) (by kernel_rfl)
end T

