import Derived.Test.YtibijngmebpmmaaAmI
import Derived.Test.YtibijngmebpmmaaCS
import Derived.Test.YtibijngmebpmmaaProg
import Derived.KernelRfl
set_option linter.unusedVariables false
set_option linter.unusedSimpArgs false
set_option linter.unnecessarySimpa false
open Go Go.Am Go.Proofs
namespace T
theorem ty2:ty Try.prog 2 = { kind:=5,size:=1,bytes:=8,elem:=0,len:=0,zero:=some [.int .i64 0],flds:=[] }:=by kernel_rfl
theorem ty3:ty Try.prog 3 = { kind:=5,size:=1,bytes:=8,elem:=0,len:=0,zero:=some [.int .i64 0],flds:=[] }:=by kernel_rfl
theorem ty4:ty Try.prog 4 = { kind:=6,size:=1,bytes:=1,elem:=0,len:=0,zero:=some [.bool false],flds:=[] }:=by kernel_rfl
theorem ty5:ty Try.prog 5 = { kind:=5,size:=1,bytes:=1,elem:=0,len:=0,zero:=some [.int .u8 0],flds:=[] }:=by kernel_rfl
theorem ty6:ty Try.prog 6 = { kind:=5,size:=1,bytes:=1,elem:=0,len:=0,zero:=some [.int .u8 0],flds:=[] }:=by kernel_rfl
theorem ty7:ty Try.prog 7 = { kind:=3,size:=4,bytes:=24,elem:=0,len:=0,zero:=some [.int .i64 0,.int .i64 0,.bool false,.int .u8 0],flds:=[(0,2,1),(1,3,1),(2,4,1),(3,6,1)] }:=by kernel_rfl
theorem ty8:ty Try.prog 8 = { kind:=3,size:=4,bytes:=24,elem:=0,len:=0,zero:=some [.int .i64 0,.int .i64 0,.bool false,.int .u8 0],flds:=[(0,2,1),(1,3,1),(2,4,1),(3,6,1)] }:=by kernel_rfl
theorem ty9:ty Try.prog 9 = { kind:=4,size:=1,bytes:=16,elem:=0,len:=0,zero:=some [.string ⟨#[]⟩],flds:=[] }:=by kernel_rfl
theorem ty10:ty Try.prog 10 = { kind:=4,size:=1,bytes:=16,elem:=0,len:=0,zero:=some [.string ⟨#[]⟩],flds:=[] }:=by kernel_rfl
theorem ty11:ty Try.prog 11 = { kind:=4,size:=1,bytes:=16,elem:=0,len:=0,zero:=some [.string ⟨#[]⟩],flds:=[] }:=by kernel_rfl
theorem ty12:ty Try.prog 12 = { kind:=5,size:=1,bytes:=8,elem:=0,len:=0,zero:=some [.int .u64 0],flds:=[] }:=by kernel_rfl
theorem ty13:ty Try.prog 13 = { kind:=3,size:=2,bytes:=24,elem:=0,len:=0,zero:=some [.string ⟨#[]⟩,.int .u64 0],flds:=[(0,9,1),(1,12,1)] }:=by kernel_rfl
theorem ty14:ty Try.prog 14 = { kind:=3,size:=2,bytes:=24,elem:=0,len:=0,zero:=some [.string ⟨#[]⟩,.int .u64 0],flds:=[(0,9,1),(1,12,1)] }:=by kernel_rfl
theorem ty15:ty Try.prog 15 = { kind:=7,size:=1,bytes:=8,elem:=188,len:=0,zero:=some [.pointer none],flds:=[] }:=by kernel_rfl
theorem ty16:ty Try.prog 16 = { kind:=7,size:=1,bytes:=8,elem:=191,len:=0,zero:=some [.pointer none],flds:=[] }:=by kernel_rfl
theorem ty17:ty Try.prog 17 = { kind:=7,size:=1,bytes:=8,elem:=199,len:=0,zero:=some [.pointer none],flds:=[] }:=by kernel_rfl
theorem ty18:ty Try.prog 18 = { kind:=3,size:=1,bytes:=8,elem:=0,len:=0,zero:=some [.pointer none],flds:=[(0,17,1)] }:=by kernel_rfl
theorem ty19:ty Try.prog 19 = { kind:=3,size:=1,bytes:=8,elem:=0,len:=0,zero:=some [.pointer none],flds:=[(0,17,1)] }:=by kernel_rfl
theorem ty21:ty Try.prog 21 = { kind:=5,size:=1,bytes:=4,elem:=0,len:=0,zero:=some [.int .i32 0],flds:=[] }:=by kernel_rfl
theorem ty22:ty Try.prog 22 = { kind:=1,size:=1,bytes:=24,elem:=3,len:=0,zero:=some [.slice none 0 0],flds:=[] }:=by kernel_rfl
theorem ty25:ty Try.prog 25 = { kind:=7,size:=1,bytes:=8,elem:=75,len:=0,zero:=some [.pointer none],flds:=[] }:=by kernel_rfl
theorem ty27:ty Try.prog 27 = { kind:=1,size:=1,bytes:=24,elem:=56,len:=0,zero:=some [.slice none 0 0],flds:=[] }:=by kernel_rfl
theorem ty28:ty Try.prog 28 = { kind:=1,size:=1,bytes:=24,elem:=70,len:=0,zero:=some [.slice none 0 0],flds:=[] }:=by kernel_rfl
theorem ty29:ty Try.prog 29 = { kind:=1,size:=1,bytes:=24,elem:=83,len:=0,zero:=some [.slice none 0 0],flds:=[] }:=by kernel_rfl
theorem ty30:ty Try.prog 30 = { kind:=3,size:=4,bytes:=80,elem:=0,len:=0,zero:=some [.slice none 0 0,.slice none 0 0,.slice none 0 0,.int .i64 0],flds:=[(0,27,1),(1,28,1),(2,29,1),(3,3,1)] }:=by kernel_rfl
theorem ty31:ty Try.prog 31 = { kind:=3,size:=4,bytes:=80,elem:=0,len:=0,zero:=some [.slice none 0 0,.slice none 0 0,.slice none 0 0,.int .i64 0],flds:=[(0,27,1),(1,28,1),(2,29,1),(3,3,1)] }:=by kernel_rfl
theorem ty35:ty Try.prog 35 = { kind:=1,size:=1,bytes:=24,elem:=55,len:=0,zero:=some [.slice none 0 0],flds:=[] }:=by kernel_rfl
theorem ty36:ty Try.prog 36 = { kind:=3,size:=1,bytes:=24,elem:=0,len:=0,zero:=some [.slice none 0 0],flds:=[(0,35,1)] }:=by kernel_rfl
theorem ty37:ty Try.prog 37 = { kind:=3,size:=1,bytes:=24,elem:=0,len:=0,zero:=some [.slice none 0 0],flds:=[(0,35,1)] }:=by kernel_rfl
theorem ty40:ty Try.prog 40 = { kind:=5,size:=1,bytes:=8,elem:=0,len:=0,zero:=some [.int .i64 0],flds:=[] }:=by kernel_rfl
theorem ty49:ty Try.prog 49 = { kind:=1,size:=1,bytes:=24,elem:=110,len:=0,zero:=some [.slice none 0 0],flds:=[] }:=by kernel_rfl
theorem ty52:ty Try.prog 52 = { kind:=1,size:=1,bytes:=24,elem:=102,len:=0,zero:=some [.slice none 0 0],flds:=[] }:=by kernel_rfl
theorem ty53:ty Try.prog 53 = { kind:=1,size:=1,bytes:=24,elem:=73,len:=0,zero:=some [.slice none 0 0],flds:=[] }:=by kernel_rfl
theorem ty54:ty Try.prog 54 = { kind:=3,size:=5,bytes:=104,elem:=0,len:=0,zero:=some [.int .i64 0,.slice none 0 0,.slice none 0 0,.slice none 0 0,.slice none 0 0],flds:=[(0,3,1),(1,22,1),(2,52,1),(3,22,1),(4,53,1)] }:=by kernel_rfl
theorem ty55:ty Try.prog 55 = { kind:=3,size:=5,bytes:=104,elem:=0,len:=0,zero:=some [.int .i64 0,.slice none 0 0,.slice none 0 0,.slice none 0 0,.slice none 0 0],flds:=[(0,3,1),(1,22,1),(2,52,1),(3,22,1),(4,53,1)] }:=by kernel_rfl
theorem ty56:ty Try.prog 56 = { kind:=1,size:=1,bytes:=24,elem:=68,len:=0,zero:=some [.slice none 0 0],flds:=[] }:=by kernel_rfl
theorem ty62:ty Try.prog 62 = { kind:=3,size:=4,bytes:=32,elem:=0,len:=0,zero:=some [.int .i64 0,.int .i64 0,.int .i64 0,.int .i64 0],flds:=[(0,3,1),(1,3,1),(2,3,1),(3,3,1)] }:=by kernel_rfl
theorem ty63:ty Try.prog 63 = { kind:=3,size:=4,bytes:=32,elem:=0,len:=0,zero:=some [.int .i64 0,.int .i64 0,.int .i64 0,.int .i64 0],flds:=[(0,3,1),(1,3,1),(2,3,1),(3,3,1)] }:=by kernel_rfl
theorem ty64:ty Try.prog 64 = { kind:=3,size:=5,bytes:=40,elem:=0,len:=0,zero:=some [.int .i64 0,.int .i64 0,.int .i64 0,.int .i64 0,.int .i64 0],flds:=[(0,63,4),(4,3,1)] }:=by kernel_rfl
theorem ty65:ty Try.prog 65 = { kind:=3,size:=5,bytes:=40,elem:=0,len:=0,zero:=some [.int .i64 0,.int .i64 0,.int .i64 0,.int .i64 0,.int .i64 0],flds:=[(0,63,4),(4,3,1)] }:=by kernel_rfl
theorem ty66:ty Try.prog 66 = { kind:=1,size:=1,bytes:=24,elem:=80,len:=0,zero:=some [.slice none 0 0],flds:=[] }:=by kernel_rfl
theorem ty67:ty Try.prog 67 = { kind:=3,size:=6,bytes:=64,elem:=0,len:=0,zero:=some [.int .i64 0,.int .i64 0,.int .i64 0,.int .i64 0,.int .i64 0,.slice none 0 0],flds:=[(0,65,5),(5,66,1)] }:=by kernel_rfl
theorem ty68:ty Try.prog 68 = { kind:=3,size:=6,bytes:=64,elem:=0,len:=0,zero:=some [.int .i64 0,.int .i64 0,.int .i64 0,.int .i64 0,.int .i64 0,.slice none 0 0],flds:=[(0,65,5),(5,66,1)] }:=by kernel_rfl
theorem ty69:ty Try.prog 69 = { kind:=3,size:=4,bytes:=48,elem:=0,len:=0,zero:=some [.int .i64 0,.int .i64 0,.int .i64 0,.slice none 0 0],flds:=[(0,3,1),(1,3,1),(2,3,1),(3,22,1)] }:=by kernel_rfl
theorem ty70:ty Try.prog 70 = { kind:=3,size:=4,bytes:=48,elem:=0,len:=0,zero:=some [.int .i64 0,.int .i64 0,.int .i64 0,.slice none 0 0],flds:=[(0,3,1),(1,3,1),(2,3,1),(3,22,1)] }:=by kernel_rfl
theorem ty71:ty Try.prog 71 = { kind:=3,size:=2,bytes:=16,elem:=0,len:=0,zero:=some [.int .i64 0,.int .i64 0],flds:=[(0,3,1),(1,3,1)] }:=by kernel_rfl
theorem ty72:ty Try.prog 72 = { kind:=3,size:=2,bytes:=16,elem:=0,len:=0,zero:=some [.int .i64 0,.int .i64 0],flds:=[(0,3,1),(1,3,1)] }:=by kernel_rfl
theorem ty73:ty Try.prog 73 = { kind:=1,size:=1,bytes:=24,elem:=72,len:=0,zero:=some [.slice none 0 0],flds:=[] }:=by kernel_rfl
theorem ty74:ty Try.prog 74 = { kind:=3,size:=2,bytes:=32,elem:=0,len:=0,zero:=some [.slice none 0 0,.int .i64 0],flds:=[(0,22,1),(1,3,1)] }:=by kernel_rfl
theorem ty75:ty Try.prog 75 = { kind:=3,size:=2,bytes:=32,elem:=0,len:=0,zero:=some [.slice none 0 0,.int .i64 0],flds:=[(0,22,1),(1,3,1)] }:=by kernel_rfl
theorem ty79:ty Try.prog 79 = { kind:=3,size:=2,bytes:=16,elem:=0,len:=0,zero:=some [.int .i64 0,.int .i64 0],flds:=[(0,3,1),(1,3,1)] }:=by kernel_rfl
theorem ty80:ty Try.prog 80 = { kind:=3,size:=2,bytes:=16,elem:=0,len:=0,zero:=some [.int .i64 0,.int .i64 0],flds:=[(0,3,1),(1,3,1)] }:=by kernel_rfl
theorem ty81:ty Try.prog 81 = { kind:=1,size:=1,bytes:=24,elem:=85,len:=0,zero:=some [.slice none 0 0],flds:=[] }:=by kernel_rfl
theorem ty82:ty Try.prog 82 = { kind:=3,size:=4,bytes:=48,elem:=0,len:=0,zero:=some [.int .i64 0,.slice none 0 0,.int .i64 0,.int .i64 0],flds:=[(0,3,1),(1,81,1),(2,3,1),(3,3,1)] }:=by kernel_rfl
theorem ty83:ty Try.prog 83 = { kind:=3,size:=4,bytes:=48,elem:=0,len:=0,zero:=some [.int .i64 0,.slice none 0 0,.int .i64 0,.int .i64 0],flds:=[(0,3,1),(1,81,1),(2,3,1),(3,3,1)] }:=by kernel_rfl
theorem ty84:ty Try.prog 84 = { kind:=3,size:=3,bytes:=24,elem:=0,len:=0,zero:=some [.int .i64 0,.int .i64 0,.int .i64 0],flds:=[(0,3,1),(1,3,1),(2,3,1)] }:=by kernel_rfl
theorem ty85:ty Try.prog 85 = { kind:=3,size:=3,bytes:=24,elem:=0,len:=0,zero:=some [.int .i64 0,.int .i64 0,.int .i64 0],flds:=[(0,3,1),(1,3,1),(2,3,1)] }:=by kernel_rfl
theorem ty87:ty Try.prog 87 = { kind:=3,size:=2,bytes:=32,elem:=0,len:=0,zero:=some [.int .i64 0,.slice none 0 0],flds:=[(0,3,1),(1,49,1)] }:=by kernel_rfl
theorem ty88:ty Try.prog 88 = { kind:=3,size:=2,bytes:=32,elem:=0,len:=0,zero:=some [.int .i64 0,.slice none 0 0],flds:=[(0,3,1),(1,49,1)] }:=by kernel_rfl
theorem ty92:ty Try.prog 92 = { kind:=7,size:=1,bytes:=8,elem:=37,len:=0,zero:=some [.pointer none],flds:=[] }:=by kernel_rfl
theorem ty101:ty Try.prog 101 = { kind:=3,size:=4,bytes:=32,elem:=0,len:=0,zero:=some [.int .i64 0,.int .i64 0,.int .i64 0,.int .i64 0],flds:=[(0,3,1),(1,3,1),(2,3,1),(3,3,1)] }:=by kernel_rfl
theorem ty102:ty Try.prog 102 = { kind:=3,size:=4,bytes:=32,elem:=0,len:=0,zero:=some [.int .i64 0,.int .i64 0,.int .i64 0,.int .i64 0],flds:=[(0,3,1),(1,3,1),(2,3,1),(3,3,1)] }:=by kernel_rfl
theorem ty103:ty Try.prog 103 = { kind:=1,size:=1,bytes:=24,elem:=104,len:=0,zero:=some [.slice none 0 0],flds:=[] }:=by kernel_rfl
theorem ty104:ty Try.prog 104 = { kind:=1,size:=1,bytes:=24,elem:=108,len:=0,zero:=some [.slice none 0 0],flds:=[] }:=by kernel_rfl
theorem ty107:ty Try.prog 107 = { kind:=3,size:=2,bytes:=16,elem:=0,len:=0,zero:=some [.bool false,.int .i64 0],flds:=[(0,4,1),(1,3,1)] }:=by kernel_rfl
theorem ty108:ty Try.prog 108 = { kind:=3,size:=2,bytes:=16,elem:=0,len:=0,zero:=some [.bool false,.int .i64 0],flds:=[(0,4,1),(1,3,1)] }:=by kernel_rfl
theorem ty110:ty Try.prog 110 = { kind:=1,size:=1,bytes:=24,elem:=4,len:=0,zero:=some [.slice none 0 0],flds:=[] }:=by kernel_rfl
theorem ty112:ty Try.prog 112 = { kind:=1,size:=1,bytes:=24,elem:=136,len:=0,zero:=some [.slice none 0 0],flds:=[] }:=by kernel_rfl
theorem ty118:ty Try.prog 118 = { kind:=3,size:=3,bytes:=56,elem:=0,len:=0,zero:=some [.int .i64 0,.slice none 0 0,.slice none 0 0],flds:=[(0,88,2),(2,22,1)] }:=by kernel_rfl
theorem ty119:ty Try.prog 119 = { kind:=3,size:=3,bytes:=56,elem:=0,len:=0,zero:=some [.int .i64 0,.slice none 0 0,.slice none 0 0],flds:=[(0,88,2),(2,22,1)] }:=by kernel_rfl
theorem ty120:ty Try.prog 120 = { kind:=1,size:=1,bytes:=24,elem:=119,len:=0,zero:=some [.slice none 0 0],flds:=[] }:=by kernel_rfl
theorem ty127:ty Try.prog 127 = { kind:=7,size:=1,bytes:=8,elem:=153,len:=0,zero:=some [.pointer none],flds:=[] }:=by kernel_rfl
theorem ty135:ty Try.prog 135 = { kind:=3,size:=2,bytes:=16,elem:=0,len:=0,zero:=some [.int .i64 0,.int .i64 0],flds:=[(0,3,1),(1,3,1)] }:=by kernel_rfl
theorem ty136:ty Try.prog 136 = { kind:=3,size:=2,bytes:=16,elem:=0,len:=0,zero:=some [.int .i64 0,.int .i64 0],flds:=[(0,3,1),(1,3,1)] }:=by kernel_rfl
theorem ty151:ty Try.prog 151 = { kind:=1,size:=1,bytes:=24,elem:=154,len:=0,zero:=some [.slice none 0 0],flds:=[] }:=by kernel_rfl
theorem ty152:ty Try.prog 152 = { kind:=3,size:=6,bytes:=128,elem:=0,len:=0,zero:=some [.slice none 0 0,.slice none 0 0,.slice none 0 0,.int .i64 0,.slice none 0 0,.slice none 0 0],flds:=[(0,31,4),(4,151,1),(5,151,1)] }:=by kernel_rfl
theorem ty153:ty Try.prog 153 = { kind:=3,size:=6,bytes:=128,elem:=0,len:=0,zero:=some [.slice none 0 0,.slice none 0 0,.slice none 0 0,.int .i64 0,.slice none 0 0,.slice none 0 0],flds:=[(0,31,4),(4,151,1),(5,151,1)] }:=by kernel_rfl
theorem ty154:ty Try.prog 154 = { kind:=1,size:=1,bytes:=24,elem:=156,len:=0,zero:=some [.slice none 0 0],flds:=[] }:=by kernel_rfl
theorem ty155:ty Try.prog 155 = { kind:=3,size:=2,bytes:=16,elem:=0,len:=0,zero:=some [.int .i64 0,.bool false],flds:=[(0,3,1),(1,4,1)] }:=by kernel_rfl
theorem ty156:ty Try.prog 156 = { kind:=3,size:=2,bytes:=16,elem:=0,len:=0,zero:=some [.int .i64 0,.bool false],flds:=[(0,3,1),(1,4,1)] }:=by kernel_rfl
theorem ty169:ty Try.prog 169 = { kind:=5,size:=1,bytes:=8,elem:=0,len:=0,zero:=some [.int .u64 0],flds:=[] }:=by kernel_rfl
theorem ty174:ty Try.prog 174 = { kind:=7,size:=1,bytes:=8,elem:=156,len:=0,zero:=some [.pointer none],flds:=[] }:=by kernel_rfl
theorem ty179:ty Try.prog 179 = { kind:=5,size:=1,bytes:=4,elem:=0,len:=0,zero:=some [.int .u32 0],flds:=[] }:=by kernel_rfl
theorem ty182:ty Try.prog 182 = { kind:=5,size:=1,bytes:=8,elem:=0,len:=0,zero:=some [.int .u64 0],flds:=[] }:=by kernel_rfl
theorem ty187:ty Try.prog 187 = { kind:=3,size:=4,bytes:=40,elem:=0,len:=0,zero:=some [.pointer none,.pointer none,.pointer none,.string ⟨#[]⟩],flds:=[(0,17,1),(1,17,1),(2,17,1),(3,9,1)] }:=by kernel_rfl
theorem ty188:ty Try.prog 188 = { kind:=3,size:=4,bytes:=40,elem:=0,len:=0,zero:=some [.pointer none,.pointer none,.pointer none,.string ⟨#[]⟩],flds:=[(0,17,1),(1,17,1),(2,17,1),(3,9,1)] }:=by kernel_rfl
theorem ty189:ty Try.prog 189 = { kind:=2,size:=0,bytes:=0,elem:=16,len:=0,zero:=some [],flds:=[] }:=by kernel_rfl
theorem ty190:ty Try.prog 190 = { kind:=3,size:=0,bytes:=0,elem:=0,len:=0,zero:=some [],flds:=[(0,189,0)] }:=by kernel_rfl
theorem ty191:ty Try.prog 191 = { kind:=3,size:=0,bytes:=0,elem:=0,len:=0,zero:=some [],flds:=[(0,189,0)] }:=by kernel_rfl
theorem ty192:ty Try.prog 192 = { kind:=5,size:=1,bytes:=1,elem:=0,len:=0,zero:=some [.int .u8 0],flds:=[] }:=by kernel_rfl
theorem ty193:ty Try.prog 193 = { kind:=5,size:=1,bytes:=1,elem:=0,len:=0,zero:=some [.int .u8 0],flds:=[] }:=by kernel_rfl
theorem ty195:ty Try.prog 195 = { kind:=7,size:=1,bytes:=8,elem:=5,len:=0,zero:=some [.pointer none],flds:=[] }:=by kernel_rfl
theorem ty196:ty Try.prog 196 = { kind:=5,size:=1,bytes:=4,elem:=0,len:=0,zero:=some [.int .i32 0],flds:=[] }:=by kernel_rfl
theorem ty197:ty Try.prog 197 = { kind:=5,size:=1,bytes:=4,elem:=0,len:=0,zero:=some [.int .i32 0],flds:=[] }:=by kernel_rfl
theorem ty198:ty Try.prog 198 = { kind:=3,size:=11,bytes:=48,elem:=0,len:=0,zero:=some [.int .u64 0,.int .u64 0,.int .u32 0,.int .u8 0,.int .u8 0,.int .u8 0,.int .u8 0,.nilFunc,.pointer none,.int .i32 0,.int .i32 0],flds:=[(0,12,1),(1,12,1),(2,179,1),(3,192,1),(4,5,1),(5,5,1),(6,193,1),(7,194,1),(8,195,1),(9,196,1),(10,197,1)] }:=by kernel_rfl
theorem ty199:ty Try.prog 199 = { kind:=3,size:=11,bytes:=48,elem:=0,len:=0,zero:=some [.int .u64 0,.int .u64 0,.int .u32 0,.int .u8 0,.int .u8 0,.int .u8 0,.int .u8 0,.nilFunc,.pointer none,.int .i32 0,.int .i32 0],flds:=[(0,12,1),(1,12,1),(2,179,1),(3,192,1),(4,5,1),(5,5,1),(6,193,1),(7,194,1),(8,195,1),(9,196,1),(10,197,1)] }:=by kernel_rfl
theorem un2:Try.prog.underlying 2=some (.int .i64):=by kernel_rfl
theorem un3:Try.prog.underlying 3=some (.int .i64):=by kernel_rfl
theorem un5:Try.prog.underlying 5=some (.int .u8):=by kernel_rfl
theorem un6:Try.prog.underlying 6=some (.int .u8):=by kernel_rfl
theorem un12:Try.prog.underlying 12=some (.int .u64):=by kernel_rfl
theorem un21:Try.prog.underlying 21=some (.int .i32):=by kernel_rfl
theorem un40:Try.prog.underlying 40=some (.int .i64):=by kernel_rfl
theorem un169:Try.prog.underlying 169=some (.int .u64):=by kernel_rfl
theorem un179:Try.prog.underlying 179=some (.int .u32):=by kernel_rfl
theorem un182:Try.prog.underlying 182=some (.int .u64):=by kernel_rfl
theorem un192:Try.prog.underlying 192=some (.int .u8):=by kernel_rfl
theorem un193:Try.prog.underlying 193=some (.int .u8):=by kernel_rfl
theorem un196:Try.prog.underlying 196=some (.int .i32):=by kernel_rfl
theorem un197:Try.prog.underlying 197=some (.int .i32):=by kernel_rfl
theorem tys:type_of% ty2∧type_of% ty3∧type_of% ty4∧type_of% ty5∧type_of% ty6∧type_of% ty7∧type_of% ty8∧type_of% ty9∧type_of% ty10∧type_of% ty11∧type_of% ty12∧type_of% ty13∧type_of% ty14∧type_of% ty15∧type_of% ty16∧type_of% ty17∧type_of% ty18∧type_of% ty19∧type_of% ty21∧type_of% ty22∧type_of% ty25∧type_of% ty27∧type_of% ty28∧type_of% ty29∧type_of% ty30∧type_of% ty31∧type_of% ty35∧type_of% ty36∧type_of% ty37∧type_of% ty40∧type_of% ty49∧type_of% ty52∧type_of% ty53∧type_of% ty54∧type_of% ty55∧type_of% ty56∧type_of% ty62∧type_of% ty63∧type_of% ty64∧type_of% ty65∧type_of% ty66∧type_of% ty67∧type_of% ty68∧type_of% ty69∧type_of% ty70∧type_of% ty71∧type_of% ty72∧type_of% ty73∧type_of% ty74∧type_of% ty75∧type_of% ty79∧type_of% ty80∧type_of% ty81∧type_of% ty82∧type_of% ty83∧type_of% ty84∧type_of% ty85∧type_of% ty87∧type_of% ty88∧type_of% ty92∧type_of% ty101∧type_of% ty102∧type_of% ty103∧type_of% ty104∧type_of% ty107∧type_of% ty108∧type_of% ty110∧type_of% ty112∧type_of% ty118∧type_of% ty119∧type_of% ty120∧type_of% ty127∧type_of% ty135∧type_of% ty136∧type_of% ty151∧type_of% ty152∧type_of% ty153∧type_of% ty154∧type_of% ty155∧type_of% ty156∧type_of% ty169∧type_of% ty174∧type_of% ty179∧type_of% ty182∧type_of% ty187∧type_of% ty188∧type_of% ty189∧type_of% ty190∧type_of% ty191∧type_of% ty192∧type_of% ty193∧type_of% ty195∧type_of% ty196∧type_of% ty197∧type_of% ty198∧type_of% ty199∧type_of% un2∧type_of% un3∧type_of% un5∧type_of% un6∧type_of% un12∧type_of% un21∧type_of% un40∧type_of% un169∧type_of% un179∧type_of% un182∧type_of% un192∧type_of% un193∧type_of% un196∧type_of% un197 :=
  ⟨ty2,ty3,ty4,ty5,ty6,ty7,ty8,ty9,ty10,ty11,ty12,ty13,ty14,ty15,ty16,ty17,ty18,ty19,ty21,ty22,ty25,ty27,ty28,ty29,ty30,ty31,ty35,ty36,ty37,ty40,ty49,ty52,ty53,ty54,ty55,ty56,ty62,ty63,ty64,ty65,ty66,ty67,ty68,ty69,ty70,ty71,ty72,ty73,ty74,ty75,ty79,ty80,ty81,ty82,ty83,ty84,ty85,ty87,ty88,ty92,ty101,ty102,ty103,ty104,ty107,ty108,ty110,ty112,ty118,ty119,ty120,ty127,ty135,ty136,ty151,ty152,ty153,ty154,ty155,ty156,ty169,ty174,ty179,ty182,ty187,ty188,ty189,ty190,ty191,ty192,ty193,ty195,ty196,ty197,ty198,ty199,un2,un3,un5,un6,un12,un21,un40,un169,un179,un182,un192,un193,un196,un197⟩
theorem Ac:type_of% @tys∧type_of% @Bc∧type_of% @Sc∧type_of% @Rc :=
  ⟨@tys,@Bc,@Sc,@Rc⟩
theorem Kc:type_of% @LKc∧type_of% @Lc∧type_of% @tys∧type_of% @Rc :=
  ⟨@LKc,@Lc,@tys,@Rc⟩
theorem Oc:type_of% @SelO.eq_1∧type_of% @SelO.eq_2∧type_of% @or_true∧type_of% @false_or∧type_of% @Bc∧type_of% @Sc∧type_of% @Rc :=
  ⟨@SelO.eq_1,@SelO.eq_2,@or_true,@false_or,@Bc,@Sc,@Rc⟩
theorem Hr:type_of% @HasR.eq_1∧type_of% @HasR.eq_2∧type_of% @Bc∧type_of% @Rc∧type_of% @LKc∧type_of% @Lc∧type_of% @tys∧type_of% @and_true∧type_of% @Int.natCast_add∧type_of% @Int.cast_ofNat_Int :=
  ⟨@HasR.eq_1,@HasR.eq_2,@Bc,@Rc,@LKc,@Lc,@tys,@and_true,@Int.natCast_add,@Int.cast_ofNat_Int⟩
theorem Tc:type_of% @Has.eq_1∧type_of% @Has.eq_2∧type_of% @List.length_append.{0}∧type_of% @List.length_cons.{0}∧type_of% @List.length_nil.{0}∧type_of% @Nat.zero_add∧type_of% @LKc∧type_of% @Lc∧type_of% @tys∧type_of% @Rc∧type_of% @and_true∧type_of% @Int.natCast_add∧type_of% @Int.cast_ofNat_Int :=
  ⟨@Has.eq_1,@Has.eq_2,@List.length_append.{0},@List.length_cons.{0},@List.length_nil.{0},@Nat.zero_add,@LKc,@Lc,@tys,@Rc,@and_true,@Int.natCast_add,@Int.cast_ofNat_Int⟩
theorem Qc:type_of% @retQ.eq_1∧type_of% @retQ.eq_2∧type_of% @resW.eq_1∧type_of% @resW.eq_2∧type_of% @resW.eq_3∧type_of% @retV.eq_1∧type_of% @retV_0∧type_of% @retV_2∧type_of% @List.length_nil.{0}∧type_of% @LKc∧type_of% @Lc∧type_of% @tys∧type_of% @Rc :=
  ⟨@retQ.eq_1,@retQ.eq_2,@resW.eq_1,@resW.eq_2,@resW.eq_3,@retV.eq_1,@retV_0,@retV_2,@List.length_nil.{0},@LKc,@Lc,@tys,@Rc⟩
end T

