import Derived.Test.YtmhloinjpcabcaaGreatX12
import Derived.Test.YtmhloinjpcabcaaGreatX18
import Derived.Test.YtmhloinjpcabcaaGreatX13
import Derived.Test.YtmhloinjpcabcaaGreatProg
import Derived.KernelRfl
set_option linter.unusedVariables false
set_option linter.unusedSimpArgs false
set_option linter.unnecessarySimpa false
set_option linter.unusedSectionVars false
set_option maxHeartbeats 64000000
set_option maxRecDepth 20000
open Go Go.Am Go.Proofs
open Nat (reduceEqDiff reduceAdd reduceLeDiff reduceMul)
open Int (reduceNeg reduceLE reduceToNat)
namespace T
theorem ty2:ty Tryz.prog 2 = { kind:=5,size:=1,bytes:=8,elem:=0,len:=0,zero:=some [.int .i64 0],flds:=[] }:=by kernel_rfl
theorem ty3:ty Tryz.prog 3 = { kind:=5,size:=1,bytes:=8,elem:=0,len:=0,zero:=some [.int .i64 0],flds:=[] }:=by kernel_rfl
theorem ty4:ty Tryz.prog 4 = { kind:=6,size:=1,bytes:=1,elem:=0,len:=0,zero:=some [.bool false],flds:=[] }:=by kernel_rfl
theorem ty5:ty Tryz.prog 5 = { kind:=5,size:=1,bytes:=1,elem:=0,len:=0,zero:=some [.int .u8 0],flds:=[] }:=by kernel_rfl
theorem ty6:ty Tryz.prog 6 = { kind:=5,size:=1,bytes:=1,elem:=0,len:=0,zero:=some [.int .u8 0],flds:=[] }:=by kernel_rfl
theorem ty7:ty Tryz.prog 7 = { kind:=3,size:=4,bytes:=24,elem:=0,len:=0,zero:=some [.int .i64 0,.int .i64 0,.bool false,.int .u8 0],flds:=[(0,2,1),(1,3,1),(2,4,1),(3,6,1)] }:=by kernel_rfl
theorem ty8:ty Tryz.prog 8 = { kind:=3,size:=4,bytes:=24,elem:=0,len:=0,zero:=some [.int .i64 0,.int .i64 0,.bool false,.int .u8 0],flds:=[(0,2,1),(1,3,1),(2,4,1),(3,6,1)] }:=by kernel_rfl
theorem ty9:ty Tryz.prog 9 = { kind:=4,size:=1,bytes:=16,elem:=0,len:=0,zero:=some [.string ⟨#[]⟩],flds:=[] }:=by kernel_rfl
theorem ty10:ty Tryz.prog 10 = { kind:=4,size:=1,bytes:=16,elem:=0,len:=0,zero:=some [.string ⟨#[]⟩],flds:=[] }:=by kernel_rfl
theorem ty11:ty Tryz.prog 11 = { kind:=4,size:=1,bytes:=16,elem:=0,len:=0,zero:=some [.string ⟨#[]⟩],flds:=[] }:=by kernel_rfl
theorem ty12:ty Tryz.prog 12 = { kind:=5,size:=1,bytes:=8,elem:=0,len:=0,zero:=some [.int .u64 0],flds:=[] }:=by kernel_rfl
theorem ty13:ty Tryz.prog 13 = { kind:=3,size:=2,bytes:=24,elem:=0,len:=0,zero:=some [.string ⟨#[]⟩,.int .u64 0],flds:=[(0,9,1),(1,12,1)] }:=by kernel_rfl
theorem ty14:ty Tryz.prog 14 = { kind:=3,size:=2,bytes:=24,elem:=0,len:=0,zero:=some [.string ⟨#[]⟩,.int .u64 0],flds:=[(0,9,1),(1,12,1)] }:=by kernel_rfl
theorem ty15:ty Tryz.prog 15 = { kind:=7,size:=1,bytes:=8,elem:=163,len:=0,zero:=some [.pointer none],flds:=[] }:=by kernel_rfl
theorem ty16:ty Tryz.prog 16 = { kind:=7,size:=1,bytes:=8,elem:=166,len:=0,zero:=some [.pointer none],flds:=[] }:=by kernel_rfl
theorem ty17:ty Tryz.prog 17 = { kind:=7,size:=1,bytes:=8,elem:=174,len:=0,zero:=some [.pointer none],flds:=[] }:=by kernel_rfl
theorem ty18:ty Tryz.prog 18 = { kind:=3,size:=1,bytes:=8,elem:=0,len:=0,zero:=some [.pointer none],flds:=[(0,17,1)] }:=by kernel_rfl
theorem ty19:ty Tryz.prog 19 = { kind:=3,size:=1,bytes:=8,elem:=0,len:=0,zero:=some [.pointer none],flds:=[(0,17,1)] }:=by kernel_rfl
theorem ty21:ty Tryz.prog 21 = { kind:=5,size:=1,bytes:=4,elem:=0,len:=0,zero:=some [.int .i32 0],flds:=[] }:=by kernel_rfl
theorem ty22:ty Tryz.prog 22 = { kind:=1,size:=1,bytes:=24,elem:=3,len:=0,zero:=some [.slice none 0 0],flds:=[] }:=by kernel_rfl
theorem ty25:ty Tryz.prog 25 = { kind:=1,size:=1,bytes:=24,elem:=46,len:=0,zero:=some [.slice none 0 0],flds:=[] }:=by kernel_rfl
theorem ty26:ty Tryz.prog 26 = { kind:=1,size:=1,bytes:=24,elem:=57,len:=0,zero:=some [.slice none 0 0],flds:=[] }:=by kernel_rfl
theorem ty27:ty Tryz.prog 27 = { kind:=1,size:=1,bytes:=24,elem:=86,len:=0,zero:=some [.slice none 0 0],flds:=[] }:=by kernel_rfl
theorem ty28:ty Tryz.prog 28 = { kind:=3,size:=4,bytes:=80,elem:=0,len:=0,zero:=some [.slice none 0 0,.slice none 0 0,.slice none 0 0,.int .i64 0],flds:=[(0,25,1),(1,26,1),(2,27,1),(3,3,1)] }:=by kernel_rfl
theorem ty29:ty Tryz.prog 29 = { kind:=3,size:=4,bytes:=80,elem:=0,len:=0,zero:=some [.slice none 0 0,.slice none 0 0,.slice none 0 0,.int .i64 0],flds:=[(0,25,1),(1,26,1),(2,27,1),(3,3,1)] }:=by kernel_rfl
theorem ty31:ty Tryz.prog 31 = { kind:=7,size:=1,bytes:=8,elem:=62,len:=0,zero:=some [.pointer none],flds:=[] }:=by kernel_rfl
theorem ty34:ty Tryz.prog 34 = { kind:=5,size:=1,bytes:=8,elem:=0,len:=0,zero:=some [.int .i64 0],flds:=[] }:=by kernel_rfl
theorem ty41:ty Tryz.prog 41 = { kind:=1,size:=1,bytes:=24,elem:=22,len:=0,zero:=some [.slice none 0 0],flds:=[] }:=by kernel_rfl
theorem ty46:ty Tryz.prog 46 = { kind:=1,size:=1,bytes:=24,elem:=55,len:=0,zero:=some [.slice none 0 0],flds:=[] }:=by kernel_rfl
theorem ty49:ty Tryz.prog 49 = { kind:=3,size:=4,bytes:=32,elem:=0,len:=0,zero:=some [.int .i64 0,.int .i64 0,.int .i64 0,.int .i64 0],flds:=[(0,3,1),(1,3,1),(2,3,1),(3,3,1)] }:=by kernel_rfl
theorem ty50:ty Tryz.prog 50 = { kind:=3,size:=4,bytes:=32,elem:=0,len:=0,zero:=some [.int .i64 0,.int .i64 0,.int .i64 0,.int .i64 0],flds:=[(0,3,1),(1,3,1),(2,3,1),(3,3,1)] }:=by kernel_rfl
theorem ty51:ty Tryz.prog 51 = { kind:=3,size:=5,bytes:=40,elem:=0,len:=0,zero:=some [.int .i64 0,.int .i64 0,.int .i64 0,.int .i64 0,.int .i64 0],flds:=[(0,50,4),(4,3,1)] }:=by kernel_rfl
theorem ty52:ty Tryz.prog 52 = { kind:=3,size:=5,bytes:=40,elem:=0,len:=0,zero:=some [.int .i64 0,.int .i64 0,.int .i64 0,.int .i64 0,.int .i64 0],flds:=[(0,50,4),(4,3,1)] }:=by kernel_rfl
theorem ty53:ty Tryz.prog 53 = { kind:=1,size:=1,bytes:=24,elem:=83,len:=0,zero:=some [.slice none 0 0],flds:=[] }:=by kernel_rfl
theorem ty54:ty Tryz.prog 54 = { kind:=3,size:=6,bytes:=64,elem:=0,len:=0,zero:=some [.int .i64 0,.int .i64 0,.int .i64 0,.int .i64 0,.int .i64 0,.slice none 0 0],flds:=[(0,52,5),(5,53,1)] }:=by kernel_rfl
theorem ty55:ty Tryz.prog 55 = { kind:=3,size:=6,bytes:=64,elem:=0,len:=0,zero:=some [.int .i64 0,.int .i64 0,.int .i64 0,.int .i64 0,.int .i64 0,.slice none 0 0],flds:=[(0,52,5),(5,53,1)] }:=by kernel_rfl
theorem ty56:ty Tryz.prog 56 = { kind:=3,size:=4,bytes:=48,elem:=0,len:=0,zero:=some [.int .i64 0,.int .i64 0,.int .i64 0,.slice none 0 0],flds:=[(0,3,1),(1,3,1),(2,3,1),(3,22,1)] }:=by kernel_rfl
theorem ty57:ty Tryz.prog 57 = { kind:=3,size:=4,bytes:=48,elem:=0,len:=0,zero:=some [.int .i64 0,.int .i64 0,.int .i64 0,.slice none 0 0],flds:=[(0,3,1),(1,3,1),(2,3,1),(3,22,1)] }:=by kernel_rfl
theorem ty61:ty Tryz.prog 61 = { kind:=3,size:=2,bytes:=32,elem:=0,len:=0,zero:=some [.slice none 0 0,.int .i64 0],flds:=[(0,22,1),(1,3,1)] }:=by kernel_rfl
theorem ty62:ty Tryz.prog 62 = { kind:=3,size:=2,bytes:=32,elem:=0,len:=0,zero:=some [.slice none 0 0,.int .i64 0],flds:=[(0,22,1),(1,3,1)] }:=by kernel_rfl
theorem ty64:ty Tryz.prog 64 = { kind:=7,size:=1,bytes:=8,elem:=69,len:=0,zero:=some [.pointer none],flds:=[] }:=by kernel_rfl
theorem ty66:ty Tryz.prog 66 = { kind:=1,size:=1,bytes:=24,elem:=4,len:=0,zero:=some [.slice none 0 0],flds:=[] }:=by kernel_rfl
theorem ty67:ty Tryz.prog 67 = { kind:=8,size:=1,bytes:=8,elem:=3,len:=0,zero:=some [.map none],flds:=[] }:=by kernel_rfl
theorem ty68:ty Tryz.prog 68 = { kind:=3,size:=7,bytes:=136,elem:=0,len:=0,zero:=some [.slice none 0 0,.slice none 0 0,.slice none 0 0,.int .i64 0,.slice none 0 0,.slice none 0 0,.map none],flds:=[(0,29,4),(4,22,1),(5,66,1),(6,67,1)] }:=by kernel_rfl
theorem ty69:ty Tryz.prog 69 = { kind:=3,size:=7,bytes:=136,elem:=0,len:=0,zero:=some [.slice none 0 0,.slice none 0 0,.slice none 0 0,.int .i64 0,.slice none 0 0,.slice none 0 0,.map none],flds:=[(0,29,4),(4,22,1),(5,66,1),(6,67,1)] }:=by kernel_rfl
theorem ty82:ty Tryz.prog 82 = { kind:=3,size:=2,bytes:=16,elem:=0,len:=0,zero:=some [.int .i64 0,.int .i64 0],flds:=[(0,3,1),(1,3,1)] }:=by kernel_rfl
theorem ty83:ty Tryz.prog 83 = { kind:=3,size:=2,bytes:=16,elem:=0,len:=0,zero:=some [.int .i64 0,.int .i64 0],flds:=[(0,3,1),(1,3,1)] }:=by kernel_rfl
theorem ty84:ty Tryz.prog 84 = { kind:=1,size:=1,bytes:=24,elem:=88,len:=0,zero:=some [.slice none 0 0],flds:=[] }:=by kernel_rfl
theorem ty85:ty Tryz.prog 85 = { kind:=3,size:=4,bytes:=48,elem:=0,len:=0,zero:=some [.int .i64 0,.slice none 0 0,.int .i64 0,.int .i64 0],flds:=[(0,3,1),(1,84,1),(2,3,1),(3,3,1)] }:=by kernel_rfl
theorem ty86:ty Tryz.prog 86 = { kind:=3,size:=4,bytes:=48,elem:=0,len:=0,zero:=some [.int .i64 0,.slice none 0 0,.int .i64 0,.int .i64 0],flds:=[(0,3,1),(1,84,1),(2,3,1),(3,3,1)] }:=by kernel_rfl
theorem ty87:ty Tryz.prog 87 = { kind:=3,size:=3,bytes:=24,elem:=0,len:=0,zero:=some [.int .i64 0,.int .i64 0,.int .i64 0],flds:=[(0,3,1),(1,3,1),(2,3,1)] }:=by kernel_rfl
theorem ty88:ty Tryz.prog 88 = { kind:=3,size:=3,bytes:=24,elem:=0,len:=0,zero:=some [.int .i64 0,.int .i64 0,.int .i64 0],flds:=[(0,3,1),(1,3,1),(2,3,1)] }:=by kernel_rfl
theorem ty103:ty Tryz.prog 103 = { kind:=1,size:=1,bytes:=24,elem:=106,len:=0,zero:=some [.slice none 0 0],flds:=[] }:=by kernel_rfl
theorem ty104:ty Tryz.prog 104 = { kind:=1,size:=1,bytes:=24,elem:=106,len:=0,zero:=some [.slice none 0 0],flds:=[] }:=by kernel_rfl
theorem ty105:ty Tryz.prog 105 = { kind:=3,size:=3,bytes:=24,elem:=0,len:=0,zero:=some [.int .i64 0,.int .i64 0,.int .i64 0],flds:=[(0,3,1),(1,3,1),(2,3,1)] }:=by kernel_rfl
theorem ty106:ty Tryz.prog 106 = { kind:=3,size:=3,bytes:=24,elem:=0,len:=0,zero:=some [.int .i64 0,.int .i64 0,.int .i64 0],flds:=[(0,3,1),(1,3,1),(2,3,1)] }:=by kernel_rfl
theorem ty109:ty Tryz.prog 109 = { kind:=7,size:=1,bytes:=8,elem:=104,len:=0,zero:=some [.pointer none],flds:=[] }:=by kernel_rfl
theorem ty111:ty Tryz.prog 111 = { kind:=3,size:=2,bytes:=16,elem:=0,len:=0,zero:=some [.int .i64 0,.int .i64 0],flds:=[(0,3,1),(1,3,1)] }:=by kernel_rfl
theorem ty112:ty Tryz.prog 112 = { kind:=3,size:=2,bytes:=16,elem:=0,len:=0,zero:=some [.int .i64 0,.int .i64 0],flds:=[(0,3,1),(1,3,1)] }:=by kernel_rfl
theorem ty116:ty Tryz.prog 116 = { kind:=1,size:=1,bytes:=24,elem:=117,len:=0,zero:=some [.slice none 0 0],flds:=[] }:=by kernel_rfl
theorem ty117:ty Tryz.prog 117 = { kind:=8,size:=1,bytes:=8,elem:=4,len:=0,zero:=some [.map none],flds:=[] }:=by kernel_rfl
theorem ty125:ty Tryz.prog 125 = { kind:=5,size:=1,bytes:=8,elem:=0,len:=0,zero:=some [.int .u64 0],flds:=[] }:=by kernel_rfl
theorem ty139:ty Tryz.prog 139 = { kind:=5,size:=1,bytes:=8,elem:=0,len:=0,zero:=some [.int .i64 0],flds:=[] }:=by kernel_rfl
theorem ty147:ty Tryz.prog 147 = { kind:=5,size:=1,bytes:=4,elem:=0,len:=0,zero:=some [.int .u32 0],flds:=[] }:=by kernel_rfl
theorem ty149:ty Tryz.prog 149 = { kind:=5,size:=1,bytes:=8,elem:=0,len:=0,zero:=some [.int .u64 0],flds:=[] }:=by kernel_rfl
theorem ty153:ty Tryz.prog 153 = { kind:=5,size:=1,bytes:=8,elem:=0,len:=0,zero:=some [.int .u64 0],flds:=[] }:=by kernel_rfl
theorem ty157:ty Tryz.prog 157 = { kind:=7,size:=1,bytes:=8,elem:=3,len:=0,zero:=some [.pointer none],flds:=[] }:=by kernel_rfl
theorem ty159:ty Tryz.prog 159 = { kind:=7,size:=1,bytes:=8,elem:=153,len:=0,zero:=some [.pointer none],flds:=[] }:=by kernel_rfl
theorem ty162:ty Tryz.prog 162 = { kind:=3,size:=4,bytes:=40,elem:=0,len:=0,zero:=some [.pointer none,.pointer none,.pointer none,.string ⟨#[]⟩],flds:=[(0,17,1),(1,17,1),(2,17,1),(3,9,1)] }:=by kernel_rfl
theorem ty163:ty Tryz.prog 163 = { kind:=3,size:=4,bytes:=40,elem:=0,len:=0,zero:=some [.pointer none,.pointer none,.pointer none,.string ⟨#[]⟩],flds:=[(0,17,1),(1,17,1),(2,17,1),(3,9,1)] }:=by kernel_rfl
theorem ty164:ty Tryz.prog 164 = { kind:=2,size:=0,bytes:=0,elem:=16,len:=0,zero:=some [],flds:=[] }:=by kernel_rfl
theorem ty165:ty Tryz.prog 165 = { kind:=3,size:=0,bytes:=0,elem:=0,len:=0,zero:=some [],flds:=[(0,164,0)] }:=by kernel_rfl
theorem ty166:ty Tryz.prog 166 = { kind:=3,size:=0,bytes:=0,elem:=0,len:=0,zero:=some [],flds:=[(0,164,0)] }:=by kernel_rfl
theorem ty167:ty Tryz.prog 167 = { kind:=5,size:=1,bytes:=1,elem:=0,len:=0,zero:=some [.int .u8 0],flds:=[] }:=by kernel_rfl
theorem ty168:ty Tryz.prog 168 = { kind:=5,size:=1,bytes:=1,elem:=0,len:=0,zero:=some [.int .u8 0],flds:=[] }:=by kernel_rfl
theorem ty170:ty Tryz.prog 170 = { kind:=7,size:=1,bytes:=8,elem:=5,len:=0,zero:=some [.pointer none],flds:=[] }:=by kernel_rfl
theorem ty171:ty Tryz.prog 171 = { kind:=5,size:=1,bytes:=4,elem:=0,len:=0,zero:=some [.int .i32 0],flds:=[] }:=by kernel_rfl
theorem ty172:ty Tryz.prog 172 = { kind:=5,size:=1,bytes:=4,elem:=0,len:=0,zero:=some [.int .i32 0],flds:=[] }:=by kernel_rfl
theorem ty173:ty Tryz.prog 173 = { kind:=3,size:=11,bytes:=48,elem:=0,len:=0,zero:=some [.int .u64 0,.int .u64 0,.int .u32 0,.int .u8 0,.int .u8 0,.int .u8 0,.int .u8 0,.nilFunc,.pointer none,.int .i32 0,.int .i32 0],flds:=[(0,12,1),(1,12,1),(2,147,1),(3,167,1),(4,5,1),(5,5,1),(6,168,1),(7,169,1),(8,170,1),(9,171,1),(10,172,1)] }:=by kernel_rfl
theorem ty174:ty Tryz.prog 174 = { kind:=3,size:=11,bytes:=48,elem:=0,len:=0,zero:=some [.int .u64 0,.int .u64 0,.int .u32 0,.int .u8 0,.int .u8 0,.int .u8 0,.int .u8 0,.nilFunc,.pointer none,.int .i32 0,.int .i32 0],flds:=[(0,12,1),(1,12,1),(2,147,1),(3,167,1),(4,5,1),(5,5,1),(6,168,1),(7,169,1),(8,170,1),(9,171,1),(10,172,1)] }:=by kernel_rfl
theorem un2:Tryz.prog.underlying 2=some (.int .i64):=by kernel_rfl
theorem un3:Tryz.prog.underlying 3=some (.int .i64):=by kernel_rfl
theorem un5:Tryz.prog.underlying 5=some (.int .u8):=by kernel_rfl
theorem un6:Tryz.prog.underlying 6=some (.int .u8):=by kernel_rfl
theorem un12:Tryz.prog.underlying 12=some (.int .u64):=by kernel_rfl
theorem un21:Tryz.prog.underlying 21=some (.int .i32):=by kernel_rfl
theorem un34:Tryz.prog.underlying 34=some (.int .i64):=by kernel_rfl
theorem un125:Tryz.prog.underlying 125=some (.int .u64):=by kernel_rfl
theorem un139:Tryz.prog.underlying 139=some (.int .i64):=by kernel_rfl
theorem un147:Tryz.prog.underlying 147=some (.int .u32):=by kernel_rfl
theorem un149:Tryz.prog.underlying 149=some (.int .u64):=by kernel_rfl
theorem un153:Tryz.prog.underlying 153=some (.int .u64):=by kernel_rfl
theorem un167:Tryz.prog.underlying 167=some (.int .u8):=by kernel_rfl
theorem un168:Tryz.prog.underlying 168=some (.int .u8):=by kernel_rfl
theorem un171:Tryz.prog.underlying 171=some (.int .i32):=by kernel_rfl
theorem un172:Tryz.prog.underlying 172=some (.int .i32):=by kernel_rfl
theorem zv3:zeroV Tryz.prog 3=some (.int .i64 0):=by kernel_rfl
theorem kag67:kAg Tryz.prog 67=2:=by kernel_rfl
theorem km67:KeyM Tryz.prog 67 2:=KeyM.structB (kt:=112) (et:=3) (by kernel_rfl) (by kernel_rfl) (by decide) (by kernel_rfl)
theorem zv4:zeroV Tryz.prog 4=some (.bool false):=by kernel_rfl
theorem kag117:kAg Tryz.prog 117=0:=by kernel_rfl
theorem km117:KeyM Tryz.prog 117 0:=KeyM.int (kt:=3) (et:=4) (by kernel_rfl) (by kernel_rfl)
theorem ifb106:ifaceB Tryz.prog 106=false:=by kernel_rfl
theorem ifb109:ifaceB Tryz.prog 109=false:=by kernel_rfl
theorem mt109_Len : methT Tryz.prog 109 "Len" = some (145, some 104) := by kernel_rfl
theorem mt109_Less : methT Tryz.prog 109 "Less" = some (146, some 104) := by kernel_rfl
theorem mt109_Pop : methT Tryz.prog 109 "Pop" = some (148, none) := by kernel_rfl
theorem mt109_Swap : methT Tryz.prog 109 "Swap" = some (147, some 104) := by kernel_rfl
theorem uns9:Tryz.prog.underlying 9=some .string:=by kernel_rfl
theorem tys:type_of% ty2∧type_of% ty3∧type_of% ty4∧type_of% ty5∧type_of% ty6∧type_of% ty7∧type_of% ty8∧type_of% ty9∧type_of% ty10∧type_of% ty11∧type_of% ty12∧type_of% ty13∧type_of% ty14∧type_of% ty15∧type_of% ty16∧type_of% ty17∧type_of% ty18∧type_of% ty19∧type_of% ty21∧type_of% ty22∧type_of% ty25∧type_of% ty26∧type_of% ty27∧type_of% ty28∧type_of% ty29∧type_of% ty31∧type_of% ty34∧type_of% ty41∧type_of% ty46∧type_of% ty49∧type_of% ty50∧type_of% ty51∧type_of% ty52∧type_of% ty53∧type_of% ty54∧type_of% ty55∧type_of% ty56∧type_of% ty57∧type_of% ty61∧type_of% ty62∧type_of% ty64∧type_of% ty66∧type_of% ty67∧type_of% ty68∧type_of% ty69∧type_of% ty82∧type_of% ty83∧type_of% ty84∧type_of% ty85∧type_of% ty86∧type_of% ty87∧type_of% ty88∧type_of% ty103∧type_of% ty104∧type_of% ty105∧type_of% ty106∧type_of% ty109∧type_of% ty111∧type_of% ty112∧type_of% ty116∧type_of% ty117∧type_of% ty125∧type_of% ty139∧type_of% ty147∧type_of% ty149∧type_of% ty153∧type_of% ty157∧type_of% ty159∧type_of% ty162∧type_of% ty163∧type_of% ty164∧type_of% ty165∧type_of% ty166∧type_of% ty167∧type_of% ty168∧type_of% ty170∧type_of% ty171∧type_of% ty172∧type_of% ty173∧type_of% ty174∧type_of% un2∧type_of% un3∧type_of% un5∧type_of% un6∧type_of% un12∧type_of% un21∧type_of% un34∧type_of% un125∧type_of% un139∧type_of% un147∧type_of% un149∧type_of% un153∧type_of% un167∧type_of% un168∧type_of% un171∧type_of% un172∧type_of% zv3∧type_of% kag67∧type_of% km67∧type_of% zv4∧type_of% kag117∧type_of% km117∧type_of% ifb106∧type_of% ifb109∧type_of% mt109_Len∧type_of% mt109_Less∧type_of% mt109_Pop∧type_of% mt109_Swap∧type_of% uns9 :=
  ⟨ty2,ty3,ty4,ty5,ty6,ty7,ty8,ty9,ty10,ty11,ty12,ty13,ty14,ty15,ty16,ty17,ty18,ty19,ty21,ty22,ty25,ty26,ty27,ty28,ty29,ty31,ty34,ty41,ty46,ty49,ty50,ty51,ty52,ty53,ty54,ty55,ty56,ty57,ty61,ty62,ty64,ty66,ty67,ty68,ty69,ty82,ty83,ty84,ty85,ty86,ty87,ty88,ty103,ty104,ty105,ty106,ty109,ty111,ty112,ty116,ty117,ty125,ty139,ty147,ty149,ty153,ty157,ty159,ty162,ty163,ty164,ty165,ty166,ty167,ty168,ty170,ty171,ty172,ty173,ty174,un2,un3,un5,un6,un12,un21,un34,un125,un139,un147,un149,un153,un167,un168,un171,un172,zv3,kag67,km67,zv4,kag117,km117,ifb106,ifb109,mt109_Len,mt109_Less,mt109_Pop,mt109_Swap,uns9⟩
theorem Ac:type_of% @tys∧type_of% @Bc∧type_of% @Sc∧type_of% @Rc :=
  ⟨@tys,@Bc,@Sc,@Rc⟩
theorem Kc:type_of% @LKc∧type_of% @Lc∧type_of% @tys∧type_of% @Rc :=
  ⟨@LKc,@Lc,@tys,@Rc⟩
theorem Oc:type_of% @SelO.eq_1∧type_of% @SelO.eq_2∧type_of% @or_true∧type_of% @false_or∧type_of% @Bc∧type_of% @Sc∧type_of% @Rc :=
  ⟨@SelO.eq_1,@SelO.eq_2,@or_true,@false_or,@Bc,@Sc,@Rc⟩
theorem Hr:type_of% @HasR.eq_1∧type_of% @HasR.eq_2∧type_of% @Bc∧type_of% @Rc∧type_of% @LKc∧type_of% @Lc∧type_of% @tys∧type_of% @and_true∧type_of% @Int.natCast_add∧type_of% @Int.cast_ofNat_Int :=
  ⟨@HasR.eq_1,@HasR.eq_2,@Bc,@Rc,@LKc,@Lc,@tys,@and_true,@Int.natCast_add,@Int.cast_ofNat_Int⟩
theorem Tc:type_of% @Has.eq_1∧type_of% @Has.eq_2∧type_of% @List.length_append.{0}∧type_of% @List.length_cons.{0}∧type_of% @List.length_nil.{0}∧type_of% @Nat.zero_add∧type_of% @LKc∧type_of% @Lc∧type_of% @tys∧type_of% @Rc∧type_of% @and_true∧type_of% @Int.natCast_add∧type_of% @Int.cast_ofNat_Int :=
  ⟨@Has.eq_1,@Has.eq_2,@List.length_append.{0},@List.length_cons.{0},@List.length_nil.{0},@Nat.zero_add,@LKc,@Lc,@tys,@Rc,@and_true,@Int.natCast_add,@Int.cast_ofNat_Int⟩
theorem Qc:type_of% @retQ.eq_1∧type_of% @retQ.eq_2∧type_of% @resW.eq_1∧type_of% @resW.eq_2∧type_of% @resW.eq_3∧type_of% @retV.eq_1∧type_of% @retV_0∧type_of% @retV_2∧type_of% @List.length_nil.{0}∧type_of% @LKc∧type_of% @Lc∧type_of% @tys∧type_of% @Rc :=
  ⟨@retQ.eq_1,@retQ.eq_2,@resW.eq_1,@resW.eq_2,@resW.eq_3,@retV.eq_1,@retV_0,@retV_2,@List.length_nil.{0},@LKc,@Lc,@tys,@Rc⟩
inductive Sq (P:Program) (N n0:Nat) (y:Code) (Q:Exit→St→Prop):Exit→St→Prop
  | n (s:St) (h:W P N n0 y Q s):Sq P N n0 y Q .normal s
  | e (e:Exit) (s:St) (hi:isN e=false) (h:Q e s):Sq P N n0 y Q e s
inductive Bq (id:Nat) (Q:Exit→St→Prop):Exit→St→Prop
  | n (s:St) (h:Q .normal s):Bq id Q .normal s
  | x (s:St) (h:Q .normal s):Bq id Q (.exit id) s
  | e (e:Exit) (s:St) (hi:isX id e=false) (h:Q e s):Bq id Q e s
section
variable {P:Program} {N n0:Nat} {σ:St} {Q:Exit→St→Prop}
theorem Xk {x y:Code} (h:W P N n0 x (Sq P N n0 y Q) σ):W P N n0 (.seq x y) Q σ:=Wk fun _ h1 h2=>W_mono h fun _ _ h=>by
  cases h with
  | n _ h=>exact h1 _ h
  | e _ _ hi h=>exact h2 _ _ hi h
theorem Xb {id:Nat} {c:Code} (h:W P N n0 c (Bq id Q) σ):W P N n0 (.block id c) Q σ:=Wb fun _ h1 h2 h3=>W_mono h fun _ _ h=>by
  cases h with
  | n _ h=>exact h1 _ h
  | x _ h=>exact h2 _ h
  | e _ _ hi h=>exact h3 _ _ hi h
theorem hn {y:Code} (s:St) (h:W P N n0 y Q s):Sq P N n0 y Q .normal s:=.n s h
theorem he {y:Code} (e:Exit) (s:St) (hi:isN e=false) (h:Q e s):Sq P N n0 y Q e s:=.e e s hi h
theorem hnb {id:Nat} (s:St) (h:Q .normal s):Bq id Q .normal s:=.n s h
theorem unSq {x y:Code} (h:∀ Q':Exit→St→Prop,(∀ s,W P N n0 y Q s→Q' .normal s)→(∀ e s,isN e=false→Q e s→Q' e s)→W P N n0 x Q' σ):W P N n0 x (Sq P N n0 y Q) σ:=h _ .n .e
theorem unBq {x y:Code} {id:Nat} (h:∀ Q':Exit→St→Prop,(∀ s,W P N n0 y Q s→Q' .normal s)→(∀ e s,isN e=false→Q e s→Q' e s)→W P N n0 x (Bq id Q') σ):W P N n0 x (Bq id (Sq P N n0 y Q)) σ:=h _ .n .e
end
theorem X0:True:=trivial
theorem X2 {a b:Prop} (x:a) (y:b):a∧b:=⟨x,y⟩
theorem X3 {a b c:Prop} (x:a) (y:b) (z:c):a∧b∧c:=⟨x,y,z⟩
theorem X4 {a b c d:Prop} (x:a) (y:b) (z:c) (u:d):a∧b∧c∧d:=⟨x,y,z,u⟩
theorem X5 {a b c d e:Prop} (x:a) (y:b) (z:c) (u:d) (v:e):a∧b∧c∧d∧e:=⟨x,y,z,u,v⟩
theorem Xr {p q e:Prop} (x:e) (h:q) (k:e→q→p:=by first|(intro hx hq;(first|refine rr ?_|refine rre ?_);intro K hK;simp (disch:=omega) only[Ac,↓Pc,simprocAttr,hx];revert hK;revert K;exact hq)|fail):p:=k x h
theorem Xq {p q e:Prop} (x:e) (h:q) (k:e→q→p:=by first|(intro hx hq;(first|refine rr ?_|refine rre ?_|refine rb ?_|refine rbe ?_|refine ra ?_|refine rae ?_);intro K hK;simp (disch:=omega) only[Ac,↓Pc,simprocAttr,hx];revert hK;revert K;exact hq)|fail):p:=k x h
theorem Xo {p q e:Prop} (x:e) (h:q) (k:e→q→p:=by first|(intro hx hq;with_reducible refine gO ?_;simp (disch:=omega) only[Ac,↓Pc,simprocAttr,hx];exact hq)|fail):p:=k x h
theorem Xc {p q t:Prop} (c:t) (h:q) (k:t→q→p:=by first|(intro hc hq;(first|refine callK_pure hc rfl rfl ?_|refine callQ_pure hc rfl rfl ?_);exact hq)|fail):p:=k c h
theorem Xg {p q r e:Prop} (x:e) (h:q) (h2:r) (k:e→q→r→p∧True:=by first|(intro hx hq hr;refine And.intro ?_ ?_;(with_reducible refine gS (fun hb'=>?_) (fun hb'=>?_));(focus (have hb:=hb';(try simp only[DEc,simprocAttr] at hb);all_goals (simp (disch:=omega) only[Ac,↓Pc,simprocAttr,hx,hb']);all_goals (clear hb';revert hb;exact hq)));(focus (have hb:=hb';(try simp only[DEc,simprocAttr] at hb);all_goals (simp (disch:=omega) only[Ac,↓Pc,simprocAttr,hx,hb']);all_goals (clear hb';revert hb;exact hr)));((try have _:True:=hq);(try have _:True:=hr);trivial))|fail):p:=(k x h h2).1
theorem Xi {p q r:Prop} (h:q) (h2:r) (k:q→r→p∧True:=by first|(intro hq hr;refine And.intro ?_ ?_;refine Wc ?_ ?_;(focus (intro ht;(try simp only[DEc,simprocAttr] at ht);all_goals (revert ht;exact hq)));(focus (intro ht;(try simp only[DEc,simprocAttr] at ht);all_goals (revert ht;exact hr)));((try have _:True:=hq);(try have _:True:=hr);trivial))|fail):p:=(k h h2).1
theorem Xz {p q:Prop} (h:q) (k:q→p:=by first|(intro hq;(first|refine Wz rfl ?_|refine Xk ?_|refine Xb ?_|refine Sq.n _ ?_|refine Sq.e _ _ rfl ?_|refine Bq.n _ ?_|refine Bq.x _ ?_|refine Bq.e _ _ rfl ?_|refine hn _ ?_|refine he _ _ rfl ?_);(repeat (first|refine Wz rfl ?_|refine Xk ?_|refine Xb ?_|refine Sq.n _ ?_|refine Sq.e _ _ rfl ?_|refine Bq.n _ ?_|refine Bq.x _ ?_|refine Bq.e _ _ rfl ?_|refine hn _ ?_|refine he _ _ rfl ?_));exact hq)|fail):p:=k h
theorem Xh {p q:Prop} (h:q) (k:q→p:=by first|(intro hq;(first|refine hel _ _ rfl ?_|refine hel2 _ _ rfl ?_|refine hel3 _ _ rfl ?_|refine hel4 _ _ rfl ?_);exact hq)|fail):p:=k h
theorem Xu {p q:Prop} (h:q) (k:q→p:=by first|(intro hq;(first|refine Sq.n _ ?_|refine Sq.e _ _ rfl ?_|refine Bq.n _ ?_|refine Bq.x _ ?_|refine Bq.e _ _ rfl ?_|refine hn _ ?_|refine he _ _ rfl ?_|refine hel _ _ rfl ?_|refine hel2 _ _ rfl ?_|refine hel3 _ _ rfl ?_|refine hel4 _ _ rfl ?_);exact hq)|fail):p:=k h
theorem Xe {p q:Prop} (h:q) (k:q→p:=by first|(intro hq;simp only[Qc,Kc,simprocAttr];exact hq)|fail):p:=k h
theorem Xy {p q:Prop} (h:q) (k:q→p:=by first|(intro hq;refine Xz ?_;exact hq)|(intro hq;refine Xe ?_;exact hq)|fail):p:=k h
theorem XY {p q:Prop} (h:q) (k:q→p:=by first|(intro hq;refine Xz ?_;exact hq)|(intro hq;refine Xh ?_;exact hq)|(intro hq;refine Xe ?_;exact hq)|fail):p:=k h
theorem Xx {p:Prop} (h:p:=by first|omega|with_reducible rfl|exact trivial|fail):p:=h
theorem Xl {n0:Nat} {e:Nat→AV} {os:List Ob} {v res:AV} {objs':List Ob} (ho:os=objs') (h:v=res) (hl:n0≤objs'.length:=by (simp only[List.length_cons,List.length_nil];omega)):RetOK n0 ⟨e,os⟩ v res objs':=RetOK_all ho hl h
theorem Xd {p q r:Prop} (h:q) (h2:r) (k:q→r→p:=by first|(intro hq hr;with_reducible refine And.intro ?_ ?_;exact hq;exact hr)|fail):p:=k h h2
theorem Xv {n0:Nat} {σ S:St} {e:Prop} (x:e) (k:e→Turns n0 σ S:=by first|(intro hx;refine Turns.slots _ _ rfl ?_;simp only[Tc,↓reduceIte,reduceEqDiff,Nat.reduceBEq,reduceAdd,hx];(try trivial);done)|fail):Turns n0 σ S:=k x
theorem Xs {n0:Nat} {σ:St} {l:List (Nat × AV)} {co:List Ob} {e:Prop} (snap:Bool) (sel:List Nat) (x:e) (h1:e→SelO (rho σ.objs.length sel) σ.objs sel co:=by (intro hx;simp only[Oc,simprocAttr,hx])) (h2:e→HasR (ArgR σ (kept sel co) (rho σ.objs.length sel) snap) σ.env l:=by (intro hx;simp only[Hr,↓reduceIte,reduceEqDiff,Nat.reduceBEq,reduceAdd,hx];(try (and_intros<;>first|exact .pure rfl|exact .eq rfl|exact .fz rfl (by simp only[Bc,Rc]))))) (hnd:sel.Nodup:=by decide) (hn:n0≤sel.length:=by decide) (hid:∀ i,i<n0→sel.getD i 0=i:=by decide):Turns n0 σ ⟨slots l,co⟩:=Turns.se sel snap (h1 x) (h2 x) hnd hn hid
theorem Xw {n0:Nat} {σ:St} {v res:AV} {objs':List Ob} {e:Prop} (snap:Bool) (sel:List Nat) (x:e) (h1:e→SelO (rho σ.objs.length sel) σ.objs sel objs':=by (intro hx;simp only[Oc,simprocAttr,hx])) (h2:ArgR σ (kept sel objs') (rho σ.objs.length sel) snap res v:=by first|exact .pure rfl|exact .eq rfl|exact .fz rfl (by simp only[Bc,Rc])) (hnd:sel.Nodup:=by decide) (hn:n0≤sel.length:=by decide) (hid:∀ i,i<n0→sel.getD i 0=i:=by decide):RetOK n0 σ v res objs':=RetOK_se sel snap (h1 x) h2 hnd hn hid
theorem Xn (sel:List Nat) {P:Program} {σ:St} {f:FuncId} {args cargs:List AV} {cobjs:List Ob} {dst:Option Tmp} {K:St→Prop} {res:AV} {cobjs':List Ob} (h:Holds P f cargs cobjs res cobjs')
    (hK:K (({ σ with objs:=mergeO σ.objs sel (cobjs'.map (renO (rho σ.objs.length sel))) }:St).put dst (ren (rho σ.objs.length sel) res)))
    (hnd:sel.Nodup:=by decide) (ho:SelX (rho σ.objs.length sel) σ.objs sel cobjs:=by ((repeat' (first|exact trivial|with_reducible refine And.intro ?_ ?_|refine And.intro ?_ ?_))<;>first|rfl|(rw[ints_ren];rfl)|(rw[bools_ren];rfl)|(rw[rows_ren];rfl)|(rw[intss_ren];rfl))) (ha:ArgsR (ArgR σ (·∈sel) (rho σ.objs.length sel) false) cargs args:=by ((repeat' (first|exact trivial|refine And.intro ?_ ?_))<;>(first|exact .pure rfl|exact .eq rfl|exact .fz rfl (by simp only[Bc,Rc])))):callK P f args dst K σ:=callK_sel sel h hnd ho ha hK
theorem Xf (sel:List Nat) {P:Program} {σ:St} {f:FuncId} {args cargs:List AV} {cobjs:List Ob} {dst:Option Tmp} {K:St→Prop} {res:AV} {cobjs':List Ob} (h:Holds P f cargs cobjs res cobjs')
    (hK:K (({ σ with objs:=mergeO σ.objs sel (cobjs'.map (renO (rho σ.objs.length sel))) }:St).put dst (ren (rho σ.objs.length sel) res)))
    (hnd:sel.Nodup:=by decide) (ho:SelX (rho σ.objs.length sel) σ.objs sel cobjs:=by ((repeat' (first|exact trivial|with_reducible refine And.intro ?_ ?_|refine And.intro ?_ ?_))<;>first|rfl|(rw[ints_ren];rfl)|(rw[bools_ren];rfl)|(rw[rows_ren];rfl)|(rw[intss_ren];rfl))) (ha:ArgsR (ArgR σ (·∈sel) (rho σ.objs.length sel) true) cargs args:=by ((repeat' (first|exact trivial|refine And.intro ?_ ?_))<;>(first|exact .pure rfl|exact .eq rfl|exact .fz rfl (by simp only[Bc,Rc])))) (hfr:flat res=true:=by rfl) (hfo:∀ o∈cobjs',flatO o:=by simp[flatO]):callK P f args dst K σ:=callK_snap sel h hnd ho ha hfr hfo hK
theorem Pw:type_of% @planW_three∧type_of% @planW_both∧type_of% @planW_take∧type_of% @planW_nil∧type_of% @stepAt.eq_1∧type_of% @stepD.eq_1:=⟨@planW_three,@planW_both,@planW_take,@planW_nil,@stepAt.eq_1,@stepD.eq_1⟩
theorem Va {p q e:Prop} (x:e) (h:q) (k:e→q→p:=by first|(intro hx hq;(try with_reducible intro K hK);(first|((first|refine rr ?_|refine rre ?_);intro K hK;simp (disch:=omega) only[Ac,↓Pc,simprocAttr,hx];show _)|(with_reducible refine gO ?_;simp (disch:=omega) only[Ac,↓Pc,simprocAttr,hx];show _)|(refine hK _ ?_;clear hK K)|refine Wz rfl ?_|refine Xk ?_|refine Xb ?_|refine Sq.n _ ?_|refine Sq.e _ _ rfl ?_|refine Bq.n _ ?_|refine Bq.x _ ?_|refine Bq.e _ _ rfl ?_|refine hn _ ?_|refine he _ _ rfl ?_|(simp only[Qc,Kc,simprocAttr];show _)|(with_reducible refine And.intro ?_ ?_;(focus (clear hq;first|omega|with_reducible rfl|exact trivial))));(repeat (first|((first|refine rr ?_|refine rre ?_);intro K hK;simp (disch:=omega) only[Ac,↓Pc,simprocAttr,hx];show _)|(with_reducible refine gO ?_;simp (disch:=omega) only[Ac,↓Pc,simprocAttr,hx];show _)|(refine hK _ ?_;clear hK K)|refine Wz rfl ?_|refine Xk ?_|refine Xb ?_|refine Sq.n _ ?_|refine Sq.e _ _ rfl ?_|refine Bq.n _ ?_|refine Bq.x _ ?_|refine Bq.e _ _ rfl ?_|refine hn _ ?_|refine he _ _ rfl ?_|(simp only[Qc,Kc,simprocAttr];show _)|(with_reducible refine And.intro ?_ ?_;(focus (clear hq;first|omega|with_reducible rfl|exact trivial)))));(try revert hK);(try revert K);exact hq)|fail):p:=k x h
theorem Vb {p q e:Prop} (x:e) (h:q) (k:e→q→p:=by first|(intro hx hq;(try with_reducible intro K hK);(first|((first|refine rr ?_|refine rre ?_);intro K hK;simp (disch:=omega) only[Ac,↓Pc,simprocAttr,hx];show _)|(with_reducible refine gO ?_;simp (disch:=omega) only[Ac,↓Pc,simprocAttr,hx];show _)|(refine hK _ ?_;clear hK K)|refine Wz rfl ?_|refine Xk ?_|refine Xb ?_|refine Sq.n _ ?_|refine Sq.e _ _ rfl ?_|refine Bq.n _ ?_|refine Bq.x _ ?_|refine Bq.e _ _ rfl ?_|refine hn _ ?_|refine he _ _ rfl ?_|refine hel _ _ rfl ?_|refine hel2 _ _ rfl ?_|refine hel3 _ _ rfl ?_|refine hel4 _ _ rfl ?_|(simp only[Qc,Kc,simprocAttr];show _)|(with_reducible refine And.intro ?_ ?_;(focus (clear hq;first|omega|with_reducible rfl|exact trivial))));(repeat (first|((first|refine rr ?_|refine rre ?_);intro K hK;simp (disch:=omega) only[Ac,↓Pc,simprocAttr,hx];show _)|(with_reducible refine gO ?_;simp (disch:=omega) only[Ac,↓Pc,simprocAttr,hx];show _)|(refine hK _ ?_;clear hK K)|refine Wz rfl ?_|refine Xk ?_|refine Xb ?_|refine Sq.n _ ?_|refine Sq.e _ _ rfl ?_|refine Bq.n _ ?_|refine Bq.x _ ?_|refine Bq.e _ _ rfl ?_|refine hn _ ?_|refine he _ _ rfl ?_|refine hel _ _ rfl ?_|refine hel2 _ _ rfl ?_|refine hel3 _ _ rfl ?_|refine hel4 _ _ rfl ?_|(simp only[Qc,Kc,simprocAttr];show _)|(with_reducible refine And.intro ?_ ?_;(focus (clear hq;first|omega|with_reducible rfl|exact trivial)))));(try revert hK);(try revert K);exact hq)|fail):p:=k x h
theorem Vc {p q e t:Prop} (x:e) (c:t) (h:q) (k:e→t→q→p:=by first|(intro hx hc hq;(try with_reducible intro K hK);(first|((first|refine rr ?_|refine rre ?_|refine rb ?_|refine rbe ?_|refine ra ?_|refine rae ?_);intro K hK;simp (disch:=omega) only[Ac,↓Pc,simprocAttr,hx];show _)|(with_reducible refine gO ?_;simp (disch:=omega) only[Ac,↓Pc,simprocAttr,hx];show _)|(refine hK _ ?_;clear hK K)|refine Wz rfl ?_|refine Xk ?_|refine Xb ?_|refine Sq.n _ ?_|refine Sq.e _ _ rfl ?_|refine Bq.n _ ?_|refine Bq.x _ ?_|refine Bq.e _ _ rfl ?_|refine hn _ ?_|refine he _ _ rfl ?_|(simp only[Qc,Kc,simprocAttr];show _)|(with_reducible refine And.intro ?_ ?_;(focus (clear hq;first|omega|with_reducible rfl|exact trivial)))|refine callK_pure hc rfl rfl ?_|refine callK_pure hc.1 rfl rfl ?_|refine callK_pure hc.2 rfl rfl ?_|refine callK_pure hc.2.1 rfl rfl ?_|refine callK_pure hc.2.2 rfl rfl ?_|refine callK_pure hc.2.2.1 rfl rfl ?_|refine callK_pure hc.2.2.2 rfl rfl ?_|refine callK_pure hc.2.2.2.1 rfl rfl ?_|refine callK_pure hc.2.2.2.2 rfl rfl ?_|refine callK_pure hc.2.2.2.2.1 rfl rfl ?_|refine callK_pure hc.2.2.2.2.2 rfl rfl ?_|refine callK_pure hc.2.2.2.2.2.1 rfl rfl ?_|refine callK_pure hc.2.2.2.2.2.2 rfl rfl ?_|refine callK_pure hc.2.2.2.2.2.2.1 rfl rfl ?_|refine callK_pure hc.2.2.2.2.2.2.2 rfl rfl ?_|refine callK_pure hc.2.2.2.2.2.2.2.1 rfl rfl ?_|refine callK_pure hc.2.2.2.2.2.2.2.2 rfl rfl ?_|refine callQ_pure hc rfl rfl ?_|refine callQ_pure hc.1 rfl rfl ?_|refine callQ_pure hc.2 rfl rfl ?_|refine callQ_pure hc.2.1 rfl rfl ?_|refine callQ_pure hc.2.2 rfl rfl ?_|refine callQ_pure hc.2.2.1 rfl rfl ?_|refine callQ_pure hc.2.2.2 rfl rfl ?_|refine callQ_pure hc.2.2.2.1 rfl rfl ?_|refine callQ_pure hc.2.2.2.2 rfl rfl ?_|refine callQ_pure hc.2.2.2.2.1 rfl rfl ?_|refine callQ_pure hc.2.2.2.2.2 rfl rfl ?_|refine callQ_pure hc.2.2.2.2.2.1 rfl rfl ?_|refine callQ_pure hc.2.2.2.2.2.2 rfl rfl ?_|refine callQ_pure hc.2.2.2.2.2.2.1 rfl rfl ?_|refine callQ_pure hc.2.2.2.2.2.2.2 rfl rfl ?_|refine callQ_pure hc.2.2.2.2.2.2.2.1 rfl rfl ?_|refine callQ_pure hc.2.2.2.2.2.2.2.2 rfl rfl ?_);(repeat (first|((first|refine rr ?_|refine rre ?_|refine rb ?_|refine rbe ?_|refine ra ?_|refine rae ?_);intro K hK;simp (disch:=omega) only[Ac,↓Pc,simprocAttr,hx];show _)|(with_reducible refine gO ?_;simp (disch:=omega) only[Ac,↓Pc,simprocAttr,hx];show _)|(refine hK _ ?_;clear hK K)|refine Wz rfl ?_|refine Xk ?_|refine Xb ?_|refine Sq.n _ ?_|refine Sq.e _ _ rfl ?_|refine Bq.n _ ?_|refine Bq.x _ ?_|refine Bq.e _ _ rfl ?_|refine hn _ ?_|refine he _ _ rfl ?_|(simp only[Qc,Kc,simprocAttr];show _)|(with_reducible refine And.intro ?_ ?_;(focus (clear hq;first|omega|with_reducible rfl|exact trivial)))|refine callK_pure hc rfl rfl ?_|refine callK_pure hc.1 rfl rfl ?_|refine callK_pure hc.2 rfl rfl ?_|refine callK_pure hc.2.1 rfl rfl ?_|refine callK_pure hc.2.2 rfl rfl ?_|refine callK_pure hc.2.2.1 rfl rfl ?_|refine callK_pure hc.2.2.2 rfl rfl ?_|refine callK_pure hc.2.2.2.1 rfl rfl ?_|refine callK_pure hc.2.2.2.2 rfl rfl ?_|refine callK_pure hc.2.2.2.2.1 rfl rfl ?_|refine callK_pure hc.2.2.2.2.2 rfl rfl ?_|refine callK_pure hc.2.2.2.2.2.1 rfl rfl ?_|refine callK_pure hc.2.2.2.2.2.2 rfl rfl ?_|refine callK_pure hc.2.2.2.2.2.2.1 rfl rfl ?_|refine callK_pure hc.2.2.2.2.2.2.2 rfl rfl ?_|refine callK_pure hc.2.2.2.2.2.2.2.1 rfl rfl ?_|refine callK_pure hc.2.2.2.2.2.2.2.2 rfl rfl ?_|refine callQ_pure hc rfl rfl ?_|refine callQ_pure hc.1 rfl rfl ?_|refine callQ_pure hc.2 rfl rfl ?_|refine callQ_pure hc.2.1 rfl rfl ?_|refine callQ_pure hc.2.2 rfl rfl ?_|refine callQ_pure hc.2.2.1 rfl rfl ?_|refine callQ_pure hc.2.2.2 rfl rfl ?_|refine callQ_pure hc.2.2.2.1 rfl rfl ?_|refine callQ_pure hc.2.2.2.2 rfl rfl ?_|refine callQ_pure hc.2.2.2.2.1 rfl rfl ?_|refine callQ_pure hc.2.2.2.2.2 rfl rfl ?_|refine callQ_pure hc.2.2.2.2.2.1 rfl rfl ?_|refine callQ_pure hc.2.2.2.2.2.2 rfl rfl ?_|refine callQ_pure hc.2.2.2.2.2.2.1 rfl rfl ?_|refine callQ_pure hc.2.2.2.2.2.2.2 rfl rfl ?_|refine callQ_pure hc.2.2.2.2.2.2.2.1 rfl rfl ?_|refine callQ_pure hc.2.2.2.2.2.2.2.2 rfl rfl ?_));(try revert hK);(try revert K);exact hq)|fail):p:=k x c h
theorem Vd {p q e t:Prop} (x:e) (c:t) (h:q) (k:e→t→q→p:=by first|(intro hx hc hq;(try with_reducible intro K hK);(first|((first|refine rr ?_|refine rre ?_|refine rb ?_|refine rbe ?_|refine ra ?_|refine rae ?_);intro K hK;simp (disch:=omega) only[Ac,↓Pc,simprocAttr,hx];show _)|(with_reducible refine gO ?_;simp (disch:=omega) only[Ac,↓Pc,simprocAttr,hx];show _)|(refine hK _ ?_;clear hK K)|refine Wz rfl ?_|refine Xk ?_|refine Xb ?_|refine Sq.n _ ?_|refine Sq.e _ _ rfl ?_|refine Bq.n _ ?_|refine Bq.x _ ?_|refine Bq.e _ _ rfl ?_|refine hn _ ?_|refine he _ _ rfl ?_|refine hel _ _ rfl ?_|refine hel2 _ _ rfl ?_|refine hel3 _ _ rfl ?_|refine hel4 _ _ rfl ?_|(simp only[Qc,Kc,simprocAttr];show _)|(with_reducible refine And.intro ?_ ?_;(focus (clear hq;first|omega|with_reducible rfl|exact trivial)))|refine callK_pure hc rfl rfl ?_|refine callK_pure hc.1 rfl rfl ?_|refine callK_pure hc.2 rfl rfl ?_|refine callK_pure hc.2.1 rfl rfl ?_|refine callK_pure hc.2.2 rfl rfl ?_|refine callK_pure hc.2.2.1 rfl rfl ?_|refine callK_pure hc.2.2.2 rfl rfl ?_|refine callK_pure hc.2.2.2.1 rfl rfl ?_|refine callK_pure hc.2.2.2.2 rfl rfl ?_|refine callK_pure hc.2.2.2.2.1 rfl rfl ?_|refine callK_pure hc.2.2.2.2.2 rfl rfl ?_|refine callK_pure hc.2.2.2.2.2.1 rfl rfl ?_|refine callK_pure hc.2.2.2.2.2.2 rfl rfl ?_|refine callK_pure hc.2.2.2.2.2.2.1 rfl rfl ?_|refine callK_pure hc.2.2.2.2.2.2.2 rfl rfl ?_|refine callK_pure hc.2.2.2.2.2.2.2.1 rfl rfl ?_|refine callK_pure hc.2.2.2.2.2.2.2.2 rfl rfl ?_|refine callQ_pure hc rfl rfl ?_|refine callQ_pure hc.1 rfl rfl ?_|refine callQ_pure hc.2 rfl rfl ?_|refine callQ_pure hc.2.1 rfl rfl ?_|refine callQ_pure hc.2.2 rfl rfl ?_|refine callQ_pure hc.2.2.1 rfl rfl ?_|refine callQ_pure hc.2.2.2 rfl rfl ?_|refine callQ_pure hc.2.2.2.1 rfl rfl ?_|refine callQ_pure hc.2.2.2.2 rfl rfl ?_|refine callQ_pure hc.2.2.2.2.1 rfl rfl ?_|refine callQ_pure hc.2.2.2.2.2 rfl rfl ?_|refine callQ_pure hc.2.2.2.2.2.1 rfl rfl ?_|refine callQ_pure hc.2.2.2.2.2.2 rfl rfl ?_|refine callQ_pure hc.2.2.2.2.2.2.1 rfl rfl ?_|refine callQ_pure hc.2.2.2.2.2.2.2 rfl rfl ?_|refine callQ_pure hc.2.2.2.2.2.2.2.1 rfl rfl ?_|refine callQ_pure hc.2.2.2.2.2.2.2.2 rfl rfl ?_);(repeat (first|((first|refine rr ?_|refine rre ?_|refine rb ?_|refine rbe ?_|refine ra ?_|refine rae ?_);intro K hK;simp (disch:=omega) only[Ac,↓Pc,simprocAttr,hx];show _)|(with_reducible refine gO ?_;simp (disch:=omega) only[Ac,↓Pc,simprocAttr,hx];show _)|(refine hK _ ?_;clear hK K)|refine Wz rfl ?_|refine Xk ?_|refine Xb ?_|refine Sq.n _ ?_|refine Sq.e _ _ rfl ?_|refine Bq.n _ ?_|refine Bq.x _ ?_|refine Bq.e _ _ rfl ?_|refine hn _ ?_|refine he _ _ rfl ?_|refine hel _ _ rfl ?_|refine hel2 _ _ rfl ?_|refine hel3 _ _ rfl ?_|refine hel4 _ _ rfl ?_|(simp only[Qc,Kc,simprocAttr];show _)|(with_reducible refine And.intro ?_ ?_;(focus (clear hq;first|omega|with_reducible rfl|exact trivial)))|refine callK_pure hc rfl rfl ?_|refine callK_pure hc.1 rfl rfl ?_|refine callK_pure hc.2 rfl rfl ?_|refine callK_pure hc.2.1 rfl rfl ?_|refine callK_pure hc.2.2 rfl rfl ?_|refine callK_pure hc.2.2.1 rfl rfl ?_|refine callK_pure hc.2.2.2 rfl rfl ?_|refine callK_pure hc.2.2.2.1 rfl rfl ?_|refine callK_pure hc.2.2.2.2 rfl rfl ?_|refine callK_pure hc.2.2.2.2.1 rfl rfl ?_|refine callK_pure hc.2.2.2.2.2 rfl rfl ?_|refine callK_pure hc.2.2.2.2.2.1 rfl rfl ?_|refine callK_pure hc.2.2.2.2.2.2 rfl rfl ?_|refine callK_pure hc.2.2.2.2.2.2.1 rfl rfl ?_|refine callK_pure hc.2.2.2.2.2.2.2 rfl rfl ?_|refine callK_pure hc.2.2.2.2.2.2.2.1 rfl rfl ?_|refine callK_pure hc.2.2.2.2.2.2.2.2 rfl rfl ?_|refine callQ_pure hc rfl rfl ?_|refine callQ_pure hc.1 rfl rfl ?_|refine callQ_pure hc.2 rfl rfl ?_|refine callQ_pure hc.2.1 rfl rfl ?_|refine callQ_pure hc.2.2 rfl rfl ?_|refine callQ_pure hc.2.2.1 rfl rfl ?_|refine callQ_pure hc.2.2.2 rfl rfl ?_|refine callQ_pure hc.2.2.2.1 rfl rfl ?_|refine callQ_pure hc.2.2.2.2 rfl rfl ?_|refine callQ_pure hc.2.2.2.2.1 rfl rfl ?_|refine callQ_pure hc.2.2.2.2.2 rfl rfl ?_|refine callQ_pure hc.2.2.2.2.2.1 rfl rfl ?_|refine callQ_pure hc.2.2.2.2.2.2 rfl rfl ?_|refine callQ_pure hc.2.2.2.2.2.2.1 rfl rfl ?_|refine callQ_pure hc.2.2.2.2.2.2.2 rfl rfl ?_|refine callQ_pure hc.2.2.2.2.2.2.2.1 rfl rfl ?_|refine callQ_pure hc.2.2.2.2.2.2.2.2 rfl rfl ?_));(try revert hK);(try revert K);exact hq)|fail):p:=k x c h
theorem V2 {p q r e:Prop} (x:e) (h:q) (h2:r) (k:e→q→r→p∧True:=by first|(intro hx hq hr;refine And.intro ?_ ?_;(try with_reducible intro K hK);(with_reducible refine gS (fun hb'=>?_) (fun hb'=>?_));(focus (have hb:=hb';(try simp only[DEc,simprocAttr] at hb);all_goals (simp (disch:=omega) only[Ac,↓Pc,simprocAttr,hx,hb']);all_goals (clear hb';(try revert hK);(try revert K);revert hb;exact hq)));(focus (have hb:=hb';(try simp only[DEc,simprocAttr] at hb);all_goals (simp (disch:=omega) only[Ac,↓Pc,simprocAttr,hx,hb']);all_goals (clear hb';(try revert hK);(try revert K);revert hb;exact hr)));((try have _:True:=hq);(try have _:True:=hr);trivial))|fail):p:=(k x h h2).1
theorem VD {p q r:Prop} (h:q) (h2:r) (k:q→r→p:=by first|(intro hq hr;(try with_reducible intro K hK);with_reducible refine And.intro ?_ ?_;(focus ((try clear hK K);(try revert hK);(try revert K);exact hq));(focus ((try clear hK K);(try revert hK);(try revert K);exact hr)))|fail):p:=k h h2
end T
namespace T
theorem mod_ok (n m:Int) (hm:In64 m):Holds Tryz.prog 11 [.lit (.int .i64 n),.lit (.int .i64 m)] [] (.lit (.int .i64 (modI n m))) []:=by
  unfold In64 at hm
  refine Holds.of_body' (fn:=Tryz.f11) 16 0 [.tmp 4] Tryz.func11 rfl rfl rfl rfl rfl (by simp) ?_
  repeat' (first|(refine Xr X0 ?_;intro K hK)|(refine hK _ ?_;clear hK K)|(refine Xi ?_ ?_<;>try intro ht)|refine Xz ?_|(refine Xe ?_;first|refine RetOK_pure' rfl ?_|refine Xl ?_ ?_)|refine Xd ?_ ?_|exact Xx|fail)
  · rw[modI,if_pos ht]
  · have:=tmod_cases n m (by omega);omega
  · rw[modI,if_neg (by omega),(tmod_cases n m (by omega)).1 ht]
  · rw[modI,if_neg (by omega),(tmod_cases n m (by omega)).2.1 ht]
theorem light_ok (xs:List Int):Holds Tryz.prog 7 [.tree 1 (ints xs)] [] (.lit (.bool (decide (xs.length≤400)))) []:=by
  refine Holds.of_body' (fn:=Tryz.f7) 6 0 [.tmp 2] Tryz.func7 rfl rfl rfl rfl rfl (by simp) ?_
  repeat' (first|(refine Xr X0 ?_;intro K hK)|(refine hK _ ?_;clear hK K)|refine Xz ?_|(refine Xe ?_;first|refine RetOK_pure' rfl ?_|refine Xl ?_ ?_)|fail)
  · congr 3;simp;omega
theorem next_ok (L:List Int) (k:Nat) (n:Int) (hn:In64 n) (hk:k≤L.length) (hL:L.length<1000000):Holds Tryz.prog 48 [.ptr 0 0 0,.lit (.int .i64 n)] [.var [.tree 1 (ints L),.lit (.int .i64 k)]] (.lit (.int .i64 (nextV L k n)))
    [.var [.tree 1 (ints L),.lit (.int .i64 (nextA L k))]]:=by
  refine Holds.of_body' (fn:=Tryz.f48) 35 1 [.tmp 4] Tryz.func48 rfl rfl rfl rfl rfl (by simp) ?_
  repeat' (first|(refine Xq X0 ?_;intro K hK)|refine Xo X0 ?_|refine Xc (mod_ok _ _ hn) ?_|(refine hK _ ?_;clear hK K)|(refine Xi ?_ ?_<;>try intro ht)|refine Xz ?_|(refine Xe ?_;first|refine RetOK_pure' rfl ?_|refine Xl ?_ ?_)|refine Xd ?_ ?_|exact Xx|fail)
  · rw[nextA,if_pos (by omega)]
  · rw[nextV,if_pos (by omega)]
  · rw[nextA,if_neg (by omega),Int.natCast_add];rfl
  · rw[nextV,if_neg (by omega),show ((k:Int)+1 - 1).toNat=k by omega]
theorem one_ok (L:List Int) (k:Nat) (n:Int) (hn:In64 n) (hn0:0<n) (hk:k≤L.length) (hL:L.length<1000000):Holds Tryz.prog 19 [.ptr 0 0 0,.lit (.int .i64 n)] [.var [.tree 1 (ints L),.lit (.int .i64 k)]] (.lit (.bool (oneV L k n)))
    [.var [.tree 1 (ints L),.lit (.int .i64 (nextA L k))]]:=by
  refine Holds.of_body' (fn:=Tryz.f19) 11 1 [.tmp 4] Tryz.func19 rfl rfl rfl rfl rfl (by simp) ?_
  repeat' (first|(refine Xr X0 ?_;intro K hK)|(refine hK _ ?_;clear hK K)|fail)
  refine callK_all (next_ok L k n hn hk hL) (by simp) ?_
  unfold In64 at hn
  repeat' (first|refine Xo X0 ?_|(refine hK _ ?_;clear hK K)|refine Xz ?_|(refine Xe ?_;first|refine RetOK_pure' rfl ?_|refine Xl ?_ ?_)|refine Xd ?_ ?_|exact Xx|fail)
  · rfl
theorem dcost_ok (L:List Int) (k:Nat) (hk:k≤L.length) (hL:L.length<1000000):Holds Tryz.prog 52 [.ptr 0 0 0] [.var [.tree 1 (ints L),.lit (.int .i64 k)]] (.lit (.int .i64 (costV L k)))
    [.var [.tree 1 (ints L),.lit (.int .i64 (costA L k))]]:=by
  have h6:=nextV_range (L:=L) (k:=k) (n:=6) (by omega)
  have h20:=nextV_range (L:=L) (k:=nextA L k) (n:=20) (by omega)
  refine Holds.of_body' (fn:=Tryz.f52) 14 1 [.tmp 2] Tryz.func52 rfl rfl rfl rfl rfl (by simp) ?_
  repeat' (first|(refine Xr X0 ?_;intro K hK)|(refine hK _ ?_;clear hK K)|refine Xz ?_|fail)
  refine callK_all (next_ok L k 6 (by unfold In64;omega) hk hL) (by simp) ?_
  have c1:nextV L k 6≤3→costA L k=nextA L k:=fun h=>by rw[costA,if_pos h]
  have c2:nextV L k 6<3→costV L k=0:=fun h=>by rw[costV,if_pos h]
  have c3:nextV L k 6=3→costV L k=1099511627776:=fun h=>by rw[costV,if_neg (by omega),if_pos h]
  have c4:¬ nextV L k 6≤3→costA L k=nextA L (nextA L k):=fun h=>by rw[costA,if_neg h]
  have c5:¬ nextV L k 6≤3→costV L k=1+nextV L (nextA L k) 20:=fun h=>by rw[costV,if_neg (by omega),if_neg (by omega)]
  repeat' (first|(refine Xr X0 ?_;intro K hK)|(refine hK _ ?_;clear hK K)|(refine Xi ?_ ?_<;>try intro ht)|refine Xz ?_|(refine Xe ?_;first|refine RetOK_pure' rfl ?_|refine Xl ?_ ?_)|exact Xx|fail)
  iterate 3
    · rw[c1 (by omega)]
    · rw[c2 (by omega)]
  · rw[c1 (by omega)]
  · rw[c3 (by omega)]
  · refine callK_all (next_ok L (nextA L k) 20 (by unfold In64;omega) (nextA_le hk) hL) (by simp) ?_
    repeat' (first|refine Xo X0 ?_|(refine hK _ ?_;clear hK K)|refine Xz ?_|(refine Xe ?_;first|refine RetOK_pure' rfl ?_|refine Xl ?_ ?_)|refine Xd ?_ ?_|exact Xx|fail)
    · rw[c4 (by omega)]
    · rw[c5 (by omega)]
theorem roll_ok (L:List Int):Holds Tryz.prog 10 [.tree 1 (ints L)] [] (.ptr 0 0 0) [.var [.tree 1 (ints L),.lit (.int .i64 (0:Nat))]]:=by
  refine Holds.of_body' (fn:=Tryz.f10) 6 0 [.tmp 2] Tryz.func10 rfl rfl rfl rfl rfl (by simp) ?_
  refine Vb X0 ?_
  rw[show (0:Int)=((0:Nat):Int) from rfl]
  exact RetOK_all rfl (by simp) rfl
theorem same_ok (a b:List Int) (hl:a.length<9223372036854775808):Holds Tryz.prog 14 [.tree 1 (ints a),.tree 1 (ints b)] [] (.lit (.bool (decide (a=b)))) []:=by
  refine Holds.of_body' (fn:=Tryz.f14) 26 0 [.tmp 4] Tryz.func14 rfl rfl rfl rfl rfl (by simp) ?_
  repeat' (first|(refine Xr X0 ?_;intro K hK)|(refine hK _ ?_;clear hK K)|(refine Xi ?_ ?_<;>try intro ht)|refine Xz ?_|(refine Xe ?_;first|refine RetOK_pure' rfl ?_|refine Xl ?_ ?_)|fail)
  · congr 2;simp;intro h;subst h;exact absurd rfl ht
  · refine W_loopS (fun k:Nat=>(⟨slots [(0,.tree 1 (ints a)),(1,.tree 1 (ints b)),(5,.lit (.int .i64 k))],[]⟩:St)) (fun k=>k≤a.length∧(a=b↔a.drop k=b.drop k)) (fun k=>a.length - k) 0 ⟨Nat.zero_le _,by simp⟩ (Xv X0) ?_
    intro k ⟨hk,hc⟩ Ql hnl hel
    repeat' (first|(refine Xr X0 ?_;intro K hK)|(refine hK _ ?_;clear hK K)|(refine Xi ?_ ?_<;>try intro ht)|refine Xz ?_|refine Xh ?_|(refine Xe ?_;first|refine RetOK_pure' rfl ?_|refine Xl ?_ ?_)|refine Xd ?_ ?_|exact Xx|fail)
    · congr 2;simp only[decide_eq_false_iff_not,eq_comm (a:=false)]
      rw[hc,getD_drop0 _ _ 0 (by omega),getD_drop0 b _ 0 (by omega)]
      simp only[List.cons.injEq]
      exact fun h=>ht h.1
    · refine hnl _ (k+1) ⟨by omega,?_⟩ (by omega) (Xv X0)
      rw[hc,getD_drop0 _ _ 0 (by omega),getD_drop0 b _ 0 (by omega),ht]
      simp
    · congr 2
      rw[show a=b by rw[hc,List.drop_eq_nil_of_le (by omega),List.drop_eq_nil_of_le (by omega)]]
      simp
theorem add_ok (a b:Int) (ha:In41 a) (hb:In41 b):Holds Tryz.prog 55 [.lit (.int .i64 a),.lit (.int .i64 b)] [] (.lit (.int .i64 (addC a b))) []:=by
  unfold In41 at *
  refine Holds.of_body' (fn:=Tryz.f55) 9 0 [.tmp 4] Tryz.func55 rfl rfl rfl rfl rfl (by simp) ?_
  repeat' (first|(refine Xr X0 ?_;intro K hK)|(refine hK _ ?_;clear hK K)|refine Xz ?_|(refine Xe ?_;first|refine RetOK_pure' rfl ?_|refine Xl ?_ ?_)|refine Xd ?_ ?_|exact Xx|fail)
  · rfl
theorem mcost_ok (n:Int):Holds Tryz.prog 100 [.lit (.int .i64 n)] [] (.lit (.bool (priceB n))) []:=by
  refine Holds.of_body' (fn:=Tryz.f100) 13 0 [.tmp 2] Tryz.func100 rfl rfl rfl rfl rfl (by simp) ?_
  repeat' (first|(refine Xr X0 ?_;intro K hK)|(refine hK _ ?_;clear hK K)|(refine Xg X0 ?_ ?_<;>try intro hb)|refine Xz ?_|(refine Xe ?_;first|refine RetOK_pure' rfl ?_|refine Xl ?_ ?_)|fail)
  all_goals (refine congrArg (fun b=>AV.lit (Value.bool b)) ?_;rw[Bool.eq_iff_iff];simp only[priceB,decide_eq_true_eq,beq_iff_eq,bne_iff_ne,Bool.and_eq_true,Bool.or_eq_true,Bool.not_eq_true',decide_eq_false_iff_not,Bool.false_eq_true,reduceCtorEq,iff_true,iff_false,true_iff,false_iff,eq_self];omega)
theorem price_ok (n:Int):Holds Tryz.prog 84 [.lit (.int .i64 n)] [] (.lit (.bool (priceB n))) []:=by
  refine Holds.of_body' (fn:=Tryz.f84) 13 0 [.tmp 2] Tryz.func84 rfl rfl rfl rfl rfl (by simp) ?_
  repeat' (first|(refine Xr X0 ?_;intro K hK)|(refine hK _ ?_;clear hK K)|(refine Xg X0 ?_ ?_<;>try intro hb)|refine Xz ?_|(refine Xe ?_;first|refine RetOK_pure' rfl ?_|refine Xl ?_ ?_)|fail)
  all_goals (refine congrArg (fun b=>AV.lit (Value.bool b)) ?_;rw[Bool.eq_iff_iff];simp only[priceB,decide_eq_true_eq,beq_iff_eq,bne_iff_ne,Bool.and_eq_true,Bool.or_eq_true,Bool.not_eq_true',decide_eq_false_iff_not,Bool.false_eq_true,reduceCtorEq,iff_true,iff_false,true_iff,false_iff,eq_self];omega)
theorem named_ok (m:Mdl) (n:Int):Holds Tryz.prog 99 [.agg (eMdl m),.lit (.int .i64 n)] [] (.lit (.bool (ruleB m.rules n))) []:=by
  refine Holds.of_body' (fn:=Tryz.f99) 13 0 [.tmp 4] Tryz.func99 rfl rfl rfl rfl rfl (by simp) ?_
  repeat' (first|(refine Xr @eMdl.eq_1 ?_;intro K hK)|(refine hK _ ?_;clear hK K)|(refine Xg @eMdl.eq_1 ?_ ?_<;>try intro hb)|refine Xz ?_|(refine Xe ?_;first|refine RetOK_pure' rfl ?_|refine Xl ?_ ?_)|fail)
  all_goals (refine congrArg (fun b=>AV.lit (Value.bool b)) ?_;rw[Bool.eq_iff_iff];simp only[ruleB,decide_eq_true_eq,beq_iff_eq,bne_iff_ne,Bool.and_eq_true,Bool.or_eq_true,Bool.not_eq_true',decide_eq_false_iff_not,Bool.false_eq_true,reduceCtorEq,iff_true,iff_false,true_iff,false_iff,eq_self];omega)
theorem rule_ok (m:Mdl) (n:Int):Holds Tryz.prog 83 [.agg (eMdl m),.lit (.int .i64 n)] [] (.lit (.bool (ruleB m.rules n))) []:=by
  refine Holds.of_body' (fn:=Tryz.f83) 13 0 [.tmp 4] Tryz.func83 rfl rfl rfl rfl rfl (by simp) ?_
  repeat' (first|(refine Xr @eMdl.eq_1 ?_;intro K hK)|(refine hK _ ?_;clear hK K)|(refine Xg @eMdl.eq_1 ?_ ?_<;>try intro hb)|refine Xz ?_|(refine Xe ?_;first|refine RetOK_pure' rfl ?_|refine Xl ?_ ?_)|fail)
  all_goals (refine congrArg (fun b=>AV.lit (Value.bool b)) ?_;rw[Bool.eq_iff_iff];simp only[ruleB,decide_eq_true_eq,beq_iff_eq,bne_iff_ne,Bool.and_eq_true,Bool.or_eq_true,Bool.not_eq_true',decide_eq_false_iff_not,Bool.false_eq_true,reduceCtorEq,iff_true,iff_false,true_iff,false_iff,eq_self];omega)
theorem isNaN_ok (n:Int):Holds Tryz.prog 92 [.lit (.int .i64 n)] [] (.lit (.bool false)) []:=by
  refine Holds.of_body' (fn:=Tryz.f92) 6 0 [.tmp 2] Tryz.func92 rfl rfl rfl rfl rfl (by simp) ?_
  repeat' (first|(refine Xr @bne_self_eq_false.{0} ?_;intro K hK)|(refine hK _ ?_;clear hK K)|refine Xz ?_|(refine Xe ?_;first|refine RetOK_pure' rfl ?_|refine Xl ?_ ?_)|exact Xx|fail)
theorem compare_ok (a b:Int):Holds Tryz.prog 46 [.lit (.int .i64 a),.lit (.int .i64 b)] [] (.lit (.int .i64 (cmp3 a b))) []:=by
  refine Holds.of_body' (fn:=Tryz.f46) 20 0 [.tmp 4] Tryz.func46 rfl rfl rfl rfl rfl (by simp) ?_
  repeat' (first|(refine Xq X0 ?_;intro K hK)|refine Xo X0 ?_|refine Xc (isNaN_ok _) ?_|(refine hK _ ?_;clear hK K)|(refine Xi ?_ ?_<;>try intro ht)|refine Xz ?_|(refine Xe ?_;first|refine RetOK_pure' rfl ?_|refine Xl ?_ ?_)|exact Xx|fail)
  all_goals (unfold cmp3;congr 2;(repeat' split)<;>omega)
theorem or_ok (l:List Int) (hl:l.length<1000000):Holds Tryz.prog 45 [.tree 1 (ints l)] [] (.lit (.int .i64 (orL l))) []:=by
  generalize hres:orL l=res
  refine Holds.of_body' (fn:=Tryz.f45) 18 0 [.tmp 2] Tryz.func45 rfl rfl rfl rfl rfl (by simp) ?_
  repeat' (first|(refine Xr X0 ?_;intro K hK)|(refine hK _ ?_;clear hK K)|refine Xz ?_|fail)
  refine W_loopS (fun k:Nat=>(⟨slots [(3,.lit (.int .i64 0)),(6,.tree 1 (ints l)),(7,.lit (.int .i64 l.length)),(8,.lit (.int .i64 k))],[]⟩:St)) (fun k=>k≤l.length∧orL (l.drop k)=res) (fun k=>l.length - k) 0 ⟨Nat.zero_le _,hres⟩ (Xv X0) ?_
  rintro k ⟨hk,hr⟩ Ql hnl hel
  repeat' (first|(refine Xr X0 ?_;intro K hK)|(refine hK _ ?_;clear hK K)|(refine Xi ?_ ?_<;>try intro ht)|refine Xz ?_|refine Xh ?_|(refine Xe ?_;first|refine RetOK_pure' rfl ?_|refine Xl ?_ ?_)|refine Xd ?_ ?_|exact Xx|fail)
  · rw[getD_drop0 _ _ 0 (by omega),orL,if_pos (by assumption)] at hr
    rw[hr]
  · rw[getD_drop0 _ _ 0 (by omega),orL,if_neg (by omega)] at hr
    exact hnl _ (k+1) ⟨by omega,hr⟩ (by omega) (Xv X0)
  · rw[List.drop_eq_nil_of_le (by omega),orL] at hr
    rw[hr]
theorem option_ok (m:Mdl) (c o:Int):Holds Tryz.prog 104 [.agg (eMdl m),.lit (.int .i64 c),.lit (.int .i64 o)] [] (.lit (.bool (optB m c o))) []:=by
  refine Holds.of_body' (fn:=Tryz.f104) 30 0 [.tmp 6] Tryz.func104 rfl rfl rfl rfl rfl (by simp) ?_
  repeat' (first|(refine Xr (X4 @eMdl.eq_1 @rows_length @rows_getD @eCls.eq_1) ?_;intro K hK)|(refine hK _ ?_;clear hK K)|(refine Xg (X4 @eMdl.eq_1 @rows_length @rows_getD @eCls.eq_1) ?_ ?_<;>try intro hb)|refine Xz ?_|(refine Xe ?_;first|refine RetOK_pure' rfl ?_|refine Xl ?_ ?_)|refine Xd ?_ ?_|exact Xx|fail)
  all_goals (refine congrArg (fun b=>AV.lit (Value.bool b)) ?_;rw[Bool.eq_iff_iff];simp only[optB,decide_eq_true_eq,beq_iff_eq,bne_iff_ne,Bool.and_eq_true,Bool.or_eq_true,Bool.not_eq_true',decide_eq_false_iff_not,Bool.false_eq_true,reduceCtorEq,iff_true,iff_false,true_iff,false_iff,eq_self];omega)
theorem refOption_ok (m:Mdl) (c o:Int):Holds Tryz.prog 60 [.agg (eMdl m),.lit (.int .i64 c),.lit (.int .i64 o)] [] (.lit (.bool (optB m c o))) []:=by
  refine Holds.of_body' (fn:=Tryz.f60) 30 0 [.tmp 6] Tryz.func60 rfl rfl rfl rfl rfl (by simp) ?_
  repeat' (first|(refine Xr (X4 @eMdl.eq_1 @rows_length @rows_getD @eCls.eq_1) ?_;intro K hK)|(refine hK _ ?_;clear hK K)|(refine Xg (X4 @eMdl.eq_1 @rows_length @rows_getD @eCls.eq_1) ?_ ?_<;>try intro hb)|refine Xz ?_|(refine Xe ?_;first|refine RetOK_pure' rfl ?_|refine Xl ?_ ?_)|refine Xd ?_ ?_|exact Xx|fail)
  all_goals (refine congrArg (fun b=>AV.lit (Value.bool b)) ?_;rw[Bool.eq_iff_iff];simp only[optB,decide_eq_true_eq,beq_iff_eq,bne_iff_ne,Bool.and_eq_true,Bool.or_eq_true,Bool.not_eq_true',decide_eq_false_iff_not,Bool.false_eq_true,reduceCtorEq,iff_true,iff_false,true_iff,false_iff,eq_self];omega)
theorem times_ok (n c:Int) (h2:n≤1048576) (h4:In41 c):Holds Tryz.prog 94 [.lit (.int .i64 n),.lit (.int .i64 c)] [] (.lit (.int .i64 (timesV n c))) []:=by
  unfold In41 at h4
  have hm:0<n→0≤n * c∧n * c≤1048576 * 1099511627776:=fun h=>⟨Int.mul_nonneg (by omega) h4.1,Int.mul_le_mul (by omega) h4.2 h4.1 (by omega)⟩
  refine Holds.of_body' (fn:=Tryz.f94) 13 0 [.tmp 4] Tryz.func94 rfl rfl rfl rfl rfl (by simp) ?_
  repeat' (first|(refine Xr X0 ?_;intro K hK)|(refine hK _ ?_;clear hK K)|(refine Xi ?_ ?_<;>try intro ht)|refine Xz ?_|(refine Xe ?_;first|refine RetOK_pure' rfl ?_|refine Xl ?_ ?_)|refine Xd ?_ ?_|exact Xx|fail)
  · rw[timesV,if_pos ht]
  · rw[timesV,if_neg (by omega),if_pos (by omega)]
  · rw[timesV,if_neg (by omega),if_neg (by omega)]
end T
namespace T
def idxL {α:Type} (p:α→Bool):Nat→List α→Int
  | _,[]=>-1
  | k,x::r=>if p x=true then (k:Int) else idxL p (k+1) r
theorem idxL_any {α:Type} (p:α→Bool):∀ (l:List α) (k:Nat),decide (0≤idxL p k l)=l.any p
  | [],k=>rfl
  | x::r,k=>by
    rw[idxL,List.any_cons]
    split
    · rename_i h;rw[h];simp
    · rename_i h;rw[idxL_any p r (k+1)];simp_all
theorem indexCls_ok (l:List (List Opt)) (g:FuncId) (caps:List AV) (objs:List Ob) (p:(List Opt)→Bool) (hl:l.length<9223372036854775808) (hg:∀ x∈l,Holds Tryz.prog g ([.tree 6 (rowsOf eOpt x)]++caps) objs (.lit (.bool (p x))) objs) :
    Holds Tryz.prog 120 [.tree 1 (rowsOf eCls l),.fn g caps] objs (.lit (.int .i64 (idxL p 0 l))) objs:=by
  generalize hres:idxL p 0 l=res
  refine Holds.of_body' (fn:=Tryz.f120) 19 objs.length [.tmp 4] Tryz.func120 rfl rfl rfl rfl rfl (by simp) ?_
  refine Vb (X3 @rows_length @rows_getD @eCls.eq_1) ?_
  refine W_loopS (fun k:Nat=>(⟨slots [(0,.tree 1 (rowsOf eCls l)),(1,.fn g caps),(7,.lit (.int .i64 l.length)),(8,.lit (.int .i64 k))],objs⟩:St)) (fun k=>k≤l.length∧idxL p k (l.drop k)=res) (fun k=>l.length - k) 0 ⟨Nat.zero_le _,hres⟩ (Xv X0) ?_
  rintro k ⟨hk,hr⟩ Ql hnl hel
  by_cases hk':k<l.length
  · have hx:=hg _ (getD_mem (d:=default) hk')
    have hd:=getD_drop0 l k default hk'
    generalize hxx:l.getD k default=x at *
    rw[hd,idxL] at hr
    simp only[List.cons_append,List.nil_append,eCls] at hx
    ((repeat' (first|refine Vb (X4 @rows_length @rows_getD @eCls.eq_1 @hxx) ?_|(refine Xi ?_ ?_<;>try intro ht)|exact Xx|fail))<;>try with_reducible intro K hK)
    refine callK_all hx (Nat.le_refl _) ?_
    ((try revert hK K);(repeat' (first|refine Vb (X3 @rows_length @rows_getD @eCls.eq_1) ?_|(refine Xi ?_ ?_<;>try intro ht)|fail)))
    · rw[if_pos (by assumption)] at hr
      rw[← hr]
      exact RetOK_all rfl (Nat.le_refl _) rfl
    · rw[if_neg (by simp_all)] at hr
      exact hnl _ (k+1) ⟨by omega,hr⟩ (by omega) (Xv X0)
  · ((repeat' (first|refine Vb (X3 @rows_length @rows_getD @eCls.eq_1) ?_|(refine Xi ?_ ?_<;>try intro ht)|exact Xx|fail)))
    rw[List.drop_eq_nil_of_le (by omega),idxL] at hr
    rw[← hr]
    exact RetOK_all rfl (Nat.le_refl _) rfl
theorem containsCls_ok (l:List (List Opt)) (g:FuncId) (caps:List AV) (objs:List Ob) (p:(List Opt)→Bool) (hl:l.length<9223372036854775808) (hg:∀ x∈l,Holds Tryz.prog g ([.tree 6 (rowsOf eOpt x)]++caps) objs (.lit (.bool (p x))) objs) :
    Holds Tryz.prog 97 [.tree 1 (rowsOf eCls l),.fn g caps] objs (.lit (.bool (l.any p))) objs:=by
  rw[← idxL_any p l 0]
  refine Holds.of_body' (fn:=Tryz.f97) 9 objs.length [.tmp 4] Tryz.func97 rfl rfl rfl rfl rfl (by simp) ?_
  ((refine Vb (X3 @rows_length @rows_getD @eCls.eq_1) ?_)<;>try with_reducible intro K hK)
  refine callK_all (indexCls_ok l g caps objs p hl hg) (Nat.le_refl _) ?_
  ((try revert hK K);(refine Vb (X3 @rows_length @rows_getD @eCls.eq_1) ?_))
  exact RetOK_all rfl (Nat.le_refl _) rfl
theorem indexOpt_ok (l:List Opt) (g:FuncId) (caps:List AV) (objs:List Ob) (p:Opt→Bool) (hl:l.length<9223372036854775808) (hg:∀ x∈l,Holds Tryz.prog g ([.agg (eOpt x)]++caps) objs (.lit (.bool (p x))) objs) :
    Holds Tryz.prog 98 [.tree 6 (rowsOf eOpt l),.fn g caps] objs (.lit (.int .i64 (idxL p 0 l))) objs:=by
  generalize hres:idxL p 0 l=res
  refine Holds.of_body' (fn:=Tryz.f98) 19 objs.length [.tmp 4] Tryz.func98 rfl rfl rfl rfl rfl (by simp) ?_
  refine Vb (X3 @rows_length @rows_getD @eOpt.eq_1) ?_
  refine W_loopS (fun k:Nat=>(⟨slots [(0,.tree 6 (rowsOf eOpt l)),(1,.fn g caps),(7,.lit (.int .i64 l.length)),(8,.lit (.int .i64 k))],objs⟩:St)) (fun k=>k≤l.length∧idxL p k (l.drop k)=res) (fun k=>l.length - k) 0 ⟨Nat.zero_le _,hres⟩ (Xv X0) ?_
  rintro k ⟨hk,hr⟩ Ql hnl hel
  by_cases hk':k<l.length
  · have hx:=hg _ (getD_mem (d:=default) hk')
    have hd:=getD_drop0 l k default hk'
    generalize hxx:l.getD k default=x at *
    rw[hd,idxL] at hr
    simp only[List.cons_append,List.nil_append,eOpt] at hx
    ((repeat' (first|refine Vb (X4 @rows_length @rows_getD @eOpt.eq_1 @hxx) ?_|(refine Xi ?_ ?_<;>try intro ht)|exact Xx|fail))<;>try with_reducible intro K hK)
    refine callK_all hx (Nat.le_refl _) ?_
    ((try revert hK K);(repeat' (first|refine Vb (X3 @rows_length @rows_getD @eOpt.eq_1) ?_|(refine Xi ?_ ?_<;>try intro ht)|fail)))
    · rw[if_pos (by assumption)] at hr
      rw[← hr]
      exact RetOK_all rfl (Nat.le_refl _) rfl
    · rw[if_neg (by simp_all)] at hr
      exact hnl _ (k+1) ⟨by omega,hr⟩ (by omega) (Xv X0)
  · ((repeat' (first|refine Vb (X3 @rows_length @rows_getD @eOpt.eq_1) ?_|(refine Xi ?_ ?_<;>try intro ht)|exact Xx|fail)))
    rw[List.drop_eq_nil_of_le (by omega),idxL] at hr
    rw[← hr]
    exact RetOK_all rfl (Nat.le_refl _) rfl
theorem containsOpt_ok (l:List Opt) (g:FuncId) (caps:List AV) (objs:List Ob) (p:Opt→Bool) (hl:l.length<9223372036854775808) (hg:∀ x∈l,Holds Tryz.prog g ([.agg (eOpt x)]++caps) objs (.lit (.bool (p x))) objs) :
    Holds Tryz.prog 63 [.tree 6 (rowsOf eOpt l),.fn g caps] objs (.lit (.bool (l.any p))) objs:=by
  rw[← idxL_any p l 0]
  refine Holds.of_body' (fn:=Tryz.f63) 9 objs.length [.tmp 4] Tryz.func63 rfl rfl rfl rfl rfl (by simp) ?_
  ((refine Vb (X3 @rows_length @rows_getD @eOpt.eq_1) ?_)<;>try with_reducible intro K hK)
  refine callK_all (indexOpt_ok l g caps objs p hl hg) (Nat.le_refl _) ?_
  ((try revert hK K);(refine Vb (X3 @rows_length @rows_getD @eOpt.eq_1) ?_))
  exact RetOK_all rfl (Nat.le_refl _) rfl
theorem indexCt_ok (l:List Ct) (g:FuncId) (caps:List AV) (objs:List Ob) (p:Ct→Bool) (hl:l.length<9223372036854775808) (hg:∀ x∈l,Holds Tryz.prog g ([.agg (eCt x)]++caps) objs (.lit (.bool (p x))) objs) :
    Holds Tryz.prog 103 [.tree 4 (rowsOf eCt l),.fn g caps] objs (.lit (.int .i64 (idxL p 0 l))) objs:=by
  generalize hres:idxL p 0 l=res
  refine Holds.of_body' (fn:=Tryz.f103) 19 objs.length [.tmp 4] Tryz.func103 rfl rfl rfl rfl rfl (by simp) ?_
  refine Vb (X3 @rows_length @rows_getD @eCt.eq_1) ?_
  refine W_loopS (fun k:Nat=>(⟨slots [(0,.tree 4 (rowsOf eCt l)),(1,.fn g caps),(7,.lit (.int .i64 l.length)),(8,.lit (.int .i64 k))],objs⟩:St)) (fun k=>k≤l.length∧idxL p k (l.drop k)=res) (fun k=>l.length - k) 0 ⟨Nat.zero_le _,hres⟩ (Xv X0) ?_
  rintro k ⟨hk,hr⟩ Ql hnl hel
  by_cases hk':k<l.length
  · have hx:=hg _ (getD_mem (d:=default) hk')
    have hd:=getD_drop0 l k default hk'
    generalize hxx:l.getD k default=x at *
    rw[hd,idxL] at hr
    simp only[List.cons_append,List.nil_append,eCt] at hx
    ((repeat' (first|refine Vb (X4 @rows_length @rows_getD @eCt.eq_1 @hxx) ?_|(refine Xi ?_ ?_<;>try intro ht)|exact Xx|fail))<;>try with_reducible intro K hK)
    refine callK_all hx (Nat.le_refl _) ?_
    ((try revert hK K);(repeat' (first|refine Vb (X3 @rows_length @rows_getD @eCt.eq_1) ?_|(refine Xi ?_ ?_<;>try intro ht)|fail)))
    · rw[if_pos (by assumption)] at hr
      rw[← hr]
      exact RetOK_all rfl (Nat.le_refl _) rfl
    · rw[if_neg (by simp_all)] at hr
      exact hnl _ (k+1) ⟨by omega,hr⟩ (by omega) (Xv X0)
  · ((repeat' (first|refine Vb (X3 @rows_length @rows_getD @eCt.eq_1) ?_|(refine Xi ?_ ?_<;>try intro ht)|exact Xx|fail)))
    rw[List.drop_eq_nil_of_le (by omega),idxL] at hr
    rw[← hr]
    exact RetOK_all rfl (Nat.le_refl _) rfl
theorem containsCt_ok (l:List Ct) (g:FuncId) (caps:List AV) (objs:List Ob) (p:Ct→Bool) (hl:l.length<9223372036854775808) (hg:∀ x∈l,Holds Tryz.prog g ([.agg (eCt x)]++caps) objs (.lit (.bool (p x))) objs) :
    Holds Tryz.prog 68 [.tree 4 (rowsOf eCt l),.fn g caps] objs (.lit (.bool (l.any p))) objs:=by
  rw[← idxL_any p l 0]
  refine Holds.of_body' (fn:=Tryz.f68) 9 objs.length [.tmp 4] Tryz.func68 rfl rfl rfl rfl rfl (by simp) ?_
  ((refine Vb (X3 @rows_length @rows_getD @eCt.eq_1) ?_)<;>try with_reducible intro K hK)
  refine callK_all (indexCt_ok l g caps objs p hl hg) (Nat.le_refl _) ?_
  ((try revert hK K);(refine Vb (X3 @rows_length @rows_getD @eCt.eq_1) ?_))
  exact RetOK_all rfl (Nat.le_refl _) rfl
theorem indexInt_ok (l:List Int) (g:FuncId) (caps:List AV) (objs:List Ob) (p:Int→Bool) (hl:l.length<9223372036854775808) (hg:∀ x∈l,Holds Tryz.prog g ([.lit (.int .i64 x)]++caps) objs (.lit (.bool (p x))) objs) :
    Holds Tryz.prog 121 [.tree 1 (ints l),.fn g caps] objs (.lit (.int .i64 (idxL p 0 l))) objs:=by
  generalize hres:idxL p 0 l=res
  refine Holds.of_body' (fn:=Tryz.f121) 19 objs.length [.tmp 4] Tryz.func121 rfl rfl rfl rfl rfl (by simp) ?_
  refine Vb @Nat.add_zero ?_
  refine W_loopS (fun k:Nat=>(⟨slots [(0,.tree 1 (ints l)),(1,.fn g caps),(7,.lit (.int .i64 l.length)),(8,.lit (.int .i64 k))],objs⟩:St)) (fun k=>k≤l.length∧idxL p k (l.drop k)=res) (fun k=>l.length - k) 0 ⟨Nat.zero_le _,hres⟩ (Xv X0) ?_
  rintro k ⟨hk,hr⟩ Ql hnl hel
  by_cases hk':k<l.length
  · have hx:=hg _ (getD_mem (d:=0) hk')
    have hd:=getD_drop0 l k 0 hk'
    generalize hxx:l.getD k 0=x at *
    rw[hd,idxL] at hr
    simp only[List.cons_append,List.nil_append] at hx
    ((repeat' (first|refine Vb (X2 @Nat.add_zero @hxx) ?_|(refine Xi ?_ ?_<;>try intro ht)|exact Xx|fail))<;>try with_reducible intro K hK)
    refine callK_all hx (Nat.le_refl _) ?_
    ((try revert hK K);(repeat' (first|refine Vb @Nat.add_zero ?_|(refine Xi ?_ ?_<;>try intro ht)|fail)))
    · rw[if_pos (by assumption)] at hr
      rw[← hr]
      exact RetOK_all rfl (Nat.le_refl _) rfl
    · rw[if_neg (by simp_all)] at hr
      exact hnl _ (k+1) ⟨by omega,hr⟩ (by omega) (Xv X0)
  · ((repeat' (first|refine Vb @Nat.add_zero ?_|(refine Xi ?_ ?_<;>try intro ht)|exact Xx|fail)))
    rw[List.drop_eq_nil_of_le (by omega),idxL] at hr
    rw[← hr]
    exact RetOK_all rfl (Nat.le_refl _) rfl
theorem containsInt_ok (l:List Int) (g:FuncId) (caps:List AV) (objs:List Ob) (p:Int→Bool) (hl:l.length<9223372036854775808) (hg:∀ x∈l,Holds Tryz.prog g ([.lit (.int .i64 x)]++caps) objs (.lit (.bool (p x))) objs) :
    Holds Tryz.prog 101 [.tree 1 (ints l),.fn g caps] objs (.lit (.bool (l.any p))) objs:=by
  rw[← idxL_any p l 0]
  refine Holds.of_body' (fn:=Tryz.f101) 9 objs.length [.tmp 4] Tryz.func101 rfl rfl rfl rfl rfl (by simp) ?_
  ((refine Vb @Nat.add_zero ?_)<;>try with_reducible intro K hK)
  refine callK_all (indexInt_ok l g caps objs p hl hg) (Nat.le_refl _) ?_
  ((try revert hK K);(refine Vb @Nat.add_zero ?_))
  exact RetOK_all rfl (Nat.le_refl _) rfl
end T

