/-
  The machine's context for this seat: its types, its functions, which callee is called how; that it tells what the program's tables say. Made by program. Conditions: none.
-/
import Derived.Test.YtgkjdfojogemhaaChecked
import Derived.KernelRfl
import Derived.Eval
import Derived.Test.YtgkjdfojogemhaaMg
set_option maxRecDepth 100000
set_option linter.unusedVariables false
namespace Go.Proofs.Ytgkjdfojogemhaa
open Go.Am

def Try.ti1 : TI := { kd := .other, agg := false, size := 1, bytes := 8, zero := [.nilFunc], flat := false }
def Try.ti2 : TI := { kd := .int .i64, agg := false, size := 1, bytes := 8, zero := [.int .i64 0], flat := false }
def Try.ti3 : TI := { kd := .int .i64, agg := false, size := 1, bytes := 8, zero := [.int .i64 0], flat := false }
def Try.ti4 : TI := { kd := .bool, agg := false, size := 1, bytes := 1, zero := [.bool false], flat := false }
def Try.ti5 : TI := { kd := .int .u8, agg := false, size := 1, bytes := 1, zero := [.int .u8 0], flat := false }
def Try.ti6 : TI := { kd := .int .u8, agg := false, size := 1, bytes := 1, zero := [.int .u8 0], flat := false }
def Try.ti7 : TI := { kd := .struct [(0, 1, 2), (1, 1, 3), (2, 1, 4), (3, 1, 6)], agg := true, size := 4, bytes := 24, zero := [.int .i64 0, .int .i64 0, .bool false, .int .u8 0], flat := false }
def Try.ti8 : TI := { kd := .struct [(0, 1, 2), (1, 1, 3), (2, 1, 4), (3, 1, 6)], agg := true, size := 4, bytes := 24, zero := [.int .i64 0, .int .i64 0, .bool false, .int .u8 0], flat := false }
def Try.ti9 : TI := { kd := .str, agg := false, size := 1, bytes := 16, zero := [.string ByteArray.empty], flat := false }
def Try.ti10 : TI := { kd := .str, agg := false, size := 1, bytes := 16, zero := [.string ByteArray.empty], flat := false }
def Try.ti11 : TI := { kd := .str, agg := false, size := 1, bytes := 16, zero := [.string ByteArray.empty], flat := false }
def Try.ti12 : TI := { kd := .int .u64, agg := false, size := 1, bytes := 8, zero := [.int .u64 0], flat := false }
def Try.ti13 : TI := { kd := .struct [(0, 1, 9), (1, 1, 12)], agg := true, size := 2, bytes := 24, zero := [.string ByteArray.empty, .int .u64 0], flat := false }
def Try.ti14 : TI := { kd := .struct [(0, 1, 9), (1, 1, 12)], agg := true, size := 2, bytes := 24, zero := [.string ByteArray.empty, .int .u64 0], flat := false }
def Try.ti15 : TI := { kd := .other, agg := false, size := 1, bytes := 8, zero := [.pointer none], flat := false }
def Try.ti16 : TI := { kd := .other, agg := false, size := 1, bytes := 8, zero := [.pointer none], flat := false }
def Try.ti17 : TI := { kd := .other, agg := false, size := 1, bytes := 8, zero := [.pointer none], flat := false }
def Try.ti18 : TI := { kd := .struct [(0, 1, 17)], agg := true, size := 1, bytes := 8, zero := [.pointer none], flat := false }
def Try.ti19 : TI := { kd := .struct [(0, 1, 17)], agg := true, size := 1, bytes := 8, zero := [.pointer none], flat := false }
def Try.ti21 : TI := { kd := .int .i32, agg := false, size := 1, bytes := 4, zero := [.int .i32 0], flat := false }
def Try.ti22 : TI := { kd := .int .u32, agg := false, size := 1, bytes := 4, zero := [.int .u32 0], flat := false }
def Try.ti23 : TI := { kd := .int .u64, agg := false, size := 1, bytes := 8, zero := [.int .u64 0], flat := false }
def Try.ti24 : TI := { kd := .int .i8, agg := false, size := 1, bytes := 1, zero := [.int .i8 0], flat := false }
def Try.ti25 : TI := { kd := .struct [(0, 1, 24), (1, 1, 24), (2, 1, 5)], agg := true, size := 3, bytes := 3, zero := [.int .i8 0, .int .i8 0, .int .u8 0], flat := false }
def Try.ti26 : TI := { kd := .struct [(0, 1, 24), (1, 1, 24), (2, 1, 5)], agg := true, size := 3, bytes := 3, zero := [.int .i8 0, .int .i8 0, .int .u8 0], flat := false }
def Try.ti27 : TI := { kd := .other, agg := false, size := 1, bytes := 8, zero := [.nilFunc], flat := false }
def Try.ti28 : TI := { kd := .int .i64, agg := false, size := 1, bytes := 8, zero := [.int .i64 0], flat := false }
def Try.ti30 : TI := { kd := .other, agg := false, size := 1, bytes := 8, zero := [.nilFunc], flat := false }
def Try.ti31 : TI := { kd := .other, agg := false, size := 1, bytes := 8, zero := [.nilFunc], flat := false }
def Try.ti32 : TI := { kd := .slice 22, agg := false, size := 1, bytes := 24, zero := [.slice none 0 0], flat := false }
def Try.ti33 : TI := { kd := .struct [(0, 1, 4), (1, 1, 32)], agg := true, size := 2, bytes := 32, zero := [.bool false, .slice none 0 0], flat := false }
def Try.ti34 : TI := { kd := .struct [(0, 1, 4), (1, 1, 32)], agg := true, size := 2, bytes := 32, zero := [.bool false, .slice none 0 0], flat := false }
def Try.ti35 : TI := { kd := .struct [(0, 2, 34), (2, 2, 34)], agg := true, size := 4, bytes := 64, zero := [.bool false, .slice none 0 0, .bool false, .slice none 0 0], flat := false }
def Try.ti36 : TI := { kd := .struct [(0, 2, 34), (2, 2, 34)], agg := true, size := 4, bytes := 64, zero := [.bool false, .slice none 0 0, .bool false, .slice none 0 0], flat := false }
def Try.ti37 : TI := { kd := .other, agg := false, size := 1, bytes := 8, zero := [.nilFunc], flat := false }
def Try.ti38 : TI := { kd := .other, agg := false, size := 1, bytes := 8, zero := [.nilFunc], flat := false }
def Try.ti39 : TI := { kd := .other, agg := false, size := 1, bytes := 8, zero := [.nilFunc], flat := false }
def Try.ti40 : TI := { kd := .other, agg := false, size := 1, bytes := 8, zero := [.nilFunc], flat := false }
def Try.ti41 : TI := { kd := .other, agg := false, size := 1, bytes := 8, zero := [.nilFunc], flat := false }
def Try.ti42 : TI := { kd := .other, agg := false, size := 1, bytes := 8, zero := [.nilFunc], flat := false }
def Try.ti43 : TI := { kd := .other, agg := false, size := 1, bytes := 8, zero := [.nilFunc], flat := false }
def Try.ti44 : TI := { kd := .other, agg := false, size := 1, bytes := 8, zero := [.nilFunc], flat := false }
def Try.ti45 : TI := { kd := .other, agg := false, size := 1, bytes := 8, zero := [.nilFunc], flat := false }
def Try.ti46 : TI := { kd := .other, agg := false, size := 1, bytes := 8, zero := [.nilFunc], flat := false }
def Try.ti47 : TI := { kd := .array 4 23, agg := true, size := 4, bytes := 32, zero := [.int .u64 0, .int .u64 0, .int .u64 0, .int .u64 0], flat := true }
def Try.ti48 : TI := { kd := .slice 23, agg := false, size := 1, bytes := 24, zero := [.slice none 0 0], flat := false }
def Try.ti49 : TI := { kd := .other, agg := false, size := 1, bytes := 8, zero := [.nilFunc], flat := false }
def Try.ti51 : TI := { kd := .other, agg := false, size := 1, bytes := 8, zero := [.nilFunc], flat := false }
def Try.ti52 : TI := { kd := .other, agg := false, size := 1, bytes := 8, zero := [.nilFunc], flat := false }
def Try.ti53 : TI := { kd := .other, agg := false, size := 1, bytes := 8, zero := [.nilFunc], flat := false }
def Try.ti54 : TI := { kd := .other, agg := false, size := 1, bytes := 8, zero := [.nilFunc], flat := false }
def Try.ti55 : TI := { kd := .other, agg := false, size := 1, bytes := 8, zero := [.nilFunc], flat := false }
def Try.ti56 : TI := { kd := .other, agg := false, size := 1, bytes := 8, zero := [.nilFunc], flat := false }
def Try.ti57 : TI := { kd := .other, agg := false, size := 1, bytes := 8, zero := [.nilFunc], flat := false }
def Try.ti58 : TI := { kd := .other, agg := false, size := 1, bytes := 8, zero := [.nilFunc], flat := false }
def Try.ti60 : TI := { kd := .other, agg := false, size := 1, bytes := 8, zero := [.nilFunc], flat := false }
def Try.ti61 : TI := { kd := .other, agg := false, size := 1, bytes := 8, zero := [.nilFunc], flat := false }
def Try.ti62 : TI := { kd := .other, agg := false, size := 1, bytes := 8, zero := [.nilFunc], flat := false }
def Try.ti63 : TI := { kd := .int .i16, agg := false, size := 1, bytes := 2, zero := [.int .i16 0], flat := false }
def Try.ti64 : TI := { kd := .other, agg := false, size := 1, bytes := 8, zero := [.nilFunc], flat := false }
def Try.ti65 : TI := { kd := .other, agg := false, size := 1, bytes := 8, zero := [.nilFunc], flat := false }
def Try.ti66 : TI := { kd := .other, agg := false, size := 1, bytes := 8, zero := [.nilFunc], flat := false }
def Try.ti67 : TI := { kd := .other, agg := false, size := 1, bytes := 8, zero := [.nilFunc], flat := false }
def Try.ti68 : TI := { kd := .int .u64, agg := false, size := 1, bytes := 8, zero := [.int .u64 0], flat := false }
def Try.ti69 : TI := { kd := .other, agg := false, size := 1, bytes := 8, zero := [.nilFunc], flat := false }
def Try.ti71 : TI := { kd := .other, agg := false, size := 1, bytes := 8, zero := [.nilFunc], flat := false }
def Try.ti72 : TI := { kd := .other, agg := false, size := 1, bytes := 8, zero := [.nilFunc], flat := false }
def Try.ti73 : TI := { kd := .other, agg := false, size := 1, bytes := 8, zero := [.nilFunc], flat := false }
def Try.ti74 : TI := { kd := .other, agg := false, size := 1, bytes := 8, zero := [.nilFunc], flat := false }
def Try.ti75 : TI := { kd := .other, agg := false, size := 1, bytes := 8, zero := [.nilFunc], flat := false }
def Try.ti77 : TI := { kd := .other, agg := false, size := 1, bytes := 8, zero := [.nilFunc], flat := false }
def Try.ti78 : TI := { kd := .struct [(0, 2, 34), (2, 2, 34)], agg := true, size := 4, bytes := 64, zero := [.bool false, .slice none 0 0, .bool false, .slice none 0 0], flat := false }
def Try.ti79 : TI := { kd := .struct [(0, 2, 34), (2, 2, 34)], agg := true, size := 4, bytes := 64, zero := [.bool false, .slice none 0 0, .bool false, .slice none 0 0], flat := false }
def Try.ti81 : TI := { kd := .other, agg := false, size := 1, bytes := 8, zero := [.nilFunc], flat := false }
def Try.ti82 : TI := { kd := .other, agg := false, size := 1, bytes := 8, zero := [.nilFunc], flat := false }
def Try.ti83 : TI := { kd := .slice 22, agg := false, size := 1, bytes := 24, zero := [.slice none 0 0], flat := false }
def Try.ti84 : TI := { kd := .other, agg := false, size := 1, bytes := 8, zero := [.nilFunc], flat := false }
def Try.ti85 : TI := { kd := .other, agg := false, size := 1, bytes := 8, zero := [.nilFunc], flat := false }
def Try.ti86 : TI := { kd := .other, agg := false, size := 1, bytes := 8, zero := [.nilFunc], flat := false }
def Try.ti87 : TI := { kd := .other, agg := false, size := 1, bytes := 8, zero := [.nilFunc], flat := false }
def Try.ti88 : TI := { kd := .other, agg := false, size := 1, bytes := 8, zero := [.nilFunc], flat := false }
def Try.ti90 : TI := { kd := .other, agg := false, size := 1, bytes := 8, zero := [.nilFunc], flat := false }
def Try.ti91 : TI := { kd := .other, agg := false, size := 1, bytes := 8, zero := [.nilFunc], flat := false }
def Try.ti92 : TI := { kd := .other, agg := false, size := 1, bytes := 8, zero := [.nilFunc], flat := false }
def Try.ti93 : TI := { kd := .other, agg := false, size := 1, bytes := 8, zero := [.nilFunc], flat := false }
def Try.ti94 : TI := { kd := .other, agg := false, size := 1, bytes := 8, zero := [.nilFunc], flat := false }
def Try.ti96 : TI := { kd := .other, agg := false, size := 1, bytes := 8, zero := [.nilFunc], flat := false }
def Try.ti97 : TI := { kd := .other, agg := false, size := 1, bytes := 8, zero := [.nilFunc], flat := false }
def Try.ti98 : TI := { kd := .other, agg := false, size := 1, bytes := 8, zero := [.nilFunc], flat := false }
def Try.ti99 : TI := { kd := .other, agg := false, size := 1, bytes := 8, zero := [.nilFunc], flat := false }
def Try.ti100 : TI := { kd := .other, agg := false, size := 1, bytes := 8, zero := [.nilFunc], flat := false }
def Try.ti102 : TI := { kd := .other, agg := false, size := 1, bytes := 8, zero := [.nilFunc], flat := false }
def Try.ti103 : TI := { kd := .other, agg := false, size := 1, bytes := 8, zero := [.nilFunc], flat := false }
def Try.ti105 : TI := { kd := .other, agg := false, size := 1, bytes := 8, zero := [.nilFunc], flat := false }
def Try.ti106 : TI := { kd := .other, agg := false, size := 1, bytes := 8, zero := [.nilFunc], flat := false }
def Try.ti107 : TI := { kd := .other, agg := false, size := 1, bytes := 8, zero := [.nilFunc], flat := false }
def Try.ti108 : TI := { kd := .other, agg := false, size := 1, bytes := 8, zero := [.nilFunc], flat := false }
def Try.ti109 : TI := { kd := .other, agg := false, size := 1, bytes := 8, zero := [.nilFunc], flat := false }
def Try.ti110 : TI := { kd := .other, agg := false, size := 1, bytes := 8, zero := [.nilFunc], flat := false }
def Try.ti111 : TI := { kd := .other, agg := false, size := 1, bytes := 8, zero := [.nilFunc], flat := false }
def Try.ti112 : TI := { kd := .other, agg := false, size := 1, bytes := 8, zero := [.nilFunc], flat := false }
def Try.ti115 : TI := { kd := .other, agg := false, size := 1, bytes := 8, zero := [.pointer none], flat := false }
def Try.ti116 : TI := { kd := .other, agg := false, size := 1, bytes := 8, zero := [.nilFunc], flat := false }
def Try.ti117 : TI := { kd := .struct [(0, 1, 17), (1, 1, 17), (2, 1, 17), (3, 1, 9)], agg := true, size := 4, bytes := 40, zero := [.pointer none, .pointer none, .pointer none, .string ByteArray.empty], flat := false }
def Try.ti118 : TI := { kd := .struct [(0, 1, 17), (1, 1, 17), (2, 1, 17), (3, 1, 9)], agg := true, size := 4, bytes := 40, zero := [.pointer none, .pointer none, .pointer none, .string ByteArray.empty], flat := false }
def Try.ti119 : TI := { kd := .array 0 16, agg := true, size := 0, bytes := 0, zero := [], flat := false }
def Try.ti120 : TI := { kd := .struct [(0, 0, 119)], agg := true, size := 0, bytes := 0, zero := [], flat := false }
def Try.ti121 : TI := { kd := .struct [(0, 0, 119)], agg := true, size := 0, bytes := 0, zero := [], flat := false }
def Try.ti122 : TI := { kd := .other, agg := false, size := 1, bytes := 8, zero := [.nilFunc], flat := false }
def Try.ti123 : TI := { kd := .int .u8, agg := false, size := 1, bytes := 1, zero := [.int .u8 0], flat := false }
def Try.ti124 : TI := { kd := .int .u8, agg := false, size := 1, bytes := 1, zero := [.int .u8 0], flat := false }
def Try.ti125 : TI := { kd := .other, agg := false, size := 1, bytes := 8, zero := [.nilFunc], flat := false }
def Try.ti126 : TI := { kd := .other, agg := false, size := 1, bytes := 8, zero := [.pointer none], flat := false }
def Try.ti127 : TI := { kd := .int .i32, agg := false, size := 1, bytes := 4, zero := [.int .i32 0], flat := false }
def Try.ti128 : TI := { kd := .int .i32, agg := false, size := 1, bytes := 4, zero := [.int .i32 0], flat := false }
def Try.ti129 : TI := { kd := .struct [(0, 1, 12), (1, 1, 12), (2, 1, 22), (3, 1, 123), (4, 1, 5), (5, 1, 5), (6, 1, 124), (7, 1, 125), (8, 1, 126), (9, 1, 127), (10, 1, 128)], agg := true, size := 11, bytes := 48, zero := [.int .u64 0, .int .u64 0, .int .u32 0, .int .u8 0, .int .u8 0, .int .u8 0, .int .u8 0, .nilFunc, .pointer none, .int .i32 0, .int .i32 0], flat := false }
def Try.ti130 : TI := { kd := .struct [(0, 1, 12), (1, 1, 12), (2, 1, 22), (3, 1, 123), (4, 1, 5), (5, 1, 5), (6, 1, 124), (7, 1, 125), (8, 1, 126), (9, 1, 127), (10, 1, 128)], agg := true, size := 11, bytes := 48, zero := [.int .u64 0, .int .u64 0, .int .u32 0, .int .u8 0, .int .u8 0, .int .u8 0, .int .u8 0, .nilFunc, .pointer none, .int .i32 0, .int .i32 0], flat := false }
def Try.ti131 : TI := { kd := .struct [(0, 1, 9)], agg := true, size := 1, bytes := 16, zero := [.string ByteArray.empty], flat := false }
def Try.ti132 : TI := { kd := .struct [(0, 1, 9)], agg := true, size := 1, bytes := 16, zero := [.string ByteArray.empty], flat := false }
def Try.tys : BT TI := (.node (.node (.node (.node (.node (.node (.node .nil 1 Try.ti1 .nil) 2 Try.ti2 (.node .nil 3 Try.ti3 .nil)) 4 Try.ti4 (.node (.node .nil 5 Try.ti5 .nil) 6 Try.ti6 (.node .nil 7 Try.ti7 .nil))) 8 Try.ti8 (.node (.node (.node .nil 9 Try.ti9 .nil) 10 Try.ti10 (.node .nil 11 Try.ti11 .nil)) 12 Try.ti12 (.node (.node .nil 13 Try.ti13 .nil) 14 Try.ti14 .nil))) 15 Try.ti15 (.node (.node (.node (.node .nil 16 Try.ti16 .nil) 17 Try.ti17 (.node .nil 18 Try.ti18 .nil)) 19 Try.ti19 (.node (.node .nil 21 Try.ti21 .nil) 22 Try.ti22 (.node .nil 23 Try.ti23 .nil))) 24 Try.ti24 (.node (.node (.node .nil 25 Try.ti25 .nil) 26 Try.ti26 (.node .nil 27 Try.ti27 .nil)) 28 Try.ti28 (.node (.node .nil 30 Try.ti30 .nil) 31 Try.ti31 .nil)))) 32 Try.ti32 (.node (.node (.node (.node (.node .nil 33 Try.ti33 .nil) 34 Try.ti34 (.node .nil 35 Try.ti35 .nil)) 36 Try.ti36 (.node (.node .nil 37 Try.ti37 .nil) 38 Try.ti38 (.node .nil 39 Try.ti39 .nil))) 40 Try.ti40 (.node (.node (.node .nil 41 Try.ti41 .nil) 42 Try.ti42 (.node .nil 43 Try.ti43 .nil)) 44 Try.ti44 (.node (.node .nil 45 Try.ti45 .nil) 46 Try.ti46 .nil))) 47 Try.ti47 (.node (.node (.node (.node .nil 48 Try.ti48 .nil) 49 Try.ti49 (.node .nil 51 Try.ti51 .nil)) 52 Try.ti52 (.node (.node .nil 53 Try.ti53 .nil) 54 Try.ti54 (.node .nil 55 Try.ti55 .nil))) 56 Try.ti56 (.node (.node (.node .nil 57 Try.ti57 .nil) 58 Try.ti58 (.node .nil 60 Try.ti60 .nil)) 61 Try.ti61 (.node (.node .nil 62 Try.ti62 .nil) 63 Try.ti63 .nil))))) 64 Try.ti64 (.node (.node (.node (.node (.node (.node .nil 65 Try.ti65 .nil) 66 Try.ti66 (.node .nil 67 Try.ti67 .nil)) 68 Try.ti68 (.node (.node .nil 69 Try.ti69 .nil) 71 Try.ti71 (.node .nil 72 Try.ti72 .nil))) 73 Try.ti73 (.node (.node (.node .nil 74 Try.ti74 .nil) 75 Try.ti75 (.node .nil 77 Try.ti77 .nil)) 78 Try.ti78 (.node (.node .nil 79 Try.ti79 .nil) 81 Try.ti81 .nil))) 82 Try.ti82 (.node (.node (.node (.node .nil 83 Try.ti83 .nil) 84 Try.ti84 (.node .nil 85 Try.ti85 .nil)) 86 Try.ti86 (.node (.node .nil 87 Try.ti87 .nil) 88 Try.ti88 (.node .nil 90 Try.ti90 .nil))) 91 Try.ti91 (.node (.node (.node .nil 92 Try.ti92 .nil) 93 Try.ti93 (.node .nil 94 Try.ti94 .nil)) 96 Try.ti96 (.node (.node .nil 97 Try.ti97 .nil) 98 Try.ti98 .nil)))) 99 Try.ti99 (.node (.node (.node (.node (.node .nil 100 Try.ti100 .nil) 102 Try.ti102 (.node .nil 103 Try.ti103 .nil)) 105 Try.ti105 (.node (.node .nil 106 Try.ti106 .nil) 107 Try.ti107 (.node .nil 108 Try.ti108 .nil))) 109 Try.ti109 (.node (.node (.node .nil 110 Try.ti110 .nil) 111 Try.ti111 (.node .nil 112 Try.ti112 .nil)) 115 Try.ti115 (.node (.node .nil 116 Try.ti116 .nil) 117 Try.ti117 .nil))) 118 Try.ti118 (.node (.node (.node (.node .nil 119 Try.ti119 .nil) 120 Try.ti120 (.node .nil 121 Try.ti121 .nil)) 122 Try.ti122 (.node (.node .nil 123 Try.ti123 .nil) 124 Try.ti124 (.node .nil 125 Try.ti125 .nil))) 126 Try.ti126 (.node (.node (.node .nil 127 Try.ti127 .nil) 128 Try.ti128 (.node .nil 129 Try.ti129 .nil)) 130 Try.ti130 (.node (.node .nil 131 Try.ti131 .nil) 132 Try.ti132 .nil))))))
noncomputable def Try.fns : BT Func := (.node (.node (.node (.node (.node (.node (.node .nil 2 Try.f2 .nil) 3 Try.f3 (.node .nil 4 Try.f4 .nil)) 5 Try.f5 (.node (.node .nil 6 Try.f6 .nil) 8 Try.f8 .nil)) 9 Try.f9 (.node (.node (.node .nil 10 Try.f10 .nil) 11 Try.f11 .nil) 12 Try.f12 (.node (.node .nil 13 Try.f13 .nil) 14 Try.f14 .nil))) 15 Try.f15 (.node (.node (.node (.node .nil 16 Try.f16 .nil) 17 Try.f17 (.node .nil 18 Try.f18 .nil)) 19 Try.f19 (.node (.node .nil 20 Try.f20 .nil) 21 Try.f21 .nil)) 22 Try.f22 (.node (.node (.node .nil 23 Try.f23 .nil) 24 Try.f24 .nil) 25 Try.f25 (.node (.node .nil 26 Try.f26 .nil) 27 Try.f27 .nil)))) 28 Try.f28 (.node (.node (.node (.node (.node .nil 29 Try.f29 .nil) 30 Try.f30 (.node .nil 31 Try.f31 .nil)) 32 Try.f32 (.node (.node .nil 33 Try.f33 .nil) 34 Try.f34 .nil)) 35 Try.f35 (.node (.node (.node .nil 36 Try.f36 .nil) 37 Try.f37 .nil) 38 Try.f38 (.node (.node .nil 39 Try.f39 .nil) 40 Try.f40 .nil))) 41 Try.f41 (.node (.node (.node (.node .nil 42 Try.f42 .nil) 43 Try.f43 (.node .nil 44 Try.f44 .nil)) 45 Try.f45 (.node (.node .nil 46 Try.f46 .nil) 47 Try.f47 .nil)) 48 Try.f48 (.node (.node (.node .nil 49 Try.f49 .nil) 50 Try.f50 .nil) 51 Try.f51 (.node (.node .nil 52 Try.f52 .nil) 53 Try.f53 .nil))))) 54 Try.f54 (.node (.node (.node (.node (.node (.node .nil 55 Try.f55 .nil) 56 Try.f56 (.node .nil 57 Try.f57 .nil)) 58 Try.f58 (.node (.node .nil 59 Try.f59 .nil) 60 Try.f60 .nil)) 61 Try.f61 (.node (.node (.node .nil 62 Try.f62 .nil) 63 Try.f63 .nil) 64 Try.f64 (.node (.node .nil 65 Try.f65 .nil) 66 Try.f66 .nil))) 67 Try.f67 (.node (.node (.node (.node .nil 68 Try.f68 .nil) 69 Try.f69 (.node .nil 70 Try.f70 .nil)) 71 Try.f71 (.node (.node .nil 72 Try.f72 .nil) 73 Try.f73 .nil)) 74 Try.f74 (.node (.node (.node .nil 75 Try.f75 .nil) 76 Try.f76 .nil) 77 Try.f77 (.node (.node .nil 78 Try.f78 .nil) 79 Try.f79 .nil)))) 80 Try.f80 (.node (.node (.node (.node (.node .nil 81 Try.f81 .nil) 82 Try.f82 (.node .nil 83 Try.f83 .nil)) 84 Try.f84 (.node (.node .nil 85 Try.f85 .nil) 86 Try.f86 .nil)) 87 Try.f87 (.node (.node (.node .nil 88 Try.f88 .nil) 89 Try.f89 .nil) 90 Try.f90 (.node (.node .nil 91 Try.f91 .nil) 92 Try.f92 .nil))) 93 Try.f93 (.node (.node (.node (.node .nil 94 Try.f94 .nil) 95 Try.f95 .nil) 96 Try.f96 (.node (.node .nil 97 Try.f97 .nil) 98 Try.f98 .nil)) 99 Try.f99 (.node (.node (.node .nil 100 Try.f100 .nil) 101 Try.f101 .nil) 102 Try.f102 (.node (.node .nil 103 Try.f103 .nil) 104 Try.f104 .nil))))))
def Try.mds : BT Md := (.node (.node (.node .nil 55 .hand .nil) 86 .hand (.node .nil 87 .hand .nil)) 89 .fresh (.node (.node .nil 95 .fresh .nil) 96 .hand .nil))
def Try.rks : BT (BT (List (Nat × Bool))) := (.node (.node (.node (.node (.node (.node .nil 5 (.node (.node .nil 11 [(0, false), (1, false), (2, false), (3, false), (4, false), (5, false), (6, false), (7, false), (8, true), (9, false)] .nil) 12 [(0, false), (1, false), (2, false), (4, false), (5, false), (8, false), (3, true), (6, true), (7, false), (9, false), (10, false), (11, false), (12, false), (13, false), (15, false), (16, false), (17, false), (18, false), (21, false), (23, false), (24, false), (25, false), (26, false), (27, false), (14, true), (19, true), (20, false), (22, false), (28, true), (29, false), (30, false), (31, false), (32, false), (33, false), (34, false)] .nil) .nil) 6 (.node .nil 5 [(0, false), (1, false), (2, false), (3, false), (4, false), (5, false), (6, false), (7, false)] .nil) .nil) 8 (.node .nil 10 [(0, false), (1, false), (2, false), (3, false), (4, false), (5, true), (6, false), (7, false), (8, false), (9, false), (10, false)] .nil) (.node (.node .nil 9 (.node .nil 15 [(0, false), (1, false), (2, false), (3, false), (4, false), (5, false), (6, false), (7, true), (8, false), (9, false), (10, false), (11, false), (12, false), (13, false), (14, false), (15, true), (16, false), (17, false)] .nil) .nil) 10 (.node .nil 8 [(0, false), (1, false), (2, true), (3, false), (4, false), (5, true), (6, false), (7, false), (8, false), (9, false), (10, false), (11, false), (12, false), (13, false), (14, false), (15, false), (16, false), (17, false), (18, false), (19, false), (20, false), (21, false), (22, false), (23, true), (24, false), (25, false), (26, false), (27, false), (28, true), (29, false), (30, false), (31, false), (32, false), (33, false), (34, false), (35, false), (36, false), (37, true), (38, false), (39, false), (40, false), (41, false), (42, false), (43, true), (44, false), (45, false), (46, false), (47, false), (48, false), (49, false), (50, true), (51, false), (52, false), (53, false)] .nil) .nil)) 15 (.node (.node .nil 1 [(0, false), (1, false), (2, false), (3, false), (4, false), (5, false), (6, false), (7, false), (8, false), (9, false), (10, false), (11, false)] .nil) 6 [(0, false), (1, false), (2, false), (3, false), (4, false), (5, false), (6, false), (7, false), (8, true), (9, true), (10, false)] (.node .nil 8 [(0, false), (1, false), (2, false), (3, false), (4, true), (5, false)] .nil)) (.node (.node (.node .nil 16 (.node .nil 1 [(0, false), (1, false), (2, false), (3, false), (4, false), (5, false), (6, false), (7, false), (8, false), (9, false)] .nil) .nil) 20 (.node .nil 1 [(0, false), (1, false), (2, false), (3, false), (4, false), (5, false), (6, false)] .nil) .nil) 22 (.node .nil 1 [(0, false), (1, false), (2, false), (3, false), (4, false), (5, false), (6, false), (7, false), (8, false), (9, false), (10, false), (11, false), (12, false), (13, false)] .nil) (.node .nil 23 (.node .nil 1 [(0, false), (1, false), (2, false), (3, false), (4, false), (5, false), (6, false), (7, false), (8, false), (9, false), (10, false), (11, false), (12, false), (13, false), (14, false), (15, true), (16, true), (17, false)] .nil) .nil))) 24 (.node .nil 1 [(0, false), (1, false), (2, false), (3, false), (4, false), (5, false), (6, false), (7, false), (8, false), (9, true), (10, true), (11, false)] .nil) (.node (.node (.node (.node .nil 26 (.node (.node (.node .nil 7 [(0, false), (1, false), (2, false), (3, false), (4, true), (5, false), (6, false), (7, false), (8, false), (9, false), (10, false), (11, false), (12, true), (13, false), (14, false)] .nil) 9 [(0, false), (1, false), (2, false), (3, false), (4, false), (5, false), (6, false), (7, false), (8, false), (9, false), (10, true), (11, false), (12, false), (13, false), (14, false), (15, false)] (.node .nil 10 [(0, false), (1, false), (2, false), (3, false), (4, false), (5, false), (6, false), (7, false), (8, false), (9, false), (10, false), (11, false), (12, false), (13, false), (14, false), (15, false), (16, false), (17, false), (18, false), (19, false), (20, false), (21, false), (22, false), (23, false), (24, false), (25, false), (26, false), (27, false), (28, false), (29, false), (30, false), (31, false), (32, false), (33, false)] .nil)) 11 [(0, false), (1, false), (2, false), (3, false), (4, false), (5, false), (6, true), (7, false)] (.node (.node .nil 12 [(0, false), (1, false), (2, false), (3, false), (4, false), (5, false), (6, false), (7, true), (8, false)] .nil) 14 [(0, false), (1, true), (2, false), (3, false), (4, false)] .nil)) .nil) 28 (.node .nil 1 [(0, false), (1, false), (2, false), (3, false), (4, false), (5, false), (6, false), (7, false), (8, false), (9, false), (10, true), (11, false)] .nil) .nil) 30 (.node .nil 6 [(0, false), (1, false), (2, false), (3, false), (4, false), (5, false), (6, false), (7, false), (8, false), (9, false), (10, false)] .nil) (.node .nil 33 (.node (.node (.node .nil 3 [(0, false), (1, false), (2, false), (3, false), (4, false), (5, false), (6, false), (7, false), (8, false), (9, false), (10, false), (11, false), (12, false), (13, false)] .nil) 6 [(0, false), (1, false), (2, false), (3, true), (4, false), (5, false), (6, false), (7, false), (8, false), (9, false)] .nil) 11 [(0, false), (1, false), (2, false), (3, false), (4, false), (5, true), (6, false), (7, false)] (.node .nil 13 [(0, false), (1, false), (2, false), (3, true), (4, false), (5, false), (6, false), (7, false), (8, false), (9, true), (10, false), (11, false), (12, false), (13, false), (14, false), (15, false), (16, false), (17, false), (18, true), (19, false), (20, false)] .nil)) .nil)) 34 (.node .nil 1 [(0, false), (1, false), (2, false), (3, false), (4, false), (5, false), (6, false), (7, false), (8, false), (9, false), (10, false), (11, false), (12, false), (13, false)] .nil) (.node (.node (.node .nil 36 (.node (.node (.node .nil 5 [(0, false), (1, false), (2, false), (3, false), (4, false), (5, false), (6, false), (7, false), (8, false)] .nil) 8 [(0, false), (1, false), (2, false), (3, false), (4, false), (5, false), (6, false)] .nil) 9 [(0, false), (1, true), (2, false), (3, false)] (.node (.node .nil 10 [(0, false), (1, true), (2, false), (3, false)] .nil) 12 [(0, false), (1, false), (2, false), (3, true), (4, false), (5, false)] .nil)) .nil) 37 (.node .nil 2 [(0, false), (1, false), (2, false), (3, false), (4, false), (5, false)] .nil) .nil) 39 (.node (.node .nil 2 [(0, false), (1, false), (2, false), (3, false), (4, false), (5, false), (6, false), (7, true), (8, false)] .nil) 4 [(0, false), (1, false), (2, false), (3, false), (4, false), (5, false), (6, false), (7, true), (8, false)] (.node .nil 5 [(0, false), (1, false), (2, false), (3, false), (4, false), (5, false), (6, false), (7, true), (8, false)] .nil)) (.node .nil 40 (.node .nil 4 [(0, false), (1, false), (2, false), (3, false), (4, false), (5, true), (6, false), (7, false)] .nil) .nil)))) 41 (.node .nil 1 [(0, false), (1, false), (2, false), (3, false), (4, false), (5, false), (6, false), (7, false), (8, false), (9, false), (10, false), (11, false), (12, false), (13, false)] .nil) (.node (.node (.node (.node (.node .nil 45 (.node (.node (.node .nil 1 [(0, false), (1, false), (2, false), (3, false), (4, false), (5, false)] .nil) 3 [(0, false), (1, false), (2, false), (3, false), (4, false), (5, true), (6, false)] .nil) 5 [(0, false), (1, false), (2, false), (3, false), (4, false), (5, true), (6, false)] (.node .nil 6 [(0, false), (1, false), (2, false), (3, false), (4, false), (5, true), (6, false)] .nil)) .nil) 46 (.node .nil 1 [(0, false), (1, false), (2, false), (3, false), (4, false), (5, false), (6, false), (7, false), (8, false), (9, false), (10, true), (11, false)] .nil) .nil) 49 (.node .nil 9 [(0, false), (1, false), (2, false), (3, false), (4, false), (5, false), (6, false), (7, false), (8, false), (9, false), (10, false), (11, false), (12, false), (13, false), (14, false), (15, false), (16, false), (17, false), (18, false), (19, false), (20, false), (21, false)] .nil) (.node .nil 50 (.node (.node .nil 8 [(0, false), (1, false), (2, false), (3, false), (4, false), (5, false), (6, false), (7, false), (8, false)] .nil) 10 [(0, false), (1, false), (2, false), (3, false), (4, false), (5, false), (6, false), (7, false), (8, false)] .nil) .nil)) 53 (.node .nil 1 [(0, false), (1, false), (2, false), (3, true), (4, false)] .nil) (.node (.node (.node .nil 54 (.node .nil 6 [(0, false), (1, false), (3, false), (6, false), (2, true), (4, false), (5, false), (7, false), (8, true), (9, false)] .nil) .nil) 55 (.node .nil 1 [(0, false), (1, true), (2, false), (3, false), (4, false), (5, false), (6, false), (7, false), (8, false), (9, false), (10, false), (11, false)] .nil) .nil) 56 (.node .nil 2 [(0, false), (1, false), (2, false), (3, true), (4, true), (5, false)] .nil) (.node .nil 58 (.node .nil 1 [(0, false), (1, false), (2, false), (3, false), (4, false), (5, false)] .nil) .nil))) 59 (.node .nil 1 [(0, false), (1, false), (2, false), (3, true), (4, false)] .nil) (.node (.node (.node (.node .nil 60 (.node (.node .nil 12 [(0, false), (1, false), (2, false), (3, false), (4, false), (5, false), (6, false)] .nil) 13 [(0, false), (1, false), (2, false), (3, false), (4, true), (5, false)] .nil) .nil) 63 (.node .nil 6 [(0, false), (1, false), (2, false), (3, false), (4, false), (5, false), (6, false), (7, false), (8, false), (9, false), (10, false), (11, false), (12, false)] .nil) .nil) 71 (.node (.node .nil 7 [(0, false), (1, false), (2, false), (3, false), (4, false), (5, false), (6, false), (7, false), (8, false)] .nil) 8 [(0, false), (1, false), (2, false), (3, false), (4, false), (5, false), (6, false), (7, false), (8, true), (9, false)] .nil) (.node .nil 72 (.node .nil 6 [(0, false), (1, false), (2, false), (3, false), (4, false), (5, false), (6, false), (7, false), (8, false), (9, false), (10, true), (11, false), (12, false), (13, false), (14, false), (15, false), (16, false)] .nil) .nil)) 85 (.node (.node .nil 2 [(0, false), (1, false), (2, false), (3, false), (4, false), (5, false), (6, false), (7, false), (8, false), (9, false), (10, false), (11, false), (12, false), (13, false)] .nil) 5 [(0, false), (1, false), (2, false), (3, false), (4, false), (5, false), (6, false), (7, false), (8, false), (9, false), (10, false), (11, false), (12, false), (13, false), (14, false), (15, false), (16, false), (17, false), (18, false), (19, false), (20, false), (21, false)] .nil) (.node (.node (.node .nil 87 (.node .nil 4 [(0, false), (1, false), (2, false), (3, false), (4, false), (5, false), (6, false), (7, false), (8, false), (9, false), (10, false), (11, false)] .nil) .nil) 96 (.node (.node (.node .nil 3 [(0, false), (1, false), (2, false), (3, false), (4, false), (5, false), (6, false), (7, false), (8, false), (9, false)] .nil) 4 [(0, false), (1, false), (2, false), (3, false), (4, false), (5, false), (6, false), (7, false), (8, false), (9, false), (10, false), (11, false), (12, false), (13, false), (14, true), (15, false), (16, false), (17, false), (18, false), (19, false)] .nil) 7 [(0, false), (1, false), (2, false), (3, false), (4, false), (5, false), (6, false), (7, false), (8, false), (9, false), (10, false), (11, false), (12, false), (13, false), (14, false), (15, false), (16, false), (17, false), (18, false), (19, false), (20, false), (21, false)] (.node .nil 25 [(0, false), (1, false), (2, false), (3, false), (4, false), (5, false), (6, false), (7, false), (8, false), (9, false), (10, true), (11, false), (12, false), (13, false), (14, false), (15, false), (16, false)] .nil)) .nil) 97 (.node .nil 5 [(0, false), (1, false), (2, false), (3, false), (4, false), (5, false), (6, false), (7, false), (8, false), (9, false), (10, false), (11, false), (12, false), (13, false), (14, false), (15, false), (16, false), (17, false), (18, false)] .nil) (.node .nil 103 (.node .nil 4 [(0, false), (1, false), (2, false), (3, false), (4, false), (5, false), (6, false), (7, false), (8, false), (9, false), (10, false), (11, false)] .nil) .nil)))))
def Try.fks : BT (BT Bool) := .nil
noncomputable def Try.cx : Ctx := { P := Try.prog, ty := Try.tys.get, fn := Try.fns.get, md := fun f => (Try.mds.get f).getD .pure, rk := fun f id => (Try.rks.get f).bind fun r => r.get id, fk := fun f d => ((Try.fks.get f).bind fun r => r.get d).getD false }
theorem Try.tok1 : TIOk Try.prog Try.tys.get 1 Try.ti1 := ⟨by kernel_rfl, by kernel_rfl, rfl, by kernel_rfl, (fun _ => rfl), (fun h => by cases h)⟩
theorem Try.tok2 : TIOk Try.prog Try.tys.get 2 Try.ti2 := ⟨by kernel_rfl, by kernel_rfl, rfl, by kernel_rfl, (fun _ => rfl), (fun h => by cases h)⟩
theorem Try.tok3 : TIOk Try.prog Try.tys.get 3 Try.ti3 := ⟨by kernel_rfl, by kernel_rfl, rfl, by kernel_rfl, (fun _ => rfl), (fun h => by cases h)⟩
theorem Try.tok4 : TIOk Try.prog Try.tys.get 4 Try.ti4 := ⟨by kernel_rfl, by kernel_rfl, rfl, by kernel_rfl, (fun _ => rfl), (fun h => by cases h)⟩
theorem Try.tok5 : TIOk Try.prog Try.tys.get 5 Try.ti5 := ⟨by kernel_rfl, by kernel_rfl, rfl, by kernel_rfl, (fun _ => rfl), (fun h => by cases h)⟩
theorem Try.tok6 : TIOk Try.prog Try.tys.get 6 Try.ti6 := ⟨by kernel_rfl, by kernel_rfl, rfl, by kernel_rfl, (fun _ => rfl), (fun h => by cases h)⟩
theorem Try.tok7 : TIOk Try.prog Try.tys.get 7 Try.ti7 := ⟨by kernel_rfl, by kernel_rfl, rfl, by kernel_rfl, (fun h => by cases h), (fun h => by cases h)⟩
theorem Try.tok8 : TIOk Try.prog Try.tys.get 8 Try.ti8 := ⟨by kernel_rfl, by kernel_rfl, rfl, by kernel_rfl, (fun h => by cases h), (fun h => by cases h)⟩
theorem Try.tok9 : TIOk Try.prog Try.tys.get 9 Try.ti9 := ⟨by kernel_rfl, by kernel_rfl, rfl, by kernel_rfl, (fun _ => rfl), (fun h => by cases h)⟩
theorem Try.tok10 : TIOk Try.prog Try.tys.get 10 Try.ti10 := ⟨by kernel_rfl, by kernel_rfl, rfl, by kernel_rfl, (fun _ => rfl), (fun h => by cases h)⟩
theorem Try.tok11 : TIOk Try.prog Try.tys.get 11 Try.ti11 := ⟨by kernel_rfl, by kernel_rfl, rfl, by kernel_rfl, (fun _ => rfl), (fun h => by cases h)⟩
theorem Try.tok12 : TIOk Try.prog Try.tys.get 12 Try.ti12 := ⟨by kernel_rfl, by kernel_rfl, rfl, by kernel_rfl, (fun _ => rfl), (fun h => by cases h)⟩
theorem Try.tok13 : TIOk Try.prog Try.tys.get 13 Try.ti13 := ⟨by kernel_rfl, by kernel_rfl, rfl, by kernel_rfl, (fun h => by cases h), (fun h => by cases h)⟩
theorem Try.tok14 : TIOk Try.prog Try.tys.get 14 Try.ti14 := ⟨by kernel_rfl, by kernel_rfl, rfl, by kernel_rfl, (fun h => by cases h), (fun h => by cases h)⟩
theorem Try.tok15 : TIOk Try.prog Try.tys.get 15 Try.ti15 := ⟨by kernel_rfl, by kernel_rfl, rfl, by kernel_rfl, (fun _ => rfl), (fun h => by cases h)⟩
theorem Try.tok16 : TIOk Try.prog Try.tys.get 16 Try.ti16 := ⟨by kernel_rfl, by kernel_rfl, rfl, by kernel_rfl, (fun _ => rfl), (fun h => by cases h)⟩
theorem Try.tok17 : TIOk Try.prog Try.tys.get 17 Try.ti17 := ⟨by kernel_rfl, by kernel_rfl, rfl, by kernel_rfl, (fun _ => rfl), (fun h => by cases h)⟩
theorem Try.tok18 : TIOk Try.prog Try.tys.get 18 Try.ti18 := ⟨by kernel_rfl, by kernel_rfl, rfl, by kernel_rfl, (fun h => by cases h), (fun h => by cases h)⟩
theorem Try.tok19 : TIOk Try.prog Try.tys.get 19 Try.ti19 := ⟨by kernel_rfl, by kernel_rfl, rfl, by kernel_rfl, (fun h => by cases h), (fun h => by cases h)⟩
theorem Try.tok21 : TIOk Try.prog Try.tys.get 21 Try.ti21 := ⟨by kernel_rfl, by kernel_rfl, rfl, by kernel_rfl, (fun _ => rfl), (fun h => by cases h)⟩
theorem Try.tok22 : TIOk Try.prog Try.tys.get 22 Try.ti22 := ⟨by kernel_rfl, by kernel_rfl, rfl, by kernel_rfl, (fun _ => rfl), (fun h => by cases h)⟩
theorem Try.tok23 : TIOk Try.prog Try.tys.get 23 Try.ti23 := ⟨by kernel_rfl, by kernel_rfl, rfl, by kernel_rfl, (fun _ => rfl), (fun h => by cases h)⟩
theorem Try.tok24 : TIOk Try.prog Try.tys.get 24 Try.ti24 := ⟨by kernel_rfl, by kernel_rfl, rfl, by kernel_rfl, (fun _ => rfl), (fun h => by cases h)⟩
theorem Try.tok25 : TIOk Try.prog Try.tys.get 25 Try.ti25 := ⟨by kernel_rfl, by kernel_rfl, rfl, by kernel_rfl, (fun h => by cases h), (fun h => by cases h)⟩
theorem Try.tok26 : TIOk Try.prog Try.tys.get 26 Try.ti26 := ⟨by kernel_rfl, by kernel_rfl, rfl, by kernel_rfl, (fun h => by cases h), (fun h => by cases h)⟩
theorem Try.tok27 : TIOk Try.prog Try.tys.get 27 Try.ti27 := ⟨by kernel_rfl, by kernel_rfl, rfl, by kernel_rfl, (fun _ => rfl), (fun h => by cases h)⟩
theorem Try.tok28 : TIOk Try.prog Try.tys.get 28 Try.ti28 := ⟨by kernel_rfl, by kernel_rfl, rfl, by kernel_rfl, (fun _ => rfl), (fun h => by cases h)⟩
theorem Try.tok30 : TIOk Try.prog Try.tys.get 30 Try.ti30 := ⟨by kernel_rfl, by kernel_rfl, rfl, by kernel_rfl, (fun _ => rfl), (fun h => by cases h)⟩
theorem Try.tok31 : TIOk Try.prog Try.tys.get 31 Try.ti31 := ⟨by kernel_rfl, by kernel_rfl, rfl, by kernel_rfl, (fun _ => rfl), (fun h => by cases h)⟩
theorem Try.tok32 : TIOk Try.prog Try.tys.get 32 Try.ti32 := ⟨by kernel_rfl, by kernel_rfl, rfl, by kernel_rfl, (fun _ => rfl), (fun h => by cases h)⟩
theorem Try.tok33 : TIOk Try.prog Try.tys.get 33 Try.ti33 := ⟨by kernel_rfl, by kernel_rfl, rfl, by kernel_rfl, (fun h => by cases h), (fun h => by cases h)⟩
theorem Try.tok34 : TIOk Try.prog Try.tys.get 34 Try.ti34 := ⟨by kernel_rfl, by kernel_rfl, rfl, by kernel_rfl, (fun h => by cases h), (fun h => by cases h)⟩
theorem Try.tok35 : TIOk Try.prog Try.tys.get 35 Try.ti35 := ⟨by kernel_rfl, by kernel_rfl, rfl, by kernel_rfl, (fun h => by cases h), (fun h => by cases h)⟩
theorem Try.tok36 : TIOk Try.prog Try.tys.get 36 Try.ti36 := ⟨by kernel_rfl, by kernel_rfl, rfl, by kernel_rfl, (fun h => by cases h), (fun h => by cases h)⟩
theorem Try.tok37 : TIOk Try.prog Try.tys.get 37 Try.ti37 := ⟨by kernel_rfl, by kernel_rfl, rfl, by kernel_rfl, (fun _ => rfl), (fun h => by cases h)⟩
theorem Try.tok38 : TIOk Try.prog Try.tys.get 38 Try.ti38 := ⟨by kernel_rfl, by kernel_rfl, rfl, by kernel_rfl, (fun _ => rfl), (fun h => by cases h)⟩
theorem Try.tok39 : TIOk Try.prog Try.tys.get 39 Try.ti39 := ⟨by kernel_rfl, by kernel_rfl, rfl, by kernel_rfl, (fun _ => rfl), (fun h => by cases h)⟩
theorem Try.tok40 : TIOk Try.prog Try.tys.get 40 Try.ti40 := ⟨by kernel_rfl, by kernel_rfl, rfl, by kernel_rfl, (fun _ => rfl), (fun h => by cases h)⟩
theorem Try.tok41 : TIOk Try.prog Try.tys.get 41 Try.ti41 := ⟨by kernel_rfl, by kernel_rfl, rfl, by kernel_rfl, (fun _ => rfl), (fun h => by cases h)⟩
theorem Try.tok42 : TIOk Try.prog Try.tys.get 42 Try.ti42 := ⟨by kernel_rfl, by kernel_rfl, rfl, by kernel_rfl, (fun _ => rfl), (fun h => by cases h)⟩
theorem Try.tok43 : TIOk Try.prog Try.tys.get 43 Try.ti43 := ⟨by kernel_rfl, by kernel_rfl, rfl, by kernel_rfl, (fun _ => rfl), (fun h => by cases h)⟩
theorem Try.tok44 : TIOk Try.prog Try.tys.get 44 Try.ti44 := ⟨by kernel_rfl, by kernel_rfl, rfl, by kernel_rfl, (fun _ => rfl), (fun h => by cases h)⟩
theorem Try.tok45 : TIOk Try.prog Try.tys.get 45 Try.ti45 := ⟨by kernel_rfl, by kernel_rfl, rfl, by kernel_rfl, (fun _ => rfl), (fun h => by cases h)⟩
theorem Try.tok46 : TIOk Try.prog Try.tys.get 46 Try.ti46 := ⟨by kernel_rfl, by kernel_rfl, rfl, by kernel_rfl, (fun _ => rfl), (fun h => by cases h)⟩
theorem Try.tok47 : TIOk Try.prog Try.tys.get 47 Try.ti47 := ⟨by kernel_rfl, by kernel_rfl, rfl, by kernel_rfl, (fun h => by cases h), fun _ => ⟨4, 23, .u64, Try.ti23, rfl, by kernel_rfl, rfl, rfl, rfl⟩⟩
theorem Try.tok48 : TIOk Try.prog Try.tys.get 48 Try.ti48 := ⟨by kernel_rfl, by kernel_rfl, rfl, by kernel_rfl, (fun _ => rfl), (fun h => by cases h)⟩
theorem Try.tok49 : TIOk Try.prog Try.tys.get 49 Try.ti49 := ⟨by kernel_rfl, by kernel_rfl, rfl, by kernel_rfl, (fun _ => rfl), (fun h => by cases h)⟩
theorem Try.tok51 : TIOk Try.prog Try.tys.get 51 Try.ti51 := ⟨by kernel_rfl, by kernel_rfl, rfl, by kernel_rfl, (fun _ => rfl), (fun h => by cases h)⟩
theorem Try.tok52 : TIOk Try.prog Try.tys.get 52 Try.ti52 := ⟨by kernel_rfl, by kernel_rfl, rfl, by kernel_rfl, (fun _ => rfl), (fun h => by cases h)⟩
theorem Try.tok53 : TIOk Try.prog Try.tys.get 53 Try.ti53 := ⟨by kernel_rfl, by kernel_rfl, rfl, by kernel_rfl, (fun _ => rfl), (fun h => by cases h)⟩
theorem Try.tok54 : TIOk Try.prog Try.tys.get 54 Try.ti54 := ⟨by kernel_rfl, by kernel_rfl, rfl, by kernel_rfl, (fun _ => rfl), (fun h => by cases h)⟩
theorem Try.tok55 : TIOk Try.prog Try.tys.get 55 Try.ti55 := ⟨by kernel_rfl, by kernel_rfl, rfl, by kernel_rfl, (fun _ => rfl), (fun h => by cases h)⟩
theorem Try.tok56 : TIOk Try.prog Try.tys.get 56 Try.ti56 := ⟨by kernel_rfl, by kernel_rfl, rfl, by kernel_rfl, (fun _ => rfl), (fun h => by cases h)⟩
theorem Try.tok57 : TIOk Try.prog Try.tys.get 57 Try.ti57 := ⟨by kernel_rfl, by kernel_rfl, rfl, by kernel_rfl, (fun _ => rfl), (fun h => by cases h)⟩
theorem Try.tok58 : TIOk Try.prog Try.tys.get 58 Try.ti58 := ⟨by kernel_rfl, by kernel_rfl, rfl, by kernel_rfl, (fun _ => rfl), (fun h => by cases h)⟩
theorem Try.tok60 : TIOk Try.prog Try.tys.get 60 Try.ti60 := ⟨by kernel_rfl, by kernel_rfl, rfl, by kernel_rfl, (fun _ => rfl), (fun h => by cases h)⟩
theorem Try.tok61 : TIOk Try.prog Try.tys.get 61 Try.ti61 := ⟨by kernel_rfl, by kernel_rfl, rfl, by kernel_rfl, (fun _ => rfl), (fun h => by cases h)⟩
theorem Try.tok62 : TIOk Try.prog Try.tys.get 62 Try.ti62 := ⟨by kernel_rfl, by kernel_rfl, rfl, by kernel_rfl, (fun _ => rfl), (fun h => by cases h)⟩
theorem Try.tok63 : TIOk Try.prog Try.tys.get 63 Try.ti63 := ⟨by kernel_rfl, by kernel_rfl, rfl, by kernel_rfl, (fun _ => rfl), (fun h => by cases h)⟩
theorem Try.tok64 : TIOk Try.prog Try.tys.get 64 Try.ti64 := ⟨by kernel_rfl, by kernel_rfl, rfl, by kernel_rfl, (fun _ => rfl), (fun h => by cases h)⟩
theorem Try.tok65 : TIOk Try.prog Try.tys.get 65 Try.ti65 := ⟨by kernel_rfl, by kernel_rfl, rfl, by kernel_rfl, (fun _ => rfl), (fun h => by cases h)⟩
theorem Try.tok66 : TIOk Try.prog Try.tys.get 66 Try.ti66 := ⟨by kernel_rfl, by kernel_rfl, rfl, by kernel_rfl, (fun _ => rfl), (fun h => by cases h)⟩
theorem Try.tok67 : TIOk Try.prog Try.tys.get 67 Try.ti67 := ⟨by kernel_rfl, by kernel_rfl, rfl, by kernel_rfl, (fun _ => rfl), (fun h => by cases h)⟩
theorem Try.tok68 : TIOk Try.prog Try.tys.get 68 Try.ti68 := ⟨by kernel_rfl, by kernel_rfl, rfl, by kernel_rfl, (fun _ => rfl), (fun h => by cases h)⟩
theorem Try.tok69 : TIOk Try.prog Try.tys.get 69 Try.ti69 := ⟨by kernel_rfl, by kernel_rfl, rfl, by kernel_rfl, (fun _ => rfl), (fun h => by cases h)⟩
theorem Try.tok71 : TIOk Try.prog Try.tys.get 71 Try.ti71 := ⟨by kernel_rfl, by kernel_rfl, rfl, by kernel_rfl, (fun _ => rfl), (fun h => by cases h)⟩
theorem Try.tok72 : TIOk Try.prog Try.tys.get 72 Try.ti72 := ⟨by kernel_rfl, by kernel_rfl, rfl, by kernel_rfl, (fun _ => rfl), (fun h => by cases h)⟩
theorem Try.tok73 : TIOk Try.prog Try.tys.get 73 Try.ti73 := ⟨by kernel_rfl, by kernel_rfl, rfl, by kernel_rfl, (fun _ => rfl), (fun h => by cases h)⟩
theorem Try.tok74 : TIOk Try.prog Try.tys.get 74 Try.ti74 := ⟨by kernel_rfl, by kernel_rfl, rfl, by kernel_rfl, (fun _ => rfl), (fun h => by cases h)⟩
theorem Try.tok75 : TIOk Try.prog Try.tys.get 75 Try.ti75 := ⟨by kernel_rfl, by kernel_rfl, rfl, by kernel_rfl, (fun _ => rfl), (fun h => by cases h)⟩
theorem Try.tok77 : TIOk Try.prog Try.tys.get 77 Try.ti77 := ⟨by kernel_rfl, by kernel_rfl, rfl, by kernel_rfl, (fun _ => rfl), (fun h => by cases h)⟩
theorem Try.tok78 : TIOk Try.prog Try.tys.get 78 Try.ti78 := ⟨by kernel_rfl, by kernel_rfl, rfl, by kernel_rfl, (fun h => by cases h), (fun h => by cases h)⟩
theorem Try.tok79 : TIOk Try.prog Try.tys.get 79 Try.ti79 := ⟨by kernel_rfl, by kernel_rfl, rfl, by kernel_rfl, (fun h => by cases h), (fun h => by cases h)⟩
theorem Try.tok81 : TIOk Try.prog Try.tys.get 81 Try.ti81 := ⟨by kernel_rfl, by kernel_rfl, rfl, by kernel_rfl, (fun _ => rfl), (fun h => by cases h)⟩
theorem Try.tok82 : TIOk Try.prog Try.tys.get 82 Try.ti82 := ⟨by kernel_rfl, by kernel_rfl, rfl, by kernel_rfl, (fun _ => rfl), (fun h => by cases h)⟩
theorem Try.tok83 : TIOk Try.prog Try.tys.get 83 Try.ti83 := ⟨by kernel_rfl, by kernel_rfl, rfl, by kernel_rfl, (fun _ => rfl), (fun h => by cases h)⟩
theorem Try.tok84 : TIOk Try.prog Try.tys.get 84 Try.ti84 := ⟨by kernel_rfl, by kernel_rfl, rfl, by kernel_rfl, (fun _ => rfl), (fun h => by cases h)⟩
theorem Try.tok85 : TIOk Try.prog Try.tys.get 85 Try.ti85 := ⟨by kernel_rfl, by kernel_rfl, rfl, by kernel_rfl, (fun _ => rfl), (fun h => by cases h)⟩
theorem Try.tok86 : TIOk Try.prog Try.tys.get 86 Try.ti86 := ⟨by kernel_rfl, by kernel_rfl, rfl, by kernel_rfl, (fun _ => rfl), (fun h => by cases h)⟩
theorem Try.tok87 : TIOk Try.prog Try.tys.get 87 Try.ti87 := ⟨by kernel_rfl, by kernel_rfl, rfl, by kernel_rfl, (fun _ => rfl), (fun h => by cases h)⟩
theorem Try.tok88 : TIOk Try.prog Try.tys.get 88 Try.ti88 := ⟨by kernel_rfl, by kernel_rfl, rfl, by kernel_rfl, (fun _ => rfl), (fun h => by cases h)⟩
theorem Try.tok90 : TIOk Try.prog Try.tys.get 90 Try.ti90 := ⟨by kernel_rfl, by kernel_rfl, rfl, by kernel_rfl, (fun _ => rfl), (fun h => by cases h)⟩
theorem Try.tok91 : TIOk Try.prog Try.tys.get 91 Try.ti91 := ⟨by kernel_rfl, by kernel_rfl, rfl, by kernel_rfl, (fun _ => rfl), (fun h => by cases h)⟩
theorem Try.tok92 : TIOk Try.prog Try.tys.get 92 Try.ti92 := ⟨by kernel_rfl, by kernel_rfl, rfl, by kernel_rfl, (fun _ => rfl), (fun h => by cases h)⟩
theorem Try.tok93 : TIOk Try.prog Try.tys.get 93 Try.ti93 := ⟨by kernel_rfl, by kernel_rfl, rfl, by kernel_rfl, (fun _ => rfl), (fun h => by cases h)⟩
theorem Try.tok94 : TIOk Try.prog Try.tys.get 94 Try.ti94 := ⟨by kernel_rfl, by kernel_rfl, rfl, by kernel_rfl, (fun _ => rfl), (fun h => by cases h)⟩
theorem Try.tok96 : TIOk Try.prog Try.tys.get 96 Try.ti96 := ⟨by kernel_rfl, by kernel_rfl, rfl, by kernel_rfl, (fun _ => rfl), (fun h => by cases h)⟩
theorem Try.tok97 : TIOk Try.prog Try.tys.get 97 Try.ti97 := ⟨by kernel_rfl, by kernel_rfl, rfl, by kernel_rfl, (fun _ => rfl), (fun h => by cases h)⟩
theorem Try.tok98 : TIOk Try.prog Try.tys.get 98 Try.ti98 := ⟨by kernel_rfl, by kernel_rfl, rfl, by kernel_rfl, (fun _ => rfl), (fun h => by cases h)⟩
theorem Try.tok99 : TIOk Try.prog Try.tys.get 99 Try.ti99 := ⟨by kernel_rfl, by kernel_rfl, rfl, by kernel_rfl, (fun _ => rfl), (fun h => by cases h)⟩
theorem Try.tok100 : TIOk Try.prog Try.tys.get 100 Try.ti100 := ⟨by kernel_rfl, by kernel_rfl, rfl, by kernel_rfl, (fun _ => rfl), (fun h => by cases h)⟩
theorem Try.tok102 : TIOk Try.prog Try.tys.get 102 Try.ti102 := ⟨by kernel_rfl, by kernel_rfl, rfl, by kernel_rfl, (fun _ => rfl), (fun h => by cases h)⟩
theorem Try.tok103 : TIOk Try.prog Try.tys.get 103 Try.ti103 := ⟨by kernel_rfl, by kernel_rfl, rfl, by kernel_rfl, (fun _ => rfl), (fun h => by cases h)⟩
theorem Try.tok105 : TIOk Try.prog Try.tys.get 105 Try.ti105 := ⟨by kernel_rfl, by kernel_rfl, rfl, by kernel_rfl, (fun _ => rfl), (fun h => by cases h)⟩
theorem Try.tok106 : TIOk Try.prog Try.tys.get 106 Try.ti106 := ⟨by kernel_rfl, by kernel_rfl, rfl, by kernel_rfl, (fun _ => rfl), (fun h => by cases h)⟩
theorem Try.tok107 : TIOk Try.prog Try.tys.get 107 Try.ti107 := ⟨by kernel_rfl, by kernel_rfl, rfl, by kernel_rfl, (fun _ => rfl), (fun h => by cases h)⟩
theorem Try.tok108 : TIOk Try.prog Try.tys.get 108 Try.ti108 := ⟨by kernel_rfl, by kernel_rfl, rfl, by kernel_rfl, (fun _ => rfl), (fun h => by cases h)⟩
theorem Try.tok109 : TIOk Try.prog Try.tys.get 109 Try.ti109 := ⟨by kernel_rfl, by kernel_rfl, rfl, by kernel_rfl, (fun _ => rfl), (fun h => by cases h)⟩
theorem Try.tok110 : TIOk Try.prog Try.tys.get 110 Try.ti110 := ⟨by kernel_rfl, by kernel_rfl, rfl, by kernel_rfl, (fun _ => rfl), (fun h => by cases h)⟩
theorem Try.tok111 : TIOk Try.prog Try.tys.get 111 Try.ti111 := ⟨by kernel_rfl, by kernel_rfl, rfl, by kernel_rfl, (fun _ => rfl), (fun h => by cases h)⟩
theorem Try.tok112 : TIOk Try.prog Try.tys.get 112 Try.ti112 := ⟨by kernel_rfl, by kernel_rfl, rfl, by kernel_rfl, (fun _ => rfl), (fun h => by cases h)⟩
theorem Try.tok115 : TIOk Try.prog Try.tys.get 115 Try.ti115 := ⟨by kernel_rfl, by kernel_rfl, rfl, by kernel_rfl, (fun _ => rfl), (fun h => by cases h)⟩
theorem Try.tok116 : TIOk Try.prog Try.tys.get 116 Try.ti116 := ⟨by kernel_rfl, by kernel_rfl, rfl, by kernel_rfl, (fun _ => rfl), (fun h => by cases h)⟩
theorem Try.tok117 : TIOk Try.prog Try.tys.get 117 Try.ti117 := ⟨by kernel_rfl, by kernel_rfl, rfl, by kernel_rfl, (fun h => by cases h), (fun h => by cases h)⟩
theorem Try.tok118 : TIOk Try.prog Try.tys.get 118 Try.ti118 := ⟨by kernel_rfl, by kernel_rfl, rfl, by kernel_rfl, (fun h => by cases h), (fun h => by cases h)⟩
theorem Try.tok119 : TIOk Try.prog Try.tys.get 119 Try.ti119 := ⟨by kernel_rfl, by kernel_rfl, rfl, by kernel_rfl, (fun h => by cases h), (fun h => by cases h)⟩
theorem Try.tok120 : TIOk Try.prog Try.tys.get 120 Try.ti120 := ⟨by kernel_rfl, by kernel_rfl, rfl, by kernel_rfl, (fun h => by cases h), (fun h => by cases h)⟩
theorem Try.tok121 : TIOk Try.prog Try.tys.get 121 Try.ti121 := ⟨by kernel_rfl, by kernel_rfl, rfl, by kernel_rfl, (fun h => by cases h), (fun h => by cases h)⟩
theorem Try.tok122 : TIOk Try.prog Try.tys.get 122 Try.ti122 := ⟨by kernel_rfl, by kernel_rfl, rfl, by kernel_rfl, (fun _ => rfl), (fun h => by cases h)⟩
theorem Try.tok123 : TIOk Try.prog Try.tys.get 123 Try.ti123 := ⟨by kernel_rfl, by kernel_rfl, rfl, by kernel_rfl, (fun _ => rfl), (fun h => by cases h)⟩
theorem Try.tok124 : TIOk Try.prog Try.tys.get 124 Try.ti124 := ⟨by kernel_rfl, by kernel_rfl, rfl, by kernel_rfl, (fun _ => rfl), (fun h => by cases h)⟩
theorem Try.tok125 : TIOk Try.prog Try.tys.get 125 Try.ti125 := ⟨by kernel_rfl, by kernel_rfl, rfl, by kernel_rfl, (fun _ => rfl), (fun h => by cases h)⟩
theorem Try.tok126 : TIOk Try.prog Try.tys.get 126 Try.ti126 := ⟨by kernel_rfl, by kernel_rfl, rfl, by kernel_rfl, (fun _ => rfl), (fun h => by cases h)⟩
theorem Try.tok127 : TIOk Try.prog Try.tys.get 127 Try.ti127 := ⟨by kernel_rfl, by kernel_rfl, rfl, by kernel_rfl, (fun _ => rfl), (fun h => by cases h)⟩
theorem Try.tok128 : TIOk Try.prog Try.tys.get 128 Try.ti128 := ⟨by kernel_rfl, by kernel_rfl, rfl, by kernel_rfl, (fun _ => rfl), (fun h => by cases h)⟩
theorem Try.tok129 : TIOk Try.prog Try.tys.get 129 Try.ti129 := ⟨by kernel_rfl, by kernel_rfl, rfl, by kernel_rfl, (fun h => by cases h), (fun h => by cases h)⟩
theorem Try.tok130 : TIOk Try.prog Try.tys.get 130 Try.ti130 := ⟨by kernel_rfl, by kernel_rfl, rfl, by kernel_rfl, (fun h => by cases h), (fun h => by cases h)⟩
theorem Try.tok131 : TIOk Try.prog Try.tys.get 131 Try.ti131 := ⟨by kernel_rfl, by kernel_rfl, rfl, by kernel_rfl, (fun h => by cases h), (fun h => by cases h)⟩
theorem Try.tok132 : TIOk Try.prog Try.tys.get 132 Try.ti132 := ⟨by kernel_rfl, by kernel_rfl, rfl, by kernel_rfl, (fun h => by cases h), (fun h => by cases h)⟩
theorem Try.tysOk : Try.cx.TyOk := ⟨fun _ _ h => BT.All.get (p := fun t i => TIOk Try.prog Try.tys.get t i) (t := Try.tys) ⟨⟨⟨⟨⟨⟨⟨trivial, Try.tok1, trivial⟩, Try.tok2, ⟨trivial, Try.tok3, trivial⟩⟩, Try.tok4, ⟨⟨trivial, Try.tok5, trivial⟩, Try.tok6, ⟨trivial, Try.tok7, trivial⟩⟩⟩, Try.tok8, ⟨⟨⟨trivial, Try.tok9, trivial⟩, Try.tok10, ⟨trivial, Try.tok11, trivial⟩⟩, Try.tok12, ⟨⟨trivial, Try.tok13, trivial⟩, Try.tok14, trivial⟩⟩⟩, Try.tok15, ⟨⟨⟨⟨trivial, Try.tok16, trivial⟩, Try.tok17, ⟨trivial, Try.tok18, trivial⟩⟩, Try.tok19, ⟨⟨trivial, Try.tok21, trivial⟩, Try.tok22, ⟨trivial, Try.tok23, trivial⟩⟩⟩, Try.tok24, ⟨⟨⟨trivial, Try.tok25, trivial⟩, Try.tok26, ⟨trivial, Try.tok27, trivial⟩⟩, Try.tok28, ⟨⟨trivial, Try.tok30, trivial⟩, Try.tok31, trivial⟩⟩⟩⟩, Try.tok32, ⟨⟨⟨⟨⟨trivial, Try.tok33, trivial⟩, Try.tok34, ⟨trivial, Try.tok35, trivial⟩⟩, Try.tok36, ⟨⟨trivial, Try.tok37, trivial⟩, Try.tok38, ⟨trivial, Try.tok39, trivial⟩⟩⟩, Try.tok40, ⟨⟨⟨trivial, Try.tok41, trivial⟩, Try.tok42, ⟨trivial, Try.tok43, trivial⟩⟩, Try.tok44, ⟨⟨trivial, Try.tok45, trivial⟩, Try.tok46, trivial⟩⟩⟩, Try.tok47, ⟨⟨⟨⟨trivial, Try.tok48, trivial⟩, Try.tok49, ⟨trivial, Try.tok51, trivial⟩⟩, Try.tok52, ⟨⟨trivial, Try.tok53, trivial⟩, Try.tok54, ⟨trivial, Try.tok55, trivial⟩⟩⟩, Try.tok56, ⟨⟨⟨trivial, Try.tok57, trivial⟩, Try.tok58, ⟨trivial, Try.tok60, trivial⟩⟩, Try.tok61, ⟨⟨trivial, Try.tok62, trivial⟩, Try.tok63, trivial⟩⟩⟩⟩⟩, Try.tok64, ⟨⟨⟨⟨⟨⟨trivial, Try.tok65, trivial⟩, Try.tok66, ⟨trivial, Try.tok67, trivial⟩⟩, Try.tok68, ⟨⟨trivial, Try.tok69, trivial⟩, Try.tok71, ⟨trivial, Try.tok72, trivial⟩⟩⟩, Try.tok73, ⟨⟨⟨trivial, Try.tok74, trivial⟩, Try.tok75, ⟨trivial, Try.tok77, trivial⟩⟩, Try.tok78, ⟨⟨trivial, Try.tok79, trivial⟩, Try.tok81, trivial⟩⟩⟩, Try.tok82, ⟨⟨⟨⟨trivial, Try.tok83, trivial⟩, Try.tok84, ⟨trivial, Try.tok85, trivial⟩⟩, Try.tok86, ⟨⟨trivial, Try.tok87, trivial⟩, Try.tok88, ⟨trivial, Try.tok90, trivial⟩⟩⟩, Try.tok91, ⟨⟨⟨trivial, Try.tok92, trivial⟩, Try.tok93, ⟨trivial, Try.tok94, trivial⟩⟩, Try.tok96, ⟨⟨trivial, Try.tok97, trivial⟩, Try.tok98, trivial⟩⟩⟩⟩, Try.tok99, ⟨⟨⟨⟨⟨trivial, Try.tok100, trivial⟩, Try.tok102, ⟨trivial, Try.tok103, trivial⟩⟩, Try.tok105, ⟨⟨trivial, Try.tok106, trivial⟩, Try.tok107, ⟨trivial, Try.tok108, trivial⟩⟩⟩, Try.tok109, ⟨⟨⟨trivial, Try.tok110, trivial⟩, Try.tok111, ⟨trivial, Try.tok112, trivial⟩⟩, Try.tok115, ⟨⟨trivial, Try.tok116, trivial⟩, Try.tok117, trivial⟩⟩⟩, Try.tok118, ⟨⟨⟨⟨trivial, Try.tok119, trivial⟩, Try.tok120, ⟨trivial, Try.tok121, trivial⟩⟩, Try.tok122, ⟨⟨trivial, Try.tok123, trivial⟩, Try.tok124, ⟨trivial, Try.tok125, trivial⟩⟩⟩, Try.tok126, ⟨⟨⟨trivial, Try.tok127, trivial⟩, Try.tok128, ⟨trivial, Try.tok129, trivial⟩⟩, Try.tok130, ⟨⟨trivial, Try.tok131, trivial⟩, Try.tok132, trivial⟩⟩⟩⟩⟩⟩ h⟩
theorem Try.fok2 : fnB Try.cx 2 Try.f2 = true := by kernel_rfl
theorem Try.fok3 : fnB Try.cx 3 Try.f3 = true := by kernel_rfl
theorem Try.fok4 : fnB Try.cx 4 Try.f4 = true := by kernel_rfl
theorem Try.fok5 : fnB Try.cx 5 Try.f5 = true := by kernel_rfl
theorem Try.fok6 : fnB Try.cx 6 Try.f6 = true := by kernel_rfl
theorem Try.fok8 : fnB Try.cx 8 Try.f8 = true := by kernel_rfl
theorem Try.fok9 : fnB Try.cx 9 Try.f9 = true := by kernel_rfl
theorem Try.fok10 : fnB Try.cx 10 Try.f10 = true := by kernel_rfl
theorem Try.fok11 : fnB Try.cx 11 Try.f11 = true := by kernel_rfl
theorem Try.fok12 : fnB Try.cx 12 Try.f12 = true := by kernel_rfl
theorem Try.fok13 : fnB Try.cx 13 Try.f13 = true := by kernel_rfl
theorem Try.fok14 : fnB Try.cx 14 Try.f14 = true := by kernel_rfl
theorem Try.fok15 : fnB Try.cx 15 Try.f15 = true := by kernel_rfl
theorem Try.fok16 : fnB Try.cx 16 Try.f16 = true := by kernel_rfl
theorem Try.fok17 : fnB Try.cx 17 Try.f17 = true := by kernel_rfl
theorem Try.fok18 : fnB Try.cx 18 Try.f18 = true := by kernel_rfl
theorem Try.fok19 : fnB Try.cx 19 Try.f19 = true := by kernel_rfl
theorem Try.fok20 : fnB Try.cx 20 Try.f20 = true := by kernel_rfl
theorem Try.fok21 : fnB Try.cx 21 Try.f21 = true := by kernel_rfl
theorem Try.fok22 : fnB Try.cx 22 Try.f22 = true := by kernel_rfl
theorem Try.fok23 : fnB Try.cx 23 Try.f23 = true := by kernel_rfl
theorem Try.fok24 : fnB Try.cx 24 Try.f24 = true := by kernel_rfl
theorem Try.fok25 : fnB Try.cx 25 Try.f25 = true := by kernel_rfl
theorem Try.fok26 : fnB Try.cx 26 Try.f26 = true := by kernel_rfl
theorem Try.fok27 : fnB Try.cx 27 Try.f27 = true := by kernel_rfl
theorem Try.fok28 : fnB Try.cx 28 Try.f28 = true := by kernel_rfl
theorem Try.fok29 : fnB Try.cx 29 Try.f29 = true := by kernel_rfl
theorem Try.fok30 : fnB Try.cx 30 Try.f30 = true := by kernel_rfl
theorem Try.fok31 : fnB Try.cx 31 Try.f31 = true := by kernel_rfl
theorem Try.fok32 : fnB Try.cx 32 Try.f32 = true := by kernel_rfl
theorem Try.fok33 : fnB Try.cx 33 Try.f33 = true := by kernel_rfl
theorem Try.fok34 : fnB Try.cx 34 Try.f34 = true := by kernel_rfl
theorem Try.fok35 : fnB Try.cx 35 Try.f35 = true := by kernel_rfl
theorem Try.fok36 : fnB Try.cx 36 Try.f36 = true := by kernel_rfl
theorem Try.fok37 : fnB Try.cx 37 Try.f37 = true := by kernel_rfl
theorem Try.fok38 : fnB Try.cx 38 Try.f38 = true := by kernel_rfl
theorem Try.fok39 : fnB Try.cx 39 Try.f39 = true := by kernel_rfl
theorem Try.fok40 : fnB Try.cx 40 Try.f40 = true := by kernel_rfl
theorem Try.fok41 : fnB Try.cx 41 Try.f41 = true := by kernel_rfl
theorem Try.fok42 : fnB Try.cx 42 Try.f42 = true := by kernel_rfl
theorem Try.fok43 : fnB Try.cx 43 Try.f43 = true := by kernel_rfl
theorem Try.fok44 : fnB Try.cx 44 Try.f44 = true := by kernel_rfl
theorem Try.fok45 : fnB Try.cx 45 Try.f45 = true := by kernel_rfl
theorem Try.fok46 : fnB Try.cx 46 Try.f46 = true := by kernel_rfl
theorem Try.fok47 : fnB Try.cx 47 Try.f47 = true := by kernel_rfl
theorem Try.fok48 : fnB Try.cx 48 Try.f48 = true := by kernel_rfl
theorem Try.fok49 : fnB Try.cx 49 Try.f49 = true := by kernel_rfl
theorem Try.fok50 : fnB Try.cx 50 Try.f50 = true := by kernel_rfl
theorem Try.fok51 : fnB Try.cx 51 Try.f51 = true := by kernel_rfl
theorem Try.fok52 : fnB Try.cx 52 Try.f52 = true := by kernel_rfl
theorem Try.fok53 : fnB Try.cx 53 Try.f53 = true := by kernel_rfl
theorem Try.fok54 : fnB Try.cx 54 Try.f54 = true := by kernel_rfl
theorem Try.fok55 : fnB Try.cx 55 Try.f55 = true := by kernel_rfl
theorem Try.fok56 : fnB Try.cx 56 Try.f56 = true := by kernel_rfl
theorem Try.fok57 : fnB Try.cx 57 Try.f57 = true := by kernel_rfl
theorem Try.fok58 : fnB Try.cx 58 Try.f58 = true := by kernel_rfl
theorem Try.fok59 : fnB Try.cx 59 Try.f59 = true := by kernel_rfl
theorem Try.fok60 : fnB Try.cx 60 Try.f60 = true := by kernel_rfl
theorem Try.fok61 : fnB Try.cx 61 Try.f61 = true := by kernel_rfl
theorem Try.fok62 : fnB Try.cx 62 Try.f62 = true := by kernel_rfl
theorem Try.fok63 : fnB Try.cx 63 Try.f63 = true := by kernel_rfl
theorem Try.fok64 : fnB Try.cx 64 Try.f64 = true := by kernel_rfl
theorem Try.fok65 : fnB Try.cx 65 Try.f65 = true := by kernel_rfl
theorem Try.fok66 : fnB Try.cx 66 Try.f66 = true := by kernel_rfl
theorem Try.fok67 : fnB Try.cx 67 Try.f67 = true := by kernel_rfl
theorem Try.fok68 : fnB Try.cx 68 Try.f68 = true := by kernel_rfl
theorem Try.fok69 : fnB Try.cx 69 Try.f69 = true := by kernel_rfl
theorem Try.fok70 : fnB Try.cx 70 Try.f70 = true := by kernel_rfl
theorem Try.fok71 : fnB Try.cx 71 Try.f71 = true := by kernel_rfl
theorem Try.fok72 : fnB Try.cx 72 Try.f72 = true := by kernel_rfl
theorem Try.fok73 : fnB Try.cx 73 Try.f73 = true := by kernel_rfl
theorem Try.fok74 : fnB Try.cx 74 Try.f74 = true := by kernel_rfl
theorem Try.fok75 : fnB Try.cx 75 Try.f75 = true := by kernel_rfl
theorem Try.fok76 : fnB Try.cx 76 Try.f76 = true := by kernel_rfl
theorem Try.fok77 : fnB Try.cx 77 Try.f77 = true := by kernel_rfl
theorem Try.fok78 : fnB Try.cx 78 Try.f78 = true := by kernel_rfl
theorem Try.fok79 : fnB Try.cx 79 Try.f79 = true := by kernel_rfl
theorem Try.fok80 : fnB Try.cx 80 Try.f80 = true := by kernel_rfl
theorem Try.fok81 : fnB Try.cx 81 Try.f81 = true := by kernel_rfl
theorem Try.fok82 : fnB Try.cx 82 Try.f82 = true := by kernel_rfl
theorem Try.fok83 : fnB Try.cx 83 Try.f83 = true := by kernel_rfl
theorem Try.fok84 : fnB Try.cx 84 Try.f84 = true := by kernel_rfl
theorem Try.fok85 : fnB Try.cx 85 Try.f85 = true := by kernel_rfl
theorem Try.fok86 : fnB Try.cx 86 Try.f86 = true := by kernel_rfl
theorem Try.fok87 : fnB Try.cx 87 Try.f87 = true := by kernel_rfl
theorem Try.fok88 : fnB Try.cx 88 Try.f88 = true := by kernel_rfl
theorem Try.fok89 : fnB Try.cx 89 Try.f89 = true := by kernel_rfl
theorem Try.fok90 : fnB Try.cx 90 Try.f90 = true := by kernel_rfl
theorem Try.fok91 : fnB Try.cx 91 Try.f91 = true := by kernel_rfl
theorem Try.fok92 : fnB Try.cx 92 Try.f92 = true := by kernel_rfl
theorem Try.fok93 : fnB Try.cx 93 Try.f93 = true := by kernel_rfl
theorem Try.fok94 : fnB Try.cx 94 Try.f94 = true := by kernel_rfl
theorem Try.fok95 : fnB Try.cx 95 Try.f95 = true := by kernel_rfl
theorem Try.fok96 : fnB Try.cx 96 Try.f96 = true := by kernel_rfl
theorem Try.fok97 : fnB Try.cx 97 Try.f97 = true := by kernel_rfl
theorem Try.fok98 : fnB Try.cx 98 Try.f98 = true := by kernel_rfl
theorem Try.fok99 : fnB Try.cx 99 Try.f99 = true := by kernel_rfl
theorem Try.fok100 : fnB Try.cx 100 Try.f100 = true := by kernel_rfl
theorem Try.fok101 : fnB Try.cx 101 Try.f101 = true := by kernel_rfl
theorem Try.fok102 : fnB Try.cx 102 Try.f102 = true := by kernel_rfl
theorem Try.fok103 : fnB Try.cx 103 Try.f103 = true := by kernel_rfl
theorem Try.fok104 : fnB Try.cx 104 Try.f104 = true := by kernel_rfl
theorem Try.cxOk : Try.cx.Ok := ⟨Try.tysOk, fun _ _ h => BT.All.get (p := fun g fn => FnOk Try.cx g fn) (t := Try.fns) ⟨⟨⟨⟨⟨⟨⟨trivial, fn_ok Try.tysOk Try.checked.mixed Try.func2 Try.fok2, trivial⟩, fn_ok Try.tysOk Try.checked.mixed Try.func3 Try.fok3, ⟨trivial, fn_ok Try.tysOk Try.checked.mixed Try.func4 Try.fok4, trivial⟩⟩, fn_ok Try.tysOk Try.checked.mixed Try.func5 Try.fok5, ⟨⟨trivial, fn_ok Try.tysOk Try.checked.mixed Try.func6 Try.fok6, trivial⟩, fn_ok Try.tysOk Try.checked.mixed Try.func8 Try.fok8, trivial⟩⟩, fn_ok Try.tysOk Try.checked.mixed Try.func9 Try.fok9, ⟨⟨⟨trivial, fn_ok Try.tysOk Try.checked.mixed Try.func10 Try.fok10, trivial⟩, fn_ok Try.tysOk Try.checked.mixed Try.func11 Try.fok11, trivial⟩, fn_ok Try.tysOk Try.checked.mixed Try.func12 Try.fok12, ⟨⟨trivial, fn_ok Try.tysOk Try.checked.mixed Try.func13 Try.fok13, trivial⟩, fn_ok Try.tysOk Try.checked.mixed Try.func14 Try.fok14, trivial⟩⟩⟩, fn_ok Try.tysOk Try.checked.mixed Try.func15 Try.fok15, ⟨⟨⟨⟨trivial, fn_ok Try.tysOk Try.checked.mixed Try.func16 Try.fok16, trivial⟩, fn_ok Try.tysOk Try.checked.mixed Try.func17 Try.fok17, ⟨trivial, fn_ok Try.tysOk Try.checked.mixed Try.func18 Try.fok18, trivial⟩⟩, fn_ok Try.tysOk Try.checked.mixed Try.func19 Try.fok19, ⟨⟨trivial, fn_ok Try.tysOk Try.checked.mixed Try.func20 Try.fok20, trivial⟩, fn_ok Try.tysOk Try.checked.mixed Try.func21 Try.fok21, trivial⟩⟩, fn_ok Try.tysOk Try.checked.mixed Try.func22 Try.fok22, ⟨⟨⟨trivial, fn_ok Try.tysOk Try.checked.mixed Try.func23 Try.fok23, trivial⟩, fn_ok Try.tysOk Try.checked.mixed Try.func24 Try.fok24, trivial⟩, fn_ok Try.tysOk Try.checked.mixed Try.func25 Try.fok25, ⟨⟨trivial, fn_ok Try.tysOk Try.checked.mixed Try.func26 Try.fok26, trivial⟩, fn_ok Try.tysOk Try.checked.mixed Try.func27 Try.fok27, trivial⟩⟩⟩⟩, fn_ok Try.tysOk Try.checked.mixed Try.func28 Try.fok28, ⟨⟨⟨⟨⟨trivial, fn_ok Try.tysOk Try.checked.mixed Try.func29 Try.fok29, trivial⟩, fn_ok Try.tysOk Try.checked.mixed Try.func30 Try.fok30, ⟨trivial, fn_ok Try.tysOk Try.checked.mixed Try.func31 Try.fok31, trivial⟩⟩, fn_ok Try.tysOk Try.checked.mixed Try.func32 Try.fok32, ⟨⟨trivial, fn_ok Try.tysOk Try.checked.mixed Try.func33 Try.fok33, trivial⟩, fn_ok Try.tysOk Try.checked.mixed Try.func34 Try.fok34, trivial⟩⟩, fn_ok Try.tysOk Try.checked.mixed Try.func35 Try.fok35, ⟨⟨⟨trivial, fn_ok Try.tysOk Try.checked.mixed Try.func36 Try.fok36, trivial⟩, fn_ok Try.tysOk Try.checked.mixed Try.func37 Try.fok37, trivial⟩, fn_ok Try.tysOk Try.checked.mixed Try.func38 Try.fok38, ⟨⟨trivial, fn_ok Try.tysOk Try.checked.mixed Try.func39 Try.fok39, trivial⟩, fn_ok Try.tysOk Try.checked.mixed Try.func40 Try.fok40, trivial⟩⟩⟩, fn_ok Try.tysOk Try.checked.mixed Try.func41 Try.fok41, ⟨⟨⟨⟨trivial, fn_ok Try.tysOk Try.checked.mixed Try.func42 Try.fok42, trivial⟩, fn_ok Try.tysOk Try.checked.mixed Try.func43 Try.fok43, ⟨trivial, fn_ok Try.tysOk Try.checked.mixed Try.func44 Try.fok44, trivial⟩⟩, fn_ok Try.tysOk Try.checked.mixed Try.func45 Try.fok45, ⟨⟨trivial, fn_ok Try.tysOk Try.checked.mixed Try.func46 Try.fok46, trivial⟩, fn_ok Try.tysOk Try.checked.mixed Try.func47 Try.fok47, trivial⟩⟩, fn_ok Try.tysOk Try.checked.mixed Try.func48 Try.fok48, ⟨⟨⟨trivial, fn_ok Try.tysOk Try.checked.mixed Try.func49 Try.fok49, trivial⟩, fn_ok Try.tysOk Try.checked.mixed Try.func50 Try.fok50, trivial⟩, fn_ok Try.tysOk Try.checked.mixed Try.func51 Try.fok51, ⟨⟨trivial, fn_ok Try.tysOk Try.checked.mixed Try.func52 Try.fok52, trivial⟩, fn_ok Try.tysOk Try.checked.mixed Try.func53 Try.fok53, trivial⟩⟩⟩⟩⟩, fn_ok Try.tysOk Try.checked.mixed Try.func54 Try.fok54, ⟨⟨⟨⟨⟨⟨trivial, fn_ok Try.tysOk Try.checked.mixed Try.func55 Try.fok55, trivial⟩, fn_ok Try.tysOk Try.checked.mixed Try.func56 Try.fok56, ⟨trivial, fn_ok Try.tysOk Try.checked.mixed Try.func57 Try.fok57, trivial⟩⟩, fn_ok Try.tysOk Try.checked.mixed Try.func58 Try.fok58, ⟨⟨trivial, fn_ok Try.tysOk Try.checked.mixed Try.func59 Try.fok59, trivial⟩, fn_ok Try.tysOk Try.checked.mixed Try.func60 Try.fok60, trivial⟩⟩, fn_ok Try.tysOk Try.checked.mixed Try.func61 Try.fok61, ⟨⟨⟨trivial, fn_ok Try.tysOk Try.checked.mixed Try.func62 Try.fok62, trivial⟩, fn_ok Try.tysOk Try.checked.mixed Try.func63 Try.fok63, trivial⟩, fn_ok Try.tysOk Try.checked.mixed Try.func64 Try.fok64, ⟨⟨trivial, fn_ok Try.tysOk Try.checked.mixed Try.func65 Try.fok65, trivial⟩, fn_ok Try.tysOk Try.checked.mixed Try.func66 Try.fok66, trivial⟩⟩⟩, fn_ok Try.tysOk Try.checked.mixed Try.func67 Try.fok67, ⟨⟨⟨⟨trivial, fn_ok Try.tysOk Try.checked.mixed Try.func68 Try.fok68, trivial⟩, fn_ok Try.tysOk Try.checked.mixed Try.func69 Try.fok69, ⟨trivial, fn_ok Try.tysOk Try.checked.mixed Try.func70 Try.fok70, trivial⟩⟩, fn_ok Try.tysOk Try.checked.mixed Try.func71 Try.fok71, ⟨⟨trivial, fn_ok Try.tysOk Try.checked.mixed Try.func72 Try.fok72, trivial⟩, fn_ok Try.tysOk Try.checked.mixed Try.func73 Try.fok73, trivial⟩⟩, fn_ok Try.tysOk Try.checked.mixed Try.func74 Try.fok74, ⟨⟨⟨trivial, fn_ok Try.tysOk Try.checked.mixed Try.func75 Try.fok75, trivial⟩, fn_ok Try.tysOk Try.checked.mixed Try.func76 Try.fok76, trivial⟩, fn_ok Try.tysOk Try.checked.mixed Try.func77 Try.fok77, ⟨⟨trivial, fn_ok Try.tysOk Try.checked.mixed Try.func78 Try.fok78, trivial⟩, fn_ok Try.tysOk Try.checked.mixed Try.func79 Try.fok79, trivial⟩⟩⟩⟩, fn_ok Try.tysOk Try.checked.mixed Try.func80 Try.fok80, ⟨⟨⟨⟨⟨trivial, fn_ok Try.tysOk Try.checked.mixed Try.func81 Try.fok81, trivial⟩, fn_ok Try.tysOk Try.checked.mixed Try.func82 Try.fok82, ⟨trivial, fn_ok Try.tysOk Try.checked.mixed Try.func83 Try.fok83, trivial⟩⟩, fn_ok Try.tysOk Try.checked.mixed Try.func84 Try.fok84, ⟨⟨trivial, fn_ok Try.tysOk Try.checked.mixed Try.func85 Try.fok85, trivial⟩, fn_ok Try.tysOk Try.checked.mixed Try.func86 Try.fok86, trivial⟩⟩, fn_ok Try.tysOk Try.checked.mixed Try.func87 Try.fok87, ⟨⟨⟨trivial, fn_ok Try.tysOk Try.checked.mixed Try.func88 Try.fok88, trivial⟩, fn_ok Try.tysOk Try.checked.mixed Try.func89 Try.fok89, trivial⟩, fn_ok Try.tysOk Try.checked.mixed Try.func90 Try.fok90, ⟨⟨trivial, fn_ok Try.tysOk Try.checked.mixed Try.func91 Try.fok91, trivial⟩, fn_ok Try.tysOk Try.checked.mixed Try.func92 Try.fok92, trivial⟩⟩⟩, fn_ok Try.tysOk Try.checked.mixed Try.func93 Try.fok93, ⟨⟨⟨⟨trivial, fn_ok Try.tysOk Try.checked.mixed Try.func94 Try.fok94, trivial⟩, fn_ok Try.tysOk Try.checked.mixed Try.func95 Try.fok95, trivial⟩, fn_ok Try.tysOk Try.checked.mixed Try.func96 Try.fok96, ⟨⟨trivial, fn_ok Try.tysOk Try.checked.mixed Try.func97 Try.fok97, trivial⟩, fn_ok Try.tysOk Try.checked.mixed Try.func98 Try.fok98, trivial⟩⟩, fn_ok Try.tysOk Try.checked.mixed Try.func99 Try.fok99, ⟨⟨⟨trivial, fn_ok Try.tysOk Try.checked.mixed Try.func100 Try.fok100, trivial⟩, fn_ok Try.tysOk Try.checked.mixed Try.func101 Try.fok101, trivial⟩, fn_ok Try.tysOk Try.checked.mixed Try.func102 Try.fok102, ⟨⟨trivial, fn_ok Try.tysOk Try.checked.mixed Try.func103 Try.fok103, trivial⟩, fn_ok Try.tysOk Try.checked.mixed Try.func104 Try.fok104, trivial⟩⟩⟩⟩⟩⟩ h⟩
end Go.Proofs.Ytgkjdfojogemhaa
