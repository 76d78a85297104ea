/- The facts on the types of the program that the walk asks for, by the kernel. Printed by gen.py. -/
import Derived.Test.YtbhegmcbpolemaaDoorTE3
import Derived.Test.YtbhegmcbpolemaaDoorChecked
import Derived.KernelRfl
namespace Go.Proofs.YtbhegmcbpolemaaDoor
open Go Go.Av
set_option maxRecDepth 100000
instance:En Tryd.prog:=⟨by kernel_rfl⟩
instance:G3 Tryd.prog 3 false 1:=.of (by kernel_rfl) (by kernel_rfl)
instance:G7 Tryd.prog 3 [.int .i64 0]:=.of (by kernel_rfl)
instance:K3 Tryd.prog 3 8:=.of (by kernel_rfl)
instance:J9 Tryd.prog 3 .i64:=⟨by kernel_rfl⟩
instance:G3 Tryd.prog 4 false 1:=.of (by kernel_rfl) (by kernel_rfl)
instance:G7 Tryd.prog 4 [.bool false]:=.of (by kernel_rfl)
instance:K3 Tryd.prog 4 1:=.of (by kernel_rfl)
instance:G3 Tryd.prog 5 false 1:=.of (by kernel_rfl) (by kernel_rfl)
instance:J9 Tryd.prog 5 .u8:=⟨by kernel_rfl⟩
instance:O0 Tryd.prog 9:=⟨by kernel_rfl⟩
instance:G3 Tryd.prog 22 false 1:=.of (by kernel_rfl) (by kernel_rfl)
instance:I6 Tryd.prog 22 5 1:=.of (by kernel_rfl) (by kernel_rfl)
instance:G3 Tryd.prog 25 false 1:=.of (by kernel_rfl) (by kernel_rfl)
instance:G7 Tryd.prog 25 [.slice none 0 0]:=.of (by kernel_rfl)
instance:K3 Tryd.prog 25 24:=.of (by kernel_rfl)
instance:I6 Tryd.prog 25 27 1:=.of (by kernel_rfl) (by kernel_rfl)
instance:G3 Tryd.prog 27 false 1:=.of (by kernel_rfl) (by kernel_rfl)
instance:G7 Tryd.prog 27 [.slice none 0 0]:=.of (by kernel_rfl)
instance:K3 Tryd.prog 27 24:=.of (by kernel_rfl)
instance:I6 Tryd.prog 27 3 1:=.of (by kernel_rfl) (by kernel_rfl)
instance:G3 Tryd.prog 29 false 1:=.of (by kernel_rfl) (by kernel_rfl)
instance:I6 Tryd.prog 29 31 2:=.of (by kernel_rfl) (by kernel_rfl)
instance:G3 Tryd.prog 31 true 2:=.of (by kernel_rfl) (by kernel_rfl)
instance:G7 Tryd.prog 31 [.int .i64 0, .int .i64 0]:=.of (by kernel_rfl)
instance:K3 Tryd.prog 31 16:=.of (by kernel_rfl)
instance:L3 Tryd.prog 31 0 0 1:=.of (by kernel_rfl)
instance:L3 Tryd.prog 31 1 1 1:=.of (by kernel_rfl)
instance:O3 Tryd.prog 31 [(0,1),(1,1)]:=.of (by kernel_rfl)
instance:n3 Tryd.prog 31 .i64 .i64:=.of (by kernel_rfl)
instance:G3 Tryd.prog 33 true 9:=.of (by kernel_rfl) (by kernel_rfl)
instance:G7 Tryd.prog 33 [.int .i64 0, .slice none 0 0, .slice none 0 0, .int .i64 0, .int .i64 0, .int .i64 0, .int .i64 0, .int .i64 0, .int .i64 0]:=.of (by kernel_rfl)
instance:L3 Tryd.prog 33 0 0 1:=.of (by kernel_rfl)
instance:L3 Tryd.prog 33 1 1 1:=.of (by kernel_rfl)
instance:L3 Tryd.prog 33 2 2 1:=.of (by kernel_rfl)
instance:L3 Tryd.prog 33 3 3 2:=.of (by kernel_rfl)
instance:L3 Tryd.prog 33 4 5 2:=.of (by kernel_rfl)
instance:L3 Tryd.prog 33 5 7 1:=.of (by kernel_rfl)
instance:L3 Tryd.prog 33 6 8 1:=.of (by kernel_rfl)
instance:O3 Tryd.prog 33 [(0,1),(1,1),(2,1),(3,2),(5,2),(7,1),(8,1)]:=.of (by kernel_rfl)
instance:I6 Tryd.prog 39 25 1:=.of (by kernel_rfl) (by kernel_rfl)
instance:G7 Tryd.prog 52 [.slice none 0 0, .int .i64 0]:=.of (by kernel_rfl)
instance:L3 Tryd.prog 52 0 0 1:=.of (by kernel_rfl)
instance:L3 Tryd.prog 52 1 1 1:=.of (by kernel_rfl)
instance:O3 Tryd.prog 52 [(0,1),(1,1)]:=.of (by kernel_rfl)
instance:G3 Tryd.prog 67 false 1:=.of (by kernel_rfl) (by kernel_rfl)
instance:J9 Tryd.prog 67 .u64:=⟨by kernel_rfl⟩
instance:G3 Tryd.prog 69 true 2:=.of (by kernel_rfl) (by kernel_rfl)
instance:G7 Tryd.prog 69 [.int .u64 0, .int .u64 0]:=.of (by kernel_rfl)
instance:L3 Tryd.prog 69 0 0 1:=.of (by kernel_rfl)
instance:L3 Tryd.prog 69 1 1 1:=.of (by kernel_rfl)
instance:O3 Tryd.prog 69 [(0,1),(1,1)]:=.of (by kernel_rfl)
instance:n3 Tryd.prog 69 .u64 .u64:=.of (by kernel_rfl)
instance:G3 Tryd.prog 81 true 2:=.of (by kernel_rfl) (by kernel_rfl)
instance:G7 Tryd.prog 81 [.int .u64 0, .int .u64 0]:=.of (by kernel_rfl)
instance:L3 Tryd.prog 81 0 0 1:=.of (by kernel_rfl)
instance:L3 Tryd.prog 81 1 1 1:=.of (by kernel_rfl)
instance:O3 Tryd.prog 81 [(0,1),(1,1)]:=.of (by kernel_rfl)
instance:n3 Tryd.prog 81 .u64 .u64:=.of (by kernel_rfl)
instance:J9 Tryd.prog 91 .u64:=⟨by kernel_rfl⟩
instance:G3 Tryd.prog 94 false 1:=.of (by kernel_rfl) (by kernel_rfl)
instance:G7 Tryd.prog 94 [.slice none 0 0]:=.of (by kernel_rfl)
instance:I6 Tryd.prog 94 4 1:=.of (by kernel_rfl) (by kernel_rfl)
instance:Ac Tryd.prog 104 64 5 1:=.of (by kernel_rfl) (by kernel_rfl)
end Go.Proofs.YtbhegmcbpolemaaDoor
