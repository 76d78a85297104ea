/- strings.Builder's functions as contracts of the walk. -/
import Derived.Test.YtkcekccdcpmekaaGreatDoorQSb0
set_option linter.unusedVariables false
set_option linter.unnecessarySimpa false
set_option linter.unusedSimpArgs false
set_option maxHeartbeats 64000000
namespace Go.Proofs.YtkcekccdcpmekaaGreatDoor
open Go Go.Av
attribute [local irreducible] E8 B5 E5 E1 DQ E7 E9 St.le A4 A9
set_option maxRecDepth 100000
theorem IE(s:List UInt8)(hs:s.length≤140737488355328):A9 Tryz.prog 35 1 [(0,some SG)] [.ref 0 0,.str s] 2 [(0,some (Jd 1 s.length)),(1,some (.row eB 1 1 (Q9 s)))] (.tup [.i s.length,.v .nilIface]):=by
 refine G4 Tryz.func35 19 fun E h0=>?_
 repeat'((first|refine S2 ?_|(refine T6 ?_ ?_<;>intro h<;>try exact V1 h)|intro el ke kg|intro el ke|exact T4|refine T5 ?_ ?_|intro ex|refine nc [0] [0] bH rfl rfl rfl ⟨rfl,trivial⟩ ?_)<;>try conv=>whnf)
 all_goals first
  |exact C9 (rvs:=[.tmp 4,.tmp 5]) (vs:=[_,_]) trivial rfl rfl (B0 h0 rfl ⟨rfl,rfl,trivial⟩ ⟨congrArg (fun z=>G1.bx bB [.ref 0 0,.row 1 1 z]) (by simp),⟨_,rfl⟩,trivial⟩ rfl rfl rfl) rfl
theorem HE(t s:List UInt8)(hs:t.length+s.length≤140737488355328):A9 Tryz.prog 35 2 [(0,some (Jd 0 t.length)),(1,some (.row eB 1 0 (Q9 t)))] [.ref 0 0,.str s] 2 [(0,some (Jd 1 (t++s).length)),(1,some (.row eB 1 1 (Q9 (t++s))))] (.tup [.i s.length,.v .nilIface]):=by
 refine G4 Tryz.func35 19 fun E h0=>?_
 have h1:=eo eB t.length (Q9 t)
 repeat'((first|refine S2 ?_|(refine T6 ?_ ?_<;>intro h<;>try exact V1 h)|intro el ke kg|intro el ke|exact T4|refine T5 ?_ ?_|intro ex|refine nc [0,1] [0,0] h1 rfl rfl rfl ⟨rfl,rfl,trivial⟩ ?_)<;>try conv=>whnf)
 all_goals first
  |exact C9 (rvs:=[.tmp 4,.tmp 5]) (vs:=[_,_]) trivial rfl rfl (B0 h0 rfl ⟨rfl,rfl,trivial⟩ ⟨congrArg (fun z=>G1.bx bB [.ref 0 0,.row 1 1 z]) (by simp),⟨_,by rw[en]⟩,trivial⟩ rfl rfl rfl) rfl
theorem iS(e len:Nat)(l:List (List AV))(he:Kx e=false:=by rfl):A9 Tryz.prog 38 2 [(0,some (Jd 0 len)),(1,some (.row e 1 0 l))] [.ref 0 0] 2 [(0,some (Jd 0 len)),(1,some (.row e 1 0 l))] (.i len):=by
 refine G4 Tryz.func38 8 fun E h0=>?_
 repeat'((first|refine S2 ?_|(refine T6 ?_ ?_<;>intro h<;>try exact V1 h)|intro el ke kg|intro el ke|exact T4|refine T5 ?_ ?_|intro ex)<;>try conv=>whnf)
 all_goals first
  |exact D9 (B0 h0 rfl ⟨rfl,trivial⟩ ⟨rfl,⟨_,rfl⟩,trivial⟩ rfl rfl (by simp only[K9,he];rfl))
theorem Je(s:List UInt8)(h1:s≠[]):A9 Tryz.prog 39 2 [(0,some (Jd 0 s.length)),(1,some (.row eB 1 0 (Q9 s)))] [.ref 0 0] 2 [(0,none),(1,none)] (.str s):=by
 have h2:Q9 s≠[]:=fun h=>h1 (List.map_eq_nil_iff.1 h)
 refine G4 Tryz.func39 14 fun E h0=>?_
 repeat'((first|(refine B6 1 ?_;refine Bg (id:=1) ⟨[(2,.str s)],2,[]⟩ ?_ ?_) |refine S2 ?_|(refine T6 ?_ ?_<;>intro h<;>try exact V1 h)|intro el ke kg|intro el ke|exact T4|refine T5 ?_ ?_|intro ex|refine YZ rfl rfl h2 rfl ?_|refine bG rfl rfl rfl rfl h1 (by decide) (by kernel_rfl) (by kernel_rfl) rfl ?_)<;>try conv=>whnf)
 all_goals first
  |exact B0 h0 rfl ⟨rfl,trivial⟩ trivial rfl rfl rfl
  |exact D9 (B2 h0)
end Go.Proofs.YtkcekccdcpmekaaGreatDoor
