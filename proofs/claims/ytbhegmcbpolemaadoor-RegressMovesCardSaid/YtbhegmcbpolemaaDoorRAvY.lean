/- Rows of bytes out of which a text was made, and that go on. -/
import Derived.Test.YtbhegmcbpolemaaDoorRAvH
import Derived.Test.YtbhegmcbpolemaaDoorRE3
import Derived.Lib.Builder
import Derived.Lib.UnsafeStr
import Derived.Lib.SliceRun
set_option linter.unusedSimpArgs false
set_option linter.unusedVariables false
set_option linter.unnecessarySimpa false
namespace Go.Av
open Go Go.RowKit
section rules
variable {P:Program} {E:Env} {n:Nat} {ops:Array Oper} {rest:List Oper} {σ:St} {K:St → Prop} {d:Nat} {ty:TypeId} {pos:String} {after:Array Edge} {x y:Operand} {L:List AV}
theorem Qc {e:Nat} (he:e < C6):R4 (P8 + e) = false ∧ P8 + e < C4 ∧ L2 (P8 + e) = false:=by
 unfold C6 at he
 have h1:Nat.blt (P8 + e) P8 = false:=by
  cases hb:Nat.blt (P8 + e) P8 with
  | false=>rfl
  | true=>have:=Nat.blt_eq ▸ hb;omega
 refine ⟨by unfold R4;rw [h1,Db (by unfold P8 C4;omega)];rfl,by unfold P8 C4;omega,?_⟩
 unfold L2
 rw [h1,Db (a:=r8) (by unfold P8 r8;omega),Bool.and_false,Bool.or_false]
theorem G4.fz {w:World} {g e:Nat} {cur:Array Value} (h:G4 w g cur (P8 + e)) (he:e < C6):∃ fz,w.heap[g]? = Option.some (.cells cur e fz):=by
 obtain ⟨h1,h2,_⟩:=Qc he
 rcases h with ⟨h,_⟩ | ⟨_,h,_⟩ | ⟨_,h,_⟩ | ⟨_,fz,h⟩
 ·unfold P8 H0 at h;omega
 ·unfold P8 H0 at h;omega
 ·rw [h1] at h;cases h
 ·exact ⟨fz,by rw [Nat.add_sub_cancel_left] at h;exact h⟩
theorem G4.mine {w:World} {g e F:Nat} {cur:Array Value} (h:G4 w g cur (F + e)) (he:e < C6) (hF:F = 0 ∨ F = P8):∃ fz,w.heap[g]? = Option.some (.cells cur e fz) ∧ (F = 0 → fz = (0,0)):=by
 rcases hF with rfl | rfl
 ·rw [Nat.zero_add] at h
  rcases h with ⟨_,h⟩ | ⟨h,_⟩ | ⟨h,_⟩ | ⟨h,_⟩
  ·exact ⟨_,h,fun _=>rfl⟩
  ·omega
  ·unfold C6 at he;unfold H0 at h;omega
  ·rw [DD (X4 he)] at h;cases h
 ·obtain ⟨fz,h⟩:=h.fz he
  exact ⟨fz,h,fun h=>by unfold P8 at h;omega⟩
end rules
end Go.Av
namespace Go.Av
open Go Go.RowKit
section rules
variable {P:Program} {E:Env} {n:Nat} {ops:Array Oper} {rest:List Oper} {σ:St} {K:St → Prop} {d:Nat} {ty:TypeId} {pos:String} {after:Array Edge} {x y:Operand}
theorem Ch {T e:Nat} (hU:P.underlying T = some (.slice e)) (m:Nat) (p:Option Addr) (l c:Nat) (w:World):(Op.equalIn (m + 1) T (.slice p l c) (.slice none 0 0)).run P w = .ok p.isNone w:=by
 rw [Op.equalIn]
 simp only [Sem.run_bind,run_underlying hU,Result.andThen_ok]
 cases p <;> rfl
theorem AF {T e:Nat} (hU:P.underlying T = some (.slice e)) (p:Option Addr) (l c:Nat) (w:World):(Op.equal T (.slice p l c) (.slice none 0 0)).run P w = .ok p.isNone w:=Ch hU 9999 p l c w
theorem KP {T T2 e s0 sz:Nat} [ts:J7 P T e s0] {l:List (List AV)} (hx:D3 σ x = some (.sl sz l)) (hy:D3 σ y = some (.v (.slice none 0 0))) (hd:Nat.blt d n = true) (k:∀ b:Bool,(b = true → l = []) → B3 P E n ops rest (σ.put d (.v (.bool b))) K) :
  B3 P E n ops (⟨some d, .binOp .eql T x y T2,ty,pos,after,none⟩ :: rest) σ K:=by
 intro a w ⟨θ,hs⟩
 have hU:=ts.out.1
 have hyv:=(hs.ev hy).val
 unfold wpList
 rw [if_pos (by simp [Region.wanted])]
 left
 obtain ⟨b,hbl,hr⟩:∃ b:Bool,(b = true → l = []) ∧ (execOp a.eval ⟨some d, .binOp .eql T x y T2,ty,pos,after,none⟩).run P w = .ok (.value (.bool b)) w:=by
  rcases s6 (hs.ev hx) with ⟨h1,h2⟩ | ⟨p,cap,f,h1,_⟩
  ·refine ⟨true,fun _=>h2,G6 ?_ ?_⟩
   ·rw [h1,hyv];simp [eqGuard,Sem.run_pure]
   ·rw [h1,hyv];simp [binOp,AF hU,Sem.run_bind,Sem.run_pure]
  ·refine ⟨false,fun h=>absurd h (by decide),G6 ?_ ?_⟩
   ·rw [h1,hyv];simp [eqGuard,Sem.run_pure]
   ·rw [h1,hyv];simp [binOp,AF hU,Sem.run_bind,Sem.run_pure]
 unfold Oper.wp
 rw [hr]
 exact k b hbl _ _ ⟨θ,hs.put (Nat.blt_eq ▸ hd) (.im (.v _))⟩
end rules
end Go.Av
