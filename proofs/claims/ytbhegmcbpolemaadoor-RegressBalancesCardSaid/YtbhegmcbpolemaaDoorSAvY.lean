/- Rows of bytes out of which a text was made, and that go on. -/
import Derived.Test.YtbhegmcbpolemaaDoorSAvH
import Derived.Test.YtbhegmcbpolemaaDoorSE3
import Derived.Lib.Builder
import Derived.Lib.UnsafeStr
import Derived.Lib.SliceRun
set_option linter.unusedSimpArgs false
set_option linter.unusedVariables false
set_option linter.unnecessarySimpa false
namespace Go.Av
open Go Go.RowKit
section rules
variable {P:Program} {E:Env} {n:Nat} {ops:Array Oper} {rest:List Oper} {σ:St} {K:St → Prop} {d:Nat} {ty:TypeId} {pos:String} {after:Array Edge} {x y:Operand} {L:List AV}
theorem Qo {e:Nat} (he:e < C4):R3 (P7 + e) = false ∧ P7 + e < C5 ∧ L1 (P7 + e) = false:=by
 unfold C4 at he
 have h1:Nat.blt (P7 + e) P7 = false:=by
  cases hb:Nat.blt (P7 + e) P7 with
  | false=>rfl
  | true=>have:=Nat.blt_eq ▸ hb;omega
 refine ⟨by unfold R3;rw [h1,Dn (by unfold P7 C5;omega)];rfl,by unfold P7 C5;omega,?_⟩
 unfold L1
 rw [h1,Dn (a:=u5) (by unfold P7 u5;omega),Bool.and_false,Bool.or_false]
theorem G6.fz {w:World} {g e:Nat} {cur:Array Value} (h:G6 w g cur (P7 + e)) (he:e < C4):∃ fz,w.heap[g]? = Option.some (.cells cur e fz):=by
 obtain ⟨h1,h2,_⟩:=Qo he
 rcases h with ⟨h,_⟩ | ⟨_,h,_⟩ | ⟨_,h,_⟩ | ⟨_,fz,h⟩
 ·unfold P7 G1 at h;omega
 ·unfold P7 G1 at h;omega
 ·rw [h1] at h;cases h
 ·exact ⟨fz,by rw [Nat.add_sub_cancel_left] at h;exact h⟩
theorem G6.mine {w:World} {g e F:Nat} {cur:Array Value} (h:G6 w g cur (F + e)) (he:e < C4) (hF:F = 0 ∨ F = P7):∃ fz,w.heap[g]? = Option.some (.cells cur e fz) ∧ (F = 0 → fz = (0,0)):=by
 rcases hF with rfl | rfl
 ·rw [Nat.zero_add] at h
  rcases h with ⟨_,h⟩ | ⟨h,_⟩ | ⟨h,_⟩ | ⟨h,_⟩
  ·exact ⟨_,h,fun _=>rfl⟩
  ·omega
  ·unfold C4 at he;unfold G1 at h;omega
  ·rw [Ar (R8 he)] at h;cases h
 ·obtain ⟨fz,h⟩:=h.fz he
  exact ⟨fz,h,fun h=>by unfold P7 at h;omega⟩
end rules
end Go.Av
namespace Go.Av
open Go Go.RowKit
section rules
variable {P:Program} {E:Env} {n:Nat} {ops:Array Oper} {rest:List Oper} {σ:St} {K:St → Prop} {d:Nat} {ty:TypeId} {pos:String} {after:Array Edge} {x y:Operand}
theorem Cs {T e:Nat} (hU:P.underlying T = some (.slice e)) (m:Nat) (p:Option Addr) (l c:Nat) (w:World):(Op.equalIn (m + 1) T (.slice p l c) (.slice none 0 0)).run P w = .ok p.isNone w:=by
 rw [Op.equalIn]
 simp only [Sem.run_bind,run_underlying hU,Result.andThen_ok]
 cases p <;> rfl
theorem AO {T e:Nat} (hU:P.underlying T = some (.slice e)) (p:Option Addr) (l c:Nat) (w:World):(Op.equal T (.slice p l c) (.slice none 0 0)).run P w = .ok p.isNone w:=Cs hU 9999 p l c w
theorem KM {T T2 e s0 sz:Nat} [ts:J2 P T e s0] {l:List (List AV)} (hx:D4 σ x = some (.sl sz l)) (hy:D4 σ y = some (.v (.slice none 0 0))) (hd:Nat.blt d n = true) (k:∀ b:Bool,(b = true → l = []) → B5 P E n ops rest (σ.put d (.v (.bool b))) K) :
  B5 P E n ops (⟨some d, .binOp .eql T x y T2,ty,pos,after,none⟩ :: rest) σ K:=by
 intro a w ⟨θ,hs⟩
 have hU:=ts.out.1
 have hyv:=(hs.ev hy).val
 unfold wpList
 rw [if_pos (by simp [Region.wanted])]
 left
 obtain ⟨b,hbl,hr⟩:∃ b:Bool,(b = true → l = []) ∧ (execOp a.eval ⟨some d, .binOp .eql T x y T2,ty,pos,after,none⟩).run P w = .ok (.value (.bool b)) w:=by
  rcases u7 (hs.ev hx) with ⟨h1,h2⟩ | ⟨p,cap,f,h1,_⟩
  ·refine ⟨true,fun _=>h2,G7 ?_ ?_⟩
   ·rw [h1,hyv];simp [eqGuard,Sem.run_pure]
   ·rw [h1,hyv];simp [binOp,AO hU,Sem.run_bind,Sem.run_pure]
  ·refine ⟨false,fun h=>absurd h (by decide),G7 ?_ ?_⟩
   ·rw [h1,hyv];simp [eqGuard,Sem.run_pure]
   ·rw [h1,hyv];simp [binOp,AO hU,Sem.run_bind,Sem.run_pure]
 unfold Oper.wp
 rw [hr]
 exact k b hbl _ _ ⟨θ,hs.put (Nat.blt_eq ▸ hd) (.im (.v _))⟩
end rules
end Go.Av
