/- Rows of bytes out of which a text was made, and that go on. -/
import Derived.Test.YtbhegmcbpolemaaDoorTAvH
import Derived.Test.YtbhegmcbpolemaaDoorTE3
import Derived.Lib.Builder
import Derived.Lib.UnsafeStr
import Derived.Lib.SliceRun
import Derived.Test.YtbhegmcbpolemaaDoorTAvTy
set_option linter.unusedSimpArgs false
set_option linter.unusedVariables false
set_option linter.unnecessarySimpa false
namespace Go.Av
open Go Go.RowKit
section rules
variable {P:Program} {E:Env} {n:Nat} {ops:Array Oper} {rest:List Oper} {σ:St} {K:St → Prop} {d:Nat} {ty:TypeId} {pos:String} {after:Array Edge} {x y:Operand} {L:List AV}
theorem QF {e:Nat} (he:e < C4):R6 (Q0 + e) = false ∧ Q0 + e < C6 ∧ L4 (Q0 + e) = false:=by
 unfold C4 at he
 have h1:Nat.blt (Q0 + e) Q0 = false:=by
  cases hb:Nat.blt (Q0 + e) Q0 with
  | false=>rfl
  | true=>have:=Nat.blt_eq ▸ hb;omega
 refine ⟨by unfold R6;rw [h1,DY (by unfold Q0 C6;omega)];rfl,by unfold Q0 C6;omega,?_⟩
 unfold L4
 rw [h1,DY (a:=p7) (by unfold Q0 p7;omega),Bool.and_false,Bool.or_false]
theorem G6.fz {w:World} {g e:Nat} {cur:Array Value} (h:G6 w g cur (Q0 + e)) (he:e < C4):∃ fz,w.heap[g]? = Option.some (.cells cur e fz):=by
 obtain ⟨h1,h2,_⟩:=QF he
 rcases h with ⟨h,_⟩ | ⟨_,h,_⟩ | ⟨_,h,_⟩ | ⟨_,fz,h⟩
 ·unfold Q0 G2 at h;omega
 ·unfold Q0 G2 at h;omega
 ·rw [h1] at h;cases h
 ·exact ⟨fz,by rw [Nat.add_sub_cancel_left] at h;exact h⟩
theorem G6.mine {w:World} {g e F:Nat} {cur:Array Value} (h:G6 w g cur (F + e)) (he:e < C4) (hF:F = 0 ∨ F = Q0):∃ fz,w.heap[g]? = Option.some (.cells cur e fz) ∧ (F = 0 → fz = (0,0)):=by
 rcases hF with rfl | rfl
 ·rw [Nat.zero_add] at h
  rcases h with ⟨_,h⟩ | ⟨h,_⟩ | ⟨h,_⟩ | ⟨h,_⟩
  ·exact ⟨_,h,fun _=>rfl⟩
  ·omega
  ·unfold C4 at he;unfold G2 at h;omega
  ·rw [DC (X1 he)] at h;cases h
 ·obtain ⟨fz,h⟩:=h.fz he
  exact ⟨fz,h,fun h=>by unfold Q0 at h;omega⟩
end rules
end Go.Av
namespace Go.Av
open Go Go.RowKit
section rules
variable {P:Program} {E:Env} {n:Nat} {ops:Array Oper} {rest:List Oper} {σ:St} {K:St → Prop} {d:Nat} {ty:TypeId} {pos:String} {after:Array Edge} {x y:Operand}
theorem Cb {T e:Nat} (hU:P.underlying T = some (.slice e)) (m:Nat) (p:Option Addr) (l c:Nat) (w:World):(Op.equalIn (m + 1) T (.slice p l c) (.slice none 0 0)).run P w = .ok p.isNone w:=by
 rw [Op.equalIn]
 simp only [Sem.run_bind,run_underlying hU,Result.andThen_ok]
 cases p <;> rfl
theorem Y6 {T e:Nat} (hU:P.underlying T = some (.slice e)) (p:Option Addr) (l c:Nat) (w:World):(Op.equal T (.slice p l c) (.slice none 0 0)).run P w = .ok p.isNone w:=Cb hU 9999 p l c w
theorem BL {T T2 e s0 sz:Nat} [ts:I6 P T e s0] {l:List (List AV)} (hx:D8 σ x = some (.sl sz l)) (hy:D8 σ y = some (.v (.slice none 0 0))) (hd:Nat.blt d n = true) (k:∀ b:Bool,(b = true → l = []) → B6 P E n ops rest (σ.put d (.v (.bool b))) K) :
  B6 P E n ops (⟨some d, .binOp .eql T x y T2,ty,pos,after,none⟩ :: rest) σ K:=by
 intro a w ⟨θ,hs⟩
 have hU:=ts.out.1
 have hyv:=(hs.ev hy).val
 unfold wpList
 rw [if_pos (by simp [Region.wanted])]
 left
 obtain ⟨b,hbl,hr⟩:∃ b:Bool,(b = true → l = []) ∧ (execOp a.eval ⟨some d, .binOp .eql T x y T2,ty,pos,after,none⟩).run P w = .ok (.value (.bool b)) w:=by
  rcases p9 (hs.ev hx) with ⟨h1,h2⟩ | ⟨p,cap,f,h1,_⟩
  ·refine ⟨true,fun _=>h2,G1 ?_ ?_⟩
   ·rw [h1,hyv];simp [eqGuard,Sem.run_pure]
   ·rw [h1,hyv];simp [binOp,Y6 hU,Sem.run_bind,Sem.run_pure]
  ·refine ⟨false,fun h=>absurd h (by decide),G1 ?_ ?_⟩
   ·rw [h1,hyv];simp [eqGuard,Sem.run_pure]
   ·rw [h1,hyv];simp [binOp,Y6 hU,Sem.run_bind,Sem.run_pure]
 unfold Oper.wp
 rw [hr]
 exact k b hbl _ _ ⟨θ,hs.put (Nat.blt_eq ▸ hd) (.im (.v _))⟩
end rules
end Go.Av
namespace Go.Proofs.YtbhegmcbpolemaaDoor
open Go Go.Av
attribute [local irreducible] E4 B6 F1 E7 DQ F6 F9 St.le B5 D4
set_option maxRecDepth 100000
def LN:List AV → List AV → Prop
 | [],[]=>True
 | x :: r,y :: s=>NL x y ∧ LN r s
 | _,_=>False
theorem LN.get:∀ {l m:List AV},LN l m → l.length = m.length ∧ ∀ (j:Nat) x y,l[j]? = some x → m[j]? = some y → NL x y
 | [],[],_=>⟨rfl,fun j x y h=>by simp at h⟩
 | a :: r,b :: s,h=>by
   obtain ⟨h1,h2⟩:=LN.get h.2
   refine ⟨by simp [h1],fun j x y hx hy=>?_⟩
   cases j with
   | zero=>simp at hx hy;subst hx hy;exact h.1
   | succ j=>exact h2 j x y (by simpa using hx) (by simpa using hy)
 | [],_ :: _,h=>h.elim
 | _ :: _,[],h=>h.elim
theorem LO {l m:List AV} (h:LN l m):NL (.agg l) (.agg m):=.agg l m h.get.1 h.get.2
end Go.Proofs.YtbhegmcbpolemaaDoor
