/- Code lists that came in. -/
import Derived.Test.YtmiaihoallkjfaaDoorCo2
import Derived.Test.YtmiaihoallkjfaaDoorAvL
namespace Go.Proofs.YtmiaihoallkjfaaDoor
open Go Go.Av
set_option linter.unusedVariables false
set_option linter.unnecessarySimpa false
set_option linter.unusedSimpArgs false
set_option maxRecDepth 100000

def okI (n : Int) : Prop := -9223372036854775808 ≤ n ∧ n ≤ 9223372036854775807
theorem sh_i {f : Nat} {l : List AV} (h : Sh Tryd.prog f 3 l) : ∃ n, okI n ∧ l = [.i n] := by
  obtain ⟨n, h1, h2⟩ := sh_int Tryd.underlying3 h
  exact ⟨n, wf_i64 h1, h2⟩
theorem sh_s {f : Nat} {l : List AV} (h : Sh Tryd.prog f 9 l) : ∃ s : List UInt8, s.length ≤ maxLen ∧ l = [.str s] := sh_str Tryd.underlying9 h
theorem sh_code {f : Nat} {l : List AV} (h : Sh Tryd.prog f 30 l) : ∃ c : Code, okI c.parent ∧ l = cA c := by
  obtain ⟨f', h, _⟩ := sh_struct (ts := [9, 3]) Tryd.underlying30 (by kernel_rfl) h
  obtain ⟨a, b, ha, ⟨c, d, hc, hd, rfl⟩, rfl⟩ := h
  obtain ⟨s, _, rfl⟩ := sh_s ha
  obtain ⟨n, hn, rfl⟩ := sh_i hc
  cases hd
  exact ⟨⟨s, n⟩, hn, rfl⟩
theorem sh_list {f : Nat} {l : List AV} (h : Sh Tryd.prog f 25 l) : ∃ (nm : List UInt8) (cs : List Code), cs.length ≤ maxLen ∧ (∀ c ∈ cs, okI c.parent) ∧ l = [.str nm, .sl 2 (cs.map cA)] := by
  obtain ⟨f', h, _⟩ := sh_struct (ts := [9, 23]) Tryd.underlying25 (by kernel_rfl) h
  obtain ⟨a, b, ha, ⟨c, d, hc, hd, rfl⟩, rfl⟩ := h
  obtain ⟨s, _, rfl⟩ := sh_s ha
  obtain ⟨f2, ls, hl, hall, rfl, _⟩ := sh_slice (c := 2) Tryd.underlying23 (by kernel_rfl) hc
  cases hd
  obtain ⟨cs, rfl, hcs⟩ := all_form (F := cA) (R := fun c => okI c.parent) (fun x hx => sh_code (hall x hx))
  exact ⟨s, cs, by rw [List.length_map] at hl; exact hl, hcs, rfl⟩
theorem ash_list {a : AV} (h : AShape Tryd.prog 25 a) : ∃ (nm : List UInt8) (cs : List Code), cs.length ≤ maxLen ∧ (∀ c ∈ cs, okI c.parent) ∧ a = lA nm cs := by
  obtain ⟨f, l, rfl, hs⟩ := ash_agg (by kernel_rfl) h
  obtain ⟨nm, cs, h1, h2, rfl⟩ := sh_list hs
  exact ⟨nm, cs, h1, h2, rfl⟩
theorem ash_by {a : AV} (h : AShape Tryd.prog 22 a) : ∃ l : List UInt8, l.length ≤ maxLen ∧ a = .sl 1 (l.map u8A) := ash_bytes Tryd.underlying22 Tryd.underlying5 (by kernel_rfl) h
theorem ash_i {a : AV} (h : AShape Tryd.prog 3 a) : ∃ n, okI n ∧ a = .i n := ash_i64 Tryd.underlying3 h
theorem ash_s {a : AV} (h : AShape Tryd.prog 9 a) : ∃ s : List UInt8, s.length ≤ maxLen ∧ a = .str s := ash_str Tryd.underlying9 h
end Go.Proofs.YtmiaihoallkjfaaDoor
