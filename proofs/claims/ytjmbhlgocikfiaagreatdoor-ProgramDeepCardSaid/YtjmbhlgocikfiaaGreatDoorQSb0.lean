/- strings.Builder's check: what the kit laid, as contracts of the walk. -/
import Derived.Test.YtjmbhlgocikfiaaGreatDoorQAvTy
import Derived.Test.YtjmbhlgocikfiaaGreatDoorQSh
import Derived.Test.YtjmbhlgocikfiaaGreatDoorQAvB
namespace Go.Proofs.YtjmbhlgocikfiaaGreatDoor
open Go Go.Av Go.RowKit Go.Shelf
set_option linter.unusedVariables false
set_option maxRecDepth 100000
abbrev bB : Nat := 83 + 1
abbrev eB : Nat := 5
abbrev bld0 : Blk := .bx bB [.v (.pointer none), .v (.slice none 0 0)]
abbrev bld1 (ver len : Nat) : Blk := .bx bB [.ref 0 0, .row 1 ver len]
theorem TU8.of {P : Program} {T : Nat} (h : (P.info? T).bind (·.zero) = some (.int .u8 0)) : TU8 P T := by
  cases hi : P.info? T with
  | none => simp [hi] at h
  | some i => simp [hi] at h; exact ⟨i, hi, h⟩
instance : TU8 Tryz.prog 5 := TU8.of (by kernel_rfl)
theorem cc240 : Lays.n240 Tryz.prog Tryz.lays156_ren :=
  have L := Tryz.lays156
  { mixed := L.mixed, f240 := L.f240, f276 := L.f276, t0 := L.t0, a0 := L.a0, z0 := L.z0, v0 := L.v0, t4 := L.t4, a4 := L.a4, z4 := L.z4, v4 := L.v4, t9 := L.t9, a9 := L.a9, z9 := L.z9, v9 := L.v9, t20 := L.t20, a20 := L.a20, z20 := L.z20, v20 := L.v20, t70 := L.t70, a70 := L.a70, z70 := L.z70, v70 := L.v70, t72 := L.t72, a72 := L.a72, z72 := L.z72, v72 := L.v72, t164 := L.t164, a164 := L.a164, z164 := L.z164, v164 := L.v164 }
theorem byt_app (t s : List UInt8) : byt (t ++ s) = byt t ++ byt s := List.map_append
theorem look1 {i : Nat} {x b : Blk} (h : lookB [(0, some x)] i = some b) : i = 0 ∧ b = x := by
  rw [lookB_cons] at h
  split at h
  · rename_i e; cases h; exact ⟨e.symm, rfl⟩
  · cases h
theorem cc_fresh : GCall Tryz.prog 70 1 [(0, some bld0)] [.ref 0 0] 1 [(0, some (.bx bB [.ref 0 0, .v (.slice none 0 0)]))] (.tup []) := by
  refine ⟨⟨Tryz.f70, Tryz.func70, by kernel_rfl, by kernel_rfl⟩, fun X θ w vs hX htb hB hl hv => ?_⟩
  match vs, hl with
  | [v], _ =>
    obtain ⟨b, hθ, rfl, _⟩ := ref_inv (hv 0 _ v rfl rfl)
    obtain ⟨_, b', arr, ⟨t, ht⟩, hθ', hh, hsz, hr⟩ := hB.owns 0 _ rfl
    have hbb : b' = b := by
      have h1 : θ 0 = .pointer (some ⟨b', 0, none⟩) := hθ'
      have h2 : θ 0 = .pointer (some ⟨b, 0, none⟩) := hθ
      rw [h1] at h2; cases h2; rfl
    subst hbb
    have ht2 : t = 83 := by unfold bB at ht; omega
    subst ht2
    have hs2 : arr.size = 2 := hsz
    have h0 := (hr 0 _ arr[0] rfl (Array.getElem?_eq_getElem (by omega))).val
    have h1 := (hr 1 _ arr[1] rfl (Array.getElem?_eq_getElem (by omega))).val
    have harr : arr = #[.pointer none, .slice none 0 0] := by
      apply Array.ext
      · exact hs2
      · intro i hi hi2
        match i, hi2 with
        | 0, _ => exact h0
        | 1, _ => exact h1
    subst harr
    have hlt : b' < w.heap.size := (Array.getElem?_eq_some_iff.1 hh).1
    refine Calls.mono (Any.Builder_copyCheck_fresh cc240 Tryz.Builder_Extra_156.toX72 b' w (by simp [World.cell?, hh]) (by simp [World.shape?, hh]; rfl) (by simp [World.frozen?, hh])) ?_
    rintro e w' ⟨rfl, rfl⟩
    have hh2 : (w.setCell ⟨b', 0, none⟩ (.pointer (some ⟨b', 0, none⟩))).heap[b']? = some (.cells #[.pointer (some ⟨b', 0, none⟩), .slice none 0 0] 83 (0, 0)) := by
      simp [World.setCell, Array.getElem?_modify, hh]
    have hk : ∀ k, k ≠ b' → (w.setCell ⟨b', 0, none⟩ (.pointer (some ⟨b', 0, none⟩))).heap[k]? = w.heap[k]? := fun k hk => Below.heap_setCell _ _ _ _ (fun e => hk e)
    have hθ0 : θ 0 = .pointer (some ⟨b', 0, none⟩) := hθ
    refine ⟨⟨_, θ, rfl, .tup [] [] rfl (fun j x y hx => by cases hx), ⟨fun i b hi => ?_, fun i j b1 b2 k hi hj _ _ => ?_, fun i b k hi hk => ?_⟩, fun i b k hi hk => ?_, fun i _ => .inl rfl⟩, rfl, rfl, rfl, by simp [World.setCell], fun k hkl hno => hk k fun e => hno ⟨0, _, rfl, by rw [hθ0, e]; rfl⟩⟩
    · obtain ⟨rfl, rfl⟩ := look1 hi
      refine ⟨Nat.one_pos, b', _, ⟨83, .inr rfl⟩, hθ, hh2, rfl, fun j x y hx hy => ?_⟩
      match j, hx, hy with
      | 0, hx, hy => cases hx; cases hy; exact .ref 0 0 b' Nat.one_pos hθ
      | 1, hx, hy => cases hx; cases hy; exact .im (.v _)
    · rw [(look1 hi).1, (look1 hj).1]
    · obtain ⟨rfl, _⟩ := look1 hi
      exact hB.fresh 0 _ k rfl hk
    · obtain ⟨rfl, _⟩ := look1 hi
      exact .inl ⟨0, _, rfl, hk⟩
theorem cc_used (e len : Nat) (l : List (List AV)) : GCall Tryz.prog 70 2 [(0, some (bld1 0 len)), (1, some (.row e 1 0 l))] [.ref 0 0] 2 [(0, some (bld1 0 len)), (1, some (.row e 1 0 l))] (.tup []) := by
  refine ⟨⟨Tryz.f70, Tryz.func70, by kernel_rfl, by kernel_rfl⟩, fun X θ w vs hX htb hB hl hv => ?_⟩
  match vs, hl with
  | [v], _ =>
    obtain ⟨b, hθ, rfl, _⟩ := ref_inv (hv 0 _ v rfl rfl)
    obtain ⟨_, b', arr, ⟨t, ht⟩, hθ', hh, hsz, hr⟩ := hB.owns 0 _ rfl
    have hbb : b' = b := by
      have h1 : θ 0 = .pointer (some ⟨b', 0, none⟩) := hθ'
      have h2 : θ 0 = .pointer (some ⟨b, 0, none⟩) := hθ
      rw [h1] at h2; cases h2; rfl
    subst hbb
    have hs2 : arr.size = 2 := hsz
    obtain ⟨b2, hθ2, h0, _⟩ := ref_inv (hr 0 _ arr[0] rfl (Array.getElem?_eq_getElem (by omega)))
    have hbb : b2 = b' := by
      have h1 : θ 0 = .pointer (some ⟨b', 0, none⟩) := hθ'
      have h2 : θ 0 = .pointer (some ⟨b2, 0, none⟩) := hθ2
      rw [h1] at h2; cases h2; rfl
    subst hbb
    refine Calls.mono (Any.Builder_copyCheck_used cc240 Tryz.Builder_Extra_156.toX72 b2 w (by simp [World.cell?, hh, h0, Array.getElem?_eq_getElem (show 0 < arr.size by omega)])) ?_
    rintro e w' ⟨rfl, rfl⟩
    exact ⟨⟨_, θ, rfl, .tup [] [] rfl (fun j x y hx => by cases hx), hB, fun i b k hi hk => .inl ⟨i, b, hi, hk⟩, fun i _ => .inl rfl⟩, rfl, rfl, rfl, Nat.le_refl _, fun k _ _ => rfl⟩
theorem no_one {i : Nat} {b : Blk} (h : lookB [(0, none)] i = some b) : False := by
  rw [lookB_cons] at h
  split at h
  · cases h
  · cases h
theorem bl_str0 : GCall Tryz.prog 37 1 [(0, some bld0)] [.ref 0 0] 1 [(0, none)] (.str []) := by
  refine ⟨⟨Tryz.f37, Tryz.func37, by kernel_rfl, by kernel_rfl⟩, fun X θ w vs hX htb hB hl hv => ?_⟩
  match vs, hl with
  | [v], _ =>
    obtain ⟨b, hθ, rfl, _⟩ := ref_inv (hv 0 _ v rfl rfl)
    obtain ⟨_, b', arr, ⟨t, ht⟩, hθ', hh, hsz, hr⟩ := hB.owns 0 _ rfl
    have hbb : b' = b := by
      have h1 : θ 0 = .pointer (some ⟨b', 0, none⟩) := hθ'
      have h2 : θ 0 = .pointer (some ⟨b, 0, none⟩) := hθ
      rw [h1] at h2; cases h2; rfl
    subst hbb
    have ht2 : t = 83 := by unfold bB at ht; omega
    subst ht2
    have hs2 : arr.size = 2 := hsz
    have h0 := (hr 0 _ arr[0] rfl (Array.getElem?_eq_getElem (by omega))).val
    have h1 := (hr 1 _ arr[1] rfl (Array.getElem?_eq_getElem (by omega))).val
    have harr : arr = #[.pointer none, .slice none 0 0] := by
      apply Array.ext
      · exact hs2
      · intro i hi hi2
        match i, hi2 with
        | 0, _ => exact h0
        | 1, _ => exact h1
    subst harr
    refine Calls.mono (Any.Builder_String_nil Tryz.lays169 Tryz.Builder_Extra_169 w.heap.size b' (.pointer none) w hh) ?_
    rintro e w' ⟨rfl, hb⟩
    refine ⟨⟨_, θ, rfl, .im (.str []), ⟨fun i b hi => (no_one hi).elim, fun i j b1 b2 k hi => (no_one hi).elim, fun i b k hi => (no_one hi).elim⟩, fun i b k hi => (no_one hi).elim, fun i _ => .inl rfl⟩, hb.os, hb.tape, hb.output, hb.size, fun k hk _ => hb.block k hk⟩
end Go.Proofs.YtjmbhlgocikfiaaGreatDoor
