/- strings.Builder's check: what the kit laid, as contracts of the walk. -/
import Derived.Test.YthkklceofokkmaaGreatDoorBAvTy
import Derived.Test.YthkklceofokkmaaGreatDoorBSh
import Derived.Test.YthkklceofokkmaaGreatDoorBAvB
set_option linter.unusedVariables false
set_option linter.unnecessarySimpa false
set_option linter.unusedSimpArgs false
namespace Go.Proofs.YthkklceofokkmaaGreatDoor
open Go Go.Av Go.RowKit Go.Shelf
set_option maxRecDepth 100000
abbrev bB:Nat:=87 + 1
abbrev eB:Nat:=5
abbrev QL:H4:=.bx bB [.v (.pointer none), .v (.slice none 0 0)]
abbrev ID (ver len:Nat):H4:=.bx bB [.ref 0 0, .row 1 ver len]
theorem KC.of {P:Program} {T:Nat} (h:(P.info? T).bind (·.zero) = some (.int .u8 0)):KC P T:=by
 cases hi:P.info? T with
 | none=>simp [hi] at h
 | some i=>simp [hi] at h;exact ⟨i,hi,h⟩
instance:KC Tryz.prog 5:=KC.of (by kernel_rfl)
theorem Zn:Lays.n240 Tryz.prog Tryz.lays156_ren :=
 have L:=Tryz.lays156
 { mixed:=L.mixed,f240:=L.f240,f276:=L.f276,t0:=L.t0,a0:=L.a0,z0:=L.z0,v0:=L.v0,t4:=L.t4,a4:=L.a4,z4:=L.z4,v4:=L.v4,t9:=L.t9,a9:=L.a9,z9:=L.z9,v9:=L.v9,t20:=L.t20,a20:=L.a20,z20:=L.z20,v20:=L.v20,t70:=L.t70,a70:=L.a70,z70:=L.z70,v70:=L.v70,t72:=L.t72,a72:=L.a72,z72:=L.z72,v72:=L.v72,t164:=L.t164,a164:=L.a164,z164:=L.z164,v164:=L.v164 }
theorem bR (t s:List UInt8):O5 (t ++ s) = O5 t ++ O5 s:=List.map_append
theorem LQ {i:Nat} {x b:H4} (h:B4 [(0,some x)] i = some b):i = 0 ∧ b = x:=by
 rw [I6] at h
 split at h
 ·rename_i e;cases h;exact ⟨e.symm,rfl⟩
 ·cases h
theorem YX:B5 Tryz.prog 86 1 [(0,some QL)] [.ref 0 0] 1 [(0,some (.bx bB [.ref 0 0, .v (.slice none 0 0)]))] (.tup []):=by
 refine ⟨⟨Tryz.f86,Tryz.func86,by kernel_rfl,by kernel_rfl⟩,fun X θ w vs hX htb hB hl hv=>?_⟩
 match vs,hl with
 | [v],_ =>
   obtain ⟨b,hθ,rfl,_⟩:=R8 (hv 0 _ v rfl rfl)
   obtain ⟨_,b',arr,⟨t,ht⟩,hθ',hh,hsz,hr⟩:=hB.owns 0 _ rfl
   have hbb:b' = b:=by
    have h1:θ 0 = .pointer (some ⟨b',0,none⟩):=hθ'
    have h2:θ 0 = .pointer (some ⟨b,0,none⟩):=hθ
    rw [h1] at h2;cases h2;rfl
   subst hbb
   have ht2:t = 87:=by unfold bB at ht;omega
   subst ht2
   have hs2:arr.size = 2:=hsz
   have h0:=(hr 0 _ arr[0] rfl (Array.getElem?_eq_getElem (by omega))).val
   have h1:=(hr 1 _ arr[1] rfl (Array.getElem?_eq_getElem (by omega))).val
   have harr:arr = #[.pointer none, .slice none 0 0]:=by
    apply Array.ext
    ·exact hs2
    ·intro i hi hi2
     match i,hi2 with
     | 0,_=>exact h0
     | 1,_=>exact h1
   subst harr
   have hlt:b' < w.heap.size:=(Array.getElem?_eq_some_iff.1 hh).1
   refine Calls.mono (Any.Builder_copyCheck_fresh Zn Tryz.Builder_Extra_156.toX72 b' w (by simp [World.cell?,hh]) (by simp [World.shape?,hh];rfl) (by simp [World.frozen?,hh])) ?_
   rintro e w' ⟨rfl,rfl⟩
   have hh2:(w.setCell ⟨b',0,none⟩ (.pointer (some ⟨b',0,none⟩))).heap[b']? = some (.cells #[.pointer (some ⟨b',0,none⟩), .slice none 0 0] 87 (0,0)):=by
    simp [World.setCell,Array.getElem?_modify,hh]
   have hk:∀ k,k ≠ b' → (w.setCell ⟨b',0,none⟩ (.pointer (some ⟨b',0,none⟩))).heap[k]? = w.heap[k]?:=fun k hk=>Below.heap_setCell _ _ _ _ (fun e=>hk e)
   have hθ0:θ 0 = .pointer (some ⟨b',0,none⟩):=hθ
   refine ⟨⟨_,θ,rfl, .tup [] [] rfl (fun j x y hx=>by cases hx),⟨fun i b hi=>?_,fun i j b1 b2 k hi hj _ _=>?_,fun i b k hi hk=>?_⟩,fun i b k hi hk=>?_,fun i _=>.inl rfl⟩,rfl,rfl,rfl,by simp [World.setCell],fun k hkl hno=>hk k fun e=>hno ⟨0,_,rfl,by rw [hθ0,e];rfl⟩⟩
   ·obtain ⟨rfl,rfl⟩:=LQ hi
    refine ⟨Nat.one_pos,b',_,⟨87, .inr rfl⟩,hθ,hh2,rfl,fun j x y hx hy=>?_⟩
    match j,hx,hy with
    | 0,hx,hy=>cases hx;cases hy;exact .ref 0 0 b' Nat.one_pos hθ
    | 1,hx,hy=>cases hx;cases hy;exact .im (.v _)
   ·rw [(LQ hi).1,(LQ hj).1]
   ·obtain ⟨rfl,_⟩:=LQ hi
    exact hB.fresh 0 _ k rfl hk
   ·obtain ⟨rfl,_⟩:=LQ hi
    exact .inl ⟨0,_,rfl,hk⟩
theorem bS (e len:Nat) (l:List (List AV)):B5 Tryz.prog 86 2 [(0,some (ID 0 len)),(1,some (.row e 1 0 l))] [.ref 0 0] 2 [(0,some (ID 0 len)),(1,some (.row e 1 0 l))] (.tup []):=by
 refine ⟨⟨Tryz.f86,Tryz.func86,by kernel_rfl,by kernel_rfl⟩,fun X θ w vs hX htb hB hl hv=>?_⟩
 match vs,hl with
 | [v],_ =>
   obtain ⟨b,hθ,rfl,_⟩:=R8 (hv 0 _ v rfl rfl)
   obtain ⟨_,b',arr,⟨t,ht⟩,hθ',hh,hsz,hr⟩:=hB.owns 0 _ rfl
   have hbb:b' = b:=by
    have h1:θ 0 = .pointer (some ⟨b',0,none⟩):=hθ'
    have h2:θ 0 = .pointer (some ⟨b,0,none⟩):=hθ
    rw [h1] at h2;cases h2;rfl
   subst hbb
   have hs2:arr.size = 2:=hsz
   obtain ⟨b2,hθ2,h0,_⟩:=R8 (hr 0 _ arr[0] rfl (Array.getElem?_eq_getElem (by omega)))
   have hbb:b2 = b':=by
    have h1:θ 0 = .pointer (some ⟨b',0,none⟩):=hθ'
    have h2:θ 0 = .pointer (some ⟨b2,0,none⟩):=hθ2
    rw [h1] at h2;cases h2;rfl
   subst hbb
   refine Calls.mono (Any.Builder_copyCheck_used Zn Tryz.Builder_Extra_156.toX72 b2 w (by simp [World.cell?,hh,h0,Array.getElem?_eq_getElem (show 0 < arr.size by omega)])) ?_
   rintro e w' ⟨rfl,rfl⟩
   exact ⟨⟨_,θ,rfl, .tup [] [] rfl (fun j x y hx=>by cases hx),hB,fun i b k hi hk=>.inl ⟨i,b,hi,hk⟩,fun i _=>.inl rfl⟩,rfl,rfl,rfl,Nat.le_refl _,fun k _ _=>rfl⟩
end Go.Proofs.YthkklceofokkmaaGreatDoor
namespace Go.Proofs.YthkklceofokkmaaGreatDoor
open Go Go.Av
attribute [local irreducible] E5 B7 E6 E7 DQ E8 F0 St.le B3 B5
set_option maxRecDepth 100000
set_option maxHeartbeats 2000000 in
theorem Gq (s:List UInt8) (hs:s.length ≤ 140737488355328):B5 Tryz.prog 44 1 [(0,some QL)] [.ref 0 0, .str s] 2 [(0,some (ID 1 s.length)),(1,some (.row eB 1 1 (O5 s)))] (.tup [.i s.length, .v .nilIface]):=by
 refine G3 Tryz.func44 19 fun E h0=>?_
 repeat' ((first|refine A1 ?_|refine S1 ?_|refine Z1 ?_|refine Z2 ?_|(refine And.intro ?_ ?_<;>intro h<;>try first|(exfalso;omega)|exact absurd rfl h)|refine Z3 ?_|refine Z4 ?_|intro el hel hbB|intro el hel|intro ex|refine Z5 ?_|(refine A8 ?_ ?_;exact ⟨by kernel_rfl,by decide⟩)|refine A7 ?_ ?_|exact A6|refine A3 ?_ ?_|exact A2|(refine A0 ?_ ?_ ?_;kernel_rfl;kernel_rfl) | refine nc [0] [0] YX rfl rfl rfl ⟨rfl,trivial⟩ ?_) <;> (try (conv=>whnf)))
 all_goals first
  | exact D0 (rvs:=[.tmp 4, .tmp 5]) (vs:=[_,_]) trivial rfl rfl (A5 h0 rfl ⟨rfl,rfl,trivial⟩ ⟨congrArg (fun z=>H4.bx bB [.ref 0 0, .row 1 1 z]) (by simp),⟨_,rfl⟩,trivial⟩ rfl rfl rfl) rfl
set_option maxHeartbeats 2000000 in
theorem Fm (t s:List UInt8) (hs:t.length + s.length ≤ 140737488355328):B5 Tryz.prog 44 2 [(0,some (ID 0 t.length)),(1,some (.row eB 1 0 (O5 t)))] [.ref 0 0, .str s] 2 [(0,some (ID 1 (t ++ s).length)),(1,some (.row eB 1 1 (O5 (t ++ s))))] (.tup [.i s.length, .v .nilIface]):=by
 refine G3 Tryz.func44 19 fun E h0=>?_
 have h1:=bS eB t.length (O5 t)
 repeat' ((first|refine A1 ?_|refine S1 ?_|refine Z1 ?_|refine Z2 ?_|(refine And.intro ?_ ?_<;>intro h<;>try first|(exfalso;omega)|exact absurd rfl h)|refine Z3 ?_|refine Z4 ?_|intro el hel hbB|intro el hel|intro ex|refine Z5 ?_|(refine A8 ?_ ?_;exact ⟨by kernel_rfl,by decide⟩)|refine A7 ?_ ?_|exact A6|refine A3 ?_ ?_|exact A2|(refine A0 ?_ ?_ ?_;kernel_rfl;kernel_rfl) | refine nc [0,1] [0,0] h1 rfl rfl rfl ⟨rfl,rfl,trivial⟩ ?_) <;> (try (conv=>whnf)))
 all_goals first
  | exact D0 (rvs:=[.tmp 4, .tmp 5]) (vs:=[_,_]) trivial rfl rfl (A5 h0 rfl ⟨rfl,rfl,trivial⟩ ⟨congrArg (fun z=>H4.bx bB [.ref 0 0, .row 1 1 z]) (by simp),⟨_,by rw [bR]⟩,trivial⟩ rfl rfl rfl) rfl
theorem dh (e len:Nat) (l:List (List AV)):B5 Tryz.prog 47 2 [(0,some (ID 0 len)),(1,some (.row e 1 0 l))] [.ref 0 0] 2 [(0,some (ID 0 len)),(1,some (.row e 1 0 l))] (.i len):=by
 refine G3 Tryz.func47 8 fun E h0=>?_
 repeat' ((first|refine A1 ?_|refine S1 ?_|refine Z1 ?_|refine Z2 ?_|(refine And.intro ?_ ?_<;>intro h<;>try first|(exfalso;omega)|exact absurd rfl h)|refine Z3 ?_|refine Z4 ?_|intro el hel hbB|intro el hel|intro ex|refine Z5 ?_|(refine A8 ?_ ?_;exact ⟨by kernel_rfl,by decide⟩)|refine A7 ?_ ?_|exact A6|refine A3 ?_ ?_|exact A2|(refine A0 ?_ ?_ ?_;kernel_rfl;kernel_rfl)) <;> (try (conv=>whnf)))
 all_goals first
  | exact D4 (A5 h0 rfl ⟨rfl,trivial⟩ ⟨rfl,⟨_,rfl⟩,trivial⟩ rfl rfl rfl)
theorem IE (s:List UInt8) (h1:s ≠ []):B5 Tryz.prog 48 2 [(0,some (ID 0 s.length)),(1,some (.row eB 1 0 (O5 s)))] [.ref 0 0] 2 [(0,none),(1,none)] (.str s):=by
 have h2:O5 s ≠ []:=fun h=>h1 (List.map_eq_nil_iff.1 h)
 refine G3 Tryz.func48 14 fun E h0=>?_
 repeat' ((first | (refine E3 1 ?_;refine CB (id:=1) ⟨[(2, .str s)],2,[]⟩ ?_ ?_) |refine A1 ?_|refine S1 ?_|refine Z1 ?_|refine Z2 ?_|(refine And.intro ?_ ?_<;>intro h<;>try first|(exfalso;omega)|exact absurd rfl h)|refine Z3 ?_|refine Z4 ?_|intro el hel hbB|intro el hel|intro ex|refine Z5 ?_|(refine A8 ?_ ?_;exact ⟨by kernel_rfl,by decide⟩)|refine A7 ?_ ?_|exact A6|refine A3 ?_ ?_|exact A2|(refine A0 ?_ ?_ ?_;kernel_rfl;kernel_rfl) | refine Vz rfl rfl h2 rfl ?_ | refine YW rfl rfl rfl rfl h1 (by decide) (by kernel_rfl) (by kernel_rfl) rfl ?_) <;> (try (conv=>whnf)))
 all_goals first
  | exact A5 h0 rfl ⟨rfl,trivial⟩ trivial rfl rfl rfl
  | exact D4 (A5 h0 rfl ⟨rfl,trivial⟩ trivial rfl rfl rfl)
end Go.Proofs.YthkklceofokkmaaGreatDoor
