/- Builders of strings: boxes of a type of their own, and what is unsafe in them. -/
import Derived.Test.YtiphlhoclaogjabGreatDoorQE3
import Derived.Lib.Builder
import Derived.Lib.UnsafeStr
import Derived.Test.YtiphlhoclaogjabGreatDoorQAvTy
import Derived.Test.YtiphlhoclaogjabGreatDoorQSh
set_option linter.unusedVariables false
set_option linter.unusedSimpArgs false
set_option linter.unnecessarySimpa false
namespace Go.Av
open Go Go.RowKit
section
variable {P:Program} {E:Env} {n:Nat} {ops:Array Oper} {rest:List Oper} {σ:St} {K:St → Prop} {d:Nat} {ty:TypeId} {pos:String} {after:Array Edge} {x y:Operand} {L:List AV}
theorem GF {T:TypeId} {l:List Value} [tz:I1 P T l] (hd:Nat.blt d n = true)
  (k:B8 P E n ops rest ((σ.new (.bx (T + 1) (l.map R4))).put d (.ref σ.nx 0)) K):B8 P E n ops (⟨some d, .alloc T,ty,pos,after,none⟩ :: rest) σ K :=
 f5 hd (fun θ a w h=>by
  obtain ⟨i,z,h1,h2,h3⟩:=tz.out
  refine ⟨.pointer (some ⟨w.heap.size,0,none⟩), .pointer (some ⟨w.heap.size,0,none⟩),w.alloc (.cells l.toArray T),by simp [execOp,Instr.alloc,newVar,Sem.run_bind,V1 h1 h2,h3,DH],R0 _ _,Ko,fun le=>?_⟩
  refine ⟨⟨w.heap.size,l.toArray,⟨T, .inr rfl⟩,by simp [cx,D4],heap_alloc_new w _,by simp,fun j u z hu hz=>?_⟩, .ref _ _ _ (by simp [cx,St.new]) (by simp [cx,D4])⟩
  simp at hu hz
  obtain ⟨v,hv,rfl⟩:=hu
  rw [hz] at hv
  cases hv
  exact .im (BV _)) k
theorem Ew {i ver len e:Nat} {T:Nat} {l:List (List AV)} (hx:F1 σ x = some (.row i ver len)) (hb:B3 σ.hp i = some (.row e 1 ver l)) (h0:l ≠ []) (hd:Nat.blt d n = true)
  (k:B8 P E n ops rest (σ.put d (.elt i ver 0 0)) K):U1 P E n ops ⟨some d, .call ⟨.builtin .unsafeSliceData,⟨[x]⟩,⟨[T]⟩⟩,ty,pos,after,none⟩ rest L σ K :=
 ⟨Ch (E2 fun _ _ _ θ a w h=>by
  obtain ⟨hl,hv,hnx⟩:=T8 (h.rel hx) hb
  obtain ⟨xs,hown,_⟩:=h.row hb
  rcases hown.2 with ⟨_,hn⟩ | ⟨g,cap,cur,hθ,_,_,hc,_⟩
  ·exact absurd (List.eq_nil_of_length_eq_zero hn) h0
  ·have hpos:0 < l.length:=List.length_pos_iff.2 h0
   refine ⟨.pointer (some ⟨g,0,none⟩),?_, .elt i ver 0 0 _ hnx fun e2 sz2 v2 l2 hl2=>?_⟩
   ·rw [O8,hv,show (kx E θ σ.nx σ.hp w).θ i = θ i from rfl,hθ]
    simp [builtin,Lib.run_unsafeSliceData_row w _ _ _ _ _ (by omega:cap ≠ 0),Sem.run_bind,Sem.run_pure]
   ·have:B3 σ.hp i = some (.row e2 sz2 v2 l2):=hl2
    rw [hb] at this
    cases this
    exact ⟨Nat.le_refl _,fun _=>⟨g,_,cap,hθ,by simp⟩⟩) hd k⟩
theorem Tt {i ver e m:Nat} {T T2:Nat} {s:List UInt8} (hx:F1 σ x = some (.elt i ver 0 0)) (hy:F1 σ y = some (.i m)) (hb:B3 σ.hp i = some (.row e 1 ver (H5 s))) (hm:s.length = m) (h0:s ≠ []) (hbe:e < F8)
  (ht:P.underlying T = some (.pointer e)) (hc:P.cellsOf e = 1) (hd:Nat.blt d n = true)
  (k:B8 P E n ops rest ((σ.set i (.row e 1 (ver + 1) [])).put d (.str s)) K):U1 P E n ops ⟨some d, .call ⟨.builtin .unsafeString,⟨[x,y]⟩,⟨[T,T2]⟩⟩,ty,pos,after,none⟩ rest L σ K:=by
 refine ⟨?_⟩
 intro a w ⟨θ,hs⟩
 subst hm
 have h:=hs.evT
 obtain ⟨g,m,cap,hθ,hv,hnx⟩:=b8 (h.rel hx) hb
 have hyv:=(h.rel hy).val
 obtain ⟨xs,hown0,_,hr⟩:=h.row hb
 have hown:=hown0.row hbe
 rcases hown.2 with ⟨hn,_⟩ | ⟨g',cap',cur,hv',_,hg,hc1,hc2,hc3,hc4⟩
 ·rw [show (kx E θ σ.nx σ.hp w).θ i = θ i from rfl] at *
  rw [hn] at hθ;cases hθ
 ·have hθ':θ i = .slice (some ⟨g,0,none⟩) m cap:=hθ
  rw [hθ'] at hv'
  cases hv'
  have hbl:(H5 s).length = s.length:=by simp [H5]
  have hcell:∀ (j:Nat) z,s[j]? = some z → w.cell? ((⟨g,0,none⟩:Addr).add j) = some (.int .u8 z.toNat):=by
   intro j z hz
   obtain ⟨y',hy',him⟩:=hr j [.v (.int .u8 z.toNat)] (by simp [H5,hz]) 0 _ rfl
   cases him
   have hown':=hown
   rw [hθ'] at hown'
   exact hown'.cells (g:=g) rfl j _ (by simpa using hy')
  have hsl:s.length ≤ cur.size:=by rw [hc3];omega
  have hrun:=Lib.run_unsafeString_row (P:=P) w T T2 ty e ht hc g cur.size (by simp [World.shape?,hg]) s h0 hsl (by unfold maxLen at hc2;omega) hcell
  have hex:(execOp a.eval ⟨some d, .call ⟨.builtin .unsafeString, #[x,y], #[T,T2]⟩,ty,pos,after,none⟩).run P w = .ok (.value (.string ⟨s.toArray⟩)) (w.freeze ⟨g,0,none⟩ s.length):=by
   rw [O9,hv,hyv]
   simp only [Nat.zero_mul,Nat.add_zero]
   simp [builtin,hrun,Sem.run_bind,Sem.run_pure]
  unfold wpList
  rw [if_pos (by simp [Region.wanted])]
  left
  have hlt:g < w.heap.size:=(Array.getElem?_eq_some_iff.1 hg).1
  have hf:=Lib.below_freeze (B:=g) (Below.refl g w) (p:=⟨g,0,none⟩) (Nat.le_refl _) s.length
  have hfz:∀ k,k ≠ g → (w.freeze ⟨g,0,none⟩ s.length).heap[k]? = w.heap[k]?:=by
   intro k hk
   unfold World.freeze
   split
   ·rfl
   ·simp only [Array.getElem?_modify]
    rw [if_neg (fun e=>hk e.symm)]
  simp only [Oper.wp,hex,Oper.upon]
  have ht2:=hs.turn (hkp:=fun _ _ _ _ h hk _=>by cases h;rw [BU hbe] at hk;cases hk) (hne:=fun h=>by rw [H7 (M6 hbe)] at h;cases h) (b':=.row e 1 (ver + 1) []) (v':=.slice none 0 0) (w':=w.freeze ⟨g,0,none⟩ s.length) hb hf.os hf.tape hf.output hf.size (fun k _ hne=>hfz k fun e=>hne (by rw [hθ',e];rfl)) (fun k hk=>by cases hk)
   ⟨⟨_,_,_,hθ'⟩,e,ver,_,rfl, .inl (Nat.lt_succ_self _)⟩ (fun le=>⟨[],⟨by simp, .inl ⟨by simp [cx,D4],rfl⟩⟩,(fun el hel=>by cases hel),(fun k el hk=>by simp at hk), .lt (M6 hbe)⟩)
  exact k _ _ ⟨_,ht2.put (Nat.blt_eq ▸ hd) (.im (.str _))⟩
end
end Go.Av
namespace Go.Proofs.YtiphlhoclaogjabGreatDoor
open Go Go.Av Go.RowKit Go.Shelf
set_option maxRecDepth 100000
abbrev bB:Nat:=63 + 1
abbrev eB:Nat:=5
abbrev PL:C6:=.bx bB [.v (.pointer none), .v (.slice none 0 0)]
abbrev m7 (ver len:Nat):C6:=.bx bB [.ref 0 0, .row 1 ver len]
theorem Fi.of {P:Program} {T:Nat} (h:(P.info? T).bind (·.zero) = some (.int .u8 0)):Fi P T:=by
 cases hi:P.info? T with
 | none=>simp [hi] at h
 | some i=>simp [hi] at h;exact ⟨i,hi,h⟩
instance:Fi Tryz.prog 5:=Fi.of (by kernel_rfl)
theorem VM:Lays.n240 Tryz.prog Tryz.lays156_ren :=
 have L:=Tryz.lays156
 { mixed:=L.mixed,f240:=L.f240,f276:=L.f276,t0:=L.t0,a0:=L.a0,z0:=L.z0,v0:=L.v0,t4:=L.t4,a4:=L.a4,z4:=L.z4,v4:=L.v4,t9:=L.t9,a9:=L.a9,z9:=L.z9,v9:=L.v9,t20:=L.t20,a20:=L.a20,z20:=L.z20,v20:=L.v20,t70:=L.t70,a70:=L.a70,z70:=L.z70,v70:=L.v70,t72:=L.t72,a72:=L.a72,z72:=L.z72,v72:=L.v72,t164:=L.t164,a164:=L.a164,z164:=L.z164,v164:=L.v164 }
theorem Nv (t s:List UInt8):H5 (t ++ s) = H5 t ++ H5 s:=List.map_append
theorem Hu {i:Nat} {x b:C6} (h:B3 [(0,some x)] i = some b):i = 0 ∧ b = x:=by
 rw [F2] at h
 split at h
 ·rename_i e;cases h;exact ⟨e.symm,rfl⟩
 ·cases h
theorem Tu:B9 Tryz.prog 60 1 [(0,some PL)] [.ref 0 0] 1 [(0,some (.bx bB [.ref 0 0, .v (.slice none 0 0)]))] (.tup []):=by
 refine ⟨⟨Tryz.f60,Tryz.func60,by kernel_rfl,by kernel_rfl⟩,fun X θ w vs hX htb hB hl hv=>?_⟩
 match vs,hl with
 | [v],_ =>
   obtain ⟨b,hθ,rfl,_⟩:=Q9 (hv 0 _ v rfl rfl)
   obtain ⟨_,b',arr,⟨t,ht⟩,hθ',hh,hsz,hr⟩:=hB.owns 0 _ rfl
   have hbb:b' = b:=by
    have h1:θ 0 = .pointer (some ⟨b',0,none⟩):=hθ'
    have h2:θ 0 = .pointer (some ⟨b,0,none⟩):=hθ
    rw [h1] at h2;cases h2;rfl
   subst hbb
   have ht2:t = 63:=by unfold bB at ht;omega
   subst ht2
   have hs2:arr.size = 2:=hsz
   have h0:=(hr 0 _ arr[0] rfl (Array.getElem?_eq_getElem (by omega))).val
   have h1:=(hr 1 _ arr[1] rfl (Array.getElem?_eq_getElem (by omega))).val
   have harr:arr = #[.pointer none, .slice none 0 0]:=by
    apply Array.ext
    ·exact hs2
    ·intro i hi hi2
     match i,hi2 with
     | 0,_=>exact h0
     | 1,_=>exact h1
   subst harr
   have hlt:b' < w.heap.size:=(Array.getElem?_eq_some_iff.1 hh).1
   refine Calls.mono (Any.Builder_copyCheck_fresh VM Tryz.Builder_Extra_156.toX72 b' w (by simp [World.cell?,hh]) (by simp [World.shape?,hh];rfl) (by simp [World.frozen?,hh])) ?_
   rintro e w' ⟨rfl,rfl⟩
   have hh2:(w.setCell ⟨b',0,none⟩ (.pointer (some ⟨b',0,none⟩))).heap[b']? = some (.cells #[.pointer (some ⟨b',0,none⟩), .slice none 0 0] 63 (0,0)):=by
    simp [World.setCell,Array.getElem?_modify,hh]
   have hk:∀ k,k ≠ b' → (w.setCell ⟨b',0,none⟩ (.pointer (some ⟨b',0,none⟩))).heap[k]? = w.heap[k]?:=fun k hk=>Below.heap_setCell _ _ _ _ (fun e=>hk e)
   have hθ0:θ 0 = .pointer (some ⟨b',0,none⟩):=hθ
   refine ⟨⟨_,θ,rfl, .tup [] [] rfl (fun j x y hx=>by cases hx),⟨fun i b hi=>?_,fun i j b1 b2 k hi hj _ _=>?_,fun i b k hi hk=>?_⟩,fun i b k hi hk=>?_,fun i _=>.inl rfl⟩,rfl,rfl,rfl,by simp [World.setCell],fun k hkl hno=>hk k fun e=>hno ⟨0,_,rfl, .inl (by rw [hθ0,e];rfl)⟩⟩
   ·obtain ⟨rfl,rfl⟩:=Hu hi
    refine ⟨Nat.one_pos,b',_,⟨63, .inr rfl⟩,hθ,hh2,rfl,fun j x y hx hy=>?_⟩
    match j,hx,hy with
    | 0,hx,hy=>cases hx;cases hy;exact .ref 0 0 b' Nat.one_pos hθ
    | 1,hx,hy=>cases hx;cases hy;exact .im (.v _)
   ·rw [(Hu hi).1,(Hu hj).1]
   ·obtain ⟨rfl,rfl⟩:=Hu hi
    exact hB.fresh 0 _ k rfl (hk.elim .inl fun h=>absurd h.1 Bool.false_ne_true)
   ·obtain ⟨rfl,rfl⟩:=Hu hi
    exact .inl ⟨0,_,rfl,hk.elim .inl fun h=>absurd h.1 Bool.false_ne_true⟩
theorem Nw (e len:Nat) (l:List (List AV)):B9 Tryz.prog 60 2 [(0,some (m7 0 len)),(1,some (.row e 1 0 l))] [.ref 0 0] 2 [(0,some (m7 0 len)),(1,some (.row e 1 0 l))] (.tup []):=by
 refine ⟨⟨Tryz.f60,Tryz.func60,by kernel_rfl,by kernel_rfl⟩,fun X θ w vs hX htb hB hl hv=>?_⟩
 match vs,hl with
 | [v],_ =>
   obtain ⟨b,hθ,rfl,_⟩:=Q9 (hv 0 _ v rfl rfl)
   obtain ⟨_,b',arr,⟨t,ht⟩,hθ',hh,hsz,hr⟩:=hB.owns 0 _ rfl
   have hbb:b' = b:=by
    have h1:θ 0 = .pointer (some ⟨b',0,none⟩):=hθ'
    have h2:θ 0 = .pointer (some ⟨b,0,none⟩):=hθ
    rw [h1] at h2;cases h2;rfl
   subst hbb
   have hs2:arr.size = 2:=hsz
   obtain ⟨b2,hθ2,h0,_⟩:=Q9 (hr 0 _ arr[0] rfl (Array.getElem?_eq_getElem (by omega)))
   have hbb:b2 = b':=by
    have h1:θ 0 = .pointer (some ⟨b',0,none⟩):=hθ'
    have h2:θ 0 = .pointer (some ⟨b2,0,none⟩):=hθ2
    rw [h1] at h2;cases h2;rfl
   subst hbb
   refine Calls.mono (Any.Builder_copyCheck_used VM Tryz.Builder_Extra_156.toX72 b2 w (by simp [World.cell?,hh,h0,Array.getElem?_eq_getElem (show 0 < arr.size by omega)])) ?_
   rintro e w' ⟨rfl,rfl⟩
   exact ⟨⟨_,θ,rfl, .tup [] [] rfl (fun j x y hx=>by cases hx),hB,fun i b k hi hk=>.inl ⟨i,b,hi,hk⟩,fun i _=>.inl rfl⟩,rfl,rfl,rfl,Nat.le_refl _,fun k _ _=>rfl⟩
end Go.Proofs.YtiphlhoclaogjabGreatDoor
namespace Go.Proofs.YtiphlhoclaogjabGreatDoor
open Go Go.Av
attribute [local irreducible] D6 B8 D8 D7 DQ E0 E1 St.le B4 B9
set_option maxRecDepth 100000
set_option maxHeartbeats 2000000 in
theorem Gc (s:List UInt8) (hs:s.length ≤ 140737488355328):B9 Tryz.prog 27 1 [(0,some PL)] [.ref 0 0, .str s] 2 [(0,some (m7 1 s.length)),(1,some (.row eB 1 1 (H5 s)))] (.tup [.i s.length, .v .nilIface]):=by
 refine J1 Tryz.func27 19 fun E h0=>?_
 repeat' ((first|refine A4 ?_|refine S1 ?_|refine Z1 ?_|refine Z2 ?_|(refine And.intro ?_ ?_<;>intro h<;>try first|(exfalso;omega)|exact absurd rfl h)|refine Z3 ?_|refine Z4 ?_|intro el hel hbB|intro el hel|intro ex|refine Z5 ?_|(refine A9 ?_ ?_;exact ⟨by kernel_rfl,by decide⟩)|refine A8 ?_ ?_|exact A7|refine A6 ?_ ?_|exact A5|(refine A0 ?_ ?_ ?_;kernel_rfl;kernel_rfl) | refine nc [0] [0] Tu rfl rfl rfl ⟨rfl,trivial⟩ ?_) <;> (try (conv=>whnf)))
 all_goals first
  | exact H8 (rvs:=[.tmp 4, .tmp 5]) (vs:=[_,_]) trivial rfl rfl (B0 h0 rfl ⟨rfl,rfl,trivial⟩ ⟨congrArg (fun z=>C6.bx bB [.ref 0 0, .row 1 1 z]) (by simp),⟨_,rfl⟩,trivial⟩ rfl rfl rfl) rfl
set_option maxHeartbeats 2000000 in
theorem d5 (t s:List UInt8) (hs:t.length + s.length ≤ 140737488355328):B9 Tryz.prog 27 2 [(0,some (m7 0 t.length)),(1,some (.row eB 1 0 (H5 t)))] [.ref 0 0, .str s] 2 [(0,some (m7 1 (t ++ s).length)),(1,some (.row eB 1 1 (H5 (t ++ s))))] (.tup [.i s.length, .v .nilIface]):=by
 refine J1 Tryz.func27 19 fun E h0=>?_
 have h1:=Nw eB t.length (H5 t)
 repeat' ((first|refine A4 ?_|refine S1 ?_|refine Z1 ?_|refine Z2 ?_|(refine And.intro ?_ ?_<;>intro h<;>try first|(exfalso;omega)|exact absurd rfl h)|refine Z3 ?_|refine Z4 ?_|intro el hel hbB|intro el hel|intro ex|refine Z5 ?_|(refine A9 ?_ ?_;exact ⟨by kernel_rfl,by decide⟩)|refine A8 ?_ ?_|exact A7|refine A6 ?_ ?_|exact A5|(refine A0 ?_ ?_ ?_;kernel_rfl;kernel_rfl) | refine nc [0,1] [0,0] h1 rfl rfl rfl ⟨rfl,rfl,trivial⟩ ?_) <;> (try (conv=>whnf)))
 all_goals first
  | exact H8 (rvs:=[.tmp 4, .tmp 5]) (vs:=[_,_]) trivial rfl rfl (B0 h0 rfl ⟨rfl,rfl,trivial⟩ ⟨congrArg (fun z=>C6.bx bB [.ref 0 0, .row 1 1 z]) (by simp),⟨_,by rw [Nv]⟩,trivial⟩ rfl rfl rfl) rfl
theorem YM (e len:Nat) (l:List (List AV)):B9 Tryz.prog 33 2 [(0,some (m7 0 len)),(1,some (.row e 1 0 l))] [.ref 0 0] 2 [(0,some (m7 0 len)),(1,some (.row e 1 0 l))] (.i len):=by
 refine J1 Tryz.func33 8 fun E h0=>?_
 repeat' ((first|refine A4 ?_|refine S1 ?_|refine Z1 ?_|refine Z2 ?_|(refine And.intro ?_ ?_<;>intro h<;>try first|(exfalso;omega)|exact absurd rfl h)|refine Z3 ?_|refine Z4 ?_|intro el hel hbB|intro el hel|intro ex|refine Z5 ?_|(refine A9 ?_ ?_;exact ⟨by kernel_rfl,by decide⟩)|refine A8 ?_ ?_|exact A7|refine A6 ?_ ?_|exact A5|(refine A0 ?_ ?_ ?_;kernel_rfl;kernel_rfl)) <;> (try (conv=>whnf)))
 all_goals first
  | exact D5 (B0 h0 rfl ⟨rfl,trivial⟩ ⟨rfl,⟨_,rfl⟩,trivial⟩ rfl rfl rfl)
theorem RT (s:List UInt8) (h1:s ≠ []):B9 Tryz.prog 32 2 [(0,some (m7 0 s.length)),(1,some (.row eB 1 0 (H5 s)))] [.ref 0 0] 2 [(0,none),(1,none)] (.str s):=by
 have h2:H5 s ≠ []:=fun h=>h1 (List.map_eq_nil_iff.1 h)
 refine J1 Tryz.func32 14 fun E h0=>?_
 repeat' ((first | (refine G2 1 ?_;refine Am (id:=1) ⟨[(2, .str s)],2,[]⟩ ?_ ?_) |refine A4 ?_|refine S1 ?_|refine Z1 ?_|refine Z2 ?_|(refine And.intro ?_ ?_<;>intro h<;>try first|(exfalso;omega)|exact absurd rfl h)|refine Z3 ?_|refine Z4 ?_|intro el hel hbB|intro el hel|intro ex|refine Z5 ?_|(refine A9 ?_ ?_;exact ⟨by kernel_rfl,by decide⟩)|refine A8 ?_ ?_|exact A7|refine A6 ?_ ?_|exact A5|(refine A0 ?_ ?_ ?_;kernel_rfl;kernel_rfl) | refine Ew rfl rfl h2 rfl ?_ | refine Tt rfl rfl rfl rfl h1 (by decide) (by kernel_rfl) (by kernel_rfl) rfl ?_) <;> (try (conv=>whnf)))
 all_goals first
  | exact B0 h0 rfl ⟨rfl,trivial⟩ trivial rfl rfl rfl
  | exact D5 (B0 h0 rfl ⟨rfl,trivial⟩ trivial rfl rfl rfl)
end Go.Proofs.YtiphlhoclaogjabGreatDoor
