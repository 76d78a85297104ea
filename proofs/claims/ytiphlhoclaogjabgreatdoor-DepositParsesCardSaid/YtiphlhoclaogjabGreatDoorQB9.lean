/- Chapter 3: the reference's words of values and columns. -/
import Derived.Test.YtiphlhoclaogjabGreatDoorQKa4
import Derived.Test.YtiphlhoclaogjabGreatDoorQB7
import Derived.Test.YtiphlhoclaogjabGreatDoorQB4
import Derived.Test.YtiphlhoclaogjabGreatDoorQSx
import Derived.Test.YtiphlhoclaogjabGreatDoorQB8
set_option linter.unusedVariables false
set_option linter.unnecessarySimpa false
set_option linter.unusedSimpArgs false
namespace Go.Proofs.YtiphlhoclaogjabGreatDoor
open Go Go.Av
attribute [local irreducible] D6 B8 D8 D7 DQ E0 E1 St.le B4 B9
set_option maxRecDepth 100000
theorem RY {s:C4} {c:C5} {v:Int} (hh:P2 s c v = true) (h2:c.kind ≠ 2) (hv:v = (-1099511627776)):c.kind ≠ 1:=by
 intro h1
 unfold P2 at hh
 rw [if_pos h1] at hh
 have:=of_decide_eq_true hh
 omega
set_option maxHeartbeats 4000000 in
theorem RZ (s:C4) (hr:H6 s = 0) (i:Nat) (c:C5) (v:Int) (hc:s.cols[i]? = some c) (hh:P2 s c v = true):B4 Tryz.prog 36 [sA s, .i i, .i v] (.str (N8 s (c,v))):=by
 have hcm:=List.mem_of_getElem? hc
 obtain ⟨_,v1,v2⟩:=Dl hr (q:=(c,v)) hcm hh
 obtain ⟨_,g,g3⟩:=Cu hr hcm
 have hilt:=(List.getElem?_eq_some_iff.1 hc).1
 have h8:=(J7 hr).2.1
 have hci:s.cols[(i:Int).toNat]? = some c:=hc
 dsimp only at v1 v2
 by_cases k2:c.kind = 2
 ·obtain ⟨g1,g2⟩:=g k2
  obtain ⟨v1,v2⟩:=v1 k2
  obtain ⟨lx,hlx⟩:∃ lx,s.lists[c.lst.toNat]? = some lx:=⟨_,List.getElem?_eq_getElem (by omega)⟩
  rw [V9 hlx] at v2
  obtain ⟨cd,hcd⟩:∃ cd,lx.2[v.toNat]? = some cd:=⟨_,List.getElem?_eq_getElem (by omega)⟩
  have hvw:N8 s (c,v) = cd.name:=by unfold N8;rw [if_pos k2,V9 hlx,U3 hcd]
  rw [hvw]
  refine F3 Tryz.func36 31 fun hrd E h0=>?_
  clear hrd
  repeat' ((first | (refine A3 (x:=c) hci (by omega) ?_) | (refine A3 (x:=lx) hlx (by omega) ?_) | (refine A3 (x:=cd) hcd (by omega) ?_) |refine A4 ?_|refine S1 ?_|refine Z1 ?_|refine Z2 ?_|(refine And.intro ?_ ?_<;>intro h<;>try first|(exfalso;omega)|exact absurd rfl h)|refine Z3 ?_|refine Z4 ?_|intro el hel hbB|intro el hel|intro ex|refine Z5 ?_|(refine A9 ?_ ?_;exact ⟨by kernel_rfl,by decide⟩)|refine A8 ?_ ?_|exact A7|refine A6 ?_ ?_|exact A5|(refine A0 ?_ ?_ ?_;kernel_rfl;kernel_rfl)) <;> (try (conv=>whnf)))
  all_goals first
   | (exfalso;omega)
   | exact B5 rfl rfl
 ·obtain ⟨v1,v2⟩:=v2 k2
  by_cases k3:v = (-1099511627776)
  ·have hk1:=RY hh k2 k3
   have hkk:c.kind = 3:=by
    obtain ⟨j,hj⟩:=List.getElem_of_mem hcm
    rcases PM hr hc with h | h | h
    ·exact absurd h.1 hk1
    ·exact absurd h.1 k2
    ·exact h.1
   have hvw:N8 s (c,v) = CJ:=by unfold N8;rw [if_neg k2,if_pos ⟨hkk,k3⟩]
   rw [hvw]
   refine F3 Tryz.func36 31 fun hrd E h0=>?_
   clear hrd
   repeat' ((first | (refine A3 (x:=c) hci (by omega) ?_) |refine A4 ?_|refine S1 ?_|refine Z1 ?_|refine Z2 ?_|(refine And.intro ?_ ?_<;>intro h<;>try first|(exfalso;omega)|exact absurd rfl h)|refine Z3 ?_|refine Z4 ?_|intro el hel hbB|intro el hel|intro ex|refine Z5 ?_|(refine A9 ?_ ?_;exact ⟨by kernel_rfl,by decide⟩)|refine A8 ?_ ?_|exact A7|refine A6 ?_ ?_|exact A5|(refine A0 ?_ ?_ ?_;kernel_rfl;kernel_rfl)) <;> (try (conv=>whnf)))
   all_goals first
    | (exfalso;omega)
    | exact B5 rfl rfl
  ·have hit:=G7 v (by omega) (by omega)
   have hvw:N8 s (c,v) = Lib.itoa v:=by unfold N8;rw [if_neg k2,if_neg (fun h=>k3 h.2)]
   rw [hvw]
   generalize Lib.itoa v = T at *
   refine F3 Tryz.func36 31 fun hrd E h0=>?_
   clear hrd
   repeat' ((first | (refine A3 (x:=c) hci (by omega) ?_) | refine B2 hit ?_ |refine A4 ?_|refine S1 ?_|refine Z1 ?_|refine Z2 ?_|(refine And.intro ?_ ?_<;>intro h<;>try first|(exfalso;omega)|exact absurd rfl h)|refine Z3 ?_|refine Z4 ?_|intro el hel hbB|intro el hel|intro ex|refine Z5 ?_|(refine A9 ?_ ?_;exact ⟨by kernel_rfl,by decide⟩)|refine A8 ?_ ?_|exact A7|refine A6 ?_ ?_|exact A5|(refine A0 ?_ ?_ ?_;kernel_rfl;kernel_rfl)) <;> (try (conv=>whnf)))
   all_goals first
    | (exfalso;omega)
    | exact B5 rfl rfl
end Go.Proofs.YtiphlhoclaogjabGreatDoor
namespace Go.Proofs.YtiphlhoclaogjabGreatDoor
open Go Go.Av
attribute [local irreducible] D6 B8 D8 D7 DQ E0 E1 St.le B4 B9
set_option maxRecDepth 100000
theorem AU (n lo hi:Int):B4 Tryz.prog 118 [.i n, .i lo, .i hi] (.b (decide (lo ≤ n ∧ n ≤ hi))):=by
 refine F3 Tryz.func118 15 fun hrd E h0=>?_
 clear hrd
 repeat' ((first|refine A4 ?_|refine S1 ?_|refine Z1 ?_|refine Z2 ?_|(refine And.intro ?_ ?_<;>intro h<;>try first|(exfalso;omega)|exact absurd rfl h)|refine Z3 ?_|refine Z4 ?_|intro el hel hbB|intro el hel|intro ex|refine Z5 ?_|(refine A9 ?_ ?_;exact ⟨by kernel_rfl,by decide⟩)|refine A8 ?_ ?_|exact A7|refine A6 ?_ ?_|exact A5|(refine A0 ?_ ?_ ?_;kernel_rfl;kernel_rfl)) <;> (try (conv=>whnf)))
 all_goals first
  | exact B5 rfl (congrArg AV.b (decide_eq_true (by omega)).symm)
  | exact B5 rfl (congrArg AV.b (decide_eq_false (by omega)).symm)
  | exact B5 rfl (congrArg AV.b (by simp only [*,true_and]))
def Dp (ws:List Int) (k:Nat):Prop:=k ≤ ws.length ∧ ((k = 0) ∨ (0 < k ∧ 1 ≤ ws.getD (k - 1) 0 ∧ T9 ws = Ap (ws.getD (k - 1) 0) (ws.drop k)))
theorem Dp.wat {ws:List Int} {k:Nat} (h:Dp ws k):AD ws k (if k = 0 then 1 else ws.getD (k - 1) 0):=by
 refine ⟨h.1,?_⟩
 rcases h.2 with h2 | h2
 ·left;rw [if_pos h2];exact ⟨h2,rfl⟩
 ·right;rw [if_neg (by omega)];exact h2
theorem Dp.of {ws:List Int} {k:Nat} {w:Int} (hw:ws[k]? = some w) (h:AD ws (k + 1) w):Dp ws (k + 1):=by
 refine ⟨h.1, .inr ?_⟩
 rcases h.2 with h2 | h2
 ·omega
 ·rw [Nat.add_sub_cancel,U3 hw];exact h2
theorem UA {α:Type} {ws:List α} {k:Nat} {q d:α} (h:0 < (k:Int)) (hq:ws[((k:Int) - 1).toNat]? = some q):ws.getD (k - 1) d = q:=U3 (by rw [← hq];congr 1;omega)
theorem Dp.prev {ws:List Int} {k:Nat} {q:Int} (h:Dp ws k) (h0:0 < (k:Int)) (hq:ws[((k:Int) - 1).toNat]? = some q):AD ws k q ∧ 1 ≤ q:=by
 have h1:=h.wat
 rw [if_neg (by omega),UA h0 hq] at h1
 exact ⟨h1,h1.pos⟩
set_option maxHeartbeats 4000000 in
theorem KH (c:C5):B4 Tryz.prog 119 [M4 c] (.i (meaE c)):=by
 have hin1:=AU c.low (-1000000) 1000000
 have hin2:=AU c.high (-1000000) 1000000
 refine F3 Tryz.func119 79 fun hrd E h0=>?_
 have hlen:c.widths.length ≤ 9223372036854775807:=by
  have:=((hrd (M4 c) (by simp)).agg (.sl 1 (c.widths.map wA)) (by simp)).sl
  simpa using this
 clear hrd
 repeat' ((first | refine B2 hin1 ?_ | refine B2 hin2 ?_ |refine A4 ?_|refine S1 ?_|refine Z1 ?_|refine Z2 ?_|(refine And.intro ?_ ?_<;>intro h<;>try first|(exfalso;omega)|exact absurd rfl h)|refine Z3 ?_|refine Z4 ?_|intro el hel hbB|intro el hel|intro ex|refine Z5 ?_|(refine A9 ?_ ?_;exact ⟨by kernel_rfl,by decide⟩)|refine A8 ?_ ?_|exact A7|refine A6 ?_ ?_|exact A5|(refine A0 ?_ ?_ ?_;kernel_rfl;kernel_rfl)) <;> (try (conv=>whnf)))
 all_goals first
  | (refine B5 rfl (congrArg AV.i ?_);rw [meaE,if_pos (by omega)];done)
  | (refine B5 rfl (congrArg AV.i ?_);rw [meaE,if_neg (by omega),if_pos (by omega)];done)
  | skip
 have hm:meaE c = if T9 c.widths = true then 0 else 2:=by rw [meaE,if_neg (by omega),if_neg (by omega)]
 have hne:c.widths.length ≠ 0:=by omega
 rw [hm]
 refine C2 (ι:=Nat) (fun k=>⟨[(1, .ref 0 0),(3, .i k)],1,[(0,some (.box (C0 c)))]⟩) (fun k=>Dp c.widths k) (fun k=>c.widths.length - k) 0 ⟨Nat.zero_le _, .inl rfl⟩ (B0 h0 rfl ⟨rfl,rfl,trivial⟩ ⟨rfl,trivial⟩ rfl rfl rfl) (fun k hI=>?_)
 have hk:=hI.1
 repeat' ((first | (refine G9 ?_ ?_;(have:=(hI.prev (by assumption) hel).2;omega)) |refine A4 ?_|refine S1 ?_|refine Z1 ?_|refine Z2 ?_|(refine And.intro ?_ ?_<;>intro h<;>try first|(exfalso;omega)|exact absurd rfl h)|refine Z3 ?_|refine Z4 ?_|intro el hel hbB|intro el hel|intro ex|refine Z5 ?_|(refine A9 ?_ ?_;exact ⟨by kernel_rfl,by decide⟩)|refine A8 ?_ ?_|exact A7|refine A6 ?_ ?_|exact A5|(refine A0 ?_ ?_ ?_;kernel_rfl;kernel_rfl)) <;> (try (conv=>whnf)))
 all_goals first
  | exact ⟨k + 1,Dp.of hel (hI.wat.first hel (by omega) (by omega)),by omega,B0 h0 rfl ⟨rfl,rfl,trivial⟩ ⟨rfl,trivial⟩ rfl rfl rfl⟩
  | exact B5 rfl (congrArg AV.i (by rw [hI.wat.bad0 hel (by omega) (by omega)];rfl))
  | exact B5 rfl (congrArg AV.i (by rw [(hI.prev (by assumption) hel).1.bad (by assumption) (by omega) (fun hx=>by first | exact absurd hx.2.1 (by assumption) | omega)];rfl))
  | exact ⟨k + 1,Dp.of (by assumption) ((hI.prev (by assumption) hel).1.next (by assumption) (by omega) (by omega) (Classical.byContradiction (by assumption)) (by omega)),by omega,B0 h0 rfl ⟨rfl,rfl,trivial⟩ ⟨rfl,trivial⟩ rfl rfl rfl⟩
  | exact B5 rfl (congrArg AV.i (by rw [hI.wat.done (by assumption) hne];rfl))
theorem UB {s:C4} {i:Nat} {c:C5} (hn:E7 c.name = true) (hd:Cd s i c = true):10 = colE s i c:=by
 rw [colE,if_neg (by rw [hn];decide),if_pos hd]
theorem Ey {s:C4} {i:Nat} {c:C5} {e:Int} (hn:E7 c.name = true) (hd:Cd s i c = false) (hk:kindE s i c = e) (he:e ≠ 0):e = colE s i c:=by
 rw [colE,if_neg (by rw [hn];decide),if_neg (by rw [hd];decide),hk,if_neg he]
theorem Js {s:C4} {i:Nat} {c:C5} {b:Bool} (hn:E7 c.name = true) (hd:Cd s i c = false) (hk:kindE s i c = 0) (hu:BK c = b):(if b = true then 0 else 11) = colE s i c:=by
 unfold colE
 simp only [hn,hd,hk,hu,if_true,if_false,Bool.true_eq_false,Bool.false_eq_true]
set_option maxHeartbeats 4000000 in
theorem ML (s:C4) (i:Nat) (c:C5) (hc:s.cols[i]? = some c) (hi2:i < 9223372036854775807):B4 Tryz.prog 92 [sA s, .i i] (.i (colE s i c)):=by
 have hi:=R6 hc
 have hin1:=AU c.kind 1 3
 have hin2:=AU c.lst 0 ((s.lists.length:Int) - 1)
 have hmea:=KH c
 generalize hm:meaE c = m at hmea
 refine F3 Tryz.func92 98 fun hrd E h0=>?_
 obtain ⟨hl1,hl2,hl3⟩:=p9 (s:=s) (hrd _ (by simp))
 clear hrd
 repeat' ((first | (refine A3 (x:=c) (by simpa using hc) (by omega) ?_) | refine B2 (Dd _) ?_ |refine A4 ?_|refine S1 ?_|refine Z1 ?_|refine Z2 ?_|(refine And.intro ?_ ?_<;>intro h<;>try first|(exfalso;omega)|exact absurd rfl h)|refine Z3 ?_|refine Z4 ?_|intro el hel hbB|intro el hel|intro ex|refine Z5 ?_|(refine A9 ?_ ?_;exact ⟨by kernel_rfl,by decide⟩)|refine A8 ?_ ?_|exact A7|refine A6 ?_ ?_|exact A5|(refine A0 ?_ ?_ ?_;kernel_rfl;kernel_rfl)) <;> (try (conv=>whnf)))
 all_goals first
  | (refine B5 rfl (congrArg AV.i ?_);rw [colE,if_pos h];done)
  | skip
 have hn:=h
 clear h
 refine C2 (ι:=Nat) (fun k=>⟨[(1, .i i),(2, .ref 0 0),(5, .ref 1 0),(6, .i k)],2,[(0,some (.box (sL s))),(1,some (.box (C0 c)))]⟩) (fun k=>k ≤ i ∧ V8 (fun x=>decide (x.name = c.name)) (s.cols.take i) k) (fun k=>i - k) 0 ⟨Nat.zero_le _,V8.zero _ _⟩ (B0 h0 rfl ⟨rfl,rfl,rfl,rfl,trivial⟩ ⟨rfl,rfl,trivial⟩ rfl rfl rfl) (fun k hI=>?_)
 obtain ⟨hk,hI⟩:=hI
 have hti:(s.cols.take i).length = i:=by rw [List.length_take];omega
 have htk:∀ el,(k:Int) < i → s.cols[k]? = some el → (s.cols.take i)[k]? = some el:=fun el h1 h2=>by rw [List.getElem?_take_of_lt (by omega)];exact h2
 repeat' ((first | refine B2 hin1 ?_ | refine B2 hin2 ?_ | refine B2 hmea ?_ |refine A4 ?_|refine S1 ?_|refine Z1 ?_|refine Z2 ?_|(refine And.intro ?_ ?_<;>intro h<;>try first|(exfalso;omega)|exact absurd rfl h)|refine Z3 ?_|refine Z4 ?_|intro el hel hbB|intro el hel|intro ex|refine Z5 ?_|(refine A9 ?_ ?_;exact ⟨by kernel_rfl,by decide⟩)|refine A8 ?_ ?_|exact A7|refine A6 ?_ ?_|exact A5|(refine A0 ?_ ?_ ?_;kernel_rfl;kernel_rfl)) <;> (try (conv=>whnf)))
 all_goals first
  | (refine B5 rfl (congrArg AV.i ?_);exact UB hn (hI.hit (htk _ (by assumption) hel) (decide_eq_true (by assumption))).symm)
  | exact ⟨k + 1,⟨by omega,hI.step (htk _ (by assumption) hel) (decide_eq_false (by assumption))⟩,by omega,B0 h0 rfl ⟨rfl,rfl,rfl,rfl,trivial⟩ ⟨rfl,rfl,trivial⟩ rfl rfl rfl⟩
  | skip
 all_goals
  have hd:Cd s i c = false:=(hI.done (by omega)).symm
  refine B5 rfl (congrArg AV.i ?_)
  clear hI htk hti hin1 hin2 hmea hl3 h0 E hc
 all_goals first
  | exact Ey (e:=4) hn hd (by unfold kindE;simp only [hm];(repeat' split) <;> first | rfl | omega) (by decide)
  | exact Ey (e:=5) hn hd (by unfold kindE;simp only [hm];(repeat' split) <;> first | rfl | omega) (by decide)
  | exact Ey (e:=m) hn hd (by unfold kindE;simp only [hm];(repeat' split) <;> first | rfl | omega) (by assumption)
  | exact Js (b:=true) hn hd (by unfold kindE;simp only [hm];(repeat' split) <;> first | rfl | omega) (decide_eq_true ⟨by omega,by first | exact .inl (by omega) | exact .inr ⟨by omega,by omega,by omega,by assumption⟩⟩)
  | exact Js (b:=false) hn hd (by unfold kindE;simp only [hm];(repeat' split) <;> first | rfl | omega) (decide_eq_false (fun hx=>by
    obtain ⟨hx1,hx2⟩:=hx
    rcases hx2 with h3 | ⟨h4,h5,h6,h7⟩
    ·omega
    ·first | omega | exact absurd (h.symm.trans h7) (by decide)))
theorem UC {ls:List CL} {k:Nat} {el:CL} (h:chk el.1 el.2 = 0) (hd:true = (ls.take k).any fun x=>decide (x.1 = el.1)):U2 ls k el = 10:=by rw [U2,if_pos h,if_pos hd.symm]
theorem WY {ls:List CL} {k:Nat} {el:CL} (h:chk el.1 el.2 = 0) (hd:false = (ls.take k).any fun x=>decide (x.1 = el.1)):U2 ls k el = 0:=by rw [U2,if_pos h,if_neg (by rw [← hd];decide)]
set_option maxHeartbeats 4000000 in
theorem Ez (s:C4):B4 Tryz.prog 63 [sA s] (.i (H6 s)):=by
 refine F3 Tryz.func63 77 fun hrd E h0=>?_
 obtain ⟨hl1,hl2,hl3⟩:=p9 (s:=s) (hrd _ (by simp))
 clear hrd
 repeat' ((first|refine A4 ?_|refine S1 ?_|refine Z1 ?_|refine Z2 ?_|(refine And.intro ?_ ?_<;>intro h<;>try first|(exfalso;omega)|exact absurd rfl h)|refine Z3 ?_|refine Z4 ?_|intro el hel hbB|intro el hel|intro ex|refine Z5 ?_|(refine A9 ?_ ?_;exact ⟨by kernel_rfl,by decide⟩)|refine A8 ?_ ?_|exact A7|refine A6 ?_ ?_|exact A5|(refine A0 ?_ ?_ ?_;kernel_rfl;kernel_rfl)) <;> (try (conv=>whnf)))
 all_goals first
  | exact B5 rfl (congrArg AV.i (by rw [H6,if_pos (by omega)]))
  | skip
 have hs:H6 s = if M2 (U2 s.lists) 0 s.lists = 0 then (if s.cols.head?.map (·.kind) = some 1 then M2 (colE s) 0 s.cols else 7) else M2 (U2 s.lists) 0 s.lists:=by rw [H6,if_neg (by omega)]
 rw [hs]
 refine C2 (ι:=Nat) (fun k=>⟨[(1, .ref 0 0),(3, .i k)],1,[(0,some (.box (sL s)))]⟩) (fun k=>V7 (U2 s.lists) s.lists k) (fun k=>s.lists.length - k) 0 (V7.zero _ _) (B0 h0 rfl ⟨rfl,rfl,trivial⟩ ⟨rfl,trivial⟩ rfl rfl rfl) (fun k hI=>?_)
 have hk:=hI.1
 repeat' ((first | refine B2 (Ag _ _ (hl3 _ (List.mem_of_getElem? hel))) ?_ |refine A4 ?_|refine S1 ?_|refine Z1 ?_|refine Z2 ?_|(refine And.intro ?_ ?_<;>intro h<;>try first|(exfalso;omega)|exact absurd rfl h)|refine Z3 ?_|refine Z4 ?_|intro el hel hbB|intro el hel|intro ex|refine Z5 ?_|(refine A9 ?_ ?_;exact ⟨by kernel_rfl,by decide⟩)|refine A8 ?_ ?_|exact A7|refine A6 ?_ ?_|exact A5|(refine A0 ?_ ?_ ?_;kernel_rfl;kernel_rfl)) <;> (try (conv=>whnf)))
 all_goals first
  | (refine B5 rfl (congrArg AV.i ?_)
     have he:U2 s.lists k el = chk el.1 el.2:=by rw [U2,if_neg (by assumption)]
     rw [← hI.hit hel (by rw [he];assumption),he,if_neg (by assumption)];done)
  | (have hd:=hI.done (by assumption)
     refine B5 rfl (congrArg AV.i ?_)
     rw [if_pos hd,if_neg]
     intro hx
     rw [List.head?_eq_getElem?] at hx
     first
      | (rw [show s.cols[0]? = none from List.getElem?_eq_none (by omega)] at hx;cases hx)
      | (have hel':s.cols[0]? = some el:=hel
         rw [hel'] at hx
         have:=Option.some.inj hx
         exact absurd this (by assumption)))
  | skip
 ·have hc0:chk el.1 el.2 = 0:=Classical.byContradiction (by assumption)
  refine C2 (ι:=Nat) (fun j=>⟨[(1, .ref 0 0),(3, .i k),(5, .i j)],1,[(0,some (.box (sL s)))]⟩) (fun j=>j ≤ k ∧ V8 (fun x=>decide (x.1 = el.1)) (s.lists.take k) j) (fun j=>k - j) 0 ⟨Nat.zero_le _,V8.zero _ _⟩ (B0 h0 rfl ⟨rfl,rfl,rfl,trivial⟩ ⟨rfl,trivial⟩ rfl rfl rfl) (fun j hJ=>?_)
  obtain ⟨hj,hJ⟩:=hJ
  have htk:∀ x,(j:Int) < k → s.lists[j]? = some x → (s.lists.take k)[j]? = some x:=fun x h1 h2=>by rw [List.getElem?_take_of_lt (by omega)];exact h2
  have hel0:=hel
  have hti:(s.lists.take k).length = k:=by rw [List.length_take];omega
  repeat' ((first | (refine A3 (x:=el) hel0 (by omega) ?_) |refine A4 ?_|refine S1 ?_|refine Z1 ?_|refine Z2 ?_|(refine And.intro ?_ ?_<;>intro h<;>try first|(exfalso;omega)|exact absurd rfl h)|refine Z3 ?_|refine Z4 ?_|intro el hel hbB|intro el hel|intro ex|refine Z5 ?_|(refine A9 ?_ ?_;exact ⟨by kernel_rfl,by decide⟩)|refine A8 ?_ ?_|exact A7|refine A6 ?_ ?_|exact A5|(refine A0 ?_ ?_ ?_;kernel_rfl;kernel_rfl)) <;> (try (conv=>whnf)))
  all_goals first
   | exact ⟨j + 1,⟨by omega,hJ.step (htk _ (by assumption) hel) (decide_eq_false (by assumption))⟩,by omega,B0 h0 rfl ⟨rfl,rfl,rfl,trivial⟩ ⟨rfl,trivial⟩ rfl rfl rfl⟩
   | (refine B5 rfl (congrArg AV.i ?_)
      have he:=UC hc0 (hJ.hit (htk _ (by assumption) hel) (decide_eq_true (by assumption)))
      rw [← hI.hit hel0 (by rw [he];decide),he];rfl)
   | exact ⟨k + 1,hI.step hel0 (WY hc0 (hJ.done (by omega))),by omega,B0 h0 rfl ⟨rfl,rfl,trivial⟩ ⟨rfl,trivial⟩ rfl rfl rfl⟩
 have hd:=hI.done (by assumption)
 have hh:s.cols.head?.map (·.kind) = some 1:=by
  rw [List.head?_eq_getElem?]
  have hel':s.cols[0]? = some el:=hel
  rw [hel']
  exact congrArg some (Classical.byContradiction (by assumption))
 rw [if_pos hd,if_pos hh]
 refine C2 (ι:=Nat) (fun k=>⟨[(1, .ref 0 0),(6, .i k)],1,[(0,some (.box (sL s)))]⟩) (fun k=>V7 (colE s) s.cols k) (fun k=>s.cols.length - k) 0 (V7.zero _ _) (B0 h0 rfl ⟨rfl,rfl,trivial⟩ ⟨rfl,trivial⟩ rfl rfl rfl) (fun k hI=>?_)
 have hk:=hI.1
 have hcol:=fun (h:(k:Int) < s.cols.length)=>ML s k (s.cols[k]'(by omega)) (List.getElem?_eq_getElem (by omega)) (by omega)
 repeat' ((first | refine B2 (hcol (by assumption)) ?_ |refine A4 ?_|refine S1 ?_|refine Z1 ?_|refine Z2 ?_|(refine And.intro ?_ ?_<;>intro h<;>try first|(exfalso;omega)|exact absurd rfl h)|refine Z3 ?_|refine Z4 ?_|intro el hel hbB|intro el hel|intro ex|refine Z5 ?_|(refine A9 ?_ ?_;exact ⟨by kernel_rfl,by decide⟩)|refine A8 ?_ ?_|exact A7|refine A6 ?_ ?_|exact A5|(refine A0 ?_ ?_ ?_;kernel_rfl;kernel_rfl)) <;> (try (conv=>whnf)))
 all_goals first
  | exact ⟨k + 1,hI.step (List.getElem?_eq_getElem (by omega)) (Classical.byContradiction (by assumption)),by omega,B0 h0 rfl ⟨rfl,rfl,trivial⟩ ⟨rfl,trivial⟩ rfl rfl rfl⟩
  | exact B5 rfl (congrArg AV.i (hI.hit (List.getElem?_eq_getElem (by omega)) (by assumption)))
  | exact B5 rfl (congrArg AV.i (hI.done (by assumption)).symm)
theorem PQ {nm:List UInt8} {cs:List Code} (h:chk nm cs = 0) {v:Int} (hv:0 ≤ v ∧ v < cs.length):decide (Ao nm cs v = F4 nm cs - 1) = Q3 cs v:=by
 obtain ⟨n,rfl⟩:=Int.eq_ofNat_of_zero_le hv.1
 have:=Hn h (v:=n) (by omega)
 cases hl:Q3 cs n with
 | true=>exact decide_eq_true (this.2 hl)
 | false=>exact decide_eq_false (fun e=>by have:=this.1 e;rw [hl] at this;cases this)
set_option maxHeartbeats 4000000 in
theorem NI (s:C4) (column v:Int) (hr:H6 s = 0) {c:C5} (hc0:0 ≤ column) (hc:s.cols[column.toNat]? = some c):B4 Tryz.prog 93 [sA s, .i column, .i v] (.b (P2 s c v)):=by
 have hi:=R6 hc
 have hlst:=fun hk=>Lh.lst hr (List.mem_of_getElem? hc) hk
 have hin1:=AU v 1 1048575
 have hin2:=fun n:Nat=>AU v 0 ((n:Int) - 1)
 have hin3:=AU v c.low c.high
 have hchk:=(J7 hr).2.2.1
 have hlev:=fun (l:CL) (hl:s.lists[c.lst.toNat]? = some l)=>NF l.1 l.2 v (by have:=(M3 (hchk l (List.mem_of_getElem? hl))).2.2;omega)
 have hlevs:=fun (l:CL) (hl:s.lists[c.lst.toNat]? = some l)=>En l.1 l.2 (by have:=(M3 (hchk l (List.mem_of_getElem? hl))).2.2;omega)
 have hbd:=fun (l:CL) (hl:s.lists[c.lst.toNat]? = some l)=>And.intro (M3 (hchk l (List.mem_of_getElem? hl))).2 (Hh (nm:=l.1) (cs:=l.2) (by have:=(M3 (hchk l (List.mem_of_getElem? hl))).2.2;omega))
 refine F3 Tryz.func93 57 fun hrd E h0=>?_
 clear hrd
 repeat' ((first | (refine A3 (x:=c) hc (by omega) ?_) | refine B2 hin1 ?_ | refine B2 (hin2 _) ?_ | refine B2 hin3 ?_ | refine B2 (hlev _ hlx) ?_ | refine B2 (hlevs _ hlx) ?_ | (refine E3 ?_ ?_;kernel_rfl) | (refine DN ?_ ?_ (fun lx hlx=>?_);(have:=hlst (by assumption);omega);(have:=hlst (by assumption);omega)) | (refine G9 ?_ ?_;(have:=hbd _ hlx;omega)) |refine A4 ?_|refine S1 ?_|refine Z1 ?_|refine Z2 ?_|(refine And.intro ?_ ?_<;>intro h<;>try first|(exfalso;omega)|exact absurd rfl h)|refine Z3 ?_|refine Z4 ?_|intro el hel hbB|intro el hel|intro ex|refine Z5 ?_|(refine A9 ?_ ?_;exact ⟨by kernel_rfl,by decide⟩)|refine A8 ?_ ?_|exact A7|refine A6 ?_ ?_|exact A5|(refine A0 ?_ ?_ ?_;kernel_rfl;kernel_rfl)) <;> (try (conv=>whnf)))
 all_goals refine B5 rfl (congrArg AV.b ?_)
 all_goals first
  | (rw [P2,if_pos (by assumption)];done)
  | (rw [P2,if_neg (by assumption),if_pos (by assumption),V9 hlx,decide_eq_false (p:=0 ≤ v ∧ v < (lx.2.length:Int)) (by omega),Bool.false_and];done)
  | (rw [P2,if_neg (by assumption),if_pos (by assumption),V9 hlx,decide_eq_true (p:=0 ≤ v ∧ v < (lx.2.length:Int)) (by omega),Bool.true_and,PQ (hchk lx (List.mem_of_getElem? hlx)) (by omega)];done)
  | (rw [P2,if_neg (by assumption),if_neg (by assumption)];simp only [*,Bool.true_and,Bool.false_and,decide_true,decide_false,Bool.or_true,Bool.or_false,Bool.false_or,Bool.true_or];done)
end Go.Proofs.YtiphlhoclaogjabGreatDoor
