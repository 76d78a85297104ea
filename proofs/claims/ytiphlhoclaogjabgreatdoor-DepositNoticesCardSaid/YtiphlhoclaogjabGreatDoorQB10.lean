/- Chapter 2: the reference's check of schemas. Chapter 2: the reference's check of schemas, whole. Chapter 2: the reference's values and levels. -/
import Derived.Test.YtiphlhoclaogjabGreatDoorQB7
import Derived.Test.YtiphlhoclaogjabGreatDoorQB4
import Derived.Test.YtiphlhoclaogjabGreatDoorQSx
import Derived.Test.YtiphlhoclaogjabGreatDoorQB8
set_option linter.unusedVariables false
set_option linter.unnecessarySimpa false
set_option linter.unusedSimpArgs false
namespace Go.Proofs.YtiphlhoclaogjabGreatDoor
open Go Go.Av
attribute [local irreducible] D1 B5 D5 D3 DQ D7 E0 St.le B3 B6
set_option maxRecDepth 100000
theorem AU (n lo hi:Int):B3 Tryz.prog 118 [.i n, .i lo, .i hi] (.b (decide (lo ≤ n ∧ n ≤ hi))):=by
 refine F3 Tryz.func118 15 fun hrd E h0=>?_
 clear hrd
 repeat' ((first|refine A1 ?_|refine S1 ?_|refine Z1 ?_|refine Z2 ?_|(refine And.intro ?_ ?_<;>intro h<;>try first|(exfalso;omega)|exact absurd rfl h)|refine Z3 ?_|refine Z4 ?_|intro el hel hbB|intro el hel|intro ex|refine Z5 ?_|(refine A6 ?_ ?_;exact ⟨by kernel_rfl,by decide⟩)|refine A5 ?_ ?_|exact A4|refine A3 ?_ ?_|exact A2|(refine A0 ?_ ?_ ?_;kernel_rfl;kernel_rfl)) <;> (try (conv=>whnf)))
 all_goals first
  | exact B2 rfl (congrArg AV.b (decide_eq_true (by omega)).symm)
  | exact B2 rfl (congrArg AV.b (decide_eq_false (by omega)).symm)
  | exact B2 rfl (congrArg AV.b (by simp only [*,true_and]))
def Dn (ws:List Int) (k:Nat):Prop:=k ≤ ws.length ∧ ((k = 0) ∨ (0 < k ∧ 1 ≤ ws.getD (k - 1) 0 ∧ U0 ws = Ao (ws.getD (k - 1) 0) (ws.drop k)))
theorem Dn.wat {ws:List Int} {k:Nat} (h:Dn ws k):AC ws k (if k = 0 then 1 else ws.getD (k - 1) 0):=by
 refine ⟨h.1,?_⟩
 rcases h.2 with h2 | h2
 ·left;rw [if_pos h2];exact ⟨h2,rfl⟩
 ·right;rw [if_neg (by omega)];exact h2
theorem Dn.of {ws:List Int} {k:Nat} {w:Int} (hw:ws[k]? = some w) (h:AC ws (k + 1) w):Dn ws (k + 1):=by
 refine ⟨h.1, .inr ?_⟩
 rcases h.2 with h2 | h2
 ·omega
 ·rw [Nat.add_sub_cancel,O2 hw];exact h2
theorem Ua {α:Type} {ws:List α} {k:Nat} {q d:α} (h:0 < (k:Int)) (hq:ws[((k:Int) - 1).toNat]? = some q):ws.getD (k - 1) d = q:=O2 (by rw [← hq];congr 1;omega)
theorem Dn.prev {ws:List Int} {k:Nat} {q:Int} (h:Dn ws k) (h0:0 < (k:Int)) (hq:ws[((k:Int) - 1).toNat]? = some q):AC ws k q ∧ 1 ≤ q:=by
 have h1:=h.wat
 rw [if_neg (by omega),Ua h0 hq] at h1
 exact ⟨h1,h1.pos⟩
set_option maxHeartbeats 4000000 in
theorem KR (c:C1):B3 Tryz.prog 119 [Y3 c] (.i (meaE c)):=by
 have hin1:=AU c.low (-1000000) 1000000
 have hin2:=AU c.high (-1000000) 1000000
 refine F3 Tryz.func119 79 fun hrd E h0=>?_
 have hlen:c.widths.length ≤ 9223372036854775807:=by
  have:=((hrd (Y3 c) (by simp)).agg (.sl 1 (c.widths.map wA)) (by simp)).sl
  simpa using this
 clear hrd
 repeat' ((first | refine A9 hin1 ?_ | refine A9 hin2 ?_ |refine A1 ?_|refine S1 ?_|refine Z1 ?_|refine Z2 ?_|(refine And.intro ?_ ?_<;>intro h<;>try first|(exfalso;omega)|exact absurd rfl h)|refine Z3 ?_|refine Z4 ?_|intro el hel hbB|intro el hel|intro ex|refine Z5 ?_|(refine A6 ?_ ?_;exact ⟨by kernel_rfl,by decide⟩)|refine A5 ?_ ?_|exact A4|refine A3 ?_ ?_|exact A2|(refine A0 ?_ ?_ ?_;kernel_rfl;kernel_rfl)) <;> (try (conv=>whnf)))
 all_goals first
  | (refine B2 rfl (congrArg AV.i ?_);rw [meaE,if_pos (by omega)];done)
  | (refine B2 rfl (congrArg AV.i ?_);rw [meaE,if_neg (by omega),if_pos (by omega)];done)
  | skip
 have hm:meaE c = if U0 c.widths = true then 0 else 2:=by rw [meaE,if_neg (by omega),if_neg (by omega)]
 have hne:c.widths.length ≠ 0:=by omega
 rw [hm]
 refine C5 (ι:=Nat) (fun k=>⟨[(1, .ref 0 0),(3, .i k)],1,[(0,some (.box (C2 c)))]⟩) (fun k=>Dn c.widths k) (fun k=>c.widths.length - k) 0 ⟨Nat.zero_le _, .inl rfl⟩ (A8 h0 rfl ⟨rfl,rfl,trivial⟩ ⟨rfl,trivial⟩ rfl rfl rfl) (fun k hI=>?_)
 have hk:=hI.1
 repeat' ((first | (refine G7 ?_ ?_;(have:=(hI.prev (by assumption) hel).2;omega)) |refine A1 ?_|refine S1 ?_|refine Z1 ?_|refine Z2 ?_|(refine And.intro ?_ ?_<;>intro h<;>try first|(exfalso;omega)|exact absurd rfl h)|refine Z3 ?_|refine Z4 ?_|intro el hel hbB|intro el hel|intro ex|refine Z5 ?_|(refine A6 ?_ ?_;exact ⟨by kernel_rfl,by decide⟩)|refine A5 ?_ ?_|exact A4|refine A3 ?_ ?_|exact A2|(refine A0 ?_ ?_ ?_;kernel_rfl;kernel_rfl)) <;> (try (conv=>whnf)))
 all_goals first
  | exact ⟨k + 1,Dn.of hel (hI.wat.first hel (by omega) (by omega)),by omega,A8 h0 rfl ⟨rfl,rfl,trivial⟩ ⟨rfl,trivial⟩ rfl rfl rfl⟩
  | exact B2 rfl (congrArg AV.i (by rw [hI.wat.bad0 hel (by omega) (by omega)];rfl))
  | exact B2 rfl (congrArg AV.i (by rw [(hI.prev (by assumption) hel).1.bad (by assumption) (by omega) (fun hx=>by first | exact absurd hx.2.1 (by assumption) | omega)];rfl))
  | exact ⟨k + 1,Dn.of (by assumption) ((hI.prev (by assumption) hel).1.next (by assumption) (by omega) (by omega) (Classical.byContradiction (by assumption)) (by omega)),by omega,A8 h0 rfl ⟨rfl,rfl,trivial⟩ ⟨rfl,trivial⟩ rfl rfl rfl⟩
  | exact B2 rfl (congrArg AV.i (by rw [hI.wat.done (by assumption) hne];rfl))
theorem Ub {s:B8} {i:Nat} {c:C1} (hn:D0 c.name = true) (hd:Cf s i c = true):10 = colE s i c:=by
 rw [colE,if_neg (by rw [hn];decide),if_pos hd]
theorem Et {s:B8} {i:Nat} {c:C1} {e:Int} (hn:D0 c.name = true) (hd:Cf s i c = false) (hk:kindE s i c = e) (he:e ≠ 0):e = colE s i c:=by
 rw [colE,if_neg (by rw [hn];decide),if_neg (by rw [hd];decide),hk,if_neg he]
theorem Jy {s:B8} {i:Nat} {c:C1} {b:Bool} (hn:D0 c.name = true) (hd:Cf s i c = false) (hk:kindE s i c = 0) (hu:Af c = b):(if b = true then 0 else 11) = colE s i c:=by
 unfold colE
 simp only [hn,hd,hk,hu,if_true,if_false,Bool.true_eq_false,Bool.false_eq_true]
set_option maxHeartbeats 4000000 in
theorem MY (s:B8) (i:Nat) (c:C1) (hc:s.cols[i]? = some c) (hi2:i < 9223372036854775807):B3 Tryz.prog 92 [sA s, .i i] (.i (colE s i c)):=by
 have hi:=R0 hc
 have hin1:=AU c.kind 1 3
 have hin2:=AU c.lst 0 ((s.lists.length:Int) - 1)
 have hmea:=KR c
 generalize hm:meaE c = m at hmea
 refine F3 Tryz.func92 98 fun hrd E h0=>?_
 obtain ⟨hl1,hl2,hl3⟩:=j6 (s:=s) (hrd _ (by simp))
 clear hrd
 repeat' ((first | (refine A7 (x:=c) (by simpa using hc) (by omega) ?_) | refine A9 (Dd _) ?_ |refine A1 ?_|refine S1 ?_|refine Z1 ?_|refine Z2 ?_|(refine And.intro ?_ ?_<;>intro h<;>try first|(exfalso;omega)|exact absurd rfl h)|refine Z3 ?_|refine Z4 ?_|intro el hel hbB|intro el hel|intro ex|refine Z5 ?_|(refine A6 ?_ ?_;exact ⟨by kernel_rfl,by decide⟩)|refine A5 ?_ ?_|exact A4|refine A3 ?_ ?_|exact A2|(refine A0 ?_ ?_ ?_;kernel_rfl;kernel_rfl)) <;> (try (conv=>whnf)))
 all_goals first
  | (refine B2 rfl (congrArg AV.i ?_);rw [colE,if_pos h];done)
  | skip
 have hn:=h
 clear h
 refine C5 (ι:=Nat) (fun k=>⟨[(1, .i i),(2, .ref 0 0),(5, .ref 1 0),(6, .i k)],2,[(0,some (.box (sL s))),(1,some (.box (C2 c)))]⟩) (fun k=>k ≤ i ∧ W0 (fun x=>decide (x.name = c.name)) (s.cols.take i) k) (fun k=>i - k) 0 ⟨Nat.zero_le _,W0.zero _ _⟩ (A8 h0 rfl ⟨rfl,rfl,rfl,rfl,trivial⟩ ⟨rfl,rfl,trivial⟩ rfl rfl rfl) (fun k hI=>?_)
 obtain ⟨hk,hI⟩:=hI
 have hti:(s.cols.take i).length = i:=by rw [List.length_take];omega
 have htk:∀ el,(k:Int) < i → s.cols[k]? = some el → (s.cols.take i)[k]? = some el:=fun el h1 h2=>by rw [List.getElem?_take_of_lt (by omega)];exact h2
 repeat' ((first | refine A9 hin1 ?_ | refine A9 hin2 ?_ | refine A9 hmea ?_ |refine A1 ?_|refine S1 ?_|refine Z1 ?_|refine Z2 ?_|(refine And.intro ?_ ?_<;>intro h<;>try first|(exfalso;omega)|exact absurd rfl h)|refine Z3 ?_|refine Z4 ?_|intro el hel hbB|intro el hel|intro ex|refine Z5 ?_|(refine A6 ?_ ?_;exact ⟨by kernel_rfl,by decide⟩)|refine A5 ?_ ?_|exact A4|refine A3 ?_ ?_|exact A2|(refine A0 ?_ ?_ ?_;kernel_rfl;kernel_rfl)) <;> (try (conv=>whnf)))
 all_goals first
  | (refine B2 rfl (congrArg AV.i ?_);exact Ub hn (hI.hit (htk _ (by assumption) hel) (decide_eq_true (by assumption))).symm)
  | exact ⟨k + 1,⟨by omega,hI.step (htk _ (by assumption) hel) (decide_eq_false (by assumption))⟩,by omega,A8 h0 rfl ⟨rfl,rfl,rfl,rfl,trivial⟩ ⟨rfl,rfl,trivial⟩ rfl rfl rfl⟩
  | skip
 all_goals
  have hd:Cf s i c = false:=(hI.done (by omega)).symm
  refine B2 rfl (congrArg AV.i ?_)
  clear hI htk hti hin1 hin2 hmea hl3 h0 E hc
 all_goals first
  | exact Et (e:=4) hn hd (by unfold kindE;simp only [hm];(repeat' split) <;> first | rfl | omega) (by decide)
  | exact Et (e:=5) hn hd (by unfold kindE;simp only [hm];(repeat' split) <;> first | rfl | omega) (by decide)
  | exact Et (e:=m) hn hd (by unfold kindE;simp only [hm];(repeat' split) <;> first | rfl | omega) (by assumption)
  | exact Jy (b:=true) hn hd (by unfold kindE;simp only [hm];(repeat' split) <;> first | rfl | omega) (decide_eq_true ⟨by omega,by first | exact .inl (by omega) | exact .inr ⟨by omega,by omega,by omega,by assumption⟩⟩)
  | exact Jy (b:=false) hn hd (by unfold kindE;simp only [hm];(repeat' split) <;> first | rfl | omega) (decide_eq_false (fun hx=>by
    obtain ⟨hx1,hx2⟩:=hx
    rcases hx2 with h3 | ⟨h4,h5,h6,h7⟩
    ·omega
    ·first | omega | exact absurd (h.symm.trans h7) (by decide)))
theorem Uc {ls:List CL} {k:Nat} {el:CL} (h:chk el.1 el.2 = 0) (hd:true = (ls.take k).any fun x=>decide (x.1 = el.1)):U2 ls k el = 10:=by rw [U2,if_pos h,if_pos hd.symm]
theorem Ww {ls:List CL} {k:Nat} {el:CL} (h:chk el.1 el.2 = 0) (hd:false = (ls.take k).any fun x=>decide (x.1 = el.1)):U2 ls k el = 0:=by rw [U2,if_pos h,if_neg (by rw [← hd];decide)]
set_option maxHeartbeats 4000000 in
theorem Eu (s:B8):B3 Tryz.prog 63 [sA s] (.i (F8 s)):=by
 refine F3 Tryz.func63 77 fun hrd E h0=>?_
 obtain ⟨hl1,hl2,hl3⟩:=j6 (s:=s) (hrd _ (by simp))
 clear hrd
 repeat' ((first|refine A1 ?_|refine S1 ?_|refine Z1 ?_|refine Z2 ?_|(refine And.intro ?_ ?_<;>intro h<;>try first|(exfalso;omega)|exact absurd rfl h)|refine Z3 ?_|refine Z4 ?_|intro el hel hbB|intro el hel|intro ex|refine Z5 ?_|(refine A6 ?_ ?_;exact ⟨by kernel_rfl,by decide⟩)|refine A5 ?_ ?_|exact A4|refine A3 ?_ ?_|exact A2|(refine A0 ?_ ?_ ?_;kernel_rfl;kernel_rfl)) <;> (try (conv=>whnf)))
 all_goals first
  | exact B2 rfl (congrArg AV.i (by rw [F8,if_pos (by omega)]))
  | skip
 have hs:F8 s = if K8 (U2 s.lists) 0 s.lists = 0 then (if s.cols.head?.map (·.kind) = some 1 then K8 (colE s) 0 s.cols else 7) else K8 (U2 s.lists) 0 s.lists:=by rw [F8,if_neg (by omega)]
 rw [hs]
 refine C5 (ι:=Nat) (fun k=>⟨[(1, .ref 0 0),(3, .i k)],1,[(0,some (.box (sL s)))]⟩) (fun k=>V9 (U2 s.lists) s.lists k) (fun k=>s.lists.length - k) 0 (V9.zero _ _) (A8 h0 rfl ⟨rfl,rfl,trivial⟩ ⟨rfl,trivial⟩ rfl rfl rfl) (fun k hI=>?_)
 have hk:=hI.1
 repeat' ((first | refine A9 (Ae _ _ (hl3 _ (List.mem_of_getElem? hel))) ?_ |refine A1 ?_|refine S1 ?_|refine Z1 ?_|refine Z2 ?_|(refine And.intro ?_ ?_<;>intro h<;>try first|(exfalso;omega)|exact absurd rfl h)|refine Z3 ?_|refine Z4 ?_|intro el hel hbB|intro el hel|intro ex|refine Z5 ?_|(refine A6 ?_ ?_;exact ⟨by kernel_rfl,by decide⟩)|refine A5 ?_ ?_|exact A4|refine A3 ?_ ?_|exact A2|(refine A0 ?_ ?_ ?_;kernel_rfl;kernel_rfl)) <;> (try (conv=>whnf)))
 all_goals first
  | (refine B2 rfl (congrArg AV.i ?_)
     have he:U2 s.lists k el = chk el.1 el.2:=by rw [U2,if_neg (by assumption)]
     rw [← hI.hit hel (by rw [he];assumption),he,if_neg (by assumption)];done)
  | (have hd:=hI.done (by assumption)
     refine B2 rfl (congrArg AV.i ?_)
     rw [if_pos hd,if_neg]
     intro hx
     rw [List.head?_eq_getElem?] at hx
     first
      | (rw [show s.cols[0]? = none from List.getElem?_eq_none (by omega)] at hx;cases hx)
      | (have hel':s.cols[0]? = some el:=hel
         rw [hel'] at hx
         have:=Option.some.inj hx
         exact absurd this (by assumption)))
  | skip
 ·have hc0:chk el.1 el.2 = 0:=Classical.byContradiction (by assumption)
  refine C5 (ι:=Nat) (fun j=>⟨[(1, .ref 0 0),(3, .i k),(5, .i j)],1,[(0,some (.box (sL s)))]⟩) (fun j=>j ≤ k ∧ W0 (fun x=>decide (x.1 = el.1)) (s.lists.take k) j) (fun j=>k - j) 0 ⟨Nat.zero_le _,W0.zero _ _⟩ (A8 h0 rfl ⟨rfl,rfl,rfl,trivial⟩ ⟨rfl,trivial⟩ rfl rfl rfl) (fun j hJ=>?_)
  obtain ⟨hj,hJ⟩:=hJ
  have htk:∀ x,(j:Int) < k → s.lists[j]? = some x → (s.lists.take k)[j]? = some x:=fun x h1 h2=>by rw [List.getElem?_take_of_lt (by omega)];exact h2
  have hel0:=hel
  have hti:(s.lists.take k).length = k:=by rw [List.length_take];omega
  repeat' ((first | (refine A7 (x:=el) hel0 (by omega) ?_) |refine A1 ?_|refine S1 ?_|refine Z1 ?_|refine Z2 ?_|(refine And.intro ?_ ?_<;>intro h<;>try first|(exfalso;omega)|exact absurd rfl h)|refine Z3 ?_|refine Z4 ?_|intro el hel hbB|intro el hel|intro ex|refine Z5 ?_|(refine A6 ?_ ?_;exact ⟨by kernel_rfl,by decide⟩)|refine A5 ?_ ?_|exact A4|refine A3 ?_ ?_|exact A2|(refine A0 ?_ ?_ ?_;kernel_rfl;kernel_rfl)) <;> (try (conv=>whnf)))
  all_goals first
   | exact ⟨j + 1,⟨by omega,hJ.step (htk _ (by assumption) hel) (decide_eq_false (by assumption))⟩,by omega,A8 h0 rfl ⟨rfl,rfl,rfl,trivial⟩ ⟨rfl,trivial⟩ rfl rfl rfl⟩
   | (refine B2 rfl (congrArg AV.i ?_)
      have he:=Uc hc0 (hJ.hit (htk _ (by assumption) hel) (decide_eq_true (by assumption)))
      rw [← hI.hit hel0 (by rw [he];decide),he];rfl)
   | exact ⟨k + 1,hI.step hel0 (Ww hc0 (hJ.done (by omega))),by omega,A8 h0 rfl ⟨rfl,rfl,trivial⟩ ⟨rfl,trivial⟩ rfl rfl rfl⟩
 have hd:=hI.done (by assumption)
 have hh:s.cols.head?.map (·.kind) = some 1:=by
  rw [List.head?_eq_getElem?]
  have hel':s.cols[0]? = some el:=hel
  rw [hel']
  exact congrArg some (Classical.byContradiction (by assumption))
 rw [if_pos hd,if_pos hh]
 refine C5 (ι:=Nat) (fun k=>⟨[(1, .ref 0 0),(6, .i k)],1,[(0,some (.box (sL s)))]⟩) (fun k=>V9 (colE s) s.cols k) (fun k=>s.cols.length - k) 0 (V9.zero _ _) (A8 h0 rfl ⟨rfl,rfl,trivial⟩ ⟨rfl,trivial⟩ rfl rfl rfl) (fun k hI=>?_)
 have hk:=hI.1
 have hcol:=fun (h:(k:Int) < s.cols.length)=>MY s k (s.cols[k]'(by omega)) (List.getElem?_eq_getElem (by omega)) (by omega)
 repeat' ((first | refine A9 (hcol (by assumption)) ?_ |refine A1 ?_|refine S1 ?_|refine Z1 ?_|refine Z2 ?_|(refine And.intro ?_ ?_<;>intro h<;>try first|(exfalso;omega)|exact absurd rfl h)|refine Z3 ?_|refine Z4 ?_|intro el hel hbB|intro el hel|intro ex|refine Z5 ?_|(refine A6 ?_ ?_;exact ⟨by kernel_rfl,by decide⟩)|refine A5 ?_ ?_|exact A4|refine A3 ?_ ?_|exact A2|(refine A0 ?_ ?_ ?_;kernel_rfl;kernel_rfl)) <;> (try (conv=>whnf)))
 all_goals first
  | exact ⟨k + 1,hI.step (List.getElem?_eq_getElem (by omega)) (Classical.byContradiction (by assumption)),by omega,A8 h0 rfl ⟨rfl,rfl,trivial⟩ ⟨rfl,trivial⟩ rfl rfl rfl⟩
  | exact B2 rfl (congrArg AV.i (hI.hit (List.getElem?_eq_getElem (by omega)) (by assumption)))
  | exact B2 rfl (congrArg AV.i (hI.done (by assumption)).symm)
theorem Pi {nm:List UInt8} {cs:List Code} (h:chk nm cs = 0) {v:Int} (hv:0 ≤ v ∧ v < cs.length):decide (An nm cs v = E8 nm cs - 1) = P7 cs v:=by
 obtain ⟨n,rfl⟩:=Int.eq_ofNat_of_zero_le hv.1
 have:=Hq h (v:=n) (by omega)
 cases hl:P7 cs n with
 | true=>exact decide_eq_true (this.2 hl)
 | false=>exact decide_eq_false (fun e=>by have:=this.1 e;rw [hl] at this;cases this)
set_option maxHeartbeats 4000000 in
theorem NY (s:B8) (column v:Int) (hr:F8 s = 0) {c:C1} (hc0:0 ≤ column) (hc:s.cols[column.toNat]? = some c):B3 Tryz.prog 93 [sA s, .i column, .i v] (.b (M0 s c v)):=by
 have hi:=R0 hc
 have hlst:=fun hk=>Ls.lst hr (List.mem_of_getElem? hc) hk
 have hin1:=AU v 1 1048575
 have hin2:=fun n:Nat=>AU v 0 ((n:Int) - 1)
 have hin3:=AU v c.low c.high
 have hchk:=(F7 hr).2.2.1
 have hlev:=fun (l:CL) (hl:s.lists[c.lst.toNat]? = some l)=>NV l.1 l.2 v (by have:=(K9 (hchk l (List.mem_of_getElem? hl))).2.2;omega)
 have hlevs:=fun (l:CL) (hl:s.lists[c.lst.toNat]? = some l)=>Eg l.1 l.2 (by have:=(K9 (hchk l (List.mem_of_getElem? hl))).2.2;omega)
 have hbd:=fun (l:CL) (hl:s.lists[c.lst.toNat]? = some l)=>And.intro (K9 (hchk l (List.mem_of_getElem? hl))).2 (Hk (nm:=l.1) (cs:=l.2) (by have:=(K9 (hchk l (List.mem_of_getElem? hl))).2.2;omega))
 refine F3 Tryz.func93 57 fun hrd E h0=>?_
 clear hrd
 repeat' ((first | (refine A7 (x:=c) hc (by omega) ?_) | refine A9 hin1 ?_ | refine A9 (hin2 _) ?_ | refine A9 hin3 ?_ | refine A9 (hlev _ hlx) ?_ | refine A9 (hlevs _ hlx) ?_ | (refine G3 ?_ ?_;kernel_rfl) | (refine DN ?_ ?_ (fun lx hlx=>?_);(have:=hlst (by assumption);omega);(have:=hlst (by assumption);omega)) | (refine G7 ?_ ?_;(have:=hbd _ hlx;omega)) |refine A1 ?_|refine S1 ?_|refine Z1 ?_|refine Z2 ?_|(refine And.intro ?_ ?_<;>intro h<;>try first|(exfalso;omega)|exact absurd rfl h)|refine Z3 ?_|refine Z4 ?_|intro el hel hbB|intro el hel|intro ex|refine Z5 ?_|(refine A6 ?_ ?_;exact ⟨by kernel_rfl,by decide⟩)|refine A5 ?_ ?_|exact A4|refine A3 ?_ ?_|exact A2|(refine A0 ?_ ?_ ?_;kernel_rfl;kernel_rfl)) <;> (try (conv=>whnf)))
 all_goals refine B2 rfl (congrArg AV.b ?_)
 all_goals first
  | (rw [M0,if_pos (by assumption)];done)
  | (rw [M0,if_neg (by assumption),if_pos (by assumption),P4 hlx,decide_eq_false (p:=0 ≤ v ∧ v < (lx.2.length:Int)) (by omega),Bool.false_and];done)
  | (rw [M0,if_neg (by assumption),if_pos (by assumption),P4 hlx,decide_eq_true (p:=0 ≤ v ∧ v < (lx.2.length:Int)) (by omega),Bool.true_and,Pi (hchk lx (List.mem_of_getElem? hlx)) (by omega)];done)
  | (rw [M0,if_neg (by assumption),if_neg (by assumption)];simp only [*,Bool.true_and,Bool.false_and,decide_true,decide_false,Bool.or_true,Bool.or_false,Bool.false_or,Bool.true_or];done)
end Go.Proofs.YtiphlhoclaogjabGreatDoor
namespace Go.Proofs.YtiphlhoclaogjabGreatDoor
open Go Go.Av
attribute [local irreducible] D1 B5 D5 D3 DQ D7 E0 St.le B3 B6
set_option maxRecDepth 100000
set_option maxHeartbeats 4000000 in
theorem Rv (s:B8) (row:List Int):B3 Tryz.prog 64 [sA s, .sl 1 (row.map wA)] (.i (Cg s row)):=by
 refine F3 Tryz.func64 32 fun hrd E h0=>?_
 have hlen:row.length ≤ 9223372036854775807:=by have:=(hrd (.sl 1 (row.map wA)) (by simp)).sl;simpa using this
 clear hrd
 repeat' ((first | refine A9 (Eu s) ?_ |refine A1 ?_|refine S1 ?_|refine Z1 ?_|refine Z2 ?_|(refine And.intro ?_ ?_<;>intro h<;>try first|(exfalso;omega)|exact absurd rfl h)|refine Z3 ?_|refine Z4 ?_|intro el hel hbB|intro el hel|intro ex|refine Z5 ?_|(refine A6 ?_ ?_;exact ⟨by kernel_rfl,by decide⟩)|refine A5 ?_ ?_|exact A4|refine A3 ?_ ?_|exact A2|(refine A0 ?_ ?_ ?_;kernel_rfl;kernel_rfl)) <;> (try (conv=>whnf)))
 all_goals first
  | exact B2 rfl (congrArg AV.i (by rw [Cg,if_neg (by assumption)]))
  | exact B2 rfl (congrArg AV.i (by rw [Cg,if_pos (Classical.byContradiction (by assumption)),if_neg];unfold I4;rw [decide_eq_false (by omega)];exact Bool.false_ne_true))
  | skip
 have hr:F8 s = 0:=Classical.byContradiction (by assumption)
 have hz:(s.cols.zip row).length = row.length:=by rw [List.length_zip];omega
 have hfb:Cg s row = if (!((s.cols.zip row).any (w9 s))) = true then 0 else 9:=by rw [Cg,if_pos hr,I4,decide_eq_true (by omega),Bool.true_and]
 rw [hfb]
 refine C5 (ι:=Nat) (fun k=>⟨[(1, .sl 1 (row.map wA)),(2, .ref 0 0),(6, .i k)],1,[(0,some (.box (sL s)))]⟩) (fun k=>W0 (w9 s) (s.cols.zip row) k) (fun k=>row.length - k) 0 (W0.zero _ _) (A8 h0 rfl ⟨rfl,rfl,rfl,trivial⟩ ⟨rfl,trivial⟩ rfl rfl rfl) (fun k hI=>?_)
 have hk:=hI.1
 have hfit:=fun (v:Int) (hk:(k:Int) < row.length)=>NY s k v hr (c:=s.cols[k]'(by omega)) (by omega) (by rw [Int.toNat_natCast];exact List.getElem?_eq_getElem (by omega))
 repeat' ((first | refine A9 (hfit _ (by assumption)) ?_ | (refine G3 ?_ ?_;kernel_rfl) |refine A1 ?_|refine S1 ?_|refine Z1 ?_|refine Z2 ?_|(refine And.intro ?_ ?_<;>intro h<;>try first|(exfalso;omega)|exact absurd rfl h)|refine Z3 ?_|refine Z4 ?_|intro el hel hbB|intro el hel|intro ex|refine Z5 ?_|(refine A6 ?_ ?_;exact ⟨by kernel_rfl,by decide⟩)|refine A5 ?_ ?_|exact A4|refine A3 ?_ ?_|exact A2|(refine A0 ?_ ?_ ?_;kernel_rfl;kernel_rfl)) <;> (try (conv=>whnf)))
 all_goals first
  | (refine B2 rfl (congrArg AV.i ?_)
     rw [← hI.hit (BV (List.getElem?_eq_getElem (by omega)) hel) (by simp only [w9, *];rfl)];rfl)
  | exact ⟨k + 1,hI.step (BV (List.getElem?_eq_getElem (by omega)) hel) (by simp only [w9, *];rfl),by omega,A8 h0 rfl ⟨rfl,rfl,rfl,trivial⟩ ⟨rfl,trivial⟩ rfl rfl rfl⟩
  | (refine B2 rfl (congrArg AV.i ?_)
     rw [← hI.done (by omega)];rfl)
end Go.Proofs.YtiphlhoclaogjabGreatDoor
namespace Go.Proofs.YtiphlhoclaogjabGreatDoor
open Go Go.Av
attribute [local irreducible] D1 B5 D5 D3 DQ D7 E0 St.le B3 B6
set_option maxRecDepth 100000
end Go.Proofs.YtiphlhoclaogjabGreatDoor
