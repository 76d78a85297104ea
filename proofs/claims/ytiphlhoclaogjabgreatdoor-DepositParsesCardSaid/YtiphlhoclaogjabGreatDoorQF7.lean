/- Chapter 3: the texts of files. -/
import Derived.Test.YtiphlhoclaogjabGreatDoorQKa0
import Derived.Test.YtiphlhoclaogjabGreatDoorQSb
import Derived.Test.YtiphlhoclaogjabGreatDoorQRp1
import Derived.Test.YtiphlhoclaogjabGreatDoorQE3
set_option linter.unusedVariables false
set_option linter.unnecessarySimpa false
set_option linter.unusedSimpArgs false
namespace Go.Proofs.YtiphlhoclaogjabGreatDoor
open Go Go.Av
attribute [local irreducible] D6 B8 D8 D7 DQ E0 E1 St.le B4 B9
set_option maxRecDepth 100000
abbrev I8:List UInt8:=[108,105,115,116]
abbrev W0:List UInt8:=[99,111,100,101]
abbrev U6:List UInt8:=[105,100]
abbrev O2:List UInt8:=[99,111,100,101,100]
abbrev L4:List UInt8:=[109,101,97,115,117,114,101]
abbrev G8:List UInt8:=[110,101,101,100]
abbrev H2:List UInt8:=[109,97,121]
abbrev N3:List UInt8:=[114,111,119]
abbrev CJ:List UInt8:=[110,97]
abbrev L7:List UInt8:=[115,117,109]
def C7 (ws:List (List UInt8)):List UInt8:=Lib.join ws [32] ++ [10]
def N1 (c:Code):List (List UInt8):=[W0,c.name,Lib.itoa c.parent]
def Z6 (l:CL):List UInt8:=C7 [I8,l.1] ++ l.2.flatMap fun c=>C7 (N1 c)
def Bm (c:C5):List (List UInt8):=[L4,c.name,Lib.itoa c.low,Lib.itoa c.high,if c.opt = true then H2 else G8] ++ c.widths.map Lib.itoa
def D9 (c:C5):List (List UInt8):=if c.kind = 1 then [U6,c.name] else if c.kind = 2 then [O2,c.name,Lib.itoa c.lst] else Bm c
def AE (s:C4):List UInt8:=s.lists.flatMap Z6 ++ s.cols.flatMap fun c=>C7 (D9 c)
def N8 (s:C4) (q:C5 × Int):List UInt8 :=
 if q.1.kind = 2 then ((E4 s q.1).2.getD q.2.toNat ⟨[],0⟩).name else if q.1.kind = 3 ∧ q.2 = (-1099511627776) then CJ else Lib.itoa q.2
def f0 (s:C4) (row:List Int):List (List UInt8):=N3 :: (s.cols.zip row).map (N8 s)
def W1 (s:C4) (row:List Int):List UInt8:=C7 (f0 s row)
def N4 (s:C4) (rows:List (List Int)):List UInt8:=AE s ++ rows.flatMap (W1 s)
def r8 (t:List UInt8):List (List UInt8):=[L7,Lib.itoa (R7 t)]
def m8 (s:C4) (rows:List (List Int)):List UInt8:=N4 s rows ++ C7 (r8 (N4 s rows))
theorem W8 (ws:List (List UInt8)) (B:Nat) (h:∀ w ∈ ws,w.length ≤ B):(Lib.join ws [32]).length ≤ ws.length * (B + 1):=by
 cases ws with
 | nil=>simp [Lib.join_nil]
 | cons x r =>
   rw [Lib.join_cons,List.length_append,List.length_cons,Nat.add_mul,Nat.one_mul]
   have h1:=h x (by simp)
   have key:∀ r:List (List UInt8),(∀ w ∈ r,w.length ≤ B) → (Lib.joinTail [32] r).length ≤ r.length * (B + 1):=by
    intro r
    induction r with
    | nil=>intro _;simp [Lib.joinTail]
    | cons y r ih =>
      intro h
      have h2:=ih fun w hw=>h w (by simp [hw])
      have h3:=h y (by simp)
      unfold Lib.joinTail at h2 ⊢
      simp only [List.map_cons,List.flatten_cons,List.length_append,List.length_cons,List.length_nil,Nat.add_mul,Nat.one_mul] at h2 ⊢
      omega
   have h2:=key r fun w hw=>h w (by simp [hw])
   omega
theorem U5 {ws:List (List UInt8)} {B:Nat} (h:∀ w ∈ ws,w.length ≤ B):(C7 ws).length ≤ ws.length * (B + 1) + 1:=by
 unfold C7
 rw [List.length_append]
 have:=W8 ws B h
 simpa using this
theorem BT (ws:List (List UInt8)):C7 ws ≠ []:=by unfold C7;simp
theorem d6 {α:Type} {f:α → List UInt8} {B:Nat}:∀ {l:List α},(∀ x ∈ l,(f x).length ≤ B) → (l.flatMap f).length ≤ l.length * B
 | [],_=>by simp
 | x :: r,h=>by
   rw [List.flatMap_cons,List.length_append,List.length_cons,Nat.add_mul,Nat.one_mul]
   have h1:=h x (by simp)
   have h2:=d6 (l:=r) fun y hy=>h y (by simp [hy])
   omega
theorem RU {nm:List UInt8} {cs:List Code} (h:chk nm cs = 0):scan [] cs = none:=by
 unfold chk at h
 split at h
 ·cases h
 split at h
 ·cases h
 split at h
 ·cases h
 cases hs:scan [] cs with
 | some e =>
   rw [hs] at h
   dsimp only at h
   subst h
   exact absurd hs (Et cs [])
 | none=>rfl
theorem FZ {nm:List UInt8} {cs:List Code} (h:chk nm cs = 0) {c:Code} (hc:c ∈ cs):c.name.length ≤ 16 ∧ -1 ≤ c.parent ∧ c.parent ≤ 60:=by
 obtain ⟨i,hi,rfl⟩:=List.getElem_of_mem hc
 have h1:=Ar (RQ h _ (List.getElem_mem hi))
 have h2:=De cs [] (RU h) i _ (List.getElem?_eq_getElem hi)
 have h3:=(M3 h).2.2
 refine ⟨h1,?_⟩
 simp only [Aw,List.length_nil,Nat.zero_add] at h2
 split at h2
 ·rw [decide_eq_false_iff_not] at h2
  have:=Decidable.of_not_not h2
  omega
 ·rw [decide_eq_false_iff_not] at h2
  omega
theorem Iu {nm:List UInt8} {cs:List Code} (h:chk nm cs = 0) {c:Code} (hc:c ∈ cs):∀ w ∈ N1 c,w.length ≤ 21:=by
 obtain ⟨h1,h2,h3⟩:=FZ h hc
 have h4:=Lib.itoa_length_le c.parent (by omega) (by omega)
 intro w hw
 simp only [N1,List.mem_cons,List.not_mem_nil,or_false] at hw
 rcases hw with rfl | rfl | rfl
 ·decide
 ·omega
 ·exact h4
theorem Cu {s:C4} (hr:H6 s = 0) {c:C5} (hc:c ∈ s.cols):c.name.length ≤ 16 ∧ (c.kind = 2 → 0 ≤ c.lst ∧ c.lst < s.lists.length) ∧ (c.kind ≠ 1 → c.kind ≠ 2 → meaE c = 0):=by
 obtain ⟨i,hi,rfl⟩:=List.getElem_of_mem hc
 obtain ⟨h1,_,h3,_⟩:=Df ((J7 hr).2.2.2.1 i _ (List.getElem?_eq_getElem hi))
 refine ⟨Ar h1,fun h=>Hg h3 h,fun h2 h4=>?_⟩
 rcases GC h3 with h5 | h5 | h5
 ·exact absurd h5.1 h2
 ·exact absurd h5 h4
 ·exact RB h3 h5
theorem Tv {c:C5} (h16:c.name.length ≤ 16) (hm:meaE c = 0):(∀ w ∈ Bm c,w.length ≤ 21) ∧ (Bm c).length ≤ 9:=by
 obtain ⟨m1,m2,m3,m4,m5,m6⟩:=w8 hm
 have hw:=CG m6
 have h4:=Lib.itoa_length_le c.low (by omega) (by omega)
 have h5:=Lib.itoa_length_le c.high (by omega) (by omega)
 refine ⟨fun w hw2=>?_,by simp only [Bm,List.length_append,List.length_cons,List.length_nil,List.length_map];omega⟩
 simp only [Bm,List.mem_append,List.mem_cons,List.not_mem_nil,or_false,List.mem_map] at hw2
 rcases hw2 with (rfl | rfl | rfl | rfl | rfl) | ⟨x,hx,rfl⟩
 ·decide
 ·omega
 ·exact h4
 ·exact h5
 ·split <;> decide
 ·have:=hw x hx
  exact Lib.itoa_length_le x (by omega) (by omega)
theorem Gd {s:C4} (hr:H6 s = 0) {c:C5} (hc:c ∈ s.cols):(∀ w ∈ D9 c,w.length ≤ 21) ∧ (D9 c).length ≤ 9:=by
 obtain ⟨h1,h2,h3⟩:=Cu hr hc
 unfold D9
 split
 ·refine ⟨fun w hw=>?_,by simp⟩
  simp only [List.mem_cons,List.not_mem_nil,or_false] at hw
  rcases hw with rfl | rfl
  ·decide
  ·omega
 ·split
  ·rename_i h4
   have h5:=h2 h4
   have h6:=(J7 hr).1
   have h7:=Lib.itoa_length_le c.lst (by omega) (by omega)
   refine ⟨fun w hw=>?_,by simp⟩
   simp only [List.mem_cons,List.not_mem_nil,or_false] at hw
   rcases hw with rfl | rfl | rfl
   ·decide
   ·omega
   ·exact h7
  ·rename_i h4 h5
   exact Tv h1 (h3 h4 h5)
theorem Iv {s:C4} (hr:H6 s = 0) {l:CL} (hl:l ∈ s.lists):(Z6 l).length ≤ 4100:=by
 have hch:=(J7 hr).2.2.1 l hl
 have h60:=(M3 hch).2.2
 have hn:l.1.length ≤ 16:=by
  have:E7 l.1 = true:=by
   cases hb:E7 l.1 with
   | true=>rfl
   | false=>rw [← Bh (cs:=l.2) hb] at hch;cases hch
  exact Ar this
 have h1:(C7 [I8,l.1]).length ≤ 2 * 22 + 1:=U5 (B:=21) fun w hw=>by
  simp only [List.mem_cons,List.not_mem_nil,or_false] at hw
  rcases hw with rfl | rfl
  ·decide
  ·omega
 have h2:(l.2.flatMap fun c=>C7 (N1 c)).length ≤ l.2.length * 67:=d6 fun c hc=>U5 (B:=21) (Iu hch hc)
 unfold Z6
 rw [List.length_append]
 omega
theorem Iw {s:C4} (hr:H6 s = 0):(AE s).length ≤ 26300:=by
 obtain ⟨h1,h2,_⟩:=J7 hr
 have h3:(s.lists.flatMap Z6).length ≤ s.lists.length * 4100:=d6 fun l hl=>Iv hr hl
 have h4:(s.cols.flatMap fun c=>C7 (D9 c)).length ≤ s.cols.length * 199:=d6 fun c hc=>by
  obtain ⟨q1,q2⟩:=Gd hr hc
  have:=U5 q1
  have:=Nat.mul_le_mul_right 22 q2
  omega
 unfold AE
 rw [List.length_append]
 omega
theorem Bn {s:C4} {row:List Int} (h:J8 s row = true):row.length = s.cols.length ∧ ∀ q ∈ s.cols.zip row,P2 s q.1 q.2 = true:=by
 simp only [J8,Bool.and_eq_true,decide_eq_true_eq,Bool.not_eq_true',List.any_eq_false] at h
 refine ⟨h.1,fun q hq=>?_⟩
 have:=h.2 q hq
 simpa [w9] using this
theorem Dl {s:C4} (hr:H6 s = 0) {q:C5 × Int} (hq:q.1 ∈ s.cols) (hh:P2 s q.1 q.2 = true):(N8 s q).length ≤ 21 ∧ (q.1.kind = 2 → 0 ≤ q.2 ∧ q.2 < (E4 s q.1).2.length) ∧ (q.1.kind ≠ 2 → -1099511627776 ≤ q.2 ∧ q.2 ≤ 1048575):=by
 obtain ⟨h1,h2,h3⟩:=Cu hr hq
 unfold P2 at hh
 unfold N8
 by_cases k2:q.1.kind = 2
 ·rw [if_neg (by omega),if_pos k2] at hh
  simp only [Bool.and_eq_true,decide_eq_true_eq] at hh
  obtain ⟨hh1,_⟩:=hh
  rw [if_pos k2]
  refine ⟨?_,fun _=>hh1,fun h=>absurd k2 h⟩
  obtain ⟨g1,g2⟩:=h2 k2
  have hmem:s.lists[q.1.lst.toNat]? = some (s.lists[q.1.lst.toNat]'(by omega)):=List.getElem?_eq_getElem _
  have hl:=V9 hmem
  have hch:=(J7 hr).2.2.1 _ (List.mem_of_getElem? hmem)
  rw [hl] at hh1 ⊢
  have hc:(s.lists[q.1.lst.toNat]'(by omega)).2[q.2.toNat]? = some ((s.lists[q.1.lst.toNat]'(by omega)).2[q.2.toNat]'(by omega)):=List.getElem?_eq_getElem _
  rw [U3 hc]
  have:=(FZ hch (List.mem_of_getElem? hc)).1
  omega
 ·rw [if_neg k2]
  have hb:-1099511627776 ≤ q.2 ∧ q.2 ≤ 1048575:=by
   by_cases k1:q.1.kind = 1
   ·rw [if_pos k1] at hh
    have:=of_decide_eq_true hh
    omega
   ·rw [if_neg k1,if_neg k2] at hh
    obtain ⟨m1,m2,m3,_⟩:=w8 (h3 k1 k2)
    simp only [Bool.or_eq_true,Bool.and_eq_true,decide_eq_true_eq] at hh
    rcases hh with hh | ⟨_,hh⟩ <;> omega
  refine ⟨?_,fun h=>absurd h k2,fun _=>hb⟩
  split
  ·decide
  ·exact Lib.itoa_length_le _ (by omega) (by omega)
theorem Cv {s:C4} (hr:H6 s = 0) {row:List Int} (hf:J8 s row = true):(∀ w ∈ f0 s row,w.length ≤ 21) ∧ (f0 s row).length ≤ 9 ∧ (W1 s row).length ≤ 199:=by
 obtain ⟨h1,h2⟩:=Bn hf
 have h8:=(J7 hr).2.1
 have a1:∀ w ∈ f0 s row,w.length ≤ 21:=by
  intro w hw
  simp only [f0,List.mem_cons,List.mem_map] at hw
  rcases hw with rfl | ⟨q,hq,rfl⟩
  ·decide
  ·exact (Dl hr (List.of_mem_zip hq).1 (h2 q hq)).1
 have a2:(f0 s row).length ≤ 9:=by simp only [f0,List.length_cons,List.length_map,List.length_zip];omega
 refine ⟨a1,a2,?_⟩
 have:=U5 a1
 have:=Nat.mul_le_mul_right 22 a2
 unfold W1
 omega
theorem j8 (ws:List (List UInt8)) (hN:ws.length ≤ 140737488355328) (hlen:(Lib.join ws [32]).length ≤ 140737488355328):B4 Tryz.prog 30 [.sl 1 (ws.map C1)] (.str (C7 ws)):=by
 have h1:=Qo ws [32] hN hlen
 unfold C7
 generalize Lib.join ws [32] = t at *
 refine F3 Tryz.func30 6 fun hrd E h0=>?_
 clear hrd
 repeat' ((first | (refine G9 ?_ ?_;(show t.length + 1 ≤ _;omega)) | refine B2 h1 ?_ |refine A4 ?_|refine S1 ?_|refine Z1 ?_|refine Z2 ?_|(refine And.intro ?_ ?_<;>intro h<;>try first|(exfalso;omega)|exact absurd rfl h)|refine Z3 ?_|refine Z4 ?_|intro el hel hbB|intro el hel|intro ex|refine Z5 ?_|(refine A9 ?_ ?_;exact ⟨by kernel_rfl,by decide⟩)|refine A8 ?_ ?_|exact A7|refine A6 ?_ ?_|exact A5|(refine A0 ?_ ?_ ?_;kernel_rfl;kernel_rfl)) <;> (try (conv=>whnf)))
 all_goals first
  | exact B5 rfl rfl
  | (exfalso;omega)
end Go.Proofs.YtiphlhoclaogjabGreatDoor
namespace Go.Proofs.YtiphlhoclaogjabGreatDoor
open Go Go.Av
attribute [local irreducible] D6 B8 D8 D7 DQ E0 E1 St.le B4 B9
set_option maxRecDepth 100000
abbrev m9:Nat:=9
set_option maxHeartbeats 8000000 in
theorem MI (s:C4) (hr:H6 s = 0) (row:List Int) (hf:J8 s row = true):B4 Tryz.prog 29 [sA s, .sl 1 (row.map wA)] (.str (W1 s row)):=by
 obtain ⟨hl,hh⟩:=Bn hf
 obtain ⟨b1,b2,b3⟩:=Cv hr hf
 have hj:=W8 (f0 s row) 21 b1
 have hj2:=Nat.mul_le_mul_right 22 b2
 have hline:=j8 (f0 s row) (by omega) (by omega)
 have h8:=(J7 hr).2.1
 have hzl:(s.cols.zip row).length = row.length:=by rw [List.length_zip];omega
 have hval:∀ q ∈ s.cols.zip row,_:=fun q hq=>Dl hr (List.of_mem_zip hq).1 (hh q hq)
 have hcol:∀ q ∈ s.cols.zip row,_:=fun q hq=>Cu hr (List.of_mem_zip hq).1
 clear hh b1 b2 b3 hj hj2
 refine F3 Tryz.func29 59 fun hrd E h0=>?_
 clear hrd
 repeat' ((first | refine Z0 (T:=45) rfl ?_ |refine A4 ?_|refine S1 ?_|refine Z1 ?_|refine Z2 ?_|(refine And.intro ?_ ?_<;>intro h<;>try first|(exfalso;omega)|exact absurd rfl h)|refine Z3 ?_|refine Z4 ?_|intro el hel hbB|intro el hel|intro ex|refine Z5 ?_|(refine A9 ?_ ?_;exact ⟨by kernel_rfl,by decide⟩)|refine A8 ?_ ?_|exact A7|refine A6 ?_ ?_|exact A5|(refine A0 ?_ ?_ ?_;kernel_rfl;kernel_rfl)) <;> (try (conv=>whnf)))
 refine C2 (ι:=Nat) (fun k=>⟨[(2, .ref 0 0),(5, .row 1 0 (k + 1)),(10, .sl 1 (row.map wA)),(11, .i row.length),(12, .i k)],2,[(0,some (.box (sL s))),(1,some (.row m9 1 0 ((N3 :: ((s.cols.zip row).take k).map (N8 s)).map C1)))]⟩) (fun k=>k ≤ row.length) (fun k=>row.length - k) 0 (Nat.zero_le _) (B0 h0 rfl ⟨rfl,rfl,rfl,rfl,rfl,trivial⟩ ⟨rfl,⟨_,rfl⟩,trivial⟩ rfl rfl rfl) (fun k hk=>?_)
 by_cases hlt:k < row.length
 ·obtain ⟨v,hv⟩:∃ v,row[k]? = some v:=⟨_,List.getElem?_eq_getElem hlt⟩
  obtain ⟨c,hc⟩:∃ c,s.cols[k]? = some c:=⟨_,List.getElem?_eq_getElem (by omega)⟩
  have hz:=BS hc hv
  have hw:=hval _ (List.mem_of_getElem? hz)
  have hcb:=hcol _ (List.mem_of_getElem? hz)
  have htk:((s.cols.zip row).take (k + 1)).map (N8 s) = ((s.cols.zip row).take k).map (N8 s) ++ [N8 s (c,v)]:=by rw [Q2 hz,List.map_append];rfl
  have hlen:(((s.cols.zip row).take k).map (N8 s)).length = k:=by rw [List.length_map,List.length_take];omega
  dsimp only at hw hcb
  clear hval hcol hline
  generalize ((s.cols.zip row).take k).map (N8 s) = W at *
  by_cases k2:c.kind = 2
  ·obtain ⟨g1,g2⟩:=hcb.2.1 k2
   obtain ⟨v1,v2⟩:=hw.2.1 k2
   obtain ⟨lx,hlx⟩:∃ lx,s.lists[c.lst.toNat]? = some lx:=⟨_,List.getElem?_eq_getElem (by omega)⟩
   rw [V9 hlx] at v2
   obtain ⟨cd,hcd⟩:∃ cd,lx.2[v.toNat]? = some cd:=⟨_,List.getElem?_eq_getElem (by omega)⟩
   have hvw:N8 s (c,v) = cd.name:=by unfold N8;rw [if_pos k2,V9 hlx,U3 hcd]
   rw [hvw] at htk
   repeat' ((first | (refine A3 (x:=v) hv (by omega) ?_) | (refine A3 (x:=c) hc (by omega) ?_) | (refine A3 (x:=lx) hlx (by omega) ?_) | (refine A3 (x:=cd) hcd (by omega) ?_) |refine A4 ?_|refine S1 ?_|refine Z1 ?_|refine Z2 ?_|(refine And.intro ?_ ?_<;>intro h<;>try first|(exfalso;omega)|exact absurd rfl h)|refine Z3 ?_|refine Z4 ?_|intro el hel hbB|intro el hel|intro ex|refine Z5 ?_|(refine A9 ?_ ?_;exact ⟨by kernel_rfl,by decide⟩)|refine A8 ?_ ?_|exact A7|refine A6 ?_ ?_|exact A5|(refine A0 ?_ ?_ ?_;kernel_rfl;kernel_rfl)) <;> (try (conv=>whnf)))
   all_goals first
    | (exfalso;omega)
    | exact ⟨k + 1,by omega,by omega,B0 h0 rfl ⟨rfl,rfl,rfl,rfl,rfl,trivial⟩ ⟨rfl,⟨_,congrArg (C6.row m9 1 _) (by rw [htk,List.map_cons,List.map_append];rfl)⟩,trivial⟩ rfl rfl rfl⟩
  ·by_cases k3:c.kind = 3 ∧ v = (-1099511627776)
   ·have hvw:N8 s (c,v) = CJ:=by unfold N8;rw [if_neg k2,if_pos k3]
    rw [hvw] at htk
    repeat' ((first | (refine A3 (x:=v) hv (by omega) ?_) | (refine A3 (x:=c) hc (by omega) ?_) |refine A4 ?_|refine S1 ?_|refine Z1 ?_|refine Z2 ?_|(refine And.intro ?_ ?_<;>intro h<;>try first|(exfalso;omega)|exact absurd rfl h)|refine Z3 ?_|refine Z4 ?_|intro el hel hbB|intro el hel|intro ex|refine Z5 ?_|(refine A9 ?_ ?_;exact ⟨by kernel_rfl,by decide⟩)|refine A8 ?_ ?_|exact A7|refine A6 ?_ ?_|exact A5|(refine A0 ?_ ?_ ?_;kernel_rfl;kernel_rfl)) <;> (try (conv=>whnf)))
    all_goals first
     | (exfalso;omega)
     | exact ⟨k + 1,by omega,by omega,B0 h0 rfl ⟨rfl,rfl,rfl,rfl,rfl,trivial⟩ ⟨rfl,⟨_,congrArg (C6.row m9 1 _) (by rw [htk,List.map_cons,List.map_append];rfl)⟩,trivial⟩ rfl rfl rfl⟩
   ·have hvw:N8 s (c,v) = Lib.itoa v:=by unfold N8;rw [if_neg k2,if_neg k3]
    obtain ⟨v1,v2⟩:=hw.2.2 k2
    have hit:=G7 v (by omega) (by omega)
    rw [hvw] at htk
    generalize Lib.itoa v = T at *
    repeat' ((first | (refine A3 (x:=v) hv (by omega) ?_) | (refine A3 (x:=c) hc (by omega) ?_) | refine B2 hit ?_ |refine A4 ?_|refine S1 ?_|refine Z1 ?_|refine Z2 ?_|(refine And.intro ?_ ?_<;>intro h<;>try first|(exfalso;omega)|exact absurd rfl h)|refine Z3 ?_|refine Z4 ?_|intro el hel hbB|intro el hel|intro ex|refine Z5 ?_|(refine A9 ?_ ?_;exact ⟨by kernel_rfl,by decide⟩)|refine A8 ?_ ?_|exact A7|refine A6 ?_ ?_|exact A5|(refine A0 ?_ ?_ ?_;kernel_rfl;kernel_rfl)) <;> (try (conv=>whnf)))
    all_goals first
     | (exfalso;omega)
     | exact ⟨k + 1,by omega,by omega,B0 h0 rfl ⟨rfl,rfl,rfl,rfl,rfl,trivial⟩ ⟨rfl,⟨_,congrArg (C6.row m9 1 _) (by rw [htk,List.map_cons,List.map_append];rfl)⟩,trivial⟩ rfl rfl rfl⟩
 ·obtain rfl:k = row.length:=by omega
  rw [List.take_of_length_le (by omega)]
  unfold W1
  unfold f0 at *
  repeat' ((first | refine P8 1 ?_ | refine B2 hline ?_ |refine A4 ?_|refine S1 ?_|refine Z1 ?_|refine Z2 ?_|(refine And.intro ?_ ?_<;>intro h<;>try first|(exfalso;omega)|exact absurd rfl h)|refine Z3 ?_|refine Z4 ?_|intro el hel hbB|intro el hel|intro ex|refine Z5 ?_|(refine A9 ?_ ?_;exact ⟨by kernel_rfl,by decide⟩)|refine A8 ?_ ?_|exact A7|refine A6 ?_ ?_|exact A5|(refine A0 ?_ ?_ ?_;kernel_rfl;kernel_rfl)) <;> (try (conv=>whnf)))
  all_goals first
   | (exfalso;omega)
   | exact B5 rfl rfl
end Go.Proofs.YtiphlhoclaogjabGreatDoor
namespace Go.Proofs.YtiphlhoclaogjabGreatDoor
open Go Go.Av
attribute [local irreducible] D6 B8 D8 D7 DQ E0 E1 St.le B4 B9
set_option maxRecDepth 100000
theorem Z7 {E:Env} {n:Nat} {σ:St} (i j:Nat) {e sz:Nat} {l:List AV} (hb:B3 σ.hp i = some (.box l)) (hj:l[j]? = some (.v (.slice none 0 0))) (he:Nat.blt e G0 = true:=by rfl):St.le E n σ ((σ.new (.row e sz 0 [])).set i (.box (l.set j (.row σ.nx 0 0)))):=by
 unfold St.le
 rintro a w ⟨θ,h⟩
 have h2:=h.grow (w':=w) (Go.RowKit.Below.refl _ _) (.slice none 0 0) (.row e sz 0 []) (fun k hk=>by cases hk) (fun le=>⟨[],⟨by simp, .inl ⟨by simp [cx,D4],rfl⟩⟩,(fun el hel=>by cases hel),(fun k el hk=>by simp at hk), .lt (Nat.blt_eq ▸ he)⟩) (H7 (Nat.blt_eq ▸ he))
 have hlt:=(h.owns i _ hb).1
 have hb':B3 (σ.new (.row e sz 0 [])).hp i = some (.box l):=by
  simp only [St.new,F2]
  rw [if_neg (by omega)];exact hb
 obtain ⟨_,b,arr,ty,h3,h4,h5,h6⟩:=h2.owns i _ hb'
 refine ⟨_,h2.turn (v':=T6 θ σ.nx (.slice none 0 0) i) (b':=.box (l.set j (.row σ.nx 0 0))) (w':=w) hb' rfl rfl rfl (Nat.le_refl _) (fun _ _ _=>rfl) (fun k hk=>.inl hk) rfl fun le=>?_⟩
 refine ⟨b,arr,ty,by simp only [cx,D4];exact h3,h4,by rw [List.length_set];exact h5,fun q x y hx hy=>?_⟩
 rw [List.getElem?_set] at hx
 split at hx
 ·rename_i eq
  subst eq
  split at hx
  ·cases hx
   have hv:=(h6 j _ y hj hy).val
   rw [hv]
   refine .row _ _ _ _ (by simp [cx,St.new,St.set]) fun e' sz' v' l' hl=>?_
   simp only [cx,St.new,St.set,F2] at hl
   rw [if_neg (by omega)] at hl
   simp only [if_true] at hl
   cases hl
   refine ⟨Nat.le_refl _,fun _=>⟨rfl,?_⟩⟩
   simp only [cx]
   rw [M0 _ _ (by omega),D4]
  ·cases hx
 ·exact (h6 q x y hx hy).mono le
end Go.Proofs.YtiphlhoclaogjabGreatDoor
namespace Go.Av
open Go Go.RowKit
def aH:Op → Bool
 | .buildSlice ..=>true
 | _=>false
def RV (ops:Array Oper) (n:Nat) (done:List Bool) (mb:List MB) (sl:List (Nat × AV)) (i:Nat):Bool :=
 KS ops n done mb sl i && match ops[i]? with
  | some o=>!(aH o.op)
  | none=>false
def YN (P:Program) (E:Env) (n:Nat) (ops:Array Oper) (done:List Bool) (mb:List MB) (σ:St) (K:St → Prop):Prop :=
 match (List.range ops.size).find? (RV ops n done mb σ.sl) with
 | some i=>match ops[i]? with
   | some ⟨some d,op,_,_,_,none⟩=>v8 (GU op (L2 mb ++ σ.sl)) fun rd=>MV P op (F1 ⟨rd,0,[]⟩) fun av=>D7 P E n ops done (⟨i,d,av,rd⟩ :: mb) σ K
   | _=>False
 | none=>KP (DZ ops done mb) fun L=>match L with
   | []=>cond (KQ ops done mb) (K ⟨L2 mb ++ σ.sl,σ.nx,σ.hp⟩) False
   | i :: r=>HZ P E n ops done mb σ K (i :: r)
theorem BN {P:Program} {E:Env} {n:Nat} {ops:Array Oper} {done:List Bool} {mb:List MB} {σ:St} {K:St → Prop} (hlen:Nat.beq done.length ops.size = true) (hback:Cn ops = true) (h:YN P E n ops done mb σ K):D7 P E n ops done mb σ K:=by
 unfold YN at h
 split at h
 ·rename_i i hi
  have hc0:=List.find?_some hi
  unfold RV at hc0
  simp only [Bool.and_eq_true] at hc0
  have hc:=hc0.1
  split at h
  ·rename_i d op ty pos after hop
   simp only [KS,hop,Bool.and_eq_true,Bool.not_eq_true'] at hc
   exact LM hop hc.2.2 hc.2.1.2 hc.1.1.1 (V3 h)
  ·exact h.elim
 ·have h:=DT h
  split at h
  ·rename_i hr
   obtain ⟨ha,h⟩:=cond_false h
   exact FT hlen hback (fun _=>h) (by rw [hr];trivial)
  ·rename_i i r hr
   refine FT hlen hback (fun ha=>?_) (by rw [hr];exact h.h)
   exfalso
   have hmem:i ∈ DZ ops done mb:=by rw [hr];simp
   unfold DZ at hmem
   rw [List.mem_filter] at hmem
   have h2:=List.all_eq_true.1 ha i hmem.1
   have h3:=hmem.2
   simp only [Bool.and_eq_true,Bool.not_eq_true'] at h3
   rw [h3.1.1,h3.1.2] at h2
   cases h2
end Go.Av
