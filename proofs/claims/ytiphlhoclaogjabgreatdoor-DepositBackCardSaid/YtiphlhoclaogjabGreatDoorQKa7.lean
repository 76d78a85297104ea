/- Chapter 3: deposit.Print. -/
import Derived.Test.YtiphlhoclaogjabGreatDoorQKa5
import Derived.Test.YtiphlhoclaogjabGreatDoorQBk1
import Derived.Test.YtiphlhoclaogjabGreatDoorQKa4
set_option linter.unusedVariables false
set_option linter.unnecessarySimpa false
set_option linter.unusedSimpArgs false
namespace Go.Proofs.YtiphlhoclaogjabGreatDoor
open Go Go.Av
attribute [local irreducible] D1 B5 D5 D3 DQ D7 E0 St.le B3 B6
set_option maxRecDepth 100000
def o9 (h:List Int):Nat → List (Key × AV)
 | 0=>[]
 | k + 1=>match h[k]? with
   | some x=>W4 (o9 h k) (.i .i64 x) (.b true)
   | none=>o9 h k
theorem IC {h:List Int} {k:Nat} {x:Int} (e:h[k]? = some x):o9 h (k + 1) = W4 (o9 h k) (.i .i64 x) (.b true):=by
 rw [o9,e]
theorem Dl (h:List Int):∀ k,X7 (.int .i64) (o9 h k)
 | 0=>fun p hp=>by cases hp
 | k + 1=>by
   unfold o9
   cases h[k]? with
   | none=>exact Dl h k
   | some x=>exact Jq (by rfl) (Dl h k)
theorem Jw (h:List Int) (b:Int):∀ k,X6 (o9 h k) (.i .i64 b) = if b ∈ h.take k then some (.b true) else none
 | 0=>by simp [o9,X6]
 | k + 1=>by
   have ih:=Jw h b k
   cases e:h[k]? with
   | none =>
     rw [o9,e,List.take_add_one,e]
     simpa using ih
   | some x =>
     rw [IC e,R9 e,Ri]
     simp only [Key.i.injEq,true_and,List.mem_append,List.mem_singleton]
     by_cases e2:x = b
     ·subst e2;simp
     ·rw [if_neg e2,ih]
      by_cases e3:b ∈ h.take k
      ·rw [if_pos e3,if_pos (.inl e3)]
      ·rw [if_neg e3,if_neg (by rintro (h4 | h4);exact e3 h4;exact e2 h4.symm)]
theorem UZ (h:List Int) (k:Nat) (b:Int):k9 (o9 h k) (.i .i64 b) (Q6 (.bool false)) = .b (decide (b ∈ h.take k)):=by
 unfold k9
 rw [Jw]
 by_cases e:b ∈ h.take k
 ·rw [if_pos e,decide_eq_true e]
 ·rw [if_neg e,decide_eq_false e];rfl
abbrev F6 (rows:List (List Int)):List Int:=rows.map fun r=>r.headD 0
def L3 (s:B8) (rows:List (List Int)):List UInt8 × Int :=
 if ¬ F8 s = 0 then ([],F8 s) else if 200 < rows.length then ([],1) else if (rows.any fun r=>!I4 s r) = true then ([],9)
 else if ¬ (F6 rows).Nodup then ([],10) else if 20000 < (O5 s rows).length then ([],1) else (O5 s rows,0)
theorem Dm {rows:List (List Int)} {k:Nat} {x:Int} {r:List Int} (hr:rows[k]? = some (x :: r)):(F6 rows)[k]? = some x:=by simp [F6,hr]
theorem ID {l:List Int} {x:Int} (h:l.Nodup) (hx:x ∉ l):(l ++ [x]).Nodup:=by
 rw [List.nodup_append]
 exact ⟨h,by simp,fun a ha b hb=>by rw [List.mem_singleton.1 hb];rintro rfl;exact hx ha⟩
theorem Jx {l:List Int} {k:Nat} {x:Int} (hk:l[k]? = some x) (hx:x ∈ l.take k):¬ l.Nodup:=fun h=>by
 rw [← List.take_append_drop k l,List.nodup_append] at h
 refine h.2.2 x hx x ?_ rfl
 exact List.mem_iff_getElem?.2 ⟨0,by rw [List.getElem?_drop];exact hk⟩
theorem FU (t:List UInt8):0 ≤ M8 t ∧ M8 t ≤ 1000002:=by
 have:=Iw t 7 (by decide)
 unfold M8
 omega
theorem MX (t:List UInt8):∀ w ∈ P6 t,w.length ≤ 21:=by
 obtain ⟨b1,b2⟩:=FU t
 have:=Lib.itoa_length_le (M8 t) (by omega) (by omega)
 intro w hw
 simp only [P6,List.mem_cons,List.not_mem_nil,or_false] at hw
 rcases hw with rfl | rfl
 ·decide
 ·omega
theorem Yb {s:B8} (hr:F8 s = 0):l9 s ≠ []:=by
 unfold l9
 refine MW fun e=>?_
 cases hcs:s.cols with
 | nil=>exact FT hr hcs
 | cons c r =>
   rw [hcs,List.flatMap_cons] at e
   exact d6 _ (List.append_eq_nil_iff.1 e).1
set_option maxHeartbeats 16000000 in
theorem T8 (s:B8) (rows:List (List Int)):B3 Tryz.prog 10 [sA s, .sl 1 (rows.map D8)] (.tup [.str (L3 s rows).1, .i (L3 s rows).2]):=by
 have hsch:=NU s
 by_cases hr:F8 s = 0
 ·by_cases hn:200 < rows.length
  ·unfold L3
   rw [hr] at hsch ⊢
   rw [if_neg (by simp),if_pos hn]
   refine F3 Tryz.func10 55 fun hrd E h0=>?_
   clear hrd
   repeat' ((first | refine A9 hsch ?_ |refine A1 ?_|refine S1 ?_|refine Z1 ?_|refine Z2 ?_|(refine And.intro ?_ ?_<;>intro h<;>try first|(exfalso;omega)|exact absurd rfl h)|refine Z3 ?_|refine Z4 ?_|intro el hel hbB|intro el hel|intro ex|refine Z5 ?_|(refine A6 ?_ ?_;exact ⟨by kernel_rfl,by decide⟩)|refine A5 ?_ ?_|exact A4|refine A3 ?_ ?_|exact A2|(refine A0 ?_ ?_ ?_;kernel_rfl;kernel_rfl)) <;> (try (conv=>whnf)))
   all_goals first
    | (exfalso;omega)
    | exact K7 (rs:=[.tmp 4, .tmp 5]) (vs:=[_,_]) rfl ⟨⟨_,rfl, .refl _⟩,⟨_,rfl, .refl _⟩,trivial⟩ rfl
  ·have hany:=Wv rows 25 [.iptr (sL s)] (fun r=>!I4 s r) (fun r _=>NX s hr r)
   by_cases hf:(rows.any fun r=>!I4 s r) = true
   ·rw [hf] at hany
    unfold L3
    rw [if_neg (by simp [hr]),if_neg hn,if_pos hf]
    rw [hr] at hsch
    clear hf
    refine F3 Tryz.func10 55 fun hrd E h0=>?_
    clear hrd
    repeat' ((first | refine A9 hsch ?_ | refine A9 hany ?_ |refine A1 ?_|refine S1 ?_|refine Z1 ?_|refine Z2 ?_|(refine And.intro ?_ ?_<;>intro h<;>try first|(exfalso;omega)|exact absurd rfl h)|refine Z3 ?_|refine Z4 ?_|intro el hel hbB|intro el hel|intro ex|refine Z5 ?_|(refine A6 ?_ ?_;exact ⟨by kernel_rfl,by decide⟩)|refine A5 ?_ ?_|exact A4|refine A3 ?_ ?_|exact A2|(refine A0 ?_ ?_ ?_;kernel_rfl;kernel_rfl) | refine P2 0 ?_) <;> (try (conv=>whnf)))
    all_goals first
     | (exfalso;omega)
     | exact K7 (rs:=[.tmp 4, .tmp 5]) (vs:=[_,_]) rfl ⟨⟨_,rfl, .refl _⟩,⟨_,rfl, .refl _⟩,trivial⟩ rfl
   ·rw [Bool.not_eq_true] at hf
    rw [hf] at hany
    have hfit:∀ r ∈ rows,I4 s r = true:=fun r h=>by simpa using List.any_eq_false.1 hf r h
    have hP:L3 s rows = if ¬ (F6 rows).Nodup then ([],10) else if 20000 < (O5 s rows).length then ([],1) else (O5 s rows,0):=by
     unfold L3
     rw [if_neg (by simp [hr]),if_neg hn,if_neg (by simp [hf])]
    rw [hP]
    have hhead:=Rp s hr
    have hH:=JA hr
    have hHn:=Yb hr
    have hrl:=fun r h=>MU s hr r (hfit r h)
    have hrt:∀ r ∈ rows,(U4 s r).length ≤ 199:=fun r h=>(DA hr (hfit r h)).2.2
    have hpc:=Z6 (U4 s) rows
    have hall:(rows.flatMap (U4 s)).length ≤ rows.length * 199:=d7 hrt
    have hne:∀ r ∈ rows,r ≠ []:=fun r h e=>by
     have h2:=(r8 (hfit r h)).1
     rw [e] at h2
     exact FT hr (List.eq_nil_of_length_eq_zero h2.symm)
    rw [hr] at hsch
    clear hf hfit hrt hP
    have hB:F9 s rows = l9 s ++ rows.flatMap (U4 s):=rfl
    have hF:O5 s rows = F9 s rows ++ B7 (P6 (F9 s rows)):=rfl
    have hw1:=GV (l9 s) (by omega)
    generalize l9 s = H0 at *
    refine F3 Tryz.func10 55 fun hrd E h0=>?_
    clear hrd
    repeat' ((first | refine Fw (T:=63) rfl ?_ | refine A9 hsch ?_ | refine A9 hany ?_ | refine A9 hhead ?_ |refine A1 ?_|refine S1 ?_|refine Z1 ?_|refine Z2 ?_|(refine And.intro ?_ ?_<;>intro h<;>try first|(exfalso;omega)|exact absurd rfl h)|refine Z3 ?_|refine Z4 ?_|intro el hel hbB|intro el hel|intro ex|refine Z5 ?_|(refine A6 ?_ ?_;exact ⟨by kernel_rfl,by decide⟩)|refine A5 ?_ ?_|exact A4|refine A3 ?_ ?_|exact A2|(refine A0 ?_ ?_ ?_;kernel_rfl;kernel_rfl) | refine nc [2] [0] hw1 rfl rfl rfl ⟨rfl,trivial⟩ ?_ | refine P2 0 ?_) <;> (try (conv=>whnf)))
    all_goals first
     | (exfalso;omega)
     | skip
    refine C5 (ι:=Nat) (fun k=>⟨[(2, .iptr (sL s)),(7, .mp 1),(8, .ref 2 0),(26, .sl 1 (rows.map D8)),(27, .i rows.length),(28, .i k)],4,(1,some (.map (o9 (F6 rows) k))) :: bU 2 3 (H0 ++ (rows.take k).flatMap (U4 s))⟩) (fun k=>k ≤ rows.length ∧ ((F6 rows).take k).Nodup) (fun k=>rows.length - k) 0 ⟨Nat.zero_le _,by simp⟩
     (A8 h0 rfl ⟨rfl,rfl,rfl,rfl,rfl,rfl,trivial⟩ ⟨rfl,congrArg (fun z:List UInt8=>C0.bx bB [.ref 2 0, .row 3 0 z.length]) (show H0 ++ _ = H0 from List.append_nil _),⟨_,congrArg (fun z:List UInt8=>C0.row eB 1 _ (G9 z)) (show H0 ++ _ = H0 from List.append_nil _)⟩,trivial⟩ rfl rfl rfl) (fun k hI=>?_)
    obtain ⟨hk,hI⟩:=hI
    by_cases hlt:k < rows.length
    ·obtain ⟨r,hrk⟩:∃ r,rows[k]? = some r:=⟨_,List.getElem?_eq_getElem hlt⟩
     have hrm:=List.mem_of_getElem? hrk
     obtain ⟨x,r1,rfl⟩:∃ x r1,r = x :: r1:=by
      cases r with
      | nil=>exact absurd rfl (hne _ hrm)
      | cons x r1=>exact ⟨x,r1,rfl⟩
     have hline:=hrl _ hrm
     have hsn:=W3 (U4 s) rows k hrk
     have hpk:=hpc k
     have hpk1:=hpc (k + 1)
     have hhs:=Dm hrk
     have hX:H0 ++ (rows.take k).flatMap (U4 s) ++ U4 s (x :: r1) = H0 ++ (rows.take (k + 1)).flatMap (U4 s):=by rw [hsn,List.append_assoc]
     have hlX:(H0 ++ (rows.take k).flatMap (U4 s)).length + (U4 s (x :: r1)).length ≤ 140737488355328:=by
      rw [← List.length_append,hX,List.length_append];omega
     have hw:=d5 _ _ hlX
     have hx0:(x :: r1)[(0:Int).toNat]? = some x:=rfl
     have hnd:x ∉ (F6 rows).take k → ((F6 rows).take (k + 1)).Nodup:=fun h=>by rw [R9 hhs];exact ID hI h
     have hno:x ∈ (F6 rows).take k → (if ¬ (F6 rows).Nodup then (([],10):List UInt8 × Int) else if 20000 < (O5 s rows).length then ([],1) else (O5 s rows,0)) = ([],10):=fun h=>if_pos (Jx hhs h)
     have hss:=IC hhs
     generalize H0 ++ (rows.take k).flatMap (U4 s) = X at *
     generalize U4 s (x :: r1) = N at *
     repeat' ((first | (refine A7 (x:=x :: r1) hrk (by omega) ?_) | (refine A7 (x:=x) hx0 (by omega) ?_) | (refine G7 ?_ ?_;exact Dl _ _) | refine VS (UZ _ _ _) ?_ | refine A9 hline ?_ |refine A1 ?_|refine S1 ?_|refine Z1 ?_|refine Z2 ?_|(refine And.intro ?_ ?_<;>intro h<;>try first|(exfalso;omega)|exact absurd rfl h)|refine Z3 ?_|refine Z4 ?_|intro el hel hbB|intro el hel|intro ex|refine Z5 ?_|(refine A6 ?_ ?_;exact ⟨by kernel_rfl,by decide⟩)|refine A5 ?_ ?_|exact A4|refine A3 ?_ ?_|exact A2|(refine A0 ?_ ?_ ?_;kernel_rfl;kernel_rfl) | refine nc [2,3] [0,0] hw rfl rfl rfl ⟨rfl,rfl,trivial⟩ ?_) <;> (try (conv=>whnf)))
     all_goals first
      | (exfalso;omega)
      | (rw [hno h];exact K7 (rs:=[.tmp 4, .tmp 5]) (vs:=[_,_]) rfl ⟨⟨_,rfl, .refl _⟩,⟨_,rfl, .refl _⟩,trivial⟩ rfl)
      | exact ⟨k + 1,⟨by omega,hnd h⟩,by omega,A8 h0 rfl ⟨rfl,rfl,rfl,rfl,rfl,rfl,trivial⟩ ⟨congrArg C0.map hss,congrArg (fun z:List UInt8=>C0.bx bB [.ref 2 0, .row 3 0 z.length]) hX.symm,⟨_,congrArg (fun z:List UInt8=>C0.row eB 1 _ (G9 z)) hX.symm⟩,trivial⟩ rfl rfl rfl⟩
    ·obtain rfl:k = rows.length:=by omega
     rw [List.take_length]
     rw [List.take_of_length_le (by simp)] at hI
     rw [if_neg (fun h=>h hI),hF, ← hB]
     have hTn:F9 s rows ≠ []:=by rw [hB];exact fun e=>hHn (List.append_eq_nil_iff.1 e).1
     have hbl:(F9 s rows).length ≤ 67000:=by rw [hB,List.length_append];omega
     have hst:=Wt (F9 s rows) hTn
     have hsm:=Br (F9 s rows) (by omega)
     obtain ⟨b1,b2⟩:=FU (F9 s rows)
     have hit:=G5 (M8 (F9 s rows)) (by omega) (by omega)
     have hsw:=MX (F9 s rows)
     have hj:=W9 (P6 (F9 s rows)) 21 hsw
     have hj2:(P6 (F9 s rows)).length = 2:=rfl
     have hln:=k0 (P6 (F9 s rows)) (by omega) (by omega)
     have hlb:(B7 (P6 (F9 s rows))).length ≤ 45:=by
      have:=U5 hsw
      omega
     clear hj hj2 hsw hB hF hrl hpc hall hany hw1 hH
     have hFn:F9 s rows ++ B7 (P6 (F9 s rows)) ≠ []:=fun e=>hTn (List.append_eq_nil_iff.1 e).1
     unfold P6 at *
     generalize M8 (F9 s rows) = m at *
     generalize Lib.itoa m = im at *
     generalize B7 [Y6,im] = L at *
     generalize F9 s rows = B at *
     have hwF:=UX B L hTn (by omega)
     generalize hFF:B ++ L = F at *
     have hlen:=YZ (K4 + eB) F.length (G9 F)
     have hs2:=UY F hFn
     have hFl:F.length ≤ 70000:=by rw [← hFF,List.length_append];omega
     repeat' ((first | refine A9 hsm ?_ | refine A9 hit ?_ | refine A9 hln ?_ |refine A1 ?_|refine S1 ?_|refine Z1 ?_|refine Z2 ?_|(refine And.intro ?_ ?_<;>intro h<;>try first|(exfalso;omega)|exact absurd rfl h)|refine Z3 ?_|refine Z4 ?_|intro el hel hbB|intro el hel|intro ex|refine Z5 ?_|(refine A6 ?_ ?_;exact ⟨by kernel_rfl,by decide⟩)|refine A5 ?_ ?_|exact A4|refine A3 ?_ ?_|exact A2|(refine A0 ?_ ?_ ?_;kernel_rfl;kernel_rfl) | refine nc [2,3] [0,0] hst rfl rfl rfl ⟨rfl,rfl,trivial⟩ ?_ | refine nc [2,3] [0,1] hwF rfl rfl rfl ⟨rfl,rfl,trivial⟩ ?_ | refine nc [2,3] [0,2] hwF rfl rfl rfl ⟨rfl,rfl,trivial⟩ ?_ | refine nc [2,3] [0,3] hwF rfl rfl rfl ⟨rfl,rfl,trivial⟩ ?_ | refine nc [2,3] [0,4] hwF rfl rfl rfl ⟨rfl,rfl,trivial⟩ ?_ | refine nc [2,3] [0,5] hwF rfl rfl rfl ⟨rfl,rfl,trivial⟩ ?_ | refine nc [2,3] [0,6] hwF rfl rfl rfl ⟨rfl,rfl,trivial⟩ ?_ | refine nc [2,3] [0,1] hlen rfl rfl rfl ⟨rfl,rfl,trivial⟩ ?_ | refine nc [2,3] [0,2] hlen rfl rfl rfl ⟨rfl,rfl,trivial⟩ ?_ | refine nc [2,3] [0,3] hlen rfl rfl rfl ⟨rfl,rfl,trivial⟩ ?_ | refine nc [2,3] [0,4] hlen rfl rfl rfl ⟨rfl,rfl,trivial⟩ ?_ | refine nc [2,3] [0,5] hlen rfl rfl rfl ⟨rfl,rfl,trivial⟩ ?_ | refine nc [2,3] [0,6] hlen rfl rfl rfl ⟨rfl,rfl,trivial⟩ ?_ | refine nc [2,3] [0,1] hs2 rfl rfl rfl ⟨rfl,rfl,trivial⟩ ?_ | refine nc [2,3] [0,2] hs2 rfl rfl rfl ⟨rfl,rfl,trivial⟩ ?_ | refine nc [2,3] [0,3] hs2 rfl rfl rfl ⟨rfl,rfl,trivial⟩ ?_ | refine nc [2,3] [0,4] hs2 rfl rfl rfl ⟨rfl,rfl,trivial⟩ ?_ | refine nc [2,3] [0,5] hs2 rfl rfl rfl ⟨rfl,rfl,trivial⟩ ?_ | refine nc [2,3] [0,6] hs2 rfl rfl rfl ⟨rfl,rfl,trivial⟩ ?_) <;> (try (conv=>whnf)))
     all_goals first
      | (exfalso;omega)
      | (rw [if_pos (by omega)];exact K7 (rs:=[.tmp 4, .tmp 5]) (vs:=[_,_]) rfl ⟨⟨_,rfl, .refl _⟩,⟨_,rfl, .refl _⟩,trivial⟩ rfl)
      | (rw [if_neg (by omega)];exact K7 (rs:=[.tmp 4, .tmp 5]) (vs:=[_,_]) rfl ⟨⟨_,rfl, .refl _⟩,⟨_,rfl, .refl _⟩,trivial⟩ rfl)
 ·unfold L3
  rw [if_pos hr]
  generalize F8 s = e at *
  refine F3 Tryz.func10 55 fun hrd E h0=>?_
  clear hrd
  repeat' ((first | refine A9 hsch ?_ |refine A1 ?_|refine S1 ?_|refine Z1 ?_|refine Z2 ?_|(refine And.intro ?_ ?_<;>intro h<;>try first|(exfalso;omega)|exact absurd rfl h)|refine Z3 ?_|refine Z4 ?_|intro el hel hbB|intro el hel|intro ex|refine Z5 ?_|(refine A6 ?_ ?_;exact ⟨by kernel_rfl,by decide⟩)|refine A5 ?_ ?_|exact A4|refine A3 ?_ ?_|exact A2|(refine A0 ?_ ?_ ?_;kernel_rfl;kernel_rfl)) <;> (try (conv=>whnf)))
  all_goals first
   | (exfalso;omega)
   | exact K7 (rs:=[.tmp 4, .tmp 5]) (vs:=[_,_]) rfl ⟨⟨_,rfl, .refl _⟩,⟨_,rfl, .refl _⟩,trivial⟩ rfl
end Go.Proofs.YtiphlhoclaogjabGreatDoor
namespace Go.Proofs.YtiphlhoclaogjabGreatDoor
open Go Go.Av
attribute [local irreducible] D1 B5 D5 D3 DQ D7 E0 St.le B3 B6
set_option maxRecDepth 100000
theorem Rt {s:B8} {c:C1} {v:Int} (hh:M0 s c v = true) (h2:c.kind ≠ 2) (hv:v = (-1099511627776)):c.kind ≠ 1:=by
 intro h1
 unfold M0 at hh
 rw [if_pos h1] at hh
 have:=of_decide_eq_true hh
 omega
set_option maxHeartbeats 4000000 in
theorem Ru (s:B8) (hr:F8 s = 0) (i:Nat) (c:C1) (v:Int) (hc:s.cols[i]? = some c) (hh:M0 s c v = true):B3 Tryz.prog 36 [sA s, .i i, .i v] (.str (H2 s (c,v))):=by
 have hcm:=List.mem_of_getElem? hc
 obtain ⟨_,v1,v2⟩:=AR hr (q:=(c,v)) hcm hh
 obtain ⟨_,g,g3⟩:=y9 hr hcm
 have hilt:=(List.getElem?_eq_some_iff.1 hc).1
 have h8:=(F7 hr).2.1
 have hci:s.cols[(i:Int).toNat]? = some c:=hc
 dsimp only at v1 v2
 by_cases k2:c.kind = 2
 ·obtain ⟨g1,g2⟩:=g k2
  obtain ⟨v1,v2⟩:=v1 k2
  obtain ⟨lx,hlx⟩:∃ lx,s.lists[c.lst.toNat]? = some lx:=⟨_,List.getElem?_eq_getElem (by omega)⟩
  rw [P4 hlx] at v2
  obtain ⟨cd,hcd⟩:∃ cd,lx.2[v.toNat]? = some cd:=⟨_,List.getElem?_eq_getElem (by omega)⟩
  have hvw:H2 s (c,v) = cd.name:=by unfold H2;rw [if_pos k2,P4 hlx,O2 hcd]
  rw [hvw]
  refine F3 Tryz.func36 31 fun hrd E h0=>?_
  clear hrd
  repeat' ((first | (refine A7 (x:=c) hci (by omega) ?_) | (refine A7 (x:=lx) hlx (by omega) ?_) | (refine A7 (x:=cd) hcd (by omega) ?_) |refine A1 ?_|refine S1 ?_|refine Z1 ?_|refine Z2 ?_|(refine And.intro ?_ ?_<;>intro h<;>try first|(exfalso;omega)|exact absurd rfl h)|refine Z3 ?_|refine Z4 ?_|intro el hel hbB|intro el hel|intro ex|refine Z5 ?_|(refine A6 ?_ ?_;exact ⟨by kernel_rfl,by decide⟩)|refine A5 ?_ ?_|exact A4|refine A3 ?_ ?_|exact A2|(refine A0 ?_ ?_ ?_;kernel_rfl;kernel_rfl)) <;> (try (conv=>whnf)))
  all_goals first
   | (exfalso;omega)
   | exact B2 rfl rfl
 ·obtain ⟨v1,v2⟩:=v2 k2
  by_cases k3:v = (-1099511627776)
  ·have hk1:=Rt hh k2 k3
   have hkk:c.kind = 3:=by
    obtain ⟨j,hj⟩:=List.getElem_of_mem hcm
    rcases Hz hr hc with h | h | h
    ·exact absurd h.1 hk1
    ·exact absurd h.1 k2
    ·exact h.1
   have hvw:H2 s (c,v) = Ep:=by unfold H2;rw [if_neg k2,if_pos ⟨hkk,k3⟩]
   rw [hvw]
   refine F3 Tryz.func36 31 fun hrd E h0=>?_
   clear hrd
   repeat' ((first | (refine A7 (x:=c) hci (by omega) ?_) |refine A1 ?_|refine S1 ?_|refine Z1 ?_|refine Z2 ?_|(refine And.intro ?_ ?_<;>intro h<;>try first|(exfalso;omega)|exact absurd rfl h)|refine Z3 ?_|refine Z4 ?_|intro el hel hbB|intro el hel|intro ex|refine Z5 ?_|(refine A6 ?_ ?_;exact ⟨by kernel_rfl,by decide⟩)|refine A5 ?_ ?_|exact A4|refine A3 ?_ ?_|exact A2|(refine A0 ?_ ?_ ?_;kernel_rfl;kernel_rfl)) <;> (try (conv=>whnf)))
   all_goals first
    | (exfalso;omega)
    | exact B2 rfl rfl
  ·have hit:=G5 v (by omega) (by omega)
   have hvw:H2 s (c,v) = Lib.itoa v:=by unfold H2;rw [if_neg k2,if_neg (fun h=>k3 h.2)]
   rw [hvw]
   generalize Lib.itoa v = T at *
   refine F3 Tryz.func36 31 fun hrd E h0=>?_
   clear hrd
   repeat' ((first | (refine A7 (x:=c) hci (by omega) ?_) | refine A9 hit ?_ |refine A1 ?_|refine S1 ?_|refine Z1 ?_|refine Z2 ?_|(refine And.intro ?_ ?_<;>intro h<;>try first|(exfalso;omega)|exact absurd rfl h)|refine Z3 ?_|refine Z4 ?_|intro el hel hbB|intro el hel|intro ex|refine Z5 ?_|(refine A6 ?_ ?_;exact ⟨by kernel_rfl,by decide⟩)|refine A5 ?_ ?_|exact A4|refine A3 ?_ ?_|exact A2|(refine A0 ?_ ?_ ?_;kernel_rfl;kernel_rfl)) <;> (try (conv=>whnf)))
   all_goals first
    | (exfalso;omega)
    | exact B2 rfl rfl
end Go.Proofs.YtiphlhoclaogjabGreatDoor
