/- Chapter 3: a builder that goes on after its text was taken; the rows of a deposit that are none. -/
import Derived.Test.YtiphlhoclaogjabGreatDoorQKa4
import Derived.Test.YtiphlhoclaogjabGreatDoorQAvF
import Derived.Test.YtiphlhoclaogjabGreatDoorQRp1
set_option linter.unusedVariables false
set_option linter.unnecessarySimpa false
set_option linter.unusedSimpArgs false
namespace Go.Proofs.YtiphlhoclaogjabGreatDoor
open Go Go.Av
attribute [local irreducible] D6 B8 D8 D7 DQ E0 E1 St.le B4 B9
set_option maxRecDepth 100000
set_option maxHeartbeats 2000000 in
theorem Tx (t s:List UInt8) (ht:t ≠ []) (hs:t.length + s.length ≤ 140737488355328):B9 Tryz.prog 27 2 [(0,some (m7 0 t.length)),(1,some (.row (L9 + eB) 1 0 (H5 t)))] [.ref 0 0, .str s] 2 [(0,some (m7 1 (t ++ s).length)),(1,some (.row (L9 + eB) 1 1 (H5 (t ++ s))))] (.tup [.i s.length, .v .nilIface]):=by
 refine J1 Tryz.func27 19 fun E h0=>?_
 have h1:=Nw (L9 + eB) t.length (H5 t)
 repeat' ((first | refine Gf (e:=eB) (i:=1) (l:=t) (s:=s) rfl rfl rfl ht (by decide) hs rfl ?_ |refine A4 ?_|refine S1 ?_|refine Z1 ?_|refine Z2 ?_|(refine And.intro ?_ ?_<;>intro h<;>try first|(exfalso;omega)|exact absurd rfl h)|refine Z3 ?_|refine Z4 ?_|intro el hel hbB|intro el hel|intro ex|refine Z5 ?_|(refine A9 ?_ ?_;exact ⟨by kernel_rfl,by decide⟩)|refine A8 ?_ ?_|exact A7|refine A6 ?_ ?_|exact A5|(refine A0 ?_ ?_ ?_;kernel_rfl;kernel_rfl) | refine nc [0,1] [0,0] h1 rfl rfl rfl ⟨rfl,rfl,trivial⟩ ?_) <;> (try (conv=>whnf)))
 all_goals first
  | exact H8 (rvs:=[.tmp 4, .tmp 5]) (vs:=[_,_]) trivial rfl rfl (B0 h0 rfl ⟨rfl,rfl,trivial⟩ ⟨congrArg (fun z=>C6.bx bB [.ref 0 0, .row 1 1 z]) (by simp),⟨_,by rw [Nv]⟩,trivial⟩ rfl rfl rfl) rfl
set_option maxHeartbeats 2000000 in
theorem WV (s:List UInt8) (h1:s ≠ []):B9 Tryz.prog 32 2 [(0,some (m7 0 s.length)),(1,some (.row eB 1 0 (H5 s)))] [.ref 0 0] 2 [(0,some (m7 0 s.length)),(1,some (.row (L9 + eB) 1 0 (H5 s)))] (.str s):=by
 have h2:H5 s ≠ []:=fun h=>h1 (List.map_eq_nil_iff.1 h)
 refine J1 Tryz.func32 14 fun E h0=>?_
 repeat' ((first | (refine G2 1 ?_;refine Am (id:=1) ⟨[(2, .str s)],2,[(0,some (m7 0 s.length)),(1,some (.row (L9 + eB) 1 0 (H5 s)))]⟩ ?_ ?_) |refine A4 ?_|refine S1 ?_|refine Z1 ?_|refine Z2 ?_|(refine And.intro ?_ ?_<;>intro h<;>try first|(exfalso;omega)|exact absurd rfl h)|refine Z3 ?_|refine Z4 ?_|intro el hel hbB|intro el hel|intro ex|refine Z5 ?_|(refine A9 ?_ ?_;exact ⟨by kernel_rfl,by decide⟩)|refine A8 ?_ ?_|exact A7|refine A6 ?_ ?_|exact A5|(refine A0 ?_ ?_ ?_;kernel_rfl;kernel_rfl) | refine Ew rfl rfl h2 rfl ?_ | refine Jp (e:=eB) (F:=0) rfl rfl rfl (.inl rfl) rfl h1 (by decide) (by kernel_rfl) (by kernel_rfl) rfl ?_) <;> (try (conv=>whnf)))
 all_goals first
  | exact B0 h0 rfl ⟨rfl,trivial⟩ ⟨rfl,⟨_,rfl⟩,trivial⟩ rfl rfl rfl
  | exact D5 (B0 h0 rfl ⟨rfl,trivial⟩ ⟨rfl,⟨_,rfl⟩,trivial⟩ rfl rfl rfl)
set_option maxHeartbeats 2000000 in
theorem Ty (s:List UInt8) (h1:s ≠ []):B9 Tryz.prog 32 2 [(0,some (m7 0 s.length)),(1,some (.row (L9 + eB) 1 0 (H5 s)))] [.ref 0 0] 2 [(0,some (m7 0 s.length)),(1,some (.row (L9 + eB) 1 0 (H5 s)))] (.str s):=by
 have h2:H5 s ≠ []:=fun h=>h1 (List.map_eq_nil_iff.1 h)
 refine J1 Tryz.func32 14 fun E h0=>?_
 repeat' ((first | (refine G2 1 ?_;refine Am (id:=1) ⟨[(2, .str s)],2,[(0,some (m7 0 s.length)),(1,some (.row (L9 + eB) 1 0 (H5 s)))]⟩ ?_ ?_) |refine A4 ?_|refine S1 ?_|refine Z1 ?_|refine Z2 ?_|(refine And.intro ?_ ?_<;>intro h<;>try first|(exfalso;omega)|exact absurd rfl h)|refine Z3 ?_|refine Z4 ?_|intro el hel hbB|intro el hel|intro ex|refine Z5 ?_|(refine A9 ?_ ?_;exact ⟨by kernel_rfl,by decide⟩)|refine A8 ?_ ?_|exact A7|refine A6 ?_ ?_|exact A5|(refine A0 ?_ ?_ ?_;kernel_rfl;kernel_rfl) | refine Ew rfl rfl h2 rfl ?_ | refine Jp (e:=eB) (F:=L9) rfl rfl rfl (.inr rfl) rfl h1 (by decide) (by kernel_rfl) (by kernel_rfl) rfl ?_) <;> (try (conv=>whnf)))
 all_goals first
  | exact B0 h0 rfl ⟨rfl,trivial⟩ ⟨rfl,⟨_,rfl⟩,trivial⟩ rfl rfl rfl
  | exact D5 (B0 h0 rfl ⟨rfl,trivial⟩ ⟨rfl,⟨_,rfl⟩,trivial⟩ rfl rfl rfl)
set_option maxHeartbeats 2000000 in
theorem WW (l:List (List Int)) (f:Nat) (caps:List AV) (p:(List Int) → Bool) (hf:∀ x ∈ l,B4 Tryz.prog f ((fun x=>.sl 1 (x.map wA)) x :: caps) (.b (p x))):B4 Tryz.prog 58 [.sl 1 (l.map D2), .fn f caps] (.i (I5 p l 0)):=by
 refine F3 Tryz.func58 19 fun hrd E h0=>?_
 have hlen:l.length ≤ 9223372036854775807:=by have:=(hrd (.sl 1 (l.map D2)) (by simp)).sl;simpa using this
 repeat' ((first|refine A4 ?_|refine S1 ?_|refine Z1 ?_|refine Z2 ?_|(refine And.intro ?_ ?_<;>intro h<;>try first|(exfalso;omega)|exact absurd rfl h)|refine Z3 ?_|refine Z4 ?_|intro el hel hbB|intro el hel|intro ex|refine Z5 ?_|(refine A9 ?_ ?_;exact ⟨by kernel_rfl,by decide⟩)|refine A8 ?_ ?_|exact A7|refine A6 ?_ ?_|exact A5|(refine A0 ?_ ?_ ?_;kernel_rfl;kernel_rfl)) <;> (try (conv=>whnf)))
 refine C2 (ι:=Nat) (fun k=>⟨[(0, .sl 1 (l.map D2)),(1, .fn f caps),(7, .i l.length),(8, .i k)],0,[]⟩) (fun k=>k ≤ l.length ∧ I5 p l 0 = I5 p (l.drop k) k) (fun k=>l.length - k) 0 ⟨Nat.zero_le _,rfl⟩ (B0 h0 rfl ⟨rfl,rfl,rfl,rfl,trivial⟩ trivial rfl rfl rfl) (fun k hI=>?_)
 obtain ⟨hk,hI⟩:=hI
 repeat' ((first | refine B2 (hf _ (List.mem_of_getElem? hel)) ?_ |refine A4 ?_|refine S1 ?_|refine Z1 ?_|refine Z2 ?_|(refine And.intro ?_ ?_<;>intro h<;>try first|(exfalso;omega)|exact absurd rfl h)|refine Z3 ?_|refine Z4 ?_|intro el hel hbB|intro el hel|intro ex|refine Z5 ?_|(refine A9 ?_ ?_;exact ⟨by kernel_rfl,by decide⟩)|refine A8 ?_ ?_|exact A7|refine A6 ?_ ?_|exact A5|(refine A0 ?_ ?_ ?_;kernel_rfl;kernel_rfl)) <;> (try (conv=>whnf)))
 all_goals first
  | exact ⟨k + 1,⟨by omega,by rw [hI,S3 hel,I5,if_neg (by simp [h])];rfl⟩,by omega,B0 h0 rfl ⟨rfl,rfl,rfl,rfl,trivial⟩ trivial rfl rfl rfl⟩
  | exact B5 rfl (congrArg AV.i (by rw [hI,S3 hel,I5,if_pos (by simp [h])]))
  | exact B5 rfl (congrArg AV.i (by rw [hI,show k = l.length by omega,List.drop_length];rfl))
set_option maxHeartbeats 2000000 in
theorem WX (l:List (List Int)) (f:Nat) (caps:List AV) (p:(List Int) → Bool) (hf:∀ x ∈ l,B4 Tryz.prog f ((fun x=>.sl 1 (x.map wA)) x :: caps) (.b (p x))):B4 Tryz.prog 24 [.sl 1 (l.map D2), .fn f caps] (.b (l.any p)):=by
 refine F3 Tryz.func24 9 fun hrd E h0=>?_
 have hidx:=WW l f caps p hf
 repeat' ((first | refine B2 hidx ?_ |refine A4 ?_|refine S1 ?_|refine Z1 ?_|refine Z2 ?_|(refine And.intro ?_ ?_<;>intro h<;>try first|(exfalso;omega)|exact absurd rfl h)|refine Z3 ?_|refine Z4 ?_|intro el hel hbB|intro el hel|intro ex|refine Z5 ?_|(refine A9 ?_ ?_;exact ⟨by kernel_rfl,by decide⟩)|refine A8 ?_ ?_|exact A7|refine A6 ?_ ?_|exact A5|(refine A0 ?_ ?_ ?_;kernel_rfl;kernel_rfl)) <;> (try (conv=>whnf)))
 all_goals first
  | exact B5 rfl (congrArg AV.b (AN p l 0 (by omega)))
set_option maxHeartbeats 2000000 in
theorem NH (s:C4) (hr:H6 s = 0) (row:List Int):B4 Tryz.prog 25 [.sl 1 (row.map wA), .iptr (sL s)] (.b (!J8 s row)):=by
 have h1:=Li s row hr
 refine F3 Tryz.func25 8 fun hrd E h0=>?_
 clear hrd
 repeat' ((first | refine B2 h1 ?_ |refine A4 ?_|refine S1 ?_|refine Z1 ?_|refine Z2 ?_|(refine And.intro ?_ ?_<;>intro h<;>try first|(exfalso;omega)|exact absurd rfl h)|refine Z3 ?_|refine Z4 ?_|intro el hel hbB|intro el hel|intro ex|refine Z5 ?_|(refine A9 ?_ ?_;exact ⟨by kernel_rfl,by decide⟩)|refine A8 ?_ ?_|exact A7|refine A6 ?_ ?_|exact A5|(refine A0 ?_ ?_ ?_;kernel_rfl;kernel_rfl)) <;> (try (conv=>whnf)))
 all_goals first
  | exact B5 rfl rfl
end Go.Proofs.YtiphlhoclaogjabGreatDoor
namespace Go.Proofs.YtiphlhoclaogjabGreatDoor
open Go Go.Av
attribute [local irreducible] D6 B8 D8 D7 DQ E0 E1 St.le B4 B9
set_option maxRecDepth 100000
def o8 (h:List Int):Nat → List (Key × AV)
 | 0=>[]
 | k + 1=>match h[k]? with
   | some x=>W3 (o8 h k) (.i .i64 x) (.b true)
   | none=>o8 h k
theorem Hx {h:List Int} {k:Nat} {x:Int} (e:h[k]? = some x):o8 h (k + 1) = W3 (o8 h k) (.i .i64 x) (.b true):=by
 rw [o8,e]
theorem Dn (h:List Int):∀ k,X6 (.int .i64) (o8 h k)
 | 0=>fun p hp=>by cases hp
 | k + 1=>by
   unfold o8
   cases h[k]? with
   | none=>exact Dn h k
   | some x=>exact Jk (by rfl) (Dn h k)
theorem Jq (h:List Int) (b:Int):∀ k,X5 (o8 h k) (.i .i64 b) = if b ∈ h.take k then some (.b true) else none
 | 0=>by simp [o8,X5]
 | k + 1=>by
   have ih:=Jq h b k
   cases e:h[k]? with
   | none =>
     rw [o8,e,List.take_add_one,e]
     simpa using ih
   | some x =>
     rw [Hx e,Q2 e,RP]
     simp only [Key.i.injEq,true_and,List.mem_append,List.mem_singleton]
     by_cases e2:x = b
     ·subst e2;simp
     ·rw [if_neg e2,ih]
      by_cases e3:b ∈ h.take k
      ·rw [if_pos e3,if_pos (.inl e3)]
      ·rw [if_neg e3,if_neg (by rintro (h4 | h4);exact e3 h4;exact e2 h4.symm)]
theorem Tz (h:List Int) (k:Nat) (b:Int):k5 (o8 h k) (.i .i64 b) (R4 (.bool false)) = .b (decide (b ∈ h.take k)):=by
 unfold k5
 rw [Jq]
 by_cases e:b ∈ h.take k
 ·rw [if_pos e,decide_eq_true e]
 ·rw [if_neg e,decide_eq_false e];rfl
abbrev G3 (rows:List (List Int)):List Int:=rows.map fun r=>r.headD 0
def K4 (s:C4) (rows:List (List Int)):List UInt8 × Int :=
 if ¬ H6 s = 0 then ([],H6 s) else if 200 < rows.length then ([],1) else if (rows.any fun r=>!J8 s r) = true then ([],9)
 else if ¬ (G3 rows).Nodup then ([],10) else if 20000 < (m8 s rows).length then ([],1) else (m8 s rows,0)
theorem Do {rows:List (List Int)} {k:Nat} {x:Int} {r:List Int} (hr:rows[k]? = some (x :: r)):(G3 rows)[k]? = some x:=by simp [G3,hr]
theorem Hy {l:List Int} {x:Int} (h:l.Nodup) (hx:x ∉ l):(l ++ [x]).Nodup:=by
 rw [List.nodup_append]
 exact ⟨h,by simp,fun a ha b hb=>by rw [List.mem_singleton.1 hb];rintro rfl;exact hx ha⟩
theorem Jr {l:List Int} {k:Nat} {x:Int} (hk:l[k]? = some x) (hx:x ∈ l.take k):¬ l.Nodup:=fun h=>by
 rw [← List.take_append_drop k l,List.nodup_append] at h
 refine h.2.2 x hx x ?_ rfl
 exact List.mem_iff_getElem?.2 ⟨0,by rw [List.getElem?_drop];exact hk⟩
theorem Iz (t:List UInt8):0 ≤ R7 t ∧ R7 t ≤ 1000002:=by
 have:=Is t 7 (by decide)
 unfold R7
 omega
theorem MK (t:List UInt8):∀ w ∈ r8 t,w.length ≤ 21:=by
 obtain ⟨b1,b2⟩:=Iz t
 have:=Lib.itoa_length_le (R7 t) (by omega) (by omega)
 intro w hw
 simp only [r8,List.mem_cons,List.not_mem_nil,or_false] at hw
 rcases hw with rfl | rfl
 ·decide
 ·omega
theorem YO {s:C4} (hr:H6 s = 0):AE s ≠ []:=by
 unfold AE
 refine MJ fun e=>?_
 cases hcs:s.cols with
 | nil=>exact Fa hr hcs
 | cons c r =>
   rw [hcs,List.flatMap_cons] at e
   exact BT _ (List.append_eq_nil_iff.1 e).1
set_option maxHeartbeats 16000000 in
theorem GG (s:C4) (rows:List (List Int)):B4 Tryz.prog 10 [sA s, .sl 1 (rows.map D2)] (.tup [.str (K4 s rows).1, .i (K4 s rows).2]):=by
 have hsch:=NE s
 by_cases hr:H6 s = 0
 ·by_cases hn:200 < rows.length
  ·unfold K4
   rw [hr] at hsch ⊢
   rw [if_neg (by simp),if_pos hn]
   refine F3 Tryz.func10 55 fun hrd E h0=>?_
   clear hrd
   repeat' ((first | refine B2 hsch ?_ |refine A4 ?_|refine S1 ?_|refine Z1 ?_|refine Z2 ?_|(refine And.intro ?_ ?_<;>intro h<;>try first|(exfalso;omega)|exact absurd rfl h)|refine Z3 ?_|refine Z4 ?_|intro el hel hbB|intro el hel|intro ex|refine Z5 ?_|(refine A9 ?_ ?_;exact ⟨by kernel_rfl,by decide⟩)|refine A8 ?_ ?_|exact A7|refine A6 ?_ ?_|exact A5|(refine A0 ?_ ?_ ?_;kernel_rfl;kernel_rfl)) <;> (try (conv=>whnf)))
   all_goals first
    | (exfalso;omega)
    | exact F9 (rs:=[.tmp 4, .tmp 5]) (vs:=[_,_]) rfl ⟨⟨_,rfl, .refl _⟩,⟨_,rfl, .refl _⟩,trivial⟩ rfl
  ·have hany:=WX rows 25 [.iptr (sL s)] (fun r=>!J8 s r) (fun r _=>NH s hr r)
   by_cases hf:(rows.any fun r=>!J8 s r) = true
   ·rw [hf] at hany
    unfold K4
    rw [if_neg (by simp [hr]),if_neg hn,if_pos hf]
    rw [hr] at hsch
    clear hf
    refine F3 Tryz.func10 55 fun hrd E h0=>?_
    clear hrd
    repeat' ((first | refine B2 hsch ?_ | refine B2 hany ?_ |refine A4 ?_|refine S1 ?_|refine Z1 ?_|refine Z2 ?_|(refine And.intro ?_ ?_<;>intro h<;>try first|(exfalso;omega)|exact absurd rfl h)|refine Z3 ?_|refine Z4 ?_|intro el hel hbB|intro el hel|intro ex|refine Z5 ?_|(refine A9 ?_ ?_;exact ⟨by kernel_rfl,by decide⟩)|refine A8 ?_ ?_|exact A7|refine A6 ?_ ?_|exact A5|(refine A0 ?_ ?_ ?_;kernel_rfl;kernel_rfl) | refine P8 0 ?_) <;> (try (conv=>whnf)))
    all_goals first
     | (exfalso;omega)
     | exact F9 (rs:=[.tmp 4, .tmp 5]) (vs:=[_,_]) rfl ⟨⟨_,rfl, .refl _⟩,⟨_,rfl, .refl _⟩,trivial⟩ rfl
   ·rw [Bool.not_eq_true] at hf
    rw [hf] at hany
    have hfit:∀ r ∈ rows,J8 s r = true:=fun r h=>by simpa using List.any_eq_false.1 hf r h
    have hP:K4 s rows = if ¬ (G3 rows).Nodup then ([],10) else if 20000 < (m8 s rows).length then ([],1) else (m8 s rows,0):=by
     unfold K4
     rw [if_neg (by simp [hr]),if_neg hn,if_neg (by simp [hf])]
    rw [hP]
    have hhead:=RW s hr
    have hH:=Iw hr
    have hHn:=YO hr
    have hrl:=fun r h=>MI s hr r (hfit r h)
    have hrt:∀ r ∈ rows,(W1 s r).length ≤ 199:=fun r h=>(Cv hr (hfit r h)).2.2
    have hpc:=Z8 (W1 s) rows
    have hall:(rows.flatMap (W1 s)).length ≤ rows.length * 199:=d6 hrt
    have hne:∀ r ∈ rows,r ≠ []:=fun r h e=>by
     have h2:=(Bn (hfit r h)).1
     rw [e] at h2
     exact Fa hr (List.eq_nil_of_length_eq_zero h2.symm)
    rw [hr] at hsch
    clear hf hfit hrt hP
    have hB:N4 s rows = AE s ++ rows.flatMap (W1 s):=rfl
    have hF:m8 s rows = N4 s rows ++ C7 (r8 (N4 s rows)):=rfl
    have hw1:=Gc (AE s) (by omega)
    generalize AE s = H0 at *
    refine F3 Tryz.func10 55 fun hrd E h0=>?_
    clear hrd
    repeat' ((first | refine GF (T:=63) rfl ?_ | refine B2 hsch ?_ | refine B2 hany ?_ | refine B2 hhead ?_ |refine A4 ?_|refine S1 ?_|refine Z1 ?_|refine Z2 ?_|(refine And.intro ?_ ?_<;>intro h<;>try first|(exfalso;omega)|exact absurd rfl h)|refine Z3 ?_|refine Z4 ?_|intro el hel hbB|intro el hel|intro ex|refine Z5 ?_|(refine A9 ?_ ?_;exact ⟨by kernel_rfl,by decide⟩)|refine A8 ?_ ?_|exact A7|refine A6 ?_ ?_|exact A5|(refine A0 ?_ ?_ ?_;kernel_rfl;kernel_rfl) | refine nc [2] [0] hw1 rfl rfl rfl ⟨rfl,trivial⟩ ?_ | refine P8 0 ?_) <;> (try (conv=>whnf)))
    all_goals first
     | (exfalso;omega)
     | skip
    refine C2 (ι:=Nat) (fun k=>⟨[(2, .iptr (sL s)),(7, .mp 1),(8, .ref 2 0),(26, .sl 1 (rows.map D2)),(27, .i rows.length),(28, .i k)],4,(1,some (.map (o8 (G3 rows) k))) :: bU 2 3 (H0 ++ (rows.take k).flatMap (W1 s))⟩) (fun k=>k ≤ rows.length ∧ ((G3 rows).take k).Nodup) (fun k=>rows.length - k) 0 ⟨Nat.zero_le _,by simp⟩
     (B0 h0 rfl ⟨rfl,rfl,rfl,rfl,rfl,rfl,trivial⟩ ⟨rfl,congrArg (fun z:List UInt8=>C6.bx bB [.ref 2 0, .row 3 0 z.length]) (show H0 ++ _ = H0 from List.append_nil _),⟨_,congrArg (fun z:List UInt8=>C6.row eB 1 _ (H5 z)) (show H0 ++ _ = H0 from List.append_nil _)⟩,trivial⟩ rfl rfl rfl) (fun k hI=>?_)
    obtain ⟨hk,hI⟩:=hI
    by_cases hlt:k < rows.length
    ·obtain ⟨r,hrk⟩:∃ r,rows[k]? = some r:=⟨_,List.getElem?_eq_getElem hlt⟩
     have hrm:=List.mem_of_getElem? hrk
     obtain ⟨x,r1,rfl⟩:∃ x r1,r = x :: r1:=by
      cases r with
      | nil=>exact absurd rfl (hne _ hrm)
      | cons x r1=>exact ⟨x,r1,rfl⟩
     have hline:=hrl _ hrm
     have hsn:=W2 (W1 s) rows k hrk
     have hpk:=hpc k
     have hpk1:=hpc (k + 1)
     have hhs:=Do hrk
     have hX:H0 ++ (rows.take k).flatMap (W1 s) ++ W1 s (x :: r1) = H0 ++ (rows.take (k + 1)).flatMap (W1 s):=by rw [hsn,List.append_assoc]
     have hlX:(H0 ++ (rows.take k).flatMap (W1 s)).length + (W1 s (x :: r1)).length ≤ 140737488355328:=by
      rw [← List.length_append,hX,List.length_append];omega
     have hw:=d5 _ _ hlX
     have hx0:(x :: r1)[(0:Int).toNat]? = some x:=rfl
     have hnd:x ∉ (G3 rows).take k → ((G3 rows).take (k + 1)).Nodup:=fun h=>by rw [Q2 hhs];exact Hy hI h
     have hno:x ∈ (G3 rows).take k → (if ¬ (G3 rows).Nodup then (([],10):List UInt8 × Int) else if 20000 < (m8 s rows).length then ([],1) else (m8 s rows,0)) = ([],10):=fun h=>if_pos (Jr hhs h)
     have hss:=Hx hhs
     generalize H0 ++ (rows.take k).flatMap (W1 s) = X at *
     generalize W1 s (x :: r1) = N at *
     repeat' ((first | (refine A3 (x:=x :: r1) hrk (by omega) ?_) | (refine A3 (x:=x) hx0 (by omega) ?_) | (refine G9 ?_ ?_;exact Dn _ _) | refine Uw (Tz _ _ _) ?_ | refine B2 hline ?_ |refine A4 ?_|refine S1 ?_|refine Z1 ?_|refine Z2 ?_|(refine And.intro ?_ ?_<;>intro h<;>try first|(exfalso;omega)|exact absurd rfl h)|refine Z3 ?_|refine Z4 ?_|intro el hel hbB|intro el hel|intro ex|refine Z5 ?_|(refine A9 ?_ ?_;exact ⟨by kernel_rfl,by decide⟩)|refine A8 ?_ ?_|exact A7|refine A6 ?_ ?_|exact A5|(refine A0 ?_ ?_ ?_;kernel_rfl;kernel_rfl) | refine nc [2,3] [0,0] hw rfl rfl rfl ⟨rfl,rfl,trivial⟩ ?_) <;> (try (conv=>whnf)))
     all_goals first
      | (exfalso;omega)
      | (rw [hno h];exact F9 (rs:=[.tmp 4, .tmp 5]) (vs:=[_,_]) rfl ⟨⟨_,rfl, .refl _⟩,⟨_,rfl, .refl _⟩,trivial⟩ rfl)
      | exact ⟨k + 1,⟨by omega,hnd h⟩,by omega,B0 h0 rfl ⟨rfl,rfl,rfl,rfl,rfl,rfl,trivial⟩ ⟨congrArg C6.map hss,congrArg (fun z:List UInt8=>C6.bx bB [.ref 2 0, .row 3 0 z.length]) hX.symm,⟨_,congrArg (fun z:List UInt8=>C6.row eB 1 _ (H5 z)) hX.symm⟩,trivial⟩ rfl rfl rfl⟩
    ·obtain rfl:k = rows.length:=by omega
     rw [List.take_length]
     rw [List.take_of_length_le (by simp)] at hI
     rw [if_neg (fun h=>h hI),hF, ← hB]
     have hTn:N4 s rows ≠ []:=by rw [hB];exact fun e=>hHn (List.append_eq_nil_iff.1 e).1
     have hbl:(N4 s rows).length ≤ 67000:=by rw [hB,List.length_append];omega
     have hst:=WV (N4 s rows) hTn
     have hsm:=Dk (N4 s rows) (by omega)
     obtain ⟨b1,b2⟩:=Iz (N4 s rows)
     have hit:=G7 (R7 (N4 s rows)) (by omega) (by omega)
     have hsw:=MK (N4 s rows)
     have hj:=W8 (r8 (N4 s rows)) 21 hsw
     have hj2:(r8 (N4 s rows)).length = 2:=rfl
     have hln:=j8 (r8 (N4 s rows)) (by omega) (by omega)
     have hlb:(C7 (r8 (N4 s rows))).length ≤ 45:=by
      have:=U5 hsw
      omega
     clear hj hj2 hsw hB hF hrl hpc hall hany hw1 hH
     have hFn:N4 s rows ++ C7 (r8 (N4 s rows)) ≠ []:=fun e=>hTn (List.append_eq_nil_iff.1 e).1
     unfold r8 at *
     generalize R7 (N4 s rows) = m at *
     generalize Lib.itoa m = im at *
     generalize C7 [L7,im] = L at *
     generalize N4 s rows = B at *
     have hwF:=Tx B L hTn (by omega)
     generalize hFF:B ++ L = F at *
     have hlen:=YM (L9 + eB) F.length (H5 F)
     have hs2:=Ty F hFn
     have hFl:F.length ≤ 70000:=by rw [← hFF,List.length_append];omega
     repeat' ((first | refine B2 hsm ?_ | refine B2 hit ?_ | refine B2 hln ?_ |refine A4 ?_|refine S1 ?_|refine Z1 ?_|refine Z2 ?_|(refine And.intro ?_ ?_<;>intro h<;>try first|(exfalso;omega)|exact absurd rfl h)|refine Z3 ?_|refine Z4 ?_|intro el hel hbB|intro el hel|intro ex|refine Z5 ?_|(refine A9 ?_ ?_;exact ⟨by kernel_rfl,by decide⟩)|refine A8 ?_ ?_|exact A7|refine A6 ?_ ?_|exact A5|(refine A0 ?_ ?_ ?_;kernel_rfl;kernel_rfl) | refine nc [2,3] [0,0] hst rfl rfl rfl ⟨rfl,rfl,trivial⟩ ?_ | refine nc [2,3] [0,1] hwF rfl rfl rfl ⟨rfl,rfl,trivial⟩ ?_ | refine nc [2,3] [0,2] hwF rfl rfl rfl ⟨rfl,rfl,trivial⟩ ?_ | refine nc [2,3] [0,3] hwF rfl rfl rfl ⟨rfl,rfl,trivial⟩ ?_ | refine nc [2,3] [0,4] hwF rfl rfl rfl ⟨rfl,rfl,trivial⟩ ?_ | refine nc [2,3] [0,5] hwF rfl rfl rfl ⟨rfl,rfl,trivial⟩ ?_ | refine nc [2,3] [0,6] hwF rfl rfl rfl ⟨rfl,rfl,trivial⟩ ?_ | refine nc [2,3] [0,1] hlen rfl rfl rfl ⟨rfl,rfl,trivial⟩ ?_ | refine nc [2,3] [0,2] hlen rfl rfl rfl ⟨rfl,rfl,trivial⟩ ?_ | refine nc [2,3] [0,3] hlen rfl rfl rfl ⟨rfl,rfl,trivial⟩ ?_ | refine nc [2,3] [0,4] hlen rfl rfl rfl ⟨rfl,rfl,trivial⟩ ?_ | refine nc [2,3] [0,5] hlen rfl rfl rfl ⟨rfl,rfl,trivial⟩ ?_ | refine nc [2,3] [0,6] hlen rfl rfl rfl ⟨rfl,rfl,trivial⟩ ?_ | refine nc [2,3] [0,1] hs2 rfl rfl rfl ⟨rfl,rfl,trivial⟩ ?_ | refine nc [2,3] [0,2] hs2 rfl rfl rfl ⟨rfl,rfl,trivial⟩ ?_ | refine nc [2,3] [0,3] hs2 rfl rfl rfl ⟨rfl,rfl,trivial⟩ ?_ | refine nc [2,3] [0,4] hs2 rfl rfl rfl ⟨rfl,rfl,trivial⟩ ?_ | refine nc [2,3] [0,5] hs2 rfl rfl rfl ⟨rfl,rfl,trivial⟩ ?_ | refine nc [2,3] [0,6] hs2 rfl rfl rfl ⟨rfl,rfl,trivial⟩ ?_) <;> (try (conv=>whnf)))
     all_goals first
      | (exfalso;omega)
      | (rw [if_pos (by omega)];exact F9 (rs:=[.tmp 4, .tmp 5]) (vs:=[_,_]) rfl ⟨⟨_,rfl, .refl _⟩,⟨_,rfl, .refl _⟩,trivial⟩ rfl)
      | (rw [if_neg (by omega)];exact F9 (rs:=[.tmp 4, .tmp 5]) (vs:=[_,_]) rfl ⟨⟨_,rfl, .refl _⟩,⟨_,rfl, .refl _⟩,trivial⟩ rfl)
 ·unfold K4
  rw [if_pos hr]
  generalize H6 s = e at *
  refine F3 Tryz.func10 55 fun hrd E h0=>?_
  clear hrd
  repeat' ((first | refine B2 hsch ?_ |refine A4 ?_|refine S1 ?_|refine Z1 ?_|refine Z2 ?_|(refine And.intro ?_ ?_<;>intro h<;>try first|(exfalso;omega)|exact absurd rfl h)|refine Z3 ?_|refine Z4 ?_|intro el hel hbB|intro el hel|intro ex|refine Z5 ?_|(refine A9 ?_ ?_;exact ⟨by kernel_rfl,by decide⟩)|refine A8 ?_ ?_|exact A7|refine A6 ?_ ?_|exact A5|(refine A0 ?_ ?_ ?_;kernel_rfl;kernel_rfl)) <;> (try (conv=>whnf)))
  all_goals first
   | (exfalso;omega)
   | exact F9 (rs:=[.tmp 4, .tmp 5]) (vs:=[_,_]) rfl ⟨⟨_,rfl, .refl _⟩,⟨_,rfl, .refl _⟩,trivial⟩ rfl
end Go.Proofs.YtiphlhoclaogjabGreatDoor
