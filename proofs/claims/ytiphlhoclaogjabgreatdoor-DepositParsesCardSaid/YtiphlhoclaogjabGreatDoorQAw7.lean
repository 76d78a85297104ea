/- Chapter 3 and beyond: drawn sources. -/
import Derived.Test.YtiphlhoclaogjabGreatDoorQKa0
import Derived.Test.YtiphlhoclaogjabGreatDoorQRp1
import Derived.Test.YtiphlhoclaogjabGreatDoorQKb1
import Derived.Test.YtiphlhoclaogjabGreatDoorQSp8
import Derived.Test.YtiphlhoclaogjabGreatDoorQNm1
import Derived.Test.YtiphlhoclaogjabGreatDoorQXt2
import Derived.Test.YtiphlhoclaogjabGreatDoorQF7
import Derived.Test.YtiphlhoclaogjabGreatDoorQB8
import Derived.Test.YtiphlhoclaogjabGreatDoorQB12
import Derived.Test.YtiphlhoclaogjabGreatDoorQB4
set_option linter.unusedVariables false
set_option linter.unnecessarySimpa false
set_option linter.unusedSimpArgs false
namespace Go.Proofs.YtiphlhoclaogjabGreatDoor
open Go Go.Av
attribute [local irreducible] D6 B8 D8 D7 DQ E0 E1 St.le B4 B9
set_option maxRecDepth 100000
def U0 (l:List UInt8) (s:C4):Nat → List (List Int) × Nat → List (List Int) × Nat
 | 0,x=>x
 | n + 1,x=>U0 l s n (l9 x.1 (T4 l x.2 s).1,(T4 l x.2 s).2)
def BA (l:List UInt8) (a:Nat) (most:Int):(C4 × List (List Int)) × Nat :=
 let r:=U0 l (l8 l a).1 (C9 l (l8 l a).2 (most + 1)).1 ([],(C9 l (l8 l a).2 (most + 1)).2)
 (((l8 l a).1,r.1),r.2)
theorem OG {s:C4} (hd:J9 s) (l:List UInt8) (a:Nat):(T4 l a s).1 ≠ []:=by
 have h:=(WN hd l a).1
 have h2:=hd.lens
 intro e
 rw [e] at h
 simp at h;omega
theorem Wj {row:List Int} (hr:row ≠ []) {q:List (List Int) × Bool} {x:List Int} (hx:x ≠ []) (hq:∀ y ∈ q.1,y ≠ []):∀ y ∈ (U4 row q x).1,y ≠ []:=by
 obtain ⟨out,done⟩:=q
 simp only [U4]
 split
 ·exact hq
 ·split
  ·intro y hy
   simp only [List.mem_append,List.mem_singleton] at hy
   rcases hy with (hy | rfl) | rfl
   ·exact hq y hy
   ·exact hr
   ·exact hx
  ·intro y hy
   simp only [List.mem_append,List.mem_singleton] at hy
   rcases hy with hy | rfl
   ·exact hq y hy
   ·exact hx
theorem Wk {l:List (List Int)} {row:List Int} (hr:row ≠ []) (hl:∀ y ∈ l,y ≠ []):∀ y ∈ l9 l row,y ≠ []:=by
 have key:∀ (l:List (List Int)) (q:List (List Int) × Bool),(∀ y ∈ l,y ≠ []) → (∀ y ∈ q.1,y ≠ []) → ∀ y ∈ (l.foldl (U4 row) q).1,y ≠ []:=by
  intro l
  induction l with
  | nil=>intro q _ hq;exact hq
  | cons x r ih=>intro q hl hq;exact ih _ (fun y hy=>hl y (by simp [hy])) (Wj hr (hl x (by simp)) hq)
 have h:=key l ([],false) hl (fun y hy=>by cases hy)
 unfold l9
 dsimp only at h ⊢
 split
 ·exact h
 ·intro y hy
  simp only [List.mem_append,List.mem_singleton] at hy
  rcases hy with hy | rfl
  ·exact h y hy
  ·exact hr
abbrev MY (s:C4) (rows:List (List Int)):List AV:=[.sl 2 (s.lists.map D3), .sl 7 (s.cols.map C0), .sl 1 (rows.map D2), .v (.slice none 0 0), .i 0]
abbrev aV:Nat:=31
set_option maxHeartbeats 8000000 in
theorem UT (l:List UInt8) (a:Nat) (most:Int) (hl:l.length ≤ 400) (hm:0 ≤ most) (hm2:most ≤ 1000):B9 Tryz.prog 9 1 (s9 l a) [.ref 0 0, .i most] 1 (s9 l (BA l a most).2) (.agg (MY (BA l a most).1.1 (BA l a most).1.2)):=by
 have h1:=RM l a hl
 have hd:=Hk l a
 unfold BA
 dsimp only
 generalize l8 l a = S at *
 obtain ⟨s,a1⟩:=S
 dsimp only at h1 hd ⊢
 have h2:=t8 l a1 (most + 1) hl
 have h3:=N7 l a1 (n:=most + 1) (by omega)
 generalize C9 l a1 (most + 1) = Q at *
 obtain ⟨n,a2⟩:=Q
 dsimp only at h2 h3 ⊢
 refine J1 Tryz.func9 28 fun E h0=>?_
 repeat' ((first|refine A4 ?_|refine S1 ?_|refine Z1 ?_|refine Z2 ?_|(refine And.intro ?_ ?_<;>intro h<;>try first|(exfalso;omega)|exact absurd rfl h)|refine Z3 ?_|refine Z4 ?_|intro el hel hbB|intro el hel|intro ex|refine Z5 ?_|(refine A9 ?_ ?_;exact ⟨by kernel_rfl,by decide⟩)|refine A8 ?_ ?_|exact A7|refine A6 ?_ ?_|exact A5|(refine A0 ?_ ?_ ?_;kernel_rfl;kernel_rfl) | refine nc [0] [0] h1 rfl rfl rfl ⟨rfl,trivial⟩ ?_ | refine nc [0] [0] h2 rfl rfl rfl ⟨rfl,trivial⟩ ?_) <;> (try (conv=>whnf)))
 clear h1 h2
 refine C2 (ι:=Nat × List (List Int) × Nat) (fun x=>⟨[(0, .ref 0 0),(4, .ref 1 0),(5, .iptr (sL s)),(6, .ref 3 0),(7, .i x.1)],4,[(0,some (.box [.sl 1 (l.map T7), .i x.2.2])),(1,some (.box [.v (.slice none 0 0), .v (.slice none 0 0), .v (.slice none 0 0), .v (.slice none 0 0), .i 0])),(3,some (.box (MY s x.2.1)))]⟩)
  (fun x=>x.1 ≤ n ∧ x.2.1.length ≤ n - x.1 ∧ (∀ y ∈ x.2.1,y ≠ []) ∧ U0 l s n ([],a2) = U0 l s x.1 x.2) (fun x=>x.1) (n,[],a2) ⟨Nat.le_refl _,by simp,(fun y hy=>by cases hy),rfl⟩
  (C3 (Ct 3 (MY s []) rfl ⟨.refl _, .refl _, .nil 1, .refl _, .refl _,trivial⟩) (B0 h0 rfl ⟨rfl,rfl,rfl,rfl,rfl,trivial⟩ ⟨rfl,rfl,rfl,trivial⟩ rfl rfl rfl)) (fun x hI=>?_)
 obtain ⟨k,rows,b⟩:=x
 obtain ⟨hk,hlen,hne,hI⟩:=hI
 dsimp only at hk hlen hne hI ⊢
 cases k with
 | zero =>
   rw [hI]
   simp only [U0]
   repeat' ((first|refine A4 ?_|refine S1 ?_|refine Z1 ?_|refine Z2 ?_|(refine And.intro ?_ ?_<;>intro h<;>try first|(exfalso;omega)|exact absurd rfl h)|refine Z3 ?_|refine Z4 ?_|intro el hel hbB|intro el hel|intro ex|refine Z5 ?_|(refine A9 ?_ ?_;exact ⟨by kernel_rfl,by decide⟩)|refine A8 ?_ ?_|exact A7|refine A6 ?_ ?_|exact A5|(refine A0 ?_ ?_ ?_;kernel_rfl;kernel_rfl)) <;> (try (conv=>whnf)))
   all_goals first
    | exact H8 (rvs:=[.cell 4 aV]) (vs:=[_]) ⟨1,_,_,rfl,rfl,inferInstance,rfl,rfl,trivial⟩ rfl rfl (B0 h0 rfl ⟨rfl,trivial⟩ ⟨rfl,trivial⟩ rfl rfl rfl) rfl
    | (exfalso;omega)
 | succ k =>
   have hrow:=RN l b s hd hl
   have hput:=Ts rows (T4 l b s).1 (by omega) hne (OG hd l b)
   have hpl:=MH rows (T4 l b s).1
   have hpn:=Wk (OG hd l b) hne
   have hstep:U0 l s (k + 1) (rows,b) = U0 l s k (l9 rows (T4 l b s).1,(T4 l b s).2):=rfl
   rw [hstep] at hI
   generalize l9 rows (T4 l b s).1 = rows2 at *
   generalize T4 l b s = R at *
   obtain ⟨r,b2⟩:=R
   dsimp only at hrow hput hI hstep
   repeat' ((first | (refine G2 6 ?_;refine K5 (id:=6) (σ':=⟨[(0, .ref 0 0),(4, .ref 1 0),(5, .iptr (sL s)),(6, .ref 3 0),(7, .i ((k + 1:Nat):Int))],4,[(0,some (.box [.sl 1 (l.map T7), .i b])),(1,some (.box [.v (.slice none 0 0), .v (.slice none 0 0), .v (.slice none 0 0), .v (.slice none 0 0), .i 0])),(3,some (.box (MY s rows)))]⟩) (B0 h0 rfl ⟨rfl,rfl,rfl,rfl,rfl,trivial⟩ ⟨rfl,rfl,rfl,trivial⟩ rfl rfl rfl) ?_;refine G6 (id:=6) ⟨[(0, .ref 0 0),(4, .ref 1 0),(5, .iptr (sL s)),(6, .ref 3 0),(7, .i ((k + 1:Nat):Int))],4,[(0,some (.box [.sl 1 (l.map T7), .i b2])),(1,some (.box [.v (.slice none 0 0), .v (.slice none 0 0), .v (.slice none 0 0), .v (.slice none 0 0), .i 0])),(3,some (.box (MY s rows2)))]⟩ ?_ ?_) |refine A4 ?_|refine S1 ?_|refine Z1 ?_|refine Z2 ?_|(refine And.intro ?_ ?_<;>intro h<;>try first|(exfalso;omega)|exact absurd rfl h)|refine Z3 ?_|refine Z4 ?_|intro el hel hbB|intro el hel|intro ex|refine Z5 ?_|(refine A9 ?_ ?_;exact ⟨by kernel_rfl,by decide⟩)|refine A8 ?_ ?_|exact A7|refine A6 ?_ ?_|exact A5|(refine A0 ?_ ?_ ?_;kernel_rfl;kernel_rfl) | refine nc [0] [0] hrow rfl rfl rfl ⟨rfl,trivial⟩ ?_ | refine B2 hput ?_) <;> (try (conv=>whnf)))
   all_goals first
    | exact B0 h0 rfl ⟨rfl,rfl,rfl,rfl,rfl,trivial⟩ ⟨rfl,rfl,rfl,trivial⟩ rfl rfl rfl
    | exact ⟨(k,rows2,b2),⟨by dsimp only;omega,by dsimp only;omega,hpn,hI⟩,by dsimp only;omega,B0 h0 rfl ⟨rfl,rfl,rfl,rfl,congrArg (fun z:Int=>some (AV.i z)) (by omega),trivial⟩ ⟨rfl,rfl,rfl,trivial⟩ rfl rfl rfl⟩
    | (exfalso;omega)
end Go.Proofs.YtiphlhoclaogjabGreatDoor
namespace Go.Proofs.YtiphlhoclaogjabGreatDoor
open Go Go.Av
attribute [local irreducible] D6 B8 D8 D7 DQ E0 E1 St.le B4 B9
set_option maxRecDepth 100000
def Pi (P:List (List Int)) (r0:Int) (q:List (List Int) × Bool):Prop:=(G3 q.1).Nodup ∧ ∀ h ∈ G3 q.1,(h ∈ G3 P ∧ h ≠ r0) ∨ (q.2 = true ∧ h = r0)
theorem CP {l:List Int} {x:Int} (h:l.Nodup) (hx:x ∉ l):(l ++ [x]).Nodup:=by
 rw [List.nodup_append]
 exact ⟨h,by simp,fun a ha b hb=>by rw [List.mem_singleton.1 hb];rintro rfl;exact hx ha⟩
theorem R2 (a:List (List Int)) (x:List Int):G3 (a ++ [x]) = G3 a ++ [x.headD 0]:=by simp [G3]
theorem Rv {P:List (List Int)} {row x:List Int} {q:List (List Int) × Bool} (h:Pi P (row.headD 0) q) (hx:x.headD 0 ∉ G3 P):Pi (P ++ [x]) (row.headD 0) (U4 row q x):=by
 obtain ⟨out,done⟩:=q
 obtain ⟨h1,h2⟩:=h
 have more:∀ h ∈ G3 out,(h ∈ G3 (P ++ [x]) ∧ h ≠ row.headD 0) ∨ (done = true ∧ h = row.headD 0):=fun h hh=>by
  rcases h2 h hh with g | g
  ·exact .inl ⟨by rw [R2];exact List.mem_append_left _ g.1,g.2⟩
  ·exact .inr g
 unfold U4
 dsimp only
 by_cases e:x.headD 0 = row.headD 0
 ·rw [if_pos e]
  exact ⟨h1,more⟩
 ·rw [if_neg e]
  have hxo:x.headD 0 ∉ G3 out:=fun hm=>by
   rcases h2 _ hm with g | g
   ·exact hx g.1
   ·exact e g.2
  by_cases e2:row.headD 0 < x.headD 0 ∧ done = false
  ·rw [if_pos e2]
   have hr:row.headD 0 ∉ G3 out:=fun hm=>by
    rcases h2 _ hm with g | g
    ·exact g.2 rfl
    ·rw [e2.2] at g;cases g.1
   refine ⟨?_,fun h hh=>?_⟩
   ·rw [R2,R2]
    refine CP (CP h1 hr) ?_
    rw [List.mem_append,List.mem_singleton]
    rintro (g | g)
    ·exact hxo g
    ·exact e g
   ·rw [R2,R2,List.mem_append,List.mem_append,List.mem_singleton,List.mem_singleton] at hh
    rcases hh with (hh | hh) | hh
    ·rcases more h hh with g | g
     ·exact .inl g
     ·exact .inr ⟨rfl,g.2⟩
    ·exact .inr ⟨rfl,hh⟩
    ·exact .inl ⟨by rw [R2,hh];simp,by rw [hh];exact e⟩
  ·rw [if_neg e2]
   refine ⟨by rw [R2];exact CP h1 hxo,fun h hh=>?_⟩
   rw [R2,List.mem_append,List.mem_singleton] at hh
   rcases hh with hh | hh
   ·exact more h hh
   ·exact .inl ⟨by rw [R2,hh];simp,by rw [hh];exact e⟩
theorem MZ (row:List Int):∀ (l P:List (List Int)) (q:List (List Int) × Bool),Pi P (row.headD 0) q → (G3 (P ++ l)).Nodup → Pi (P ++ l) (row.headD 0) (l.foldl (U4 row) q)
 | [],P,q,h,_=>by rw [List.append_nil];exact h
 | x :: l,P,q,h,hn=>by
   have hx:x.headD 0 ∉ G3 P:=fun hm=>by
    rw [show G3 (P ++ x :: l) = G3 P ++ (x.headD 0 :: G3 l) by simp [G3],List.nodup_append] at hn
    exact hn.2.2 _ hm _ (List.mem_cons_self ..) rfl
   have:=MZ row l (P ++ [x]) (U4 row q x) (Rv h hx) (by rw [List.append_assoc];exact hn)
   rw [List.append_assoc] at this
   exact this
theorem Pj {l:List (List Int)} (row:List Int) (h:(G3 l).Nodup):(G3 (l9 l row)).Nodup:=by
 obtain ⟨h1,h2⟩:=MZ row l [] ([],false) ⟨by simp [G3],fun h hh=>by simp [G3] at hh⟩ (by rw [List.nil_append];exact h)
 unfold l9
 dsimp only
 by_cases hd:(l.foldl (U4 row) ([],false)).2 = true
 ·rw [if_pos hd];exact h1
 ·rw [if_neg hd,R2]
  refine CP h1 fun hm=>?_
  rcases h2 _ hm with g | g
  ·exact g.2 rfl
  ·exact hd g.1
theorem UU {row:List Int} {q:List (List Int) × Bool} {x y:List Int} (hy:y ∈ (U4 row q x).1):y ∈ q.1 ∨ y = row ∨ y = x:=by
 obtain ⟨out,done⟩:=q
 unfold U4 at hy
 dsimp only at hy
 split at hy
 ·exact .inl hy
 ·split at hy
  ·simp only [List.mem_append,List.mem_singleton] at hy
   rcases hy with (hy | hy) | hy
   ·exact .inl hy
   ·exact .inr (.inl hy)
   ·exact .inr (.inr hy)
  ·simp only [List.mem_append,List.mem_singleton] at hy
   rcases hy with hy | hy
   ·exact .inl hy
   ·exact .inr (.inr hy)
theorem UV {l:List (List Int)} {row y:List Int} (hy:y ∈ l9 l row):y ∈ l ∨ y = row:=by
 have key:∀ (l:List (List Int)) (q:List (List Int) × Bool),y ∈ (l.foldl (U4 row) q).1 → y ∈ q.1 ∨ y ∈ l ∨ y = row:=by
  intro l
  induction l with
  | nil=>intro q h;exact .inl h
  | cons x r ih =>
    intro q h
    rcases ih _ h with g | g | g
    ·rcases UU g with k | k | k
     ·exact .inl k
     ·exact .inr (.inr k)
     ·exact .inr (.inl (by rw [k];simp))
    ·exact .inr (.inl (by simp [g]))
    ·exact .inr (.inr g)
 unfold l9 at hy
 dsimp only at hy
 split at hy
 ·rcases key _ _ hy with g | g | g
  ·cases g
  ·exact .inl g
  ·exact .inr g
 ·rcases List.mem_append.1 hy with g | g
  ·rcases key _ _ g with k | k | k
   ·cases k
   ·exact .inl k
   ·exact .inr k
  ·exact .inr (List.mem_singleton.1 g)
theorem UW {s:C4} (hr:H6 s = 0) {row:List Int} (h:KV s row):J8 s row = true:=by
 have:=WP hr h
 unfold Ce at this
 rw [if_pos hr] at this
 cases hf:J8 s row with
 | true=>rfl
 | false=>rw [hf,if_neg Bool.false_ne_true] at this;cases this
theorem IH {s:C4} (hd:J9 s) (l:List UInt8):∀ (n:Nat) (x:List (List Int) × Nat),(G3 x.1).Nodup → (∀ r ∈ x.1,J8 s r = true) → (G3 (U0 l s n x).1).Nodup ∧ (∀ r ∈ (U0 l s n x).1,J8 s r = true) ∧ (U0 l s n x).1.length ≤ x.1.length + n
 | 0,x,h1,h2=>⟨h1,h2,Nat.le_refl _⟩
 | n + 1,x,h1,h2=>by
   have h3:=IH hd l n (l9 x.1 (T4 l x.2 s).1,(T4 l x.2 s).2) (Pj _ h1) (fun r hr=>by
    rcases UV hr with g | g
    ·exact h2 r g
    ·rw [g];exact UW hd.ok (WO hd l x.2))
   refine ⟨h3.1,h3.2.1,?_⟩
   have h4:=h3.2.2
   have h5:=MH x.1 (T4 l x.2 s).1
   have e:U0 l s (n + 1) x = U0 l s n (l9 x.1 (T4 l x.2 s).1,(T4 l x.2 s).2):=rfl
   rw [e]
   dsimp only at h4
   omega
theorem OH:GB.all (fun l=>decide (l.length ≤ 10)) = true:=by decide +kernel
theorem Rw {s:C4} (hd:J9 s):(AE s).length ≤ 3000:=by
 obtain ⟨l1,l2,m1,m2,hl⟩:=hd.ls
 obtain ⟨_,_,hc⟩:=hd.lens
 have h1:(s.lists.flatMap Z6).length ≤ s.lists.length * 800:=d6 fun l hm=>by
  have hch:=(J7 hd.ok).2.2.1 l hm
  have h10:l.2.length ≤ 10:=by
   rw [hl] at hm
   simp only [List.mem_cons,List.not_mem_nil,or_false] at hm
   rcases hm with rfl | rfl
   ·exact of_decide_eq_true (List.all_eq_true.1 OH _ m1)
   ·exact of_decide_eq_true (List.all_eq_true.1 OH _ m2)
  have hn:l.1.length ≤ 16:=by
   have:E7 l.1 = true:=by
    cases hb:E7 l.1 with
    | true=>rfl
    | false=>rw [← Bh (cs:=l.2) hb] at hch;cases hch
   exact Ar this
  have h1:(C7 [I8,l.1]).length ≤ 2 * 22 + 1:=U5 (B:=21) fun w hw=>by
   simp only [List.mem_cons,List.not_mem_nil,or_false] at hw
   rcases hw with rfl | rfl
   ·decide
   ·omega
  have h2:(l.2.flatMap fun c=>C7 (N1 c)).length ≤ l.2.length * 67:=d6 fun c hc=>U5 (B:=21) (Iu hch hc)
  unfold Z6
  rw [List.length_append]
  omega
 have h4:(s.cols.flatMap fun c=>C7 (D9 c)).length ≤ s.cols.length * 199:=d6 fun c hc=>by
  obtain ⟨q1,q2⟩:=Gd hd.ok hc
  have:=U5 q1
  have:=Nat.mul_le_mul_right 22 q2
  omega
 have h5:s.lists.length = 2:=by rw [hl];rfl
 unfold AE
 rw [List.length_append]
 omega
theorem UX (l:List UInt8) (a:Nat) (most:Int) (h0:0 ≤ most) (hm:most ≤ 12):K4 (BA l a most).1.1 (BA l a most).1.2 = (m8 (BA l a most).1.1 (BA l a most).1.2,0) ∧ (m8 (BA l a most).1.1 (BA l a most).1.2).length ≤ 8000:=by
 have hd:=Hk l a
 have hn:=N7 l (l8 l a).2 (n:=most + 1) (by omega)
 obtain ⟨k1,k2,k3⟩:=IH hd l (C9 l (l8 l a).2 (most + 1)).1 ([],(C9 l (l8 l a).2 (most + 1)).2) (by simp [G3]) (fun r hr=>by cases hr)
 unfold BA
 dsimp only at k1 k2 k3 ⊢
 generalize (l8 l a).1 = s at *
 generalize (U0 l s _ _).1 = rows at *
 have hl:rows.length ≤ 12:=by simp only [List.length_nil] at k3;omega
 have hH:=Rw hd
 have hall:(rows.flatMap (W1 s)).length ≤ rows.length * 199:=d6 fun r h=>(Cv hd.ok (k2 r h)).2.2
 have hs:=U5 (MK (N4 s rows))
 have hF:(m8 s rows).length ≤ 8000:=by
  unfold m8
  rw [List.length_append]
  have:(N4 s rows).length = (AE s).length + (rows.flatMap (W1 s)).length:=by unfold N4;rw [List.length_append]
  have e2:(r8 (N4 s rows)).length = 2:=rfl
  rw [e2] at hs
  omega
 refine ⟨?_,hF⟩
 rw [Nx]
 have hc:Bo s rows = 0:=by
  unfold Bo
  rw [if_neg (by rw [hd.ok];simp),if_neg (by omega),if_neg,if_neg (fun g=>g k1)]
  rw [Bool.not_eq_true,List.any_eq_false]
  intro r hr
  rw [k2 r hr];decide
 rw [if_neg (by rw [hc];simp),if_neg (by omega)]
end Go.Proofs.YtiphlhoclaogjabGreatDoor
namespace Go.Proofs.YtiphlhoclaogjabGreatDoor
open Go Go.Av
attribute [local irreducible] D6 B8 D8 D7 DQ E0 E1 St.le B4 B9
set_option maxRecDepth 100000
theorem ZX {z:List UInt8} (h:(D1 z).2 = true):(H9 [45] z).1.length ≤ 15:=by
 unfold D1 at h
 by_cases h1:(H9 [45] z).1.length < 1 ∨ 15 < (H9 [45] z).1.length
 ·rw [if_pos h1] at h;cases h
 ·omega
theorem Pl (n:Int):(Lib.itoa n).all (D0 32) = true:=by
 have h:=YJ n
 rw [List.all_eq_true] at h ⊢
 intro b hb
 have:=h b hb
 unfold Jl at this
 have:=(of_decide_eq_true this).1
 unfold D0
 rw [decide_eq_false (by rintro rfl;exact this rfl)];rfl
end Go.Proofs.YtiphlhoclaogjabGreatDoor
namespace Go.Proofs.YtiphlhoclaogjabGreatDoor
open Go Go.Av
attribute [local irreducible] D6 B8 D8 D7 DQ E0 E1 St.le B4 B9
set_option maxRecDepth 100000
def aw (l:List Pk) (i:Nat):Int:=l.foldl (fun (m:Int) (p:Pk)=>if p.col = (i:Int) then max m p.lev else m) 0
abbrev Yg (s:C4) (c:Int):Pk:=⟨c,Lj s c (Nm s c)⟩
abbrev aW (s:C4) (d:Pk):Pk:=⟨d.col,Lj s d.col d.lev⟩
def aX (ws:List Int) (width:Int):Int:=if 0 ≤ I5 (fun x=>decide (x = width)) ws 0 then ws.length - I5 (fun x=>decide (x = width)) ws 0 else 0
def aY (s:C4) (e:M5):List Pk :=
 if e.op = 4 ∨ e.op = 5 ∨ e.op = 10 ∨ e.op = 11 ∨ e.op = 12 ∨ e.op = 14 then (if 0 < e.col then [Yg s e.col] else [])
 else if e.op = 13 then [⟨e.col,Lj s e.col (aX (I7 s e.col).widths e.num)⟩] else []
def aZ (s:C4) (e:M5):List Pk:=e.dims.map (aW s) ++ aY s e ++ e.cols.map (Yg s)
mutual
def aa (s:C4):M5 → List Pk
 | .mk o n nm c cs ds cd ev ks=>PK (aw (aZ s (.mk o n nm c cs ds cd ev ks) ++ VJ s cd ++ VJ s ev ++ Yh s ks)) 0 s.cols.length
def Yh (s:C4):List M5 → List Pk
 | []=>[]
 | x :: r=>aa s x ++ Yh s r
end
structure Rx where
 name:List UInt8
 kind:Int
def VR (nm:List UInt8):List Rx → Int × Int → Int × Int
 | [],z=>z
 | b :: r,z=>VR nm r (if b.name = nm then (b.kind,0) else z)
def ab (before:List Rx) (nm:List UInt8):Int × Int:=VR nm before (0,24)
def ae (before:List Rx) (e:M5) (numbers:Bool):Int × Int :=
 if e.op = 2 then ab before e.name else if numbers = false then (0,16) else if UH e.op then (1,0) else (e.op - 8,0)
mutual
def UY (before:List Rx):M5 → Int × Int
 | .mk o n nm c cs ds cd ev ks=>if (Pm before ks true).1 = 0 then ae before (.mk o n nm c cs ds cd ev ks) (Pm before ks true).2 else (0,(Pm before ks true).1)
def Pm (before:List Rx):List M5 → Bool → Int × Bool
 | [],b=>(0,b)
 | x :: r,b=>if (UY before x).2 = 0 then Pm before r (b && decide ((UY before x).1 = 1)) else ((UY before x).2,b)
end
structure MapLv (m:List (Key × AV)) (lv:Nat → Int):Prop where
 keys:X6 (.int .i64) m
 get:∀ c:Nat,k5 m (.i .i64 c) (R4 (.int .i64 0)) = .i (lv c)
end Go.Proofs.YtiphlhoclaogjabGreatDoor
namespace Go.Proofs.YtiphlhoclaogjabGreatDoor
open Go Go.Av
attribute [local irreducible] D6 B8 D8 D7 DQ E0 E1 St.le B4 B9
set_option maxRecDepth 100000
def z7:J3:=.mk 0 0 0 0 0 []
def af:J3:=.mk 1 0 0 0 0 []
def t7:M5:=.mk 10 0 [] (-1) [] [⟨1,1⟩] af z7 []
def x7:M5:=.mk 6 0 [] 0 [] [] z7 z7 [.mk 2 0 [116] 0 [] [] z7 z7 [], .mk 1 0 [] 0 [] [] z7 z7 []]
end Go.Proofs.YtiphlhoclaogjabGreatDoor
