/- Chapter 3: the example of the chapter. -/
import Derived.Test.YtiphlhoclaogjabGreatDoorQKc5
import Derived.Test.YtiphlhoclaogjabGreatDoorQKb6
import Derived.Test.YtiphlhoclaogjabGreatDoorQB12
import Derived.Test.YtiphlhoclaogjabGreatDoorQKa0
import Derived.Test.YtiphlhoclaogjabGreatDoorQBk1
import Derived.Test.YtiphlhoclaogjabGreatDoorQKb1
set_option linter.unusedVariables false
set_option linter.unnecessarySimpa false
set_option linter.unusedSimpArgs false
namespace Go.Proofs.YtiphlhoclaogjabGreatDoor
open Go Go.Av
attribute [local irreducible] D1 B5 D5 D3 DQ D7 E0 St.le B3 B6
set_option maxRecDepth 100000
def IL:B8:=⟨[],[⟨[119,104,111],1,0,0,0,[],false⟩,⟨[109],3,0,0,9,[1],true⟩]⟩
abbrev Py:AV:=.agg [.v (.slice none 0 0), .sl 7 [[.str [119,104,111], .i 1, .i 0, .i 0, .i 0, .v (.slice none 0 0), .b false],[.str [109], .i 3, .i 0, .i 0, .i 9, .sl 1 [[.i 1]], .b true]]]
theorem XL:NL Py (sA IL):=RV ⟨.nil 2,ZT ⟨⟨.refl _, .refl _, .refl _, .refl _, .refl _, .nil 1, .refl _,trivial⟩,⟨.refl _, .refl _, .refl _, .refl _, .refl _, .refl _, .refl _,trivial⟩,trivial⟩,trivial⟩
theorem SV {f:Nat} {l:List AV} {r:AV} (h:B3 Tryz.prog f (sA IL :: l) r):B3 Tryz.prog f (Py :: l) r:=Tx h ⟨XL,Cv.refl l⟩
abbrev Mn:List UInt8:=[105,100,32,119,104,111,10,109,101,97,115,117,114,101,32,109,32,48,32,57,32,109,97,121,32,49,10,114,111,119,32,52,32,110,97,10,115,117,109,32,56,52,50,57,55,52,10]
abbrev Ge:List (List Int):=[[4,(-1099511627776)]]
theorem Ys:L3 IL Ge = (Mn,0):=by kernel_rfl
theorem Yt:a8 Mn = ((IL,Ge),0,0):=by kernel_rfl
set_option maxHeartbeats 4000000 in
theorem Ch:B3 Tryz.prog 7 [] (.b true):=by
 have c1:B3 Tryz.prog 10 [Py, .sl 1 [[.sl 1 [[.i 4],[.i (-1099511627776)]]]]] (.tup [.str Mn, .i 0]):=SV ((T8 IL Ge).congr (congrArg (fun z:List UInt8 × Int=>AV.tup [.str z.1, .i z.2]) Ys))
 have c2:B3 Tryz.prog 14 [.str Mn] (.tup [sA IL, .sl 1 (Ge.map D8), .i 0, .i 0]):=(BQ Mn).congr (congrArg (fun z:(B8 × List (List Int)) × Nat × Int=>AV.tup [sA z.1.1, .sl 1 (z.1.2.map D8), .i z.2.1, .i z.2.2]) Yt)
 have c3:B3 Tryz.prog 15 [Py, .sl 1 [[.sl 1 [[.i 4],[.i (-1099511627776)]]]],sA IL, .sl 1 (Ge.map D8)] (.b true):=SV ((IK IL Ge IL Ge).congr (congrArg AV.b (decide_eq_true ⟨rfl,rfl,rfl⟩)))
 have c4:B3 Tryz.prog 12 [.str []] (.i 7):=Br [] (by decide)
 have c5:B3 Tryz.prog 12 [.str [97]] (.i 328):=(Br [97] (by decide)).congr (congrArg AV.i (by decide))
 refine F3 Tryz.func7 63 fun hrd E h0=>?_
 clear hrd
 repeat' ((first | (refine G7 ?_ ?_;(show (0:Int) ≤ 0 ∧ (0:Int) ≤ 7 ∧ (7:Int) ≤ 47;decide)) | refine A9 c1 ?_ | refine A9 c2 ?_ | refine A9 c3 ?_ | refine A9 c4 ?_ | refine A9 c5 ?_ |refine A1 ?_|refine S1 ?_|refine Z1 ?_|refine Z2 ?_|(refine And.intro ?_ ?_<;>intro h<;>try first|(exfalso;omega)|exact absurd rfl h)|refine Z3 ?_|refine Z4 ?_|intro el hel hbB|intro el hel|intro ex|refine Z5 ?_|(refine A6 ?_ ?_;exact ⟨by kernel_rfl,by decide⟩)|refine A5 ?_ ?_|exact A4|refine A3 ?_ ?_|exact A2|(refine A0 ?_ ?_ ?_;kernel_rfl;kernel_rfl)) <;> (try (conv=>whnf)))
 all_goals first
  | exact B2 rfl rfl
end Go.Proofs.YtiphlhoclaogjabGreatDoor
namespace Go.Proofs.YtiphlhoclaogjabGreatDoor
open Go Go.Av
attribute [local irreducible] D1 B5 D5 D3 DQ D7 E0 St.le B3 B6
set_option maxRecDepth 100000
def U1 (l:List UInt8) (s:B8):Nat → List (List Int) × Nat → List (List Int) × Nat
 | 0,x=>x
 | n + 1,x=>U1 l s n (m9 x.1 (T4 l x.2 s).1,(T4 l x.2 s).2)
def k7 (l:List UInt8) (a:Nat) (most:Int):(B8 × List (List Int)) × Nat :=
 let r:=U1 l (m8 l a).1 (C4 l (m8 l a).2 (most + 1)).1 ([],(C4 l (m8 l a).2 (most + 1)).2)
 (((m8 l a).1,r.1),r.2)
theorem OV {s:B8} (hd:J1 s) (l:List UInt8) (a:Nat):(T4 l a s).1 ≠ []:=by
 have h:=(Wo hd l a).1
 have h2:=hd.lens
 intro e
 rw [e] at h
 simp at h;omega
theorem XM {row:List Int} (hr:row ≠ []) {q:List (List Int) × Bool} {x:List Int} (hx:x ≠ []) (hq:∀ y ∈ q.1,y ≠ []):∀ y ∈ (U3 row q x).1,y ≠ []:=by
 obtain ⟨out,done⟩:=q
 simp only [U3]
 split
 ·exact hq
 ·split
  ·intro y hy
   simp only [List.mem_append,List.mem_singleton] at hy
   rcases hy with (hy | rfl) | rfl
   ·exact hq y hy
   ·exact hr
   ·exact hx
  ·intro y hy
   simp only [List.mem_append,List.mem_singleton] at hy
   rcases hy with hy | rfl
   ·exact hq y hy
   ·exact hx
theorem XN {l:List (List Int)} {row:List Int} (hr:row ≠ []) (hl:∀ y ∈ l,y ≠ []):∀ y ∈ m9 l row,y ≠ []:=by
 have key:∀ (l:List (List Int)) (q:List (List Int) × Bool),(∀ y ∈ l,y ≠ []) → (∀ y ∈ q.1,y ≠ []) → ∀ y ∈ (l.foldl (U3 row) q).1,y ≠ []:=by
  intro l
  induction l with
  | nil=>intro q _ hq;exact hq
  | cons x r ih=>intro q hl hq;exact ih _ (fun y hy=>hl y (by simp [hy])) (XM hr (hl x (by simp)) hq)
 have h:=key l ([],false) hl (fun y hy=>by cases hy)
 unfold m9
 dsimp only at h ⊢
 split
 ·exact h
 ·intro y hy
  simp only [List.mem_append,List.mem_singleton] at hy
  rcases hy with hy | rfl
  ·exact h y hy
  ·exact hr
abbrev Gf (s:B8) (rows:List (List Int)):List AV:=[.sl 2 (s.lists.map F2), .sl 7 (s.cols.map C2), .sl 1 (rows.map D8), .v (.slice none 0 0), .i 0]
abbrev aW:Nat:=31
set_option maxHeartbeats 8000000 in
theorem Gg (l:List UInt8) (a:Nat) (most:Int) (hl:l.length ≤ 400) (hm:0 ≤ most) (hm2:most ≤ 1000):B6 Tryz.prog 9 1 (t8 l a) [.ref 0 0, .i most] 1 (t8 l (k7 l a most).2) (.agg (Gf (k7 l a most).1.1 (k7 l a most).1.2)):=by
 have h1:=Re l a hl
 have hd:=Hn l a
 unfold k7
 dsimp only
 generalize m8 l a = S at *
 obtain ⟨s,a1⟩:=S
 dsimp only at h1 hd ⊢
 have h2:=u3 l a1 (most + 1) hl
 have h3:=M7 l a1 (n:=most + 1) (by omega)
 generalize C4 l a1 (most + 1) = Q at *
 obtain ⟨n,a2⟩:=Q
 dsimp only at h2 h3 ⊢
 refine M6 Tryz.func9 28 fun E h0=>?_
 repeat' ((first|refine A1 ?_|refine S1 ?_|refine Z1 ?_|refine Z2 ?_|(refine And.intro ?_ ?_<;>intro h<;>try first|(exfalso;omega)|exact absurd rfl h)|refine Z3 ?_|refine Z4 ?_|intro el hel hbB|intro el hel|intro ex|refine Z5 ?_|(refine A6 ?_ ?_;exact ⟨by kernel_rfl,by decide⟩)|refine A5 ?_ ?_|exact A4|refine A3 ?_ ?_|exact A2|(refine A0 ?_ ?_ ?_;kernel_rfl;kernel_rfl) | refine nc [0] [0] h1 rfl rfl rfl ⟨rfl,trivial⟩ ?_ | refine nc [0] [0] h2 rfl rfl rfl ⟨rfl,trivial⟩ ?_) <;> (try (conv=>whnf)))
 clear h1 h2
 refine C5 (ι:=Nat × List (List Int) × Nat) (fun x=>⟨[(0, .ref 0 0),(4, .ref 1 0),(5, .iptr (sL s)),(6, .ref 3 0),(7, .i x.1)],4,[(0,some (.box [.sl 1 (l.map R8), .i x.2.2])),(1,some (.box [.v (.slice none 0 0), .v (.slice none 0 0), .v (.slice none 0 0), .v (.slice none 0 0), .i 0])),(3,some (.box (Gf s x.2.1)))]⟩)
  (fun x=>x.1 ≤ n ∧ x.2.1.length ≤ n - x.1 ∧ (∀ y ∈ x.2.1,y ≠ []) ∧ U1 l s n ([],a2) = U1 l s x.1 x.2) (fun x=>x.1) (n,[],a2) ⟨Nat.le_refl _,by simp,(fun y hy=>by cases hy),rfl⟩
  (C7 (Cy 3 (Gf s []) rfl ⟨.refl _, .refl _, .nil 1, .refl _, .refl _,trivial⟩) (A8 h0 rfl ⟨rfl,rfl,rfl,rfl,rfl,trivial⟩ ⟨rfl,rfl,rfl,trivial⟩ rfl rfl rfl)) (fun x hI=>?_)
 obtain ⟨k,rows,b⟩:=x
 obtain ⟨hk,hlen,hne,hI⟩:=hI
 dsimp only at hk hlen hne hI ⊢
 cases k with
 | zero =>
   rw [hI]
   simp only [U1]
   repeat' ((first|refine A1 ?_|refine S1 ?_|refine Z1 ?_|refine Z2 ?_|(refine And.intro ?_ ?_<;>intro h<;>try first|(exfalso;omega)|exact absurd rfl h)|refine Z3 ?_|refine Z4 ?_|intro el hel hbB|intro el hel|intro ex|refine Z5 ?_|(refine A6 ?_ ?_;exact ⟨by kernel_rfl,by decide⟩)|refine A5 ?_ ?_|exact A4|refine A3 ?_ ?_|exact A2|(refine A0 ?_ ?_ ?_;kernel_rfl;kernel_rfl)) <;> (try (conv=>whnf)))
   all_goals first
    | exact V1 (rvs:=[.cell 4 aW]) (vs:=[_]) ⟨1,_,_,rfl,rfl,inferInstance,rfl,rfl,trivial⟩ rfl rfl (A8 h0 rfl ⟨rfl,trivial⟩ ⟨rfl,trivial⟩ rfl rfl rfl) rfl
    | (exfalso;omega)
 | succ k =>
   have hrow:=Rf l b s hd hl
   have hput:=US rows (T4 l b s).1 (by omega) hne (OV hd l b)
   have hpl:=MT rows (T4 l b s).1
   have hpn:=XN (OV hd l b) hne
   have hstep:U1 l s (k + 1) (rows,b) = U1 l s k (m9 rows (T4 l b s).1,(T4 l b s).2):=rfl
   rw [hstep] at hI
   generalize m9 rows (T4 l b s).1 = rows2 at *
   generalize T4 l b s = R at *
   obtain ⟨r,b2⟩:=R
   dsimp only at hrow hput hI hstep
   repeat' ((first | (refine G1 6 ?_;refine K1 (id:=6) (σ':=⟨[(0, .ref 0 0),(4, .ref 1 0),(5, .iptr (sL s)),(6, .ref 3 0),(7, .i ((k + 1:Nat):Int))],4,[(0,some (.box [.sl 1 (l.map R8), .i b])),(1,some (.box [.v (.slice none 0 0), .v (.slice none 0 0), .v (.slice none 0 0), .v (.slice none 0 0), .i 0])),(3,some (.box (Gf s rows)))]⟩) (A8 h0 rfl ⟨rfl,rfl,rfl,rfl,rfl,trivial⟩ ⟨rfl,rfl,rfl,trivial⟩ rfl rfl rfl) ?_;refine I3 (id:=6) ⟨[(0, .ref 0 0),(4, .ref 1 0),(5, .iptr (sL s)),(6, .ref 3 0),(7, .i ((k + 1:Nat):Int))],4,[(0,some (.box [.sl 1 (l.map R8), .i b2])),(1,some (.box [.v (.slice none 0 0), .v (.slice none 0 0), .v (.slice none 0 0), .v (.slice none 0 0), .i 0])),(3,some (.box (Gf s rows2)))]⟩ ?_ ?_) |refine A1 ?_|refine S1 ?_|refine Z1 ?_|refine Z2 ?_|(refine And.intro ?_ ?_<;>intro h<;>try first|(exfalso;omega)|exact absurd rfl h)|refine Z3 ?_|refine Z4 ?_|intro el hel hbB|intro el hel|intro ex|refine Z5 ?_|(refine A6 ?_ ?_;exact ⟨by kernel_rfl,by decide⟩)|refine A5 ?_ ?_|exact A4|refine A3 ?_ ?_|exact A2|(refine A0 ?_ ?_ ?_;kernel_rfl;kernel_rfl) | refine nc [0] [0] hrow rfl rfl rfl ⟨rfl,trivial⟩ ?_ | refine A9 hput ?_) <;> (try (conv=>whnf)))
   all_goals first
    | exact A8 h0 rfl ⟨rfl,rfl,rfl,rfl,rfl,trivial⟩ ⟨rfl,rfl,rfl,trivial⟩ rfl rfl rfl
    | exact ⟨(k,rows2,b2),⟨by dsimp only;omega,by dsimp only;omega,hpn,hI⟩,by dsimp only;omega,A8 h0 rfl ⟨rfl,rfl,rfl,rfl,congrArg (fun z:Int=>some (AV.i z)) (by omega),trivial⟩ ⟨rfl,rfl,rfl,trivial⟩ rfl rfl rfl⟩
    | (exfalso;omega)
end Go.Proofs.YtiphlhoclaogjabGreatDoor
namespace Go.Proofs.YtiphlhoclaogjabGreatDoor
open Go Go.Av
attribute [local irreducible] D1 B5 D5 D3 DQ D7 E0 St.le B3 B6
set_option maxRecDepth 100000
def Pz (P:List (List Int)) (r0:Int) (q:List (List Int) × Bool):Prop:=(F6 q.1).Nodup ∧ ∀ h ∈ F6 q.1,(h ∈ F6 P ∧ h ≠ r0) ∨ (q.2 = true ∧ h = r0)
theorem CT {l:List Int} {x:Int} (h:l.Nodup) (hx:x ∉ l):(l ++ [x]).Nodup:=by
 rw [List.nodup_append]
 exact ⟨h,by simp,fun a ha b hb=>by rw [List.mem_singleton.1 hb];rintro rfl;exact hx ha⟩
theorem Q5 (a:List (List Int)) (x:List Int):F6 (a ++ [x]) = F6 a ++ [x.headD 0]:=by simp [F6]
theorem SW {P:List (List Int)} {row x:List Int} {q:List (List Int) × Bool} (h:Pz P (row.headD 0) q) (hx:x.headD 0 ∉ F6 P):Pz (P ++ [x]) (row.headD 0) (U3 row q x):=by
 obtain ⟨out,done⟩:=q
 obtain ⟨h1,h2⟩:=h
 have more:∀ h ∈ F6 out,(h ∈ F6 (P ++ [x]) ∧ h ≠ row.headD 0) ∨ (done = true ∧ h = row.headD 0):=fun h hh=>by
  rcases h2 h hh with g | g
  ·exact .inl ⟨by rw [Q5];exact List.mem_append_left _ g.1,g.2⟩
  ·exact .inr g
 unfold U3
 dsimp only
 by_cases e:x.headD 0 = row.headD 0
 ·rw [if_pos e]
  exact ⟨h1,more⟩
 ·rw [if_neg e]
  have hxo:x.headD 0 ∉ F6 out:=fun hm=>by
   rcases h2 _ hm with g | g
   ·exact hx g.1
   ·exact e g.2
  by_cases e2:row.headD 0 < x.headD 0 ∧ done = false
  ·rw [if_pos e2]
   have hr:row.headD 0 ∉ F6 out:=fun hm=>by
    rcases h2 _ hm with g | g
    ·exact g.2 rfl
    ·rw [e2.2] at g;cases g.1
   refine ⟨?_,fun h hh=>?_⟩
   ·rw [Q5,Q5]
    refine CT (CT h1 hr) ?_
    rw [List.mem_append,List.mem_singleton]
    rintro (g | g)
    ·exact hxo g
    ·exact e g
   ·rw [Q5,Q5,List.mem_append,List.mem_append,List.mem_singleton,List.mem_singleton] at hh
    rcases hh with (hh | hh) | hh
    ·rcases more h hh with g | g
     ·exact .inl g
     ·exact .inr ⟨rfl,g.2⟩
    ·exact .inr ⟨rfl,hh⟩
    ·exact .inl ⟨by rw [Q5,hh];simp,by rw [hh];exact e⟩
  ·rw [if_neg e2]
   refine ⟨by rw [Q5];exact CT h1 hxo,fun h hh=>?_⟩
   rw [Q5,List.mem_append,List.mem_singleton] at hh
   rcases hh with hh | hh
   ·exact more h hh
   ·exact .inl ⟨by rw [Q5,hh];simp,by rw [hh];exact e⟩
theorem Mo (row:List Int):∀ (l P:List (List Int)) (q:List (List Int) × Bool),Pz P (row.headD 0) q → (F6 (P ++ l)).Nodup → Pz (P ++ l) (row.headD 0) (l.foldl (U3 row) q)
 | [],P,q,h,_=>by rw [List.append_nil];exact h
 | x :: l,P,q,h,hn=>by
   have hx:x.headD 0 ∉ F6 P:=fun hm=>by
    rw [show F6 (P ++ x :: l) = F6 P ++ (x.headD 0 :: F6 l) by simp [F6],List.nodup_append] at hn
    exact hn.2.2 _ hm _ (List.mem_cons_self ..) rfl
   have:=Mo row l (P ++ [x]) (U3 row q x) (SW h hx) (by rw [List.append_assoc];exact hn)
   rw [List.append_assoc] at this
   exact this
theorem QA {l:List (List Int)} (row:List Int) (h:(F6 l).Nodup):(F6 (m9 l row)).Nodup:=by
 obtain ⟨h1,h2⟩:=Mo row l [] ([],false) ⟨by simp [F6],fun h hh=>by simp [F6] at hh⟩ (by rw [List.nil_append];exact h)
 unfold m9
 dsimp only
 by_cases hd:(l.foldl (U3 row) ([],false)).2 = true
 ·rw [if_pos hd];exact h1
 ·rw [if_neg hd,Q5]
  refine CT h1 fun hm=>?_
  rcases h2 _ hm with g | g
  ·exact g.2 rfl
  ·exact hd g.1
theorem Uz {row:List Int} {q:List (List Int) × Bool} {x y:List Int} (hy:y ∈ (U3 row q x).1):y ∈ q.1 ∨ y = row ∨ y = x:=by
 obtain ⟨out,done⟩:=q
 unfold U3 at hy
 dsimp only at hy
 split at hy
 ·exact .inl hy
 ·split at hy
  ·simp only [List.mem_append,List.mem_singleton] at hy
   rcases hy with (hy | hy) | hy
   ·exact .inl hy
   ·exact .inr (.inl hy)
   ·exact .inr (.inr hy)
  ·simp only [List.mem_append,List.mem_singleton] at hy
   rcases hy with hy | hy
   ·exact .inl hy
   ·exact .inr (.inr hy)
theorem VA {l:List (List Int)} {row y:List Int} (hy:y ∈ m9 l row):y ∈ l ∨ y = row:=by
 have key:∀ (l:List (List Int)) (q:List (List Int) × Bool),y ∈ (l.foldl (U3 row) q).1 → y ∈ q.1 ∨ y ∈ l ∨ y = row:=by
  intro l
  induction l with
  | nil=>intro q h;exact .inl h
  | cons x r ih =>
    intro q h
    rcases ih _ h with g | g | g
    ·rcases Uz g with k | k | k
     ·exact .inl k
     ·exact .inr (.inr k)
     ·exact .inr (.inl (by rw [k];simp))
    ·exact .inr (.inl (by simp [g]))
    ·exact .inr (.inr g)
 unfold m9 at hy
 dsimp only at hy
 split at hy
 ·rcases key _ _ hy with g | g | g
  ·cases g
  ·exact .inl g
  ·exact .inr g
 ·rcases List.mem_append.1 hy with g | g
  ·rcases key _ _ g with k | k | k
   ·cases k
   ·exact .inl k
   ·exact .inr k
  ·exact .inr (List.mem_singleton.1 g)
theorem VB {s:B8} (hr:F8 s = 0) {row:List Int} (h:Kg s row):I4 s row = true:=by
 have:=Wq hr h
 unfold Cg at this
 rw [if_pos hr] at this
 cases hf:I4 s row with
 | true=>rfl
 | false=>rw [hf,if_neg Bool.false_ne_true] at this;cases this
theorem IM {s:B8} (hd:J1 s) (l:List UInt8):∀ (n:Nat) (x:List (List Int) × Nat),(F6 x.1).Nodup → (∀ r ∈ x.1,I4 s r = true) → (F6 (U1 l s n x).1).Nodup ∧ (∀ r ∈ (U1 l s n x).1,I4 s r = true) ∧ (U1 l s n x).1.length ≤ x.1.length + n
 | 0,x,h1,h2=>⟨h1,h2,Nat.le_refl _⟩
 | n + 1,x,h1,h2=>by
   have h3:=IM hd l n (m9 x.1 (T4 l x.2 s).1,(T4 l x.2 s).2) (QA _ h1) (fun r hr=>by
    rcases VA hr with g | g
    ·exact h2 r g
    ·rw [g];exact VB hd.ok (Wp hd l x.2))
   refine ⟨h3.1,h3.2.1,?_⟩
   have h4:=h3.2.2
   have h5:=MT x.1 (T4 l x.2 s).1
   have e:U1 l s (n + 1) x = U1 l s n (m9 x.1 (T4 l x.2 s).1,(T4 l x.2 s).2):=rfl
   rw [e]
   dsimp only at h4
   omega
theorem OW:Ft.all (fun l=>decide (l.length ≤ 10)) = true:=by decide +kernel
theorem SX {s:B8} (hd:J1 s):(l9 s).length ≤ 3000:=by
 obtain ⟨l1,l2,m1,m2,hl⟩:=hd.ls
 obtain ⟨_,_,hc⟩:=hd.lens
 have h1:(s.lists.flatMap S0).length ≤ s.lists.length * 800:=d7 fun l hm=>by
  have hch:=(F7 hd.ok).2.2.1 l hm
  have h10:l.2.length ≤ 10:=by
   rw [hl] at hm
   simp only [List.mem_cons,List.not_mem_nil,or_false] at hm
   rcases hm with rfl | rfl
   ·exact of_decide_eq_true (List.all_eq_true.1 OW _ m1)
   ·exact of_decide_eq_true (List.all_eq_true.1 OW _ m2)
  have hn:l.1.length ≤ 16:=by
   have:D0 l.1 = true:=by
    cases hb:D0 l.1 with
    | true=>rfl
    | false=>rw [← AM (cs:=l.2) hb] at hch;cases hch
   exact Ar this
  have h1:(B7 [G6,l.1]).length ≤ 2 * 22 + 1:=U5 (B:=21) fun w hw=>by
   simp only [List.mem_cons,List.not_mem_nil,or_false] at hw
   rcases hw with rfl | rfl
   ·decide
   ·omega
  have h2:(l.2.flatMap fun c=>B7 (J7 c)).length ≤ l.2.length * 67:=d7 fun c hc=>U5 (B:=21) (Iy hch hc)
  unfold S0
  rw [List.length_append]
  omega
 have h4:(s.cols.flatMap fun c=>B7 (C3 c)).length ≤ s.cols.length * 199:=d7 fun c hc=>by
  obtain ⟨q1,q2⟩:=GW hd.ok hc
  have:=U5 q1
  have:=Nat.mul_le_mul_right 22 q2
  omega
 have h5:s.lists.length = 2:=by rw [hl];rfl
 unfold l9
 rw [List.length_append]
 omega
theorem Gh (l:List UInt8) (a:Nat) (most:Int) (h0:0 ≤ most) (hm:most ≤ 12):L3 (k7 l a most).1.1 (k7 l a most).1.2 = (O5 (k7 l a most).1.1 (k7 l a most).1.2,0) ∧ (O5 (k7 l a most).1.1 (k7 l a most).1.2).length ≤ 8000:=by
 have hd:=Hn l a
 have hn:=M7 l (m8 l a).2 (n:=most + 1) (by omega)
 obtain ⟨k1,k2,k3⟩:=IM hd l (C4 l (m8 l a).2 (most + 1)).1 ([],(C4 l (m8 l a).2 (most + 1)).2) (by simp [F6]) (fun r hr=>by cases hr)
 unfold k7
 dsimp only at k1 k2 k3 ⊢
 generalize (m8 l a).1 = s at *
 generalize (U1 l s _ _).1 = rows at *
 have hl:rows.length ≤ 12:=by simp only [List.length_nil] at k3;omega
 have hH:=SX hd
 have hall:(rows.flatMap (U4 s)).length ≤ rows.length * 199:=d7 fun r h=>(DA hd.ok (k2 r h)).2.2
 have hs:=U5 (MX (F9 s rows))
 have hF:(O5 s rows).length ≤ 8000:=by
  unfold O5
  rw [List.length_append]
  have:(F9 s rows).length = (l9 s).length + (rows.flatMap (U4 s)).length:=by unfold F9;rw [List.length_append]
  have e2:(P6 (F9 s rows)).length = 2:=rfl
  rw [e2] at hs
  omega
 refine ⟨?_,hF⟩
 rw [BW]
 have hc:r9 s rows = 0:=by
  unfold r9
  rw [if_neg (by rw [hd.ok];simp),if_neg (by omega),if_neg,if_neg (fun g=>g k1)]
  rw [Bool.not_eq_true,List.any_eq_false]
  intro r hr
  rw [k2 r hr];decide
 rw [if_neg (by rw [hc];simp),if_neg (by omega)]
end Go.Proofs.YtiphlhoclaogjabGreatDoor
