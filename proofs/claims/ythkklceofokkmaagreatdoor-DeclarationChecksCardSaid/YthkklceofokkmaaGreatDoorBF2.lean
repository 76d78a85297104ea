/- Schemas, rows and picks that came in. Conditions and picks that came in. Picks that came in. -/
import Derived.Test.YthkklceofokkmaaGreatDoorBB4
import Derived.Test.YthkklceofokkmaaGreatDoorBCd1
import Derived.Test.YthkklceofokkmaaGreatDoorBCm1
import Derived.Test.YthkklceofokkmaaGreatDoorBF6
import Derived.Test.YthkklceofokkmaaGreatDoorBCf1
set_option linter.unusedVariables false
set_option linter.unnecessarySimpa false
set_option linter.unusedSimpArgs false
namespace Go.Proofs.YthkklceofokkmaaGreatDoor
open Go Go.Av
attribute [local irreducible] E5 B7 E6 E7 DQ E8 F0 St.le B3 B5
set_option maxRecDepth 100000
theorem cC {f:Nat} {l:List AV} (h:Sh Tryz.prog f 32 l):∃ ws:List Int,ws.length ≤ maxLen ∧ l = [.sl 1 (ws.map wA)]:=by
 obtain ⟨f2,ls,hl,hall,rfl,_⟩:=EJ (c:=1) Tryz.underlying32 (by kernel_rfl) h
 obtain ⟨ws,rfl,_⟩:=Cg (F:=wA) (R:=cu) (fun x hx=>Ck (hall x hx))
 exact ⟨ws,by rw [List.length_map] at hl;exact hl,rfl⟩
theorem eN:∀ (n f:Nat),f < n → ∀ {l:List AV},Sh Tryz.prog f 25 l → ∃ c:A4,l = P4 c:=by
 intro n
 induction n with
 | zero=>intro f hf;omega
 | succ n ih =>
   intro f hf l h
   obtain ⟨f',hs,e0⟩:=DL (ts:=[3,3,3,3,3,23]) Tryz.underlying25 (by kernel_rfl) h
   obtain ⟨x1,r1,h1,⟨x2,r2,h2,⟨x3,r3,h3,⟨x4,r4,h4,⟨x5,r5,h5,⟨x6,r6,h6,h7,rfl⟩,rfl⟩,rfl⟩,rfl⟩,rfl⟩,rfl⟩:=hs
   obtain ⟨y1,_,rfl⟩:=Ck h1
   obtain ⟨y2,_,rfl⟩:=Ck h2
   obtain ⟨y3,_,rfl⟩:=Ck h3
   obtain ⟨y4,_,rfl⟩:=Ck h4
   obtain ⟨y5,_,rfl⟩:=Ck h5
   obtain ⟨f2,ls,_,hall,rfl,e⟩:=EJ (c:=6) Tryz.underlying23 (by kernel_rfl) h6
   obtain ⟨ks,rfl,_⟩:=Cg (F:=D5) (R:=fun _=>True) (fun x hx=>by
    obtain ⟨c,hc⟩:=ih f2 (by omega) (hall x hx)
    exact ⟨c,trivial,by rw [hc,Fd]⟩)
   cases h7
   exact ⟨.mk y1 y2 y3 y4 y5 ks,rfl⟩
theorem cD {f:Nat} {l:List AV} (h:Sh Tryz.prog f 59 l):∃ p:Pk,True ∧ l = P8 p:=by
 obtain ⟨f',hs,_⟩:=DL (ts:=[3,3]) Tryz.underlying59 (by kernel_rfl) h
 obtain ⟨x1,r1,h1,⟨x2,r2,h2,h3,rfl⟩,rfl⟩:=hs
 obtain ⟨y1,_,rfl⟩:=Ck h1
 obtain ⟨y2,_,rfl⟩:=Ck h2
 cases h3
 exact ⟨⟨y1,y2⟩,trivial,rfl⟩
end Go.Proofs.YthkklceofokkmaaGreatDoor
namespace Go.Proofs.YthkklceofokkmaaGreatDoor
open Go Go.Av
attribute [local irreducible] E5 B7 E6 E7 DQ E8 F0 St.le B3 B5
set_option maxRecDepth 100000
theorem MW {f:Nat} {l:List AV} (h:Sh Tryz.prog f 25 l):∃ c:A4,l = P4 c:=eN (f + 1) f (by omega) h
theorem WM {f:Nat} {l:List AV} (h:Sh Tryz.prog f 34 l):∃ q:D3,True ∧ l = C4 q:=by
 obtain ⟨f',hs,_⟩:=DL (ts:=[9,3,25,31,3,32,25]) Tryz.underlying34 (by kernel_rfl) h
 obtain ⟨x1,r1,h1,⟨x2,r2,h2,⟨x3,r3,h3,⟨x4,r4,h4,⟨x5,r5,h5,⟨x6,r6,h6,⟨x7,r7,h7,h8,rfl⟩,rfl⟩,rfl⟩,rfl⟩,rfl⟩,rfl⟩,rfl⟩:=hs
 obtain ⟨y1,_,rfl⟩:=XW h1
 obtain ⟨y2,_,rfl⟩:=Ck h2
 obtain ⟨y3,rfl⟩:=MW h3
 obtain ⟨f4,l4,_,hall4,rfl,_⟩:=EJ (c:=2) Tryz.underlying31 (by kernel_rfl) h4
 obtain ⟨y4,rfl,_⟩:=Cg (F:=P8) (R:=fun _=>True) (fun x hx=>cD (hall4 x hx))
 obtain ⟨y5,_,rfl⟩:=Ck h5
 obtain ⟨y6,_,rfl⟩:=cC h6
 obtain ⟨y7,rfl⟩:=MW h7
 cases h8
 exact ⟨⟨y1,y2,y3,y4,y5,y6,y7⟩,trivial,rfl⟩
theorem cE {a:AV} (h:V8 Tryz.prog 34 a):∃ q:D3,a = W7 q:=by
 obtain ⟨f,l,rfl,hs0⟩:=Ri (by kernel_rfl) h
 obtain ⟨q,_,rfl⟩:=WM hs0
 exact ⟨q,rfl⟩
theorem eO {f:Nat} {l:List AV} (h:Sh Tryz.prog f 27 l):∃ a b c:Int,l = [.i a, .i b, .i c]:=by
 obtain ⟨f',hs,_⟩:=DL (ts:=[3,3,3]) Tryz.underlying27 (by kernel_rfl) h
 obtain ⟨x1,r1,h1,⟨x2,r2,h2,⟨x3,r3,h3,h4,rfl⟩,rfl⟩,rfl⟩:=hs
 obtain ⟨y1,_,rfl⟩:=Ck h1
 obtain ⟨y2,_,rfl⟩:=Ck h2
 obtain ⟨y3,_,rfl⟩:=Ck h3
 cases h4
 exact ⟨y1,y2,y3,rfl⟩
theorem cF {a:AV} (h:V8 Tryz.prog 30 a):∃ d:F4,d.qs.length ≤ maxLen ∧ a = M5 d:=by
 obtain ⟨f,l,rfl,hs0⟩:=Ri (by kernel_rfl) h
 obtain ⟨f',hs,_⟩:=DL (ts:=[9,9,25,27,28]) Tryz.underlying30 (by kernel_rfl) hs0
 obtain ⟨x1,r1,h1,⟨x2,r2,h2,⟨x3,r3,h3,⟨x4,r4,h4,⟨x5,r5,h5,h6,rfl⟩,rfl⟩,rfl⟩,rfl⟩,rfl⟩:=hs
 obtain ⟨y1,_,rfl⟩:=XW h1
 obtain ⟨y2,_,rfl⟩:=XW h2
 obtain ⟨y3,rfl⟩:=MW h3
 obtain ⟨y4,y5,y6,rfl⟩:=eO h4
 obtain ⟨f7,l7,hl7,hall7,rfl,_⟩:=EJ (c:=17) Tryz.underlying28 (by kernel_rfl) h5
 obtain ⟨y7,rfl,_⟩:=Cg (F:=C4) (R:=fun _=>True) (fun x hx=>WM (hall7 x hx))
 cases h6
 exact ⟨⟨y1,y2,y3,y4,y5,y6,y7⟩,by simpa using hl7,rfl⟩
end Go.Proofs.YthkklceofokkmaaGreatDoor
namespace Go.Proofs.YthkklceofokkmaaGreatDoor
open Go Go.Av
attribute [local irreducible] E5 B7 E6 E7 DQ E8 F0 St.le B3 B5
set_option maxRecDepth 100000
set_option maxHeartbeats 4000000 in
theorem UK (s:B2) (p:Pk):B3 Tryz.prog 127 [sA s,Zc p] (.i (W4 s p)):=by
 have hfin:=IC s p.col
 have hin:=Fk p.lev 0 (I3 s p.col)
 refine F7 Tryz.func127 30 fun hrd E h0=>?_
 obtain ⟨hl1,hl2,hl3⟩:=Cl (s:=s) (hrd _ (by simp))
 clear hrd
 repeat' ((first | refine B0 (Af s) ?_ | refine B0 hfin ?_ | refine B0 hin ?_ | (refine J2 ?_ ?_;kernel_rfl) |refine A1 ?_|refine S1 ?_|refine Z1 ?_|refine Z2 ?_|(refine And.intro ?_ ?_<;>intro h<;>try first|(exfalso;omega)|exact absurd rfl h)|refine Z3 ?_|refine Z4 ?_|intro el hel hbB|intro el hel|intro ex|refine Z5 ?_|(refine A8 ?_ ?_;exact ⟨by kernel_rfl,by decide⟩)|refine A7 ?_ ?_|exact A6|refine A3 ?_ ?_|exact A2|(refine A0 ?_ ?_ ?_;kernel_rfl;kernel_rfl)) <;> (try (conv=>whnf)))
 all_goals first
  | exact A9 rfl (congrArg AV.i (by rw [W4,if_neg (by assumption)]))
  | skip
 all_goals
  have hr:C8 s = 0:=Classical.byContradiction (by assumption)
  rw [W4,if_pos hr,Fc]
  have e:I3 s p.col = R7 s p.col:=by rw [I3,if_pos hr]
  refine A9 rfl (congrArg AV.i ?_)
 all_goals first
  | (rw [if_pos (by unfold R7;rw [if_pos (by omega)];decide)];done)
  | (have hnn:0 ≤ R7 s p.col:=by
      have:=aq hr (column:=p.col) (by omega) (by omega)
      exact this
     first
      | (rw [if_neg (by omega),if_pos (by omega)];done)
      | (rw [if_neg (by omega),if_neg (by omega)];done))
end Go.Proofs.YthkklceofokkmaaGreatDoor
namespace Go.Proofs.YthkklceofokkmaaGreatDoor
open Go Go.Av
attribute [local irreducible] E5 B7 E6 E7 DQ E8 F0 St.le B3 B5
set_option maxRecDepth 100000
end Go.Proofs.YthkklceofokkmaaGreatDoor
namespace Go.Proofs.YthkklceofokkmaaGreatDoor
open Go Go.Av
attribute [local irreducible] E5 B7 E6 E7 DQ E8 F0 St.le B3 B5
set_option maxRecDepth 100000
set_option maxHeartbeats 4000000 in
theorem Jw (s:B2) (col kind:Int):B3 Tryz.prog 83 [sA s, .i col, .i kind] (.b (d0 s col kind)):=by
 refine F7 Tryz.func83 26 fun hrd E h0=>?_
 clear hrd
 repeat' ((first|refine A1 ?_|refine S1 ?_|refine Z1 ?_|refine Z2 ?_|(refine And.intro ?_ ?_<;>intro h<;>try first|(exfalso;omega)|exact absurd rfl h)|refine Z3 ?_|refine Z4 ?_|intro el hel hbB|intro el hel|intro ex|refine Z5 ?_|(refine A8 ?_ ?_;exact ⟨by kernel_rfl,by decide⟩)|refine A7 ?_ ?_|exact A6|refine A3 ?_ ?_|exact A2|(refine A0 ?_ ?_ ?_;kernel_rfl;kernel_rfl)) <;> (try (conv=>whnf)))
 all_goals first
  | exact A9 rfl (congrArg AV.b (by unfold d0;rw [decide_eq_false (by omega)]))
  | exact A9 rfl (congrArg AV.b (by unfold d0;rw [E0 hel,decide_eq_decide];omega))
set_option maxHeartbeats 4000000 in
theorem WN (l:List Int) (v:Int):B3 Tryz.prog 128 [.sl 1 (l.map wA), .i v] (.b (l.any fun x=>decide (x = v))):=by
 refine F7 Tryz.func128 18 fun hrd E h0=>?_
 have hlen:l.length ≤ 9223372036854775807:=by
  have:=(hrd (.sl 1 (l.map wA)) (by simp)).sl
  simpa using this
 clear hrd
 repeat' ((first|refine A1 ?_|refine S1 ?_|refine Z1 ?_|refine Z2 ?_|(refine And.intro ?_ ?_<;>intro h<;>try first|(exfalso;omega)|exact absurd rfl h)|refine Z3 ?_|refine Z4 ?_|intro el hel hbB|intro el hel|intro ex|refine Z5 ?_|(refine A8 ?_ ?_;exact ⟨by kernel_rfl,by decide⟩)|refine A7 ?_ ?_|exact A6|refine A3 ?_ ?_|exact A2|(refine A0 ?_ ?_ ?_;kernel_rfl;kernel_rfl)) <;> (try (conv=>whnf)))
 refine D8 (ι:=Nat) (fun k=>⟨[(0, .sl 1 (l.map wA)),(1, .i v),(5, .i k)],0,[]⟩) (fun k=>X9 (fun x=>decide (x = v)) l k) (fun k=>l.length - k) 0 (X9.zero _ _)
  (A5 h0 rfl ⟨rfl,rfl,rfl,trivial⟩ trivial rfl rfl rfl) (fun k hI=>?_)
 have hkl:=hI.1
 repeat' ((first | (refine J2 ?_ ?_;kernel_rfl) |refine A1 ?_|refine S1 ?_|refine Z1 ?_|refine Z2 ?_|(refine And.intro ?_ ?_<;>intro h<;>try first|(exfalso;omega)|exact absurd rfl h)|refine Z3 ?_|refine Z4 ?_|intro el hel hbB|intro el hel|intro ex|refine Z5 ?_|(refine A8 ?_ ?_;exact ⟨by kernel_rfl,by decide⟩)|refine A7 ?_ ?_|exact A6|refine A3 ?_ ?_|exact A2|(refine A0 ?_ ?_ ?_;kernel_rfl;kernel_rfl)) <;> (try (conv=>whnf)))
 all_goals first
  | exact A9 rfl (congrArg AV.b (hI.hit hel (by rw [decide_eq_true_iff];assumption)))
  | exact A9 rfl (congrArg AV.b (hI.done (by assumption)))
  | exact ⟨k + 1,hI.step hel (by rw [decide_eq_false_iff_not];assumption),by omega,A5 h0 rfl ⟨rfl,rfl,rfl,trivial⟩ trivial rfl rfl rfl⟩
theorem WO (l:List Int) (k:Nat) (v:Int):B3 Tryz.prog 128 [.sl 1 ((l.map wA).take k), .i v] (.b ((l.take k).any fun x=>decide (x = v))):=by
 have h:=WN (l.take k) v
 rw [List.map_take] at h
 exact h
theorem WP {s:B2} {p:Pk} (h:W4 s p = 0):0 ≤ p.col ∧ p.col < s.cols.length:=by
 unfold W4 Fc R7 at h
 by_cases hc:p.col < 1 ∨ (s.cols.length:Int) ≤ p.col
 ·rw [if_pos hc] at h
  split at h
  ·rw [if_pos (show (-1:Int) < 0 by omega)] at h
   omega
  ·exact absurd h (by assumption)
 ·omega
set_option maxHeartbeats 8000000 in
theorem UL (s:B2) (l:List Pk):B3 Tryz.prog 84 [sA s, .sl 2 (l.map P8)] (.i (i6 s l)):=by
 have hp:=fun d=>UK s d
 have hi:=fun c=>Jw s c 2
 unfold i6
 refine F7 Tryz.func84 55 fun hrd E h0=>?_
 have hlen:l.length ≤ 9223372036854775807:=by
  have:=(hrd (.sl 2 (l.map P8)) (by simp)).sl
  simpa using this
 clear hrd
 repeat' ((first|refine A1 ?_|refine S1 ?_|refine Z1 ?_|refine Z2 ?_|(refine And.intro ?_ ?_<;>intro h<;>try first|(exfalso;omega)|exact absurd rfl h)|refine Z3 ?_|refine Z4 ?_|intro el hel hbB|intro el hel|intro ex|refine Z5 ?_|(refine A8 ?_ ?_;exact ⟨by kernel_rfl,by decide⟩)|refine A7 ?_ ?_|exact A6|refine A3 ?_ ?_|exact A2|(refine A0 ?_ ?_ ?_;kernel_rfl;kernel_rfl)) <;> (try (conv=>whnf)))
 all_goals first
  | (rw [if_pos (by omega)];exact A9 rfl rfl)
  | skip
 rw [if_neg (by omega)]
 refine D8 (ι:=Nat) (fun k=>⟨[(1, .sl 2 (l.map P8)),(2, .ref 0 0),(5, .i k)],1,[(0,some (.box (sL s)))]⟩) (fun k=>L0 (s8 s l) l k) (fun k=>l.length - k) 0 (L0.zero _ _)
  (A5 h0 rfl ⟨rfl,rfl,rfl,trivial⟩ ⟨rfl,trivial⟩ rfl rfl rfl) (fun k hI=>?_)
 have hkl:=hI.1
 by_cases hlt:k < l.length
 ·obtain ⟨d,hd⟩:∃ d,l[k]? = some d:=⟨_,List.getElem?_eq_getElem hlt⟩
  have h1:=hp d
  have h2:=hi d.col
  have hno:∀ e:Int,s8 s l k d = e → ¬ e = 0 → e = I2 (s8 s l) 0 l:=fun e h3 h4=>by rw [← h3];exact hI.hit hd (by rw [h3];exact h4)
  have hye:s8 s l k d = 0 → L0 (s8 s l) l (k + 1):=fun h=>hI.step hd h
  unfold s8 at hno hye
  by_cases hpe:W4 s d = 0
  ·obtain ⟨hc0,hc1⟩:=WP hpe
   rw [hpe] at h1
   by_cases hk2:(C6 s d.col).kind = 2
   ·rw [show d0 s d.col 2 = true by unfold d0;rw [decide_eq_true_iff];exact ⟨hc0,hc1,hk2⟩] at h2
    repeat' ((first | (refine B1 (x:=d) hd (by omega) ?_) | refine B0 h1 ?_ | refine B0 h2 ?_ | (refine J2 ?_ ?_;kernel_rfl) |refine A1 ?_|refine S1 ?_|refine Z1 ?_|refine Z2 ?_|(refine And.intro ?_ ?_<;>intro h<;>try first|(exfalso;omega)|exact absurd rfl h)|refine Z3 ?_|refine Z4 ?_|intro el hel hbB|intro el hel|intro ex|refine Z5 ?_|(refine A8 ?_ ?_;exact ⟨by kernel_rfl,by decide⟩)|refine A7 ?_ ?_|exact A6|refine A3 ?_ ?_|exact A2|(refine A0 ?_ ?_ ?_;kernel_rfl;kernel_rfl)) <;> (try (conv=>whnf)))
    all_goals first
     | (exfalso;omega)
     | skip
    refine D8 (ι:=Nat) (fun j=>⟨[(1, .sl 2 (l.map P8)),(2, .ref 0 0),(5, .i k),(7, .i j)],1,[(0,some (.box (sL s)))]⟩) (fun j=>j ≤ k ∧ X9 (fun x=>decide (x.col = d.col)) (l.take k) j) (fun j=>k - j) 0 ⟨Nat.zero_le _,X9.zero _ _⟩
     (A5 h0 rfl ⟨rfl,rfl,rfl,rfl,trivial⟩ ⟨rfl,trivial⟩ rfl rfl rfl) (fun j hJ=>?_)
    obtain ⟨hj,hJ⟩:=hJ
    have htl:(l.take k).length = k:=by rw [List.length_take];omega
    repeat' ((first | (refine B1 (x:=d) hd (by omega) ?_) | (refine J2 ?_ ?_;kernel_rfl) |refine A1 ?_|refine S1 ?_|refine Z1 ?_|refine Z2 ?_|(refine And.intro ?_ ?_<;>intro h<;>try first|(exfalso;omega)|exact absurd rfl h)|refine Z3 ?_|refine Z4 ?_|intro el hel hbB|intro el hel|intro ex|refine Z5 ?_|(refine A8 ?_ ?_;exact ⟨by kernel_rfl,by decide⟩)|refine A7 ?_ ?_|exact A6|refine A3 ?_ ?_|exact A2|(refine A0 ?_ ?_ ?_;kernel_rfl;kernel_rfl)) <;> (try (conv=>whnf)))
    all_goals first
     | exact A9 rfl (congrArg AV.i (hno 10 (by rw [if_neg (by omega),if_neg (by omega),if_pos (hJ.hit (x:=el) (by rw [List.getElem?_take,if_pos (by omega)];exact hel) (decide_eq_true (by assumption))).symm]) (by omega)))
     | exact ⟨j + 1,⟨by omega,hJ.step (x:=el) (by rw [List.getElem?_take,if_pos (by omega)];exact hel) (decide_eq_false (by assumption))⟩,by omega,A5 h0 rfl ⟨rfl,rfl,rfl,rfl,trivial⟩ ⟨rfl,trivial⟩ rfl rfl rfl⟩
     | exact ⟨k + 1,hye (by rw [if_neg (by omega),if_neg (by omega),if_neg (by rw [← hJ.done (by rw [htl];assumption)];exact Bool.false_ne_true)]),by omega,A5 h0 rfl ⟨rfl,rfl,rfl,trivial⟩ ⟨rfl,trivial⟩ rfl rfl rfl⟩
   ·rw [show d0 s d.col 2 = false by unfold d0;rw [decide_eq_false_iff_not];omega] at h2
    repeat' ((first | (refine B1 (x:=d) hd (by omega) ?_) | refine B0 h1 ?_ | refine B0 h2 ?_ | (refine J2 ?_ ?_;kernel_rfl) |refine A1 ?_|refine S1 ?_|refine Z1 ?_|refine Z2 ?_|(refine And.intro ?_ ?_<;>intro h<;>try first|(exfalso;omega)|exact absurd rfl h)|refine Z3 ?_|refine Z4 ?_|intro el hel hbB|intro el hel|intro ex|refine Z5 ?_|(refine A8 ?_ ?_;exact ⟨by kernel_rfl,by decide⟩)|refine A7 ?_ ?_|exact A6|refine A3 ?_ ?_|exact A2|(refine A0 ?_ ?_ ?_;kernel_rfl;kernel_rfl)) <;> (try (conv=>whnf)))
    all_goals first
     | (exfalso;omega)
     | exact A9 rfl (congrArg AV.i (hno 7 (by rw [if_neg (by omega),if_pos (by omega)]) (by omega)))
  ·repeat' ((first | (refine B1 (x:=d) hd (by omega) ?_) | refine B0 h1 ?_ | refine B0 h2 ?_ | (refine J2 ?_ ?_;kernel_rfl) |refine A1 ?_|refine S1 ?_|refine Z1 ?_|refine Z2 ?_|(refine And.intro ?_ ?_<;>intro h<;>try first|(exfalso;omega)|exact absurd rfl h)|refine Z3 ?_|refine Z4 ?_|intro el hel hbB|intro el hel|intro ex|refine Z5 ?_|(refine A8 ?_ ?_;exact ⟨by kernel_rfl,by decide⟩)|refine A7 ?_ ?_|exact A6|refine A3 ?_ ?_|exact A2|(refine A0 ?_ ?_ ?_;kernel_rfl;kernel_rfl)) <;> (try (conv=>whnf)))
   all_goals first
    | (exfalso;omega)
    | exact A9 rfl (congrArg AV.i (hno (W4 s d) (by rw [if_pos (by omega)]) hpe))
 ·repeat' ((first|refine A1 ?_|refine S1 ?_|refine Z1 ?_|refine Z2 ?_|(refine And.intro ?_ ?_<;>intro h<;>try first|(exfalso;omega)|exact absurd rfl h)|refine Z3 ?_|refine Z4 ?_|intro el hel hbB|intro el hel|intro ex|refine Z5 ?_|(refine A8 ?_ ?_;exact ⟨by kernel_rfl,by decide⟩)|refine A7 ?_ ?_|exact A6|refine A3 ?_ ?_|exact A2|(refine A0 ?_ ?_ ?_;kernel_rfl;kernel_rfl)) <;> (try (conv=>whnf)))
  all_goals first
   | (exfalso;omega)
   | exact A9 rfl (congrArg AV.i (hI.done (by omega)).symm)
set_option maxHeartbeats 8000000 in
theorem RS (s:B2) (m:Int) (l:List Int):B3 Tryz.prog 85 [sA s, .i m, .sl 1 (l.map wA)] (.i (m4 s m l)):=by
 have hi:=fun c=>Jw s c 3
 unfold m4
 refine F7 Tryz.func85 45 fun hrd E h0=>?_
 have hlen:l.length ≤ 9223372036854775807:=by
  have:=(hrd (.sl 1 (l.map wA)) (by simp)).sl
  simpa using this
 clear hrd
 repeat' ((first|refine A1 ?_|refine S1 ?_|refine Z1 ?_|refine Z2 ?_|(refine And.intro ?_ ?_<;>intro h<;>try first|(exfalso;omega)|exact absurd rfl h)|refine Z3 ?_|refine Z4 ?_|intro el hel hbB|intro el hel|intro ex|refine Z5 ?_|(refine A8 ?_ ?_;exact ⟨by kernel_rfl,by decide⟩)|refine A7 ?_ ?_|exact A6|refine A3 ?_ ?_|exact A2|(refine A0 ?_ ?_ ?_;kernel_rfl;kernel_rfl)) <;> (try (conv=>whnf)))
 all_goals first
  | (rw [if_pos (by omega)];exact A9 rfl rfl)
  | skip
 rw [if_neg (by omega)]
 refine D8 (ι:=Nat) (fun k=>⟨[(1, .i m),(2, .sl 1 (l.map wA)),(3, .ref 0 0),(7, .i k)],1,[(0,some (.box (sL s)))]⟩) (fun k=>L0 (s9 s m l) l k) (fun k=>l.length - k) 0 (L0.zero _ _)
  (A5 h0 rfl ⟨rfl,rfl,rfl,rfl,trivial⟩ ⟨rfl,trivial⟩ rfl rfl rfl) (fun k hI=>?_)
 have hkl:=hI.1
 by_cases hlt:k < l.length
 ·obtain ⟨c,hc⟩:∃ c,l[k]? = some c:=⟨_,List.getElem?_eq_getElem hlt⟩
  have h1:=hi c
  have h2:=WO l k c
  have hno:∀ e:Int,s9 s m l k c = e → ¬ e = 0 → e = I2 (s9 s m l) 0 l:=fun e h3 h4=>by rw [← h3];exact hI.hit hc (by rw [h3];exact h4)
  have hye:s9 s m l k c = 0 → L0 (s9 s m l) l (k + 1):=fun h=>hI.step hc h
  unfold s9 at hno hye
  generalize d0 s c 3 = b at *
  generalize ((l.take k).any fun x=>decide (x = c)) = u at *
  repeat' ((first | (refine B1 (x:=c) hc (by omega) ?_) | refine B0 h1 ?_ | refine B0 h2 ?_ | (refine J2 ?_ ?_;kernel_rfl) |refine A1 ?_|refine S1 ?_|refine Z1 ?_|refine Z2 ?_|(refine And.intro ?_ ?_<;>intro h<;>try first|(exfalso;omega)|exact absurd rfl h)|refine Z3 ?_|refine Z4 ?_|intro el hel hbB|intro el hel|intro ex|refine Z5 ?_|(refine A8 ?_ ?_;exact ⟨by kernel_rfl,by decide⟩)|refine A7 ?_ ?_|exact A6|refine A3 ?_ ?_|exact A2|(refine A0 ?_ ?_ ?_;kernel_rfl;kernel_rfl)) <;> (try (conv=>whnf)))
  all_goals first
   | exact A9 rfl (congrArg AV.i (hno 7 (by rw [if_pos (by assumption)]) (by omega)))
   | exact A9 rfl (congrArg AV.i (hno 10 (by rw [if_neg (by simp [*]),if_pos (.inl (by assumption))]) (by omega)))
   | exact A9 rfl (congrArg AV.i (hno 10 (by rw [if_neg (by simp [*]),if_pos (.inr (by assumption))]) (by omega)))
   | exact ⟨k + 1,hye (by rw [if_neg (by simp [*]),if_neg (by simp [*])]),by omega,A5 h0 rfl ⟨rfl,rfl,rfl,rfl,trivial⟩ ⟨rfl,trivial⟩ rfl rfl rfl⟩
   | (exfalso;omega)
 ·repeat' ((first|refine A1 ?_|refine S1 ?_|refine Z1 ?_|refine Z2 ?_|(refine And.intro ?_ ?_<;>intro h<;>try first|(exfalso;omega)|exact absurd rfl h)|refine Z3 ?_|refine Z4 ?_|intro el hel hbB|intro el hel|intro ex|refine Z5 ?_|(refine A8 ?_ ?_;exact ⟨by kernel_rfl,by decide⟩)|refine A7 ?_ ?_|exact A6|refine A3 ?_ ?_|exact A2|(refine A0 ?_ ?_ ?_;kernel_rfl;kernel_rfl)) <;> (try (conv=>whnf)))
  all_goals first
   | (exfalso;omega)
   | exact A9 rfl (congrArg AV.i (hI.done (by omega)).symm)
set_option maxHeartbeats 4000000 in
theorem UM (c:A4):B3 Tryz.prog 53 [L8 c, .agg [.i 0, .i 0, .i 0, .i 0, .i 0, .v (.slice none 0 0)]] (.b (decide (U7 c))):=by
 rw [T6]
 refine F7 Tryz.func53 67 fun hrd E h0=>?_
 have hlen:c.kids.length ≤ 9223372036854775807:=by
  have:=((hrd _ (List.mem_cons_self ..)).agg (.sl 6 (c.kids.map P4)) (by simp)).sl
  simpa using this
 clear hrd
 repeat' ((first | (refine J2 ?_ ?_;kernel_rfl) |refine A1 ?_|refine S1 ?_|refine Z1 ?_|refine Z2 ?_|(refine And.intro ?_ ?_<;>intro h<;>try first|(exfalso;omega)|exact absurd rfl h)|refine Z3 ?_|refine Z4 ?_|intro el hel hbB|intro el hel|intro ex|refine Z5 ?_|(refine A8 ?_ ?_;exact ⟨by kernel_rfl,by decide⟩)|refine A7 ?_ ?_|exact A6|refine A3 ?_ ?_|exact A2|(refine A0 ?_ ?_ ?_;kernel_rfl;kernel_rfl)) <;> (try (conv=>whnf)))
 all_goals first
  | exact A9 rfl (congrArg AV.b (decide_eq_false (by omega)).symm)
  | skip
 refine D8 (ι:=Nat) (fun k=>⟨[(2, .ref 0 0),(5, .i k)],1,[(0,some (.box (Ax c)))]⟩) (fun k=>k = 0) (fun k=>1 - k) 0 rfl
  (A5 h0 rfl ⟨rfl,rfl,trivial⟩ ⟨rfl,trivial⟩ rfl rfl rfl) (fun k hk=>?_)
 subst hk
 repeat' ((first|refine A1 ?_|refine S1 ?_|refine Z1 ?_|refine Z2 ?_|(refine And.intro ?_ ?_<;>intro h<;>try first|(exfalso;omega)|exact absurd rfl h)|refine Z3 ?_|refine Z4 ?_|intro el hel hbB|intro el hel|intro ex|refine Z5 ?_|(refine A8 ?_ ?_;exact ⟨by kernel_rfl,by decide⟩)|refine A7 ?_ ?_|exact A6|refine A3 ?_ ?_|exact A2|(refine A0 ?_ ?_ ?_;kernel_rfl;kernel_rfl)) <;> (try (conv=>whnf)))
 all_goals first
  | exact A9 rfl (congrArg AV.b (decide_eq_true (by omega)).symm)
  | (exfalso;omega)
end Go.Proofs.YthkklceofokkmaaGreatDoor
namespace Go.Proofs.YthkklceofokkmaaGreatDoor
open Go Go.Av
attribute [local irreducible] E5 B7 E6 E7 DQ E8 F0 St.le B3 B5
set_option maxRecDepth 100000
abbrev ZI (e:O2):List AV:=[.i e.op, .i 0, .str [], .i 0, .v (.slice none 0 0), .v (.slice none 0 0), .i 0, .i 0, .i 0, .i 0, .i 0, .v (.slice none 0 0), .i 0, .i 0, .i 0, .i 0, .i 0, .v (.slice none 0 0), .v (.slice none 0 0)]
end Go.Proofs.YthkklceofokkmaaGreatDoor
