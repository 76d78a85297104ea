/- Fractions added and multiplied, by the program. -/
import Derived.Test.YtbhegmcbpolemaaDoorSJr5
import Derived.Test.YtbhegmcbpolemaaDoorSJx1
set_option linter.unusedVariables false
set_option linter.unnecessarySimpa false
set_option linter.unusedSimpArgs false
namespace Go.Proofs.YtbhegmcbpolemaaDoor
open Go Go.Av
attribute [local irreducible] E3 B5 F2 F0 DQ F5 G8 St.le B6 D3
set_option maxRecDepth 100000
def Ll (x:Int × (Int × Int)):AV:=.tup [a8 x.2, .i x.1]
theorem JA (o:Option (Int × Int)):FC o = Ll (Y9 o):=by cases o <;> rfl
theorem Nd (x y:Int):Int.gcd y (x.tmod y) = Int.gcd x y:=by
 show Nat.gcd y.natAbs (x.tmod y).natAbs = Nat.gcd x.natAbs y.natAbs
 rw [Int.natAbs_tmod,Nat.gcd_comm, ← Nat.gcd_rec,Nat.gcd_comm]
set_option maxHeartbeats 4000000 in
theorem Nf (a b:Int) (ha:-1152921504606846976 ≤ a ∧ a ≤ 1152921504606846976) (hb:-1152921504606846976 ≤ b ∧ b ≤ 1152921504606846976):B6 Tryd.prog 57 [.i a, .i b] (.i (Int.gcd a b)):=by
 refine E1 Tryd.func57 15 fun hrd E h0=>?_
 clear hrd
 repeat' ((first|refine A6 ?_|refine S1 ?_|refine Z1 ?_|refine Z2 ?_|(refine And.intro ?_ ?_<;>intro h<;>try first|(exfalso;omega)|exact absurd rfl h)|refine Z3 ?_|refine Z4 ?_|intro el hel hbB|intro el hel|intro ex|refine Z5 ?_|(refine B2 ?_ ?_;exact ⟨by kernel_rfl,by decide⟩)|refine B0 ?_ ?_|exact A9|refine A8 ?_ ?_|exact A7|(refine A3 ?_ ?_ ?_;kernel_rfl;kernel_rfl)) <;> (try (conv=>whnf)))
 refine F4 (ι:=Int × Int) (fun s=>⟨[(0, .i s.1),(1, .i s.2)],0,[]⟩) (fun s=>Int.gcd s.1 s.2 = Int.gcd a b ∧ (-1152921504606846976 ≤ s.1 ∧ s.1 ≤ 1152921504606846976) ∧ (-1152921504606846976 ≤ s.2 ∧ s.2 ≤ 1152921504606846976)) (fun s=>s.2.natAbs) (a,b) ⟨rfl,ha,hb⟩
  (B3 h0 rfl ⟨rfl,rfl,trivial⟩ trivial rfl rfl rfl) (fun s hI=>?_)
 obtain ⟨x,y⟩:=s
 obtain ⟨i1,i2,i3⟩:=hI
 dsimp only at i1 i2 i3 ⊢
 by_cases hy:y = 0
 ·subst hy
  have i4:Int.gcd x 0 = x.natAbs:=Int.gcd_zero_right x
  rw [i4] at i1
  rw [← i1]
  repeat' ((first|refine A6 ?_|refine S1 ?_|refine Z1 ?_|refine Z2 ?_|(refine And.intro ?_ ?_<;>intro h<;>try first|(exfalso;omega)|exact absurd rfl h)|refine Z3 ?_|refine Z4 ?_|intro el hel hbB|intro el hel|intro ex|refine Z5 ?_|(refine B2 ?_ ?_;exact ⟨by kernel_rfl,by decide⟩)|refine B0 ?_ ?_|exact A9|refine A8 ?_ ?_|exact A7|(refine A3 ?_ ?_ ?_;kernel_rfl;kernel_rfl)) <;> (try (conv=>whnf)))
  all_goals first
   | (exfalso;omega)
   | exact C1 rfl (congrArg AV.i (by omega))
 ·have t1:(x.tmod y).natAbs = x.natAbs % y.natAbs:=Int.natAbs_tmod x y
  have t2:=Nat.mod_lt x.natAbs (show 0 < y.natAbs by omega)
  have t3:=Nd x y
  repeat' ((first | (refine U2 ?_ ?_;kernel_rfl) |refine A6 ?_|refine S1 ?_|refine Z1 ?_|refine Z2 ?_|(refine And.intro ?_ ?_<;>intro h<;>try first|(exfalso;omega)|exact absurd rfl h)|refine Z3 ?_|refine Z4 ?_|intro el hel hbB|intro el hel|intro ex|refine Z5 ?_|(refine B2 ?_ ?_;exact ⟨by kernel_rfl,by decide⟩)|refine B0 ?_ ?_|exact A9|refine A8 ?_ ?_|exact A7|(refine A3 ?_ ?_ ?_;kernel_rfl;kernel_rfl)) <;> (try (conv=>whnf)))
  all_goals first
   | (exfalso;omega)
   | exact ⟨(y,x.tmod y),⟨t3.trans i1,i3,by dsimp only;omega⟩,by show (x.tmod y).natAbs < y.natAbs;omega,B3 h0 rfl ⟨rfl,rfl,trivial⟩ trivial rfl rfl rfl⟩
set_option maxHeartbeats 4000000 in
theorem V3 (p:Int × Int):B6 Tryd.prog 36 [a8 p] (.b (decide (okF p))):=by
 obtain ⟨n,d⟩:=p
 by_cases hb:1 ≤ d ∧ d ≤ 1152921504606846976 ∧ -1152921504606846976 ≤ n ∧ n ≤ 1152921504606846976
 ·have c1:=Nf n d (by omega) (by omega)
  have e:decide (okF (n,d)) = decide (Int.gcd n d = 1):=decide_eq_decide.2 ⟨fun h=>h.2.2.2.2,fun h=>⟨hb.1,hb.2.1,hb.2.2.1,hb.2.2.2,h⟩⟩
  rw [e]
  generalize Int.gcd n d = g at *
  refine E1 Tryd.func36 29 fun hrd E h0=>?_
  clear hrd
  repeat' ((first | refine A4 c1 ?_ |refine A6 ?_|refine S1 ?_|refine Z1 ?_|refine Z2 ?_|(refine And.intro ?_ ?_<;>intro h<;>try first|(exfalso;omega)|exact absurd rfl h)|refine Z3 ?_|refine Z4 ?_|intro el hel hbB|intro el hel|intro ex|refine Z5 ?_|(refine B2 ?_ ?_;exact ⟨by kernel_rfl,by decide⟩)|refine B0 ?_ ?_|exact A9|refine A8 ?_ ?_|exact A7|(refine A3 ?_ ?_ ?_;kernel_rfl;kernel_rfl)) <;> (try (conv=>whnf)))
  all_goals first
   | (exfalso;omega)
   | exact C1 rfl rfl
   | exact C1 rfl (congrArg AV.b (decide_eq_true (by omega)).symm)
   | exact C1 rfl (congrArg AV.b (decide_eq_false (by omega)).symm)
   | exact C1 rfl (congrArg AV.b (decide_eq_decide.2 (by omega)))
 ·have e:decide (okF (n,d)) = false:=decide_eq_false fun h=>hb ⟨h.1,h.2.1,h.2.2.1,h.2.2.2.1⟩
  rw [e]
  refine E1 Tryd.func36 29 fun hrd E h0=>?_
  clear hrd
  repeat' ((first|refine A6 ?_|refine S1 ?_|refine Z1 ?_|refine Z2 ?_|(refine And.intro ?_ ?_<;>intro h<;>try first|(exfalso;omega)|exact absurd rfl h)|refine Z3 ?_|refine Z4 ?_|intro el hel hbB|intro el hel|intro ex|refine Z5 ?_|(refine B2 ?_ ?_;exact ⟨by kernel_rfl,by decide⟩)|refine B0 ?_ ?_|exact A9|refine A8 ?_ ?_|exact A7|(refine A3 ?_ ?_ ?_;kernel_rfl;kernel_rfl)) <;> (try (conv=>whnf)))
  all_goals first
   | (exfalso;omega)
   | exact C1 rfl rfl
theorem Ao {p:Int × Int} (h:okF p):(1 ≤ p.2 ∧ p.2 ≤ 1152921504606846976) ∧ -1152921504606846976 ≤ p.1 ∧ p.1 ≤ 1152921504606846976:=⟨⟨h.1,h.2.1⟩,h.2.2.1,h.2.2.2.1⟩
theorem Qk {P:Program} {t T u U i j sz sz2 τ τ2:Nat} {l m:List AV} {a b r:AV} {σ:St} [tv:G2 P T true sz] [tv2:G2 P U true sz2] (h:Go.Av.look σ.sl t = some (.ref i 0)) (hb:A5 σ.hp i = some (.bx τ l)) (hl:Nat.beq l.length sz = true) (na:NL (.agg (V8 σ.hp [] l)) a) (h2:Go.Av.look σ.sl u = some (.ref j 0)) (hb2:A5 σ.hp j = some (.bx τ2 m)) (hl2:Nat.beq m.length sz2 = true) (nb:NL (.agg (V8 σ.hp [] m)) b) (e:.tup [a,b] = r):F5 P #[.cell t T, .cell u U] r .ret σ :=
 w4 (rs:=[.cell t T, .cell u U]) (vs:=[a,b]) rfl ⟨⟨i,τ,l,sz,h,hb,tv,Nat.eq_of_beq_eq_true hl,na⟩,⟨j,τ2,m,sz2,h2,hb2,tv2,Nat.eq_of_beq_eq_true hl2,nb⟩,trivial⟩ e
set_option maxHeartbeats 4000000 in
theorem CT (a b c d:Int) (h1:-9223372036854775808 ≤ a ∧ a ≤ 9223372036854775807) (h2:-9223372036854775808 ≤ b ∧ b ≤ 9223372036854775807) (h3:-9223372036854775808 ≤ c ∧ c ≤ 9223372036854775807) (h4:-9223372036854775808 ≤ d ∧ d ≤ 9223372036854775807):B6 Tryd.prog 41 [a8 (a,b),a8 (c,d)] (.tup [H9 (a * d),H9 (c * b)]):=by
 have c1:=H8 a h1.1 h1.2
 have c2:=H8 b h2.1 h2.2
 have c3:=H8 c h3.1 h3.2
 have c4:=H8 d h4.1 h4.2
 have c5:=V2 a d
 have c6:=V2 c b
 generalize a * d = x at *
 generalize c * b = y at *
 refine E1 Tryd.func41 20 fun hrd E h0=>?_
 clear hrd
 repeat' ((first | refine A4 c1 ?_ | refine A4 c2 ?_ | refine A4 c3 ?_ | refine A4 c4 ?_ | refine A4 c5 ?_ | refine A4 c6 ?_ | (refine S7 1 ?_;refine S8 (id:=1) (σ':=⟨[(2, .iptr [.i a, .i b]),(3, .iptr [.i c, .i d]),(4, .ref 2 0),(5, .ref 3 0)],4,[(2,some (.box [uA 0,uA 0])),(3,some (.box [uA 0,uA 0]))]⟩) (B3 h0 rfl ⟨rfl,rfl,rfl,rfl,trivial⟩ ⟨rfl,rfl,trivial⟩ rfl rfl rfl) ?_;refine F6 (id:=1) ⟨[(4, .ref 2 0),(5, .ref 3 0)],4,[(2,some (.box (G0 x))),(3,some (.box (G0 y)))]⟩ ?_ ?_) |refine A6 ?_|refine S1 ?_|refine Z1 ?_|refine Z2 ?_|(refine And.intro ?_ ?_<;>intro h<;>try first|(exfalso;omega)|exact absurd rfl h)|refine Z3 ?_|refine Z4 ?_|intro el hel hbB|intro el hel|intro ex|refine Z5 ?_|(refine B2 ?_ ?_;exact ⟨by kernel_rfl,by decide⟩)|refine B0 ?_ ?_|exact A9|refine A8 ?_ ?_|exact A7|(refine A3 ?_ ?_ ?_;kernel_rfl;kernel_rfl)) <;> (try (conv=>whnf)))
 all_goals first
  | exact B3 h0 rfl ⟨rfl,rfl,trivial⟩ ⟨rfl,rfl,trivial⟩ rfl rfl rfl
  | exact Qk rfl rfl rfl (.refl _) rfl rfl rfl (.refl _) rfl
end Go.Proofs.YtbhegmcbpolemaaDoor
