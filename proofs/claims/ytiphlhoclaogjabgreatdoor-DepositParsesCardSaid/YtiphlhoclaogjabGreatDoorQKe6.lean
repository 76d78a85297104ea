/- Chapter 3: the reference's reader: any line. -/
import Derived.Test.YtiphlhoclaogjabGreatDoorQKe4
import Derived.Test.YtiphlhoclaogjabGreatDoorQKe5
set_option linter.unusedVariables false
set_option linter.unnecessarySimpa false
set_option linter.unusedSimpArgs false
namespace Go.Proofs.YtiphlhoclaogjabGreatDoor
open Go Go.Av
attribute [local irreducible] D6 B8 D8 D7 DQ E0 E1 St.le B4 B9
set_option maxRecDepth 100000
abbrev OK (x:Fl):Nat:=Y6 ⟨x.1,x.2.1,x.2.2,0⟩
theorem Pp {x y:Fl} {w:List (List UInt8)} (hy:R3 x w = some y):(EG w → x.2.1 = [] ∧ x.2.2 = [] ∧ y.2.1 = [] ∧ y.2.2 = []) ∧ (¬ EG w → ¬ B6 w 0 = N3 → x.2.2 = []):=by
 obtain ⟨ls,cs,rs⟩:=x
 unfold R3 at hy
 split at hy
 ·cases hy
 split at hy
 ·rename_i h1
  split at hy
  ·cases hy
  ·rename_i h2
   cases hy
   refine ⟨fun _=>?_,fun g=>absurd (.inl h1) g⟩
   have a:cs = []:=Decidable.byContradiction fun g=>h2 (.inr (.inl g))
   have b:rs = []:=Decidable.byContradiction fun g=>h2 (.inr (.inr g))
   exact ⟨a,b,a,b⟩
 rename_i h1
 split at hy
 ·rename_i h2
  split at hy
  ·cases hy
  ·rename_i h3
   split at hy
   ·cases hy
    refine ⟨fun _=>?_,fun g=>absurd (.inr h2) g⟩
    have a:cs = []:=Decidable.byContradiction fun g=>h3 (.inr (.inr (.inl g)))
    have b:rs = []:=Decidable.byContradiction fun g=>h3 (.inr (.inr (.inr g)))
    exact ⟨a,b,a,b⟩
   ·cases hy
 rename_i h2
 refine ⟨fun g=>absurd g (fun g=>g.elim h1 h2),fun _ hr=>?_⟩
 split at hy
 ·split at hy
  ·cases hy
  ·rename_i h3
   exact Decidable.byContradiction fun g=>h3 (.inr g)
 split at hy
 ·split at hy
  ·cases hy
  ·rename_i h3
   exact Decidable.byContradiction fun g=>h3 (.inr g)
 split at hy
 ·split at hy
  ·cases hy
  ·split at hy
   ·cases hy
   ·rename_i h3
    exact Decidable.byContradiction fun g=>h3 g
 cases hy
theorem Pq {x y:Fl} {w:List (List UInt8)} (hy:R3 x w = some y):OK y ≤ OK x + 1:=by
 obtain ⟨ls,cs,rs⟩:=x
 unfold R3 at hy
 unfold OK Y6
 split at hy
 ·cases hy
 split at hy
 ·split at hy
  ·cases hy
  ·cases hy
   dsimp only
   rw [u4,List.length_append]
   simp only [List.length_nil,List.length_singleton];omega
 split at hy
 ·split at hy
  ·cases hy
  ·rename_i h
   split at hy
   ·cases hy
    have hne:ls ≠ []:=fun g=>h (.inr (.inl g))
    obtain ⟨X,l,rfl⟩:∃ X l,ls = X ++ [l]:=⟨ls.dropLast,ls.getLast hne,(List.dropLast_concat_getLast hne).symm⟩
    dsimp only
    rw [CN,u4,u4]
    simp only [List.length_append,List.length_singleton];omega
   ·cases hy
 split at hy
 ·split at hy
  ·cases hy
  ·cases hy
   dsimp only
   simp only [List.length_append,List.length_singleton];omega
 split at hy
 ·split at hy
  ·cases hy
  ·split at hy
   ·cases hy
    dsimp only
    simp only [List.length_append,List.length_singleton];omega
   ·cases hy
 split at hy
 ·split at hy
  ·cases hy
  ·split at hy
   ·cases hy
   ·cases hy
    dsimp only
    simp only [List.length_append,List.length_singleton];omega
 split at hy
 ·split at hy
  ·cases hy
  ·cases hy
   dsimp only
   simp only [List.length_append,List.length_singleton];omega
 ·cases hy
abbrev VS (P:Program) (tx:List UInt8) (n:Nat) (a:Hp) (x:AV) (b:Hp) (y:AV) (o:Bool):Prop:=B9 P 48 n a [x, .str tx] n b (.tup [y, .b o])
theorem Wu (tx:List UInt8) (w:List (List UInt8)) (c2:B4 Tryz.prog 38 [.str tx, .str [32]] (.sl 1 (w.map C1))) (ls:List CL) (y:Fl) (hB:ls.length ≤ 20001 ∧ ∀ l ∈ ls,l.2.length ≤ 20001) (hwl:∀ z ∈ w,z.length ≤ 20000) (hL:EG w) (hy:R3 (ls,[],[]) w = some y):VS Tryz.prog tx 3 (fB true (ls,[],[])) (z6 (ls,[],[])) (fB true y) (z6 y) true:=by
 unfold R3 at hy
 split at hy
 ·cases hy
 rename_i hw0
 split at hy
 ·rename_i h1
  split at hy
  ·cases hy
  ·rename_i h2
   cases hy
   exact Yk tx w c2 ls hw0 hB.1 (Decidable.byContradiction fun g=>h2 (.inl g)) h1
 rename_i h1
 have h2:B6 w 0 = W0:=hL.resolve_left h1
 rw [if_pos h2] at hy
 split at hy
 ·cases hy
 rename_i h3
 split at hy
 ·rename_i h4
  cases hy
  dsimp only at h3 ⊢
  have hne:ls ≠ []:=fun g=>h3 (.inr (.inl g))
  obtain ⟨X,l,rfl⟩:∃ X l,ls = X ++ [l]:=⟨ls.dropLast,ls.getLast hne,(List.dropLast_concat_getLast hne).symm⟩
  rw [CN]
  exact Wp tx w c2 X l _ hw0 (by have:=hB.1;rw [List.length_append] at this;omega) (hB.2 l (by simp)) hwl (Decidable.byContradiction fun g=>h3 (.inl g)) h2 (Prod.ext rfl h4)
 ·cases hy
theorem Wv (tx:List UInt8) (w:List (List UInt8)) (c2:B4 Tryz.prog 38 [.str tx, .str [32]] (.sl 1 (w.map C1))) (ls:List CL) (cs:List C5) (y:Fl) (hB:cs.length ≤ 20001) (hwL:0 < w.length ∧ w.length ≤ 20001) (hwl:∀ z ∈ w,z.length ≤ 20000) (hL:¬ EG w) (hr:¬ B6 w 0 = N3) (hy:R3 (ls,cs,[]) w = some y):∃ c,y = (ls,cs ++ [c],[]) ∧ VS Tryz.prog tx 3 (fB false (ls,cs,[])) (z6 (ls,cs,[])) (fB false (ls,cs ++ [c],[])) (z6 (ls,cs ++ [c],[])) true:=by
 unfold R3 at hy
 split at hy
 ·cases hy
 rename_i hw0
 split at hy
 ·exact absurd (.inl (by assumption)) hL
 split at hy
 ·exact absurd (.inr (by assumption)) hL
 split at hy
 ·rename_i h1
  split at hy
  ·cases hy
  ·rename_i h2
   cases hy
   exact ⟨_,rfl,Za tx w c2 ls cs hw0 hB (Decidable.byContradiction fun g=>h2 (.inl g)) h1⟩
 split at hy
 ·rename_i h1
  split at hy
  ·cases hy
  ·rename_i h2
   split at hy
   ·rename_i h3
    cases hy
    exact ⟨_,rfl,Yl tx w c2 ls cs hw0 hB _ hwl (Decidable.byContradiction fun g=>h2 (.inl g)) h1 (Prod.ext rfl h3)⟩
   ·cases hy
 split at hy
 ·rename_i h1
  obtain ⟨c,o,hc,ht,hf⟩:=Md w hwL.2 hwl
  split at hy
  ·cases hy
  ·rename_i c' hm
   split at hy
   ·cases hy
   ·cases hy
    cases o with
    | false=>rw [hf rfl] at hm;cases hm
    | true =>
      rw [ht rfl] at hm
      cases hm
      exact ⟨c,rfl,Ym tx w c2 ls cs hw0 hB c hwL h1 hc⟩
 cases hy
theorem Ww (tx:List UInt8) (w:List (List UInt8)) (c2:B4 Tryz.prog 38 [.str tx, .str [32]] (.sl 1 (w.map C1))) (ls:List CL) (cs:List C5) (rs:List (List Int)) (y:Fl) (hB:(ls.length ≤ 20001 ∧ ∀ l ∈ ls,l.2.length ≤ 20001) ∧ cs.length ≤ 20000 ∧ rs.length ≤ 20001) (hwL:0 < w.length ∧ w.length ≤ 20001) (hwl:∀ z ∈ w,z.length ≤ 20000) (hr:B6 w 0 = N3) (hy:R3 (ls,cs,rs) w = some y):∃ x,y = (ls,cs,rs ++ [x]) ∧ VS Tryz.prog tx 1 (rB rs) (rA ls cs rs) (rB (rs ++ [x])) (rA ls cs (rs ++ [x])) true:=by
 have hq:=II ls cs w hB.2.1 hB.1 hwl
 unfold R3 at hy
 split at hy
 ·cases hy
 rename_i hw0
 rw [hr,if_neg (by decide),if_neg (by decide),if_neg (by decide),if_neg (by decide),if_neg (by decide)] at hy
 dsimp only at hy
 cases hm:CR ls cs w with
 | none=>rw [hm] at hy;cases hy
 | some x =>
   rw [hm] at hy hq
   cases hy
   exact ⟨x,rfl,Yq tx w c2 ls cs rs hw0 hwL ⟨hB.1.1,by omega,hB.2.2⟩ x hr hq⟩
theorem Uj (tx:List UInt8) (w:List (List UInt8)) (c2:B4 Tryz.prog 38 [.str tx, .str [32]] (.sl 1 (w.map C1))) (ls:List CL) (cs:List C5) (rs:List (List Int)) (hB:(ls.length ≤ 20001 ∧ ∀ l ∈ ls,l.2.length ≤ 20001) ∧ cs.length ≤ 20000 ∧ rs.length ≤ 20001) (hwL:0 < w.length ∧ w.length ≤ 20001) (hwl:∀ z ∈ w,z.length ≤ 20000) (hy:R3 (ls,cs,rs) w = none):VS Tryz.prog tx 1 (rB rs) (rA ls cs rs) (rB rs) (rA ls cs rs) false:=by
 have hB3:ls.length ≤ 20001 ∧ cs.length ≤ 20001 ∧ rs.length ≤ 20001:=⟨hB.1.1,by omega,hB.2.2⟩
 unfold R3 at hy
 split at hy
 ·rename_i hw0;exact Ui tx w c2 ls cs rs hw0 hwL.2
 rename_i hw0
 split at hy
 ·rename_i h1
  split at hy
  ·rename_i h2;exact Wq tx w c2 ls cs rs hw0 hwL hB3 h1 h2
  ·cases hy
 rename_i n1
 split at hy
 ·rename_i h1
  split at hy
  ·rename_i h2;exact Wr tx w c2 ls cs rs hw0 hwL hB3 h1 h2
  ·rename_i h2
   split at hy
   ·cases hy
   ·rename_i h3
    exact Ug tx w c2 ls cs rs hw0 hwL hB3 hwl _ h1 (Decidable.byContradiction fun g=>h2 (.inl g)) (Prod.ext rfl (Bool.eq_false_iff.2 h3))
 rename_i n2
 split at hy
 ·rename_i h1
  split at hy
  ·rename_i h2;exact Zb tx w c2 ls cs rs hw0 hwL hB3 h1 h2
  ·cases hy
 rename_i n3
 split at hy
 ·rename_i h1
  split at hy
  ·rename_i h2;exact Yn tx w c2 ls cs rs hw0 hwL hB3 h1 h2
  ·rename_i h2
   split at hy
   ·cases hy
   ·rename_i h3
    exact Ws tx w c2 ls cs rs hw0 hwL hB3 hwl _ h1 (Decidable.byContradiction fun g=>h2 (.inl g)) (Prod.ext rfl (Bool.eq_false_iff.2 h3))
 rename_i n4
 split at hy
 ·rename_i h1
  obtain ⟨c,o,hc,ht,hf⟩:=Md w hwL.2 hwl
  cases o with
  | false=>exact Yo tx w c2 ls cs rs hw0 hwL hB3 c h1 hc
  | true =>
    rw [ht rfl] at hy
    dsimp only at hy
    split at hy
    ·rename_i h2;exact Wt tx w c2 ls cs rs hw0 hwL hB3 c h1 h2 hc
    ·cases hy
 rename_i n5
 split at hy
 ·rename_i h1
  have hq:=II ls cs w hB.2.1 hB.1 hwl
  dsimp only at hy
  cases hm:CR ls cs w with
  | none=>rw [hm] at hq;exact Yp tx w c2 ls cs rs hw0 hwL hB3 h1 hq
  | some x=>rw [hm] at hy;cases hy
 ·rename_i n6
  exact Uh tx w c2 ls cs rs hw0 hwL hB3 n1 n2 n3 n4 n5 n6
end Go.Proofs.YtiphlhoclaogjabGreatDoor
