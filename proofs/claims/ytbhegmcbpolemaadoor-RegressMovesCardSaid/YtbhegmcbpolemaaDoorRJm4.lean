/- Least squares, by the program. -/
import Derived.Test.YtbhegmcbpolemaaDoorRJm3
import Derived.Test.YtbhegmcbpolemaaDoorRAvY
import Derived.Test.YtbhegmcbpolemaaDoorRNl1
set_option linter.unusedVariables false
set_option linter.unnecessarySimpa false
set_option linter.unusedSimpArgs false
namespace Go.Proofs.YtbhegmcbpolemaaDoor
open Go Go.Av
attribute [local irreducible] E2 B3 F6 E9 DQ G2 H3 St.le B4 D7
set_option maxRecDepth 100000
def n5 (m:Iv):List AV:=[.i 0, .sl 1 [], .sl 2 (m.coefs.map AD), .i m.res.1, .i m.res.2, .i m.tot.1, .i m.tot.2, .i m.cnt, .i m.free]
def Nq (p:Int × Iv):AV:=.tup [.agg (n5 p.2), .i p.1]
abbrev zM:Iv:=⟨[],(0,0),(0,0),0,0⟩
abbrev Nr:AV:=.v (.slice none 0 0)
abbrev z9:List AV:=[.i 0,Nr,Nr, .i 0, .i 0, .i 0, .i 0, .i 0, .i 0]
theorem Aj:NL (.agg z9) (.agg (n5 zM)):=Lz ⟨.refl _, .nil 1, .nil 2, .refl _, .refl _, .refl _, .refl _, .refl _, .refl _,trivial⟩
theorem Qd (c:List (Int × Int)) (a b d e f g:Int):NL (.agg [.i 0,Nr, .sl 2 (c.map AD), .i a, .i b, .i d, .i e, .i f, .i g]) (.agg (n5 ⟨c,(a,b),(d,e),f,g⟩)):=Lz ⟨.refl _, .nil 1, .refl _, .refl _, .refl _, .refl _, .refl _, .refl _, .refl _,trivial⟩
set_option maxHeartbeats 4000000 in
theorem II (l:List Int) (hl:l.length ≤ 1000000):D7 Tryd.prog 24 0 [] [B8 l] 1 [(0,some (.row 3 1 0 (l.map D9)))] (.row 0 0 l.length):=by
 refine Ik Tryd.func24 8 fun E h0=>?_
 repeat' ((first | (refine KP rfl rfl rfl (fun b hb=>?_);cases b) | refine CI (T:=27) rfl ?_ |refine A6 ?_|refine S1 ?_|refine Z1 ?_|refine Z2 ?_|(refine And.intro ?_ ?_<;>intro h<;>try first|(exfalso;omega)|exact absurd rfl h)|refine Z3 ?_|refine Z4 ?_|intro el hel hbB|intro el hel|intro ex|refine Z5 ?_|(refine B2 ?_ ?_;exact ⟨by kernel_rfl,by decide⟩)|refine B0 ?_ ?_|exact A9|refine A8 ?_ ?_|exact A7|(refine A3 ?_ ?_ ?_;kernel_rfl;kernel_rfl)) <;> (try (conv=>whnf)))
 all_goals first
  | (exfalso;omega)
  | exact X2 (B5 h0 rfl ⟨congrArg (fun z:Nat=>some (AV.row 0 0 z)) (by simp),trivial⟩ ⟨⟨_,congrArg (E3.row 3 1 _) (by simp [J9])⟩,trivial⟩ rfl rfl rfl)
  | (have e:=List.map_eq_nil_iff.1 (hb rfl);subst e;exact X2 (D8 (U0 (d:=2) (e:=3) (sz:=1) rfl) (B5 h0 rfl ⟨rfl,trivial⟩ ⟨⟨_,rfl⟩,trivial⟩ rfl rfl rfl)))
def w3 (l:List (List Int)) (k i:Nat):Int:=C0 (l.take k) fun r=>(B9 r).getD i 0 * r.getD 0 0
def V7 (l:List (List Int)) (k:Nat) (r:List Int) (v i:Nat):Int:=w3 l k i + if i < v then (B9 r).getD i 0 * r.getD 0 0 else 0
theorem RI (l:List (List Int)) (k n:Nat) (r:List Int):I8 n (V7 l k r 0) = I8 n (w3 l k):=Y2 fun b _=>by unfold V7;rw [if_neg (by omega),Int.add_zero]
theorem RJ {l:List (List Int)} {k n:Nat} {r:List Int} (h:l[k]? = some r):I8 n (V7 l k r n) = I8 n (w3 l (k + 1)):=Y2 fun b hb=>by unfold V7 w3;rw [if_pos hb,Y1 h]
theorem Ns {l:List (List Int)} {k n v:Nat} {r:List Int}:((I8 n (V7 l k r v)).map D9).set v (D9 (V7 l k r (v + 1) v)) = (I8 n (V7 l k r (v + 1))).map D9:=by
 rw [← List.map_set]
 congr 1
 exact CM (f:=V7 l k r v) (g:=V7 l k r (v + 1)) fun b _ hne=>by
  unfold V7
  congr 1
  by_cases h:b < v
  ·rw [if_pos h,if_pos (by omega)]
  ·rw [if_neg h,if_neg (by omega)]
theorem Ph (l:List (List Int)) (n:Nat):I8 n (w3 l l.length) = N6 l n:=by unfold N6 I8 w3;rw [List.take_length]
theorem Qe {l:List (List Int)} {k i n:Nat} (hn:1 ≤ n) (hl:l.length ≤ 200) (hr:∀ r ∈ l,r.length = n ∧ ∀ x ∈ r, -1000000 ≤ x ∧ x ≤ 1000000):-200000000000000 ≤ w3 l k i ∧ w3 l k i ≤ 200000000000000:=by
 have hg:∀ (r:List Int) (k:Nat),(∀ x ∈ r, -1000000 ≤ x ∧ x ≤ 1000000) → -1000000 ≤ r.getD k 0 ∧ r.getD k 0 ≤ 1000000:=fun r k h=>by
  rw [List.getD_eq_getElem?_getD]
  cases e:r[k]? with
  | none=>simp
  | some x=>exact h x (List.mem_of_getElem? e)
 have h1:=p9 (l:=l.take k) (f:=fun r=>(B9 r).getD i 0 * r.getD 0 0) (B:=1000000000000) fun r hr2=>by
  have h3:=(hr r (List.mem_of_mem_take hr2)).2
  have h4:∀ x ∈ B9 r, -1000000 ≤ x ∧ x ≤ 1000000:=fun x hx=>by
   rcases List.mem_cons.1 hx with h | h
   ·subst h;decide
   ·exact h3 x (List.mem_of_mem_drop h)
  have:=q9 (hg _ i h4) (hg r 0 h3)
  omega
 have h2:(l.take k).length ≤ 200:=by rw [List.length_take];omega
 unfold w3
 omega
theorem Nt (a:List (List Int)) (b:List Int):(V9 a b).2.length ≤ a.length:=by
 unfold V9
 split
 ·simp
 split
 ·simp
 split
 ·simp
 split
 ·simp
 split
 ·rename_i l h
  have:=v7 h
  dsimp only
  omega
 ·simp
set_option maxHeartbeats 32000000 in
theorem w4 (l:List (List Int)):B4 Tryd.prog 10 [D1 l] (Nq (O2 l)):=by
 have c1:=Be l
 generalize hF:O2 l = F
 unfold O2 at hF
 by_cases he:V8 l = true
 rotate_left
 ·rw [if_neg fun h=>he h.1] at hF
  rw [Bool.not_eq_true] at he
  rw [he] at c1
  subst hF
  refine E4 Tryd.func10 127 fun hrd E h0=>?_
  clear hrd
  repeat' ((first | refine A5 c1 ?_ |refine A6 ?_|refine S1 ?_|refine Z1 ?_|refine Z2 ?_|(refine And.intro ?_ ?_<;>intro h<;>try first|(exfalso;omega)|exact absurd rfl h)|refine Z3 ?_|refine Z4 ?_|intro el hel hbB|intro el hel|intro ex|refine Z5 ?_|(refine B2 ?_ ?_;exact ⟨by kernel_rfl,by decide⟩)|refine B0 ?_ ?_|exact A9|refine A8 ?_ ?_|exact A7|(refine A3 ?_ ?_ ?_;kernel_rfl;kernel_rfl)) <;> (try (conv=>whnf)))
  all_goals first
   | (exfalso;omega)
   | exact I0 rfl rfl rfl Aj rfl (.refl _) rfl
 rw [he] at c1
 obtain ⟨q1,q2⟩:=(U7 l).1 he
 obtain ⟨r0,hr0⟩:∃ r,l[0]? = some r:=⟨_,List.getElem?_eq_getElem (by omega)⟩
 have hr00:l[((0:Int)).toNat]? = some r0:=hr0
 have hw:=q8 hr0
 by_cases hc:2 ≤ E8 l ∧ E8 l ≤ 4
 rotate_left
 ·rw [if_neg fun h=>hc h.2] at hF
  subst hF
  refine E4 Tryd.func10 127 fun hrd E h0=>?_
  clear hrd
  repeat' ((first | refine A5 c1 ?_ | (refine B6 (x:=r0) hr00 (by omega) ?_) |refine A6 ?_|refine S1 ?_|refine Z1 ?_|refine Z2 ?_|(refine And.intro ?_ ?_<;>intro h<;>try first|(exfalso;omega)|exact absurd rfl h)|refine Z3 ?_|refine Z4 ?_|intro el hel hbB|intro el hel|intro ex|refine Z5 ?_|(refine B2 ?_ ?_;exact ⟨by kernel_rfl,by decide⟩)|refine B0 ?_ ?_|exact A9|refine A8 ?_ ?_|exact A7|(refine A3 ?_ ?_ ?_;kernel_rfl;kernel_rfl)) <;> (try (conv=>whnf)))
  all_goals first
   | (exfalso;omega)
   | exact I0 rfl rfl rfl Aj rfl (.refl _) rfl
 rw [if_pos ⟨he,hc.1,hc.2⟩] at hF
 generalize hnn:E8 l = n at *
 have hz0:List.replicate n [AV.i 0] = (I8 n (w3 l 0)).map D9:=by
  have:I8 n (w3 l 0) = List.replicate n 0:=by unfold I8 w3;simp [C0,List.map_const']
  rw [this,List.map_replicate]
 refine E4 Tryd.func10 127 fun hrd E h0=>?_
 clear hrd
 repeat' ((first | refine A5 c1 ?_ | (refine B6 (x:=r0) hr00 (by omega) ?_) |refine A6 ?_|refine S1 ?_|refine Z1 ?_|refine Z2 ?_|(refine And.intro ?_ ?_<;>intro h<;>try first|(exfalso;omega)|exact absurd rfl h)|refine Z3 ?_|refine Z4 ?_|intro el hel hbB|intro el hel|intro ex|refine Z5 ?_|(refine B2 ?_ ?_;exact ⟨by kernel_rfl,by decide⟩)|refine B0 ?_ ?_|exact A9|refine A8 ?_ ?_|exact A7|(refine A3 ?_ ?_ ?_;kernel_rfl;kernel_rfl)) <;> (try (conv=>whnf)))
 all_goals first
  | (exfalso;omega)
  | skip
 refine H2 (ι:=Nat) (fun k=>⟨[(0,D1 l),(2, .ref 0 0),(4, .row 2 0 k),(5, .row 3 0 k),(6, .row 1 0 n),(40,D1 l),(41, .i l.length),(42, .i k)],4,[(0,some (.box z9)),(1,some (.row 3 1 0 ((I8 n (w3 l k)).map D9))),(2,some (.row 27 1 0 ((l.take k).map fun r=>[B8 (B9 r)]))),(3,some (.row 27 1 0 ((l.take k).map fun r=>[B8 (F9 r)])))]⟩) (fun k=>k ≤ l.length) (fun k=>l.length - k) 0 (Nat.zero_le _)
  (D8 (U0 (d:=4) (e:=27) (sz:=1) rfl) (D8 (U0 (d:=5) (e:=27) (sz:=1) rfl) (B5 h0 rfl ⟨rfl,rfl,rfl,rfl,congrArg (fun z=>some (AV.row 1 0 z)) hw.symm,rfl,rfl,rfl,trivial⟩ ⟨rfl,⟨_,congrArg (E3.row 3 1 0) (by rw [← hz0,hw];rfl)⟩,⟨0,rfl⟩,⟨0,rfl⟩,trivial⟩ rfl rfl rfl))) (fun k hk=>?_)
 by_cases hkl:k < l.length
 ·obtain ⟨r,hr⟩:∃ r,l[k]? = some r:=⟨_,List.getElem?_eq_getElem hkl⟩
  have hr2:l[((k:Nat):Int).toNat]? = some r:=hr
  obtain ⟨hrl,hrb⟩:=q2 r (List.mem_of_getElem? hr)
  obtain ⟨y,hy0⟩:∃ y,r[0]? = some y:=⟨_,List.getElem?_eq_getElem (by omega)⟩
  have hy02:r[((0:Int)).toNat]? = some y:=hy0
  have hyb:=hrb y (List.mem_of_getElem? hy0)
  repeat' ((first | (refine B6 (x:=r) hr2 (by omega) ?_) | refine CI (T:=27) rfl ?_ |refine A6 ?_|refine S1 ?_|refine Z1 ?_|refine Z2 ?_|(refine And.intro ?_ ?_<;>intro h<;>try first|(exfalso;omega)|exact absurd rfl h)|refine Z3 ?_|refine Z4 ?_|intro el hel hbB|intro el hel|intro ex|refine Z5 ?_|(refine B2 ?_ ?_;exact ⟨by kernel_rfl,by decide⟩)|refine B0 ?_ ?_|exact A9|refine A8 ?_ ?_|exact A7|(refine A3 ?_ ?_ ?_;kernel_rfl;kernel_rfl)) <;> (try (conv=>whnf)))
  all_goals first
   | (exfalso;omega)
   | skip
  have hraw:(List.take ((r.map fun x=>[AV.i x]).length:Int).toNat (r.map fun x=>[AV.i x])).drop (Int.toNat 1) = (r.drop 1).map fun x=>[AV.i x]:=by
   rw [Int.toNat_natCast,List.take_length,List.map_drop];rfl
  have hdl:((r.drop 1).map fun x=>[AV.i x]).length = n - 1:=by rw [List.length_map,List.length_drop];omega
  rw [hraw]
  have hdlen:(B9 r).length = n:=by simp [B9];omega
  have hcl:=II (B9 r) (by omega)
  have hyg:r.getD 0 0 = y:=by rw [List.getD_eq_getElem?_getD,hy0];rfl
  have hwho:(F9 r).map (fun x=>[AV.i x]) = (B9 r).map (fun x=>[AV.i x]) ++ [[.i y]]:=by unfold F9;rw [List.map_append,hyg];rfl
  have hdb:∀ x ∈ B9 r, -1000000 ≤ x ∧ x ≤ 1000000:=fun x hx=>by
   rcases List.mem_cons.1 hx with h | h
   ·subst h;decide
   ·exact hrb x (List.mem_of_mem_drop h)
  repeat' ((first | (refine Ae 9 ?_;refine Af (id:=9) (σ':=⟨[(0,D1 l),(2, .ref 0 0),(4, .row 2 0 k),(5, .row 3 0 k),(6, .row 1 0 n),(8,B8 r),(9,B8 (B9 r)),(40,D1 l),(41, .i l.length),(42, .i k)],4,[(0,some (.box z9)),(1,some (.row 3 1 0 ((I8 n (w3 l k)).map D9))),(2,some (.row 27 1 0 ((l.take k).map fun r=>[B8 (B9 r)]))),(3,some (.row 27 1 0 ((l.take k).map fun r=>[B8 (F9 r)])))]⟩) (B5 h0 rfl ⟨rfl,rfl,rfl,rfl,rfl,rfl,rfl,rfl,rfl,rfl,trivial⟩ ⟨rfl,⟨_,rfl⟩,⟨_,rfl⟩,⟨_,rfl⟩,trivial⟩ rfl rfl rfl) ?_;refine m6 (id:=9) ⟨[(0,D1 l),(2, .ref 0 0),(4, .row 2 0 (k + 1)),(5, .row 3 0 (k + 1)),(6, .row 1 0 n),(8,B8 r),(9,B8 (B9 r)),(40,D1 l),(41, .i l.length),(42, .i k)],4,[(0,some (.box z9)),(1,some (.row 3 1 0 ((I8 n (w3 l k)).map D9))),(2,some (.row 27 1 0 (((l.take k).map fun r=>[B8 (B9 r)]) ++ [[B8 (B9 r)]]))),(3,some (.row 27 1 0 (((l.take k).map fun r=>[B8 (F9 r)]) ++ [[B8 (F9 r)]])))]⟩ ?_ ?_) | refine CX [] [] hcl rfl rfl rfl rfl rfl trivial rfl rfl rfl rfl rfl ?_ | (refine B6 (x:=y) hy02 (by omega) ?_) | refine DU 61 rfl ?_ |refine A6 ?_|refine S1 ?_|refine Z1 ?_|refine Z2 ?_|(refine And.intro ?_ ?_<;>intro h<;>try first|(exfalso;omega)|exact absurd rfl h)|refine Z3 ?_|refine Z4 ?_|intro el hel hbB|intro el hel|intro ex|refine Z5 ?_|(refine B2 ?_ ?_;exact ⟨by kernel_rfl,by decide⟩)|refine B0 ?_ ?_|exact A9|refine A8 ?_ ?_|exact A7|(refine A3 ?_ ?_ ?_;kernel_rfl;kernel_rfl)) <;> (try (conv=>whnf)))
  all_goals first
   | (exfalso;omega)
   | exact B5 h0 rfl ⟨rfl,rfl,rfl,rfl,rfl,rfl,rfl,rfl,rfl,rfl,trivial⟩ ⟨rfl,⟨_,rfl⟩,⟨_,rfl⟩,⟨_,congrArg (E3.row 27 1 _) (by rw [show B8 (F9 r) = .sl 1 ((B9 r).map (fun x=>[AV.i x]) ++ [[.i y]]) from congrArg (AV.sl 1) hwho];rfl)⟩,trivial⟩ rfl rfl rfl
   | skip
  refine H2 (ι:=Nat) (fun v=>⟨[(0,D1 l),(2, .ref 0 0),(4, .row 2 0 (k + 1)),(5, .row 3 0 (k + 1)),(6, .row 1 0 n),(8,B8 r),(9,B8 (B9 r)),(40,D1 l),(41, .i l.length),(42, .i k),(64,B8 (B9 r)),(65, .i (B9 r).length),(66, .i v)],4,[(0,some (.box z9)),(1,some (.row 3 1 0 ((I8 n (V7 l k r v)).map D9))),(2,some (.row 27 1 0 (((l.take k).map fun r=>[B8 (B9 r)]) ++ [[B8 (B9 r)]]))),(3,some (.row 27 1 0 (((l.take k).map fun r=>[B8 (F9 r)]) ++ [[B8 (F9 r)]])))]⟩) (fun v=>v ≤ n) (fun v=>n - v) 0 (Nat.zero_le _)
   (B5 h0 rfl ⟨rfl,rfl,rfl,rfl,rfl,rfl,rfl,rfl,rfl,rfl,rfl,rfl,rfl,trivial⟩ ⟨rfl,⟨_,congrArg (E3.row _ _ _) (congrArg (List.map D9) (RI l k n r))⟩,⟨_,rfl⟩,⟨_,rfl⟩,trivial⟩ rfl rfl rfl) (fun v hv=>?_)
  by_cases hvl:v < n
  ·obtain ⟨x,hx⟩:∃ x,(B9 r)[v]? = some x:=⟨_,List.getElem?_eq_getElem (by omega)⟩
   have hx2:(B9 r)[((v:Nat):Int).toNat]? = some x:=hx
   have hxb:=hdb x (List.mem_of_getElem? hx)
   have hxg:(B9 r).getD v 0 = x:=by rw [List.getD_eq_getElem?_getD,hx];rfl
   have hml3:((I8 n (V7 l k r v)).map D9).length = n:=by rw [List.length_map,Ex]
   have hcell:((I8 n (V7 l k r v)).map D9)[((((v:Nat):Int).toNat:Nat):Int).toNat]? = some (D9 (V7 l k r v v)):=by rw [Int.toNat_natCast,Int.toNat_natCast,List.getElem?_map,Ls _ hvl];rfl
   have hbd:=Qe (k:=k) (i:=v) (by omega) q1.2.1 q2
   have hmb:=q9 hxb hyb
   have hnew:V7 l k r (v + 1) v = V7 l k r v v + x * y:=by unfold V7;rw [if_pos (by omega),if_neg (by omega),hxg,hyg];omega
   have hac:-200000000000000 ≤ V7 l k r v v ∧ V7 l k r v v ≤ 200000000000000:=by unfold V7;rw [if_neg (by omega),Int.add_zero];exact hbd
   have hwm:IntKind.i64.wrap (x * y) = x * y:=H5 (by omega)
   have hset:=Ns (l:=l) (k:=k) (n:=n) (v:=v) (r:=r)
   rw [hnew, ← hwm] at hset
   generalize hd:B9 r = d at *
   repeat' ((first | (refine B6 (x:=x) hx2 (by omega) ?_) | (refine B6 (x:=y) hy02 (by omega) ?_) | (refine N0 (x:=D9 (V7 l k r v v)) hcell (by omega) ?_) | (refine m6 (id:=13) ⟨[(0,D1 l),(2, .ref 0 0),(4, .row 2 0 (k + 1)),(5, .row 3 0 (k + 1)),(6, .row 1 0 n),(8,B8 r),(9,B8 (d)),(40,D1 l),(41, .i l.length),(42, .i k),(64,B8 d),(65, .i d.length),(66, .i v)],4,[(0,some (.box z9)),(1,some (.row 3 1 0 ((I8 n (V7 l k r (v + 1))).map D9))),(2,some (.row 27 1 0 (((l.take k).map fun r=>[B8 (B9 r)]) ++ [[B8 d]]))),(3,some (.row 27 1 0 (((l.take k).map fun r=>[B8 (F9 r)]) ++ [[B8 (F9 r)]])))]⟩ ?_ ?_) |refine A6 ?_|refine S1 ?_|refine Z1 ?_|refine Z2 ?_|(refine And.intro ?_ ?_<;>intro h<;>try first|(exfalso;omega)|exact absurd rfl h)|refine Z3 ?_|refine Z4 ?_|intro el hel hbB|intro el hel|intro ex|refine Z5 ?_|(refine B2 ?_ ?_;exact ⟨by kernel_rfl,by decide⟩)|refine B0 ?_ ?_|exact A9|refine A8 ?_ ?_|exact A7|(refine A3 ?_ ?_ ?_;kernel_rfl;kernel_rfl)) <;> (try (conv=>whnf)))
   all_goals first
    | (exfalso;omega)
    | exact B5 h0 rfl ⟨rfl,rfl,rfl,rfl,rfl,rfl,rfl,rfl,rfl,rfl,rfl,rfl,rfl,trivial⟩ ⟨rfl,⟨_,congrArg (E3.row _ _ _) hset.symm⟩,⟨_,rfl⟩,⟨_,rfl⟩,trivial⟩ rfl rfl rfl
    | (subst hd;exact ⟨v + 1,by omega,by omega,B5 h0 rfl ⟨rfl,rfl,rfl,rfl,rfl,rfl,rfl,rfl,rfl,rfl,rfl,rfl,rfl,trivial⟩ ⟨rfl,⟨_,rfl⟩,⟨_,rfl⟩,⟨_,rfl⟩,trivial⟩ rfl rfl rfl⟩)
  ·have hvv:v = n:=by omega
   subst hvv
   have e1:((l.take (k + 1)).map fun r=>[B8 (B9 r)]) = ((l.take k).map fun r=>[B8 (B9 r)]) ++ [[B8 (B9 r)]]:=by rw [List.take_add_one,hr,Option.toList_some,List.map_append];rfl
   have e2:((l.take (k + 1)).map fun r=>[B8 (F9 r)]) = ((l.take k).map fun r=>[B8 (F9 r)]) ++ [[B8 (F9 r)]]:=by rw [List.take_add_one,hr,Option.toList_some,List.map_append];rfl
   rw [RJ hr, ← e1, ← e2]
   repeat' ((first|refine A6 ?_|refine S1 ?_|refine Z1 ?_|refine Z2 ?_|(refine And.intro ?_ ?_<;>intro h<;>try first|(exfalso;omega)|exact absurd rfl h)|refine Z3 ?_|refine Z4 ?_|intro el hel hbB|intro el hel|intro ex|refine Z5 ?_|(refine B2 ?_ ?_;exact ⟨by kernel_rfl,by decide⟩)|refine B0 ?_ ?_|exact A9|refine A8 ?_ ?_|exact A7|(refine A3 ?_ ?_ ?_;kernel_rfl;kernel_rfl)) <;> (try (conv=>whnf)))
   all_goals first
    | (exfalso;omega)
    | exact ⟨k + 1,by omega,by omega,B5 h0 rfl ⟨rfl,rfl,rfl,rfl,rfl,rfl,rfl,rfl,trivial⟩ ⟨rfl,⟨_,rfl⟩,⟨_,rfl⟩,⟨_,rfl⟩,trivial⟩ rfl rfl rfl⟩
 ·have hkk:k = l.length:=by omega
  subst hkk
  have e3:(l.map fun r=>[B8 (B9 r)]) = (l.map B9).map fun r=>[B8 r]:=by rw [List.map_map];rfl
  have e4:(l.map fun r=>[B8 (F9 r)]) = (l.map F9).map fun r=>[B8 r]:=by rw [List.map_map];rfl
  rw [List.take_length,Ph,e3,e4]
  refine Y4 (B5 (σ':=⟨[(0,D1 l),(2, .ref 0 0),(4,D1 (l.map B9)),(5,D1 (l.map F9)),(6,B8 (N6 l n)),(41, .i l.length),(42, .i l.length)],1,[(0,some (.box z9))]⟩) h0 rfl ⟨rfl,rfl,rfl,rfl,rfl,rfl,rfl,trivial⟩ ⟨rfl,trivial⟩ rfl rfl rfl) ?_
  have dR0:∀ r ∈ l,(B9 r).length = n ∧ ∀ x ∈ B9 r, -1000000 ≤ x ∧ x ≤ 1000000:=fun r hr=>by
   obtain ⟨a1,a2⟩:=q2 r hr
   refine ⟨by simp [B9];omega,fun x hx=>?_⟩
   rcases List.mem_cons.1 hx with h | h
   ·subst h;decide
   ·exact a2 x (List.mem_of_mem_drop h)
  have wR0:∀ r ∈ l,(F9 r).length = n + 1 ∧ ∀ x ∈ F9 r, -1000000 ≤ x ∧ x ≤ 1000000:=fun r hr=>by
   obtain ⟨a1,a2⟩:=dR0 r hr
   refine ⟨by simp [F9];omega,fun x hx=>?_⟩
   rcases List.mem_append.1 hx with h | h
   ·exact a2 x h
   ·obtain ⟨y,hy⟩:∃ y,r[0]? = some y:=⟨_,List.getElem?_eq_getElem (by have:=(q2 r hr).1;omega)⟩
    have e:x = y:=by rw [List.mem_singleton.1 h,List.getD_eq_getElem?_getD,hy];rfl
    rw [e]
    exact (q2 r hr).2 y (List.mem_of_getElem? hy)
  have wd:E8 (l.map B9) = n:=by rw [q8 (r:=B9 r0) (by rw [List.getElem?_map,hr0];rfl)];exact (dR0 r0 (List.mem_of_getElem? hr0)).1
  have ww:E8 (l.map F9) = n + 1:=by rw [q8 (r:=F9 r0) (by rw [List.getElem?_map,hr0];rfl)];exact (wR0 r0 (List.mem_of_getElem? hr0)).1
  have s1:=CN (l.map B9) n wd (by rw [List.length_map];omega) (by omega) (fun r hr=>by obtain ⟨t,ht,rfl⟩:=List.mem_map.1 hr;exact dR0 t ht)
  have s3:=CN (l.map F9) (n + 1) ww (by rw [List.length_map];omega) (by omega) (fun r hr=>by obtain ⟨t,ht,rfl⟩:=List.mem_map.1 hr;exact wR0 t ht)
  have s5:=KO l he
  have hGl:(C9 (l.map B9) n).length = n:=by simp [C9]
  generalize C9 (l.map B9) n = G at *
  generalize C9 (l.map F9) (n + 1) = W at *
  generalize N6 l n = B at *
  have s2:=KM G B
  have hcl:=Nt G B
  have s4:=KL W G
  generalize V9 G B = S at *
  generalize AU W G = R at *
  generalize n3 l = T at *
  obtain ⟨s,cs⟩:=S
  obtain ⟨r,ra,rb⟩:=R
  dsimp only at hF hcl
  by_cases hs:s = 0
  rotate_left
  ·rw [if_pos hs] at hF
   subst hF
   repeat' ((first | refine A5 s1 ?_ | refine A5 s2 ?_ |refine A6 ?_|refine S1 ?_|refine Z1 ?_|refine Z2 ?_|(refine And.intro ?_ ?_<;>intro h<;>try first|(exfalso;omega)|exact absurd rfl h)|refine Z3 ?_|refine Z4 ?_|intro el hel hbB|intro el hel|intro ex|refine Z5 ?_|(refine B2 ?_ ?_;exact ⟨by kernel_rfl,by decide⟩)|refine B0 ?_ ?_|exact A9|refine A8 ?_ ?_|exact A7|(refine A3 ?_ ?_ ?_;kernel_rfl;kernel_rfl)) <;> (try (conv=>whnf)))
   all_goals first
    | (exfalso;omega)
    | exact I0 rfl rfl rfl Aj rfl (.refl _) rfl
  rw [if_neg (fun h=>h hs)] at hF
  subst hs
  by_cases hs:r = 0
  rotate_left
  ·rw [if_pos hs] at hF
   subst hF
   repeat' ((first | refine A5 s1 ?_ | refine A5 s2 ?_ | refine A5 s3 ?_ | refine A5 s4 ?_ |refine A6 ?_|refine S1 ?_|refine Z1 ?_|refine Z2 ?_|(refine And.intro ?_ ?_<;>intro h<;>try first|(exfalso;omega)|exact absurd rfl h)|refine Z3 ?_|refine Z4 ?_|intro el hel hbB|intro el hel|intro ex|refine Z5 ?_|(refine B2 ?_ ?_;exact ⟨by kernel_rfl,by decide⟩)|refine B0 ?_ ?_|exact A9|refine A8 ?_ ?_|exact A7|(refine A3 ?_ ?_ ?_;kernel_rfl;kernel_rfl)) <;> (try (conv=>whnf)))
   all_goals first
    | (exfalso;omega)
    | exact I0 rfl rfl rfl Aj rfl (.refl _) rfl
  rw [if_neg (fun h=>h hs)] at hF
  subst hs
  cases T with
  | none =>
    dsimp only at hF
    subst hF
    repeat' ((first | refine A5 s1 ?_ | refine A5 s2 ?_ | refine A5 s3 ?_ | refine A5 s4 ?_ | refine A5 s5 ?_ |refine A6 ?_|refine S1 ?_|refine Z1 ?_|refine Z2 ?_|(refine And.intro ?_ ?_<;>intro h<;>try first|(exfalso;omega)|exact absurd rfl h)|refine Z3 ?_|refine Z4 ?_|intro el hel hbB|intro el hel|intro ex|refine Z5 ?_|(refine B2 ?_ ?_;exact ⟨by kernel_rfl,by decide⟩)|refine B0 ?_ ?_|exact A9|refine A8 ?_ ?_|exact A7|(refine A3 ?_ ?_ ?_;kernel_rfl;kernel_rfl)) <;> (try (conv=>whnf)))
    all_goals first
     | (exfalso;omega)
     | exact I0 rfl rfl rfl Aj rfl (.refl _) rfl
  | some t =>
    obtain ⟨ta,tb⟩:=t
    dsimp only at hF
    subst hF
    repeat' ((first | refine A5 s1 ?_ | refine A5 s2 ?_ | refine A5 s3 ?_ | refine A5 s4 ?_ | refine A5 s5 ?_ |refine A6 ?_|refine S1 ?_|refine Z1 ?_|refine Z2 ?_|(refine And.intro ?_ ?_<;>intro h<;>try first|(exfalso;omega)|exact absurd rfl h)|refine Z3 ?_|refine Z4 ?_|intro el hel hbB|intro el hel|intro ex|refine Z5 ?_|(refine B2 ?_ ?_;exact ⟨by kernel_rfl,by decide⟩)|refine B0 ?_ ?_|exact A9|refine A8 ?_ ?_|exact A7|(refine A3 ?_ ?_ ?_;kernel_rfl;kernel_rfl)) <;> (try (conv=>whnf)))
    all_goals first
     | (exfalso;omega)
     | exact I0 rfl rfl rfl (Qd ..) rfl (.refl _) rfl
end Go.Proofs.YtbhegmcbpolemaaDoor
