/- Least squares, by the program. -/
import Derived.Test.YtbhegmcbpolemaaDoorSJm3
import Derived.Test.YtbhegmcbpolemaaDoorSAvY
import Derived.Test.YtbhegmcbpolemaaDoorSNl1
set_option linter.unusedVariables false
set_option linter.unnecessarySimpa false
set_option linter.unusedSimpArgs false
namespace Go.Proofs.YtbhegmcbpolemaaDoor
open Go Go.Av
attribute [local irreducible] E3 B5 F2 F0 DQ F5 G8 St.le B6 D3
set_option maxRecDepth 100000
def P4 (m:CQ):List AV:=[.i 0, .sl 1 [], .sl 2 (m.coefs.map M1), .i m.res.1, .i m.res.2, .i m.tot.1, .i m.tot.2, .i m.cnt, .i m.free]
def Nr (p:Int × CQ):AV:=.tup [.agg (P4 p.2), .i p.1]
abbrev zM:CQ:=⟨[],(0,0),(0,0),0,0⟩
abbrev Ns:AV:=.v (.slice none 0 0)
abbrev z9:List AV:=[.i 0,Ns,Ns, .i 0, .i 0, .i 0, .i 0, .i 0, .i 0]
theorem Aq:NL (.agg z9) (.agg (P4 zM)):=Lv ⟨.refl _, .nil 1, .nil 2, .refl _, .refl _, .refl _, .refl _, .refl _, .refl _,trivial⟩
theorem Qp (c:List (Int × Int)) (a b d e f g:Int):NL (.agg [.i 0,Ns, .sl 2 (c.map M1), .i a, .i b, .i d, .i e, .i f, .i g]) (.agg (P4 ⟨c,(a,b),(d,e),f,g⟩)):=Lv ⟨.refl _, .nil 1, .refl _, .refl _, .refl _, .refl _, .refl _, .refl _, .refl _,trivial⟩
set_option maxHeartbeats 4000000 in
theorem IU (l:List Int) (hl:l.length ≤ 1000000):D3 Tryd.prog 24 0 [] [C2 l] 1 [(0,some (.row 3 1 0 (l.map E5)))] (.row 0 0 l.length):=by
 refine Fp Tryd.func24 8 fun E h0=>?_
 repeat' ((first | (refine KM rfl rfl rfl (fun b hb=>?_);cases b) | refine AH (T:=27) rfl ?_ |refine A6 ?_|refine S1 ?_|refine Z1 ?_|refine Z2 ?_|(refine And.intro ?_ ?_<;>intro h<;>try first|(exfalso;omega)|exact absurd rfl h)|refine Z3 ?_|refine Z4 ?_|intro el hel hbB|intro el hel|intro ex|refine Z5 ?_|(refine B2 ?_ ?_;exact ⟨by kernel_rfl,by decide⟩)|refine B0 ?_ ?_|exact A9|refine A8 ?_ ?_|exact A7|(refine A3 ?_ ?_ ?_;kernel_rfl;kernel_rfl)) <;> (try (conv=>whnf)))
 all_goals first
  | (exfalso;omega)
  | exact O9 (B3 h0 rfl ⟨congrArg (fun z:Nat=>some (AV.row 0 0 z)) (by simp),trivial⟩ ⟨⟨_,congrArg (E0.row 3 1 _) (by simp [J4])⟩,trivial⟩ rfl rfl rfl)
  | (have e:=List.map_eq_nil_iff.1 (hb rfl);subst e;exact O9 (F1 (j5 (d:=2) (e:=3) (sz:=1) rfl) (B3 h0 rfl ⟨rfl,trivial⟩ ⟨⟨_,rfl⟩,trivial⟩ rfl rfl rfl)))
def x7 (l:List (List Int)) (k i:Nat):Int:=C0 (l.take k) fun r=>(B8 r).getD i 0 * r.getD 0 0
def V6 (l:List (List Int)) (k:Nat) (r:List Int) (v i:Nat):Int:=x7 l k i + if i < v then (B8 r).getD i 0 * r.getD 0 0 else 0
theorem RV (l:List (List Int)) (k n:Nat) (r:List Int):I3 n (V6 l k r 0) = I3 n (x7 l k):=X5 fun b _=>by unfold V6;rw [if_neg (by omega),Int.add_zero]
theorem RW {l:List (List Int)} {k n:Nat} {r:List Int} (h:l[k]? = some r):I3 n (V6 l k r n) = I3 n (x7 l (k + 1)):=X5 fun b hb=>by unfold V6 x7;rw [if_pos hb,R1 h]
theorem Nt {l:List (List Int)} {k n v:Nat} {r:List Int}:((I3 n (V6 l k r v)).map E5).set v (E5 (V6 l k r (v + 1) v)) = (I3 n (V6 l k r (v + 1))).map E5:=by
 rw [← List.map_set]
 congr 1
 exact CV (f:=V6 l k r v) (g:=V6 l k r (v + 1)) fun b _ hne=>by
  unfold V6
  congr 1
  by_cases h:b < v
  ·rw [if_pos h,if_pos (by omega)]
  ·rw [if_neg h,if_neg (by omega)]
theorem Pm (l:List (List Int)) (n:Nat):I3 n (x7 l l.length) = N9 l n:=by unfold N9 I3 x7;rw [List.take_length]
theorem Qq {l:List (List Int)} {k i n:Nat} (hn:1 ≤ n) (hl:l.length ≤ 200) (hr:∀ r ∈ l,r.length = n ∧ ∀ x ∈ r, -1000000 ≤ x ∧ x ≤ 1000000):-200000000000000 ≤ x7 l k i ∧ x7 l k i ≤ 200000000000000:=by
 have hg:∀ (r:List Int) (k:Nat),(∀ x ∈ r, -1000000 ≤ x ∧ x ≤ 1000000) → -1000000 ≤ r.getD k 0 ∧ r.getD k 0 ≤ 1000000:=fun r k h=>by
  rw [List.getD_eq_getElem?_getD]
  cases e:r[k]? with
  | none=>simp
  | some x=>exact h x (List.mem_of_getElem? e)
 have h1:=FD (l:=l.take k) (f:=fun r=>(B8 r).getD i 0 * r.getD 0 0) (B:=1000000000000) fun r hr2=>by
  have h3:=(hr r (List.mem_of_mem_take hr2)).2
  have h4:∀ x ∈ B8 r, -1000000 ≤ x ∧ x ≤ 1000000:=fun x hx=>by
   rcases List.mem_cons.1 hx with h | h
   ·subst h;decide
   ·exact h3 x (List.mem_of_mem_drop h)
  have:=u4 (hg _ i h4) (hg r 0 h3)
  omega
 have h2:(l.take k).length ≤ 200:=by rw [List.length_take];omega
 unfold x7
 omega
theorem Nu (a:List (List Int)) (b:List Int):(U6 a b).2.length ≤ a.length:=by
 unfold U6
 split
 ·simp
 split
 ·simp
 split
 ·simp
 split
 ·simp
 split
 ·rename_i l h
  have:=w8 h
  dsimp only
  omega
 ·simp
set_option maxHeartbeats 32000000 in
theorem Dj (l:List (List Int)):B6 Tryd.prog 10 [C3 l] (Nr (Y8 l)):=by
 have c1:=Bk l
 generalize hF:Y8 l = F
 unfold Y8 at hF
 by_cases he:X0 l = true
 rotate_left
 ·rw [if_neg fun h=>he h.1] at hF
  rw [Bool.not_eq_true] at he
  rw [he] at c1
  subst hF
  refine E1 Tryd.func10 127 fun hrd E h0=>?_
  clear hrd
  repeat' ((first | refine A4 c1 ?_ |refine A6 ?_|refine S1 ?_|refine Z1 ?_|refine Z2 ?_|(refine And.intro ?_ ?_<;>intro h<;>try first|(exfalso;omega)|exact absurd rfl h)|refine Z3 ?_|refine Z4 ?_|intro el hel hbB|intro el hel|intro ex|refine Z5 ?_|(refine B2 ?_ ?_;exact ⟨by kernel_rfl,by decide⟩)|refine B0 ?_ ?_|exact A9|refine A8 ?_ ?_|exact A7|(refine A3 ?_ ?_ ?_;kernel_rfl;kernel_rfl)) <;> (try (conv=>whnf)))
  all_goals first
   | (exfalso;omega)
   | exact F9 rfl rfl rfl Aq rfl (.refl _) rfl
 rw [he] at c1
 obtain ⟨q1,q2⟩:=(X1 l).1 he
 obtain ⟨r0,hr0⟩:∃ r,l[0]? = some r:=⟨_,List.getElem?_eq_getElem (by omega)⟩
 have hr00:l[((0:Int)).toNat]? = some r0:=hr0
 have hw:=s9 hr0
 by_cases hc:2 ≤ C8 l ∧ C8 l ≤ 4
 rotate_left
 ·rw [if_neg fun h=>hc h.2] at hF
  subst hF
  refine E1 Tryd.func10 127 fun hrd E h0=>?_
  clear hrd
  repeat' ((first | refine A4 c1 ?_ | (refine B4 (x:=r0) hr00 (by omega) ?_) |refine A6 ?_|refine S1 ?_|refine Z1 ?_|refine Z2 ?_|(refine And.intro ?_ ?_<;>intro h<;>try first|(exfalso;omega)|exact absurd rfl h)|refine Z3 ?_|refine Z4 ?_|intro el hel hbB|intro el hel|intro ex|refine Z5 ?_|(refine B2 ?_ ?_;exact ⟨by kernel_rfl,by decide⟩)|refine B0 ?_ ?_|exact A9|refine A8 ?_ ?_|exact A7|(refine A3 ?_ ?_ ?_;kernel_rfl;kernel_rfl)) <;> (try (conv=>whnf)))
  all_goals first
   | (exfalso;omega)
   | exact F9 rfl rfl rfl Aq rfl (.refl _) rfl
 rw [if_pos ⟨he,hc.1,hc.2⟩] at hF
 generalize hnn:C8 l = n at *
 have hz0:List.replicate n [AV.i 0] = (I3 n (x7 l 0)).map E5:=by
  have:I3 n (x7 l 0) = List.replicate n 0:=by unfold I3 x7;simp [C0,List.map_const']
  rw [this,List.map_replicate]
 refine E1 Tryd.func10 127 fun hrd E h0=>?_
 clear hrd
 repeat' ((first | refine A4 c1 ?_ | (refine B4 (x:=r0) hr00 (by omega) ?_) |refine A6 ?_|refine S1 ?_|refine Z1 ?_|refine Z2 ?_|(refine And.intro ?_ ?_<;>intro h<;>try first|(exfalso;omega)|exact absurd rfl h)|refine Z3 ?_|refine Z4 ?_|intro el hel hbB|intro el hel|intro ex|refine Z5 ?_|(refine B2 ?_ ?_;exact ⟨by kernel_rfl,by decide⟩)|refine B0 ?_ ?_|exact A9|refine A8 ?_ ?_|exact A7|(refine A3 ?_ ?_ ?_;kernel_rfl;kernel_rfl)) <;> (try (conv=>whnf)))
 all_goals first
  | (exfalso;omega)
  | skip
 refine F4 (ι:=Nat) (fun k=>⟨[(0,C3 l),(2, .ref 0 0),(4, .row 2 0 k),(5, .row 3 0 k),(6, .row 1 0 n),(40,C3 l),(41, .i l.length),(42, .i k)],4,[(0,some (.box z9)),(1,some (.row 3 1 0 ((I3 n (x7 l k)).map E5))),(2,some (.row 27 1 0 ((l.take k).map fun r=>[C2 (B8 r)]))),(3,some (.row 27 1 0 ((l.take k).map fun r=>[C2 (H2 r)])))]⟩) (fun k=>k ≤ l.length) (fun k=>l.length - k) 0 (Nat.zero_le _)
  (F1 (j5 (d:=4) (e:=27) (sz:=1) rfl) (F1 (j5 (d:=5) (e:=27) (sz:=1) rfl) (B3 h0 rfl ⟨rfl,rfl,rfl,rfl,congrArg (fun z=>some (AV.row 1 0 z)) hw.symm,rfl,rfl,rfl,trivial⟩ ⟨rfl,⟨_,congrArg (E0.row 3 1 0) (by rw [← hz0,hw];rfl)⟩,⟨0,rfl⟩,⟨0,rfl⟩,trivial⟩ rfl rfl rfl))) (fun k hk=>?_)
 by_cases hkl:k < l.length
 ·obtain ⟨r,hr⟩:∃ r,l[k]? = some r:=⟨_,List.getElem?_eq_getElem hkl⟩
  have hr2:l[((k:Nat):Int).toNat]? = some r:=hr
  obtain ⟨hrl,hrb⟩:=q2 r (List.mem_of_getElem? hr)
  obtain ⟨y,hy0⟩:∃ y,r[0]? = some y:=⟨_,List.getElem?_eq_getElem (by omega)⟩
  have hy02:r[((0:Int)).toNat]? = some y:=hy0
  have hyb:=hrb y (List.mem_of_getElem? hy0)
  repeat' ((first | (refine B4 (x:=r) hr2 (by omega) ?_) | refine AH (T:=27) rfl ?_ |refine A6 ?_|refine S1 ?_|refine Z1 ?_|refine Z2 ?_|(refine And.intro ?_ ?_<;>intro h<;>try first|(exfalso;omega)|exact absurd rfl h)|refine Z3 ?_|refine Z4 ?_|intro el hel hbB|intro el hel|intro ex|refine Z5 ?_|(refine B2 ?_ ?_;exact ⟨by kernel_rfl,by decide⟩)|refine B0 ?_ ?_|exact A9|refine A8 ?_ ?_|exact A7|(refine A3 ?_ ?_ ?_;kernel_rfl;kernel_rfl)) <;> (try (conv=>whnf)))
  all_goals first
   | (exfalso;omega)
   | skip
  have hraw:(List.take ((r.map fun x=>[AV.i x]).length:Int).toNat (r.map fun x=>[AV.i x])).drop (Int.toNat 1) = (r.drop 1).map fun x=>[AV.i x]:=by
   rw [Int.toNat_natCast,List.take_length,List.map_drop];rfl
  have hdl:((r.drop 1).map fun x=>[AV.i x]).length = n - 1:=by rw [List.length_map,List.length_drop];omega
  rw [hraw]
  have hdlen:(B8 r).length = n:=by simp [B8];omega
  have hcl:=IU (B8 r) (by omega)
  have hyg:r.getD 0 0 = y:=by rw [List.getD_eq_getElem?_getD,hy0];rfl
  have hwho:(H2 r).map (fun x=>[AV.i x]) = (B8 r).map (fun x=>[AV.i x]) ++ [[.i y]]:=by unfold H2;rw [List.map_append,hyg];rfl
  have hdb:∀ x ∈ B8 r, -1000000 ≤ x ∧ x ≤ 1000000:=fun x hx=>by
   rcases List.mem_cons.1 hx with h | h
   ·subst h;decide
   ·exact hrb x (List.mem_of_mem_drop h)
  repeat' ((first | (refine S7 9 ?_;refine S8 (id:=9) (σ':=⟨[(0,C3 l),(2, .ref 0 0),(4, .row 2 0 k),(5, .row 3 0 k),(6, .row 1 0 n),(8,C2 r),(9,C2 (B8 r)),(40,C3 l),(41, .i l.length),(42, .i k)],4,[(0,some (.box z9)),(1,some (.row 3 1 0 ((I3 n (x7 l k)).map E5))),(2,some (.row 27 1 0 ((l.take k).map fun r=>[C2 (B8 r)]))),(3,some (.row 27 1 0 ((l.take k).map fun r=>[C2 (H2 r)])))]⟩) (B3 h0 rfl ⟨rfl,rfl,rfl,rfl,rfl,rfl,rfl,rfl,rfl,rfl,trivial⟩ ⟨rfl,⟨_,rfl⟩,⟨_,rfl⟩,⟨_,rfl⟩,trivial⟩ rfl rfl rfl) ?_;refine Af (id:=9) ⟨[(0,C3 l),(2, .ref 0 0),(4, .row 2 0 (k + 1)),(5, .row 3 0 (k + 1)),(6, .row 1 0 n),(8,C2 r),(9,C2 (B8 r)),(40,C3 l),(41, .i l.length),(42, .i k)],4,[(0,some (.box z9)),(1,some (.row 3 1 0 ((I3 n (x7 l k)).map E5))),(2,some (.row 27 1 0 (((l.take k).map fun r=>[C2 (B8 r)]) ++ [[C2 (B8 r)]]))),(3,some (.row 27 1 0 (((l.take k).map fun r=>[C2 (H2 r)]) ++ [[C2 (H2 r)]])))]⟩ ?_ ?_) | refine s8 [] [] hcl rfl rfl rfl rfl rfl trivial rfl rfl rfl rfl rfl ?_ | (refine B4 (x:=y) hy02 (by omega) ?_) | refine Nj 61 rfl ?_ |refine A6 ?_|refine S1 ?_|refine Z1 ?_|refine Z2 ?_|(refine And.intro ?_ ?_<;>intro h<;>try first|(exfalso;omega)|exact absurd rfl h)|refine Z3 ?_|refine Z4 ?_|intro el hel hbB|intro el hel|intro ex|refine Z5 ?_|(refine B2 ?_ ?_;exact ⟨by kernel_rfl,by decide⟩)|refine B0 ?_ ?_|exact A9|refine A8 ?_ ?_|exact A7|(refine A3 ?_ ?_ ?_;kernel_rfl;kernel_rfl)) <;> (try (conv=>whnf)))
  all_goals first
   | (exfalso;omega)
   | exact B3 h0 rfl ⟨rfl,rfl,rfl,rfl,rfl,rfl,rfl,rfl,rfl,rfl,trivial⟩ ⟨rfl,⟨_,rfl⟩,⟨_,rfl⟩,⟨_,congrArg (E0.row 27 1 _) (by rw [show C2 (H2 r) = .sl 1 ((B8 r).map (fun x=>[AV.i x]) ++ [[.i y]]) from congrArg (AV.sl 1) hwho];rfl)⟩,trivial⟩ rfl rfl rfl
   | skip
  refine F4 (ι:=Nat) (fun v=>⟨[(0,C3 l),(2, .ref 0 0),(4, .row 2 0 (k + 1)),(5, .row 3 0 (k + 1)),(6, .row 1 0 n),(8,C2 r),(9,C2 (B8 r)),(40,C3 l),(41, .i l.length),(42, .i k),(64,C2 (B8 r)),(65, .i (B8 r).length),(66, .i v)],4,[(0,some (.box z9)),(1,some (.row 3 1 0 ((I3 n (V6 l k r v)).map E5))),(2,some (.row 27 1 0 (((l.take k).map fun r=>[C2 (B8 r)]) ++ [[C2 (B8 r)]]))),(3,some (.row 27 1 0 (((l.take k).map fun r=>[C2 (H2 r)]) ++ [[C2 (H2 r)]])))]⟩) (fun v=>v ≤ n) (fun v=>n - v) 0 (Nat.zero_le _)
   (B3 h0 rfl ⟨rfl,rfl,rfl,rfl,rfl,rfl,rfl,rfl,rfl,rfl,rfl,rfl,rfl,trivial⟩ ⟨rfl,⟨_,congrArg (E0.row _ _ _) (congrArg (List.map E5) (RV l k n r))⟩,⟨_,rfl⟩,⟨_,rfl⟩,trivial⟩ rfl rfl rfl) (fun v hv=>?_)
  by_cases hvl:v < n
  ·obtain ⟨x,hx⟩:∃ x,(B8 r)[v]? = some x:=⟨_,List.getElem?_eq_getElem (by omega)⟩
   have hx2:(B8 r)[((v:Nat):Int).toNat]? = some x:=hx
   have hxb:=hdb x (List.mem_of_getElem? hx)
   have hxg:(B8 r).getD v 0 = x:=by rw [List.getD_eq_getElem?_getD,hx];rfl
   have hml3:((I3 n (V6 l k r v)).map E5).length = n:=by rw [List.length_map,FL]
   have hcell:((I3 n (V6 l k r v)).map E5)[((((v:Nat):Int).toNat:Nat):Int).toNat]? = some (E5 (V6 l k r v v)):=by rw [Int.toNat_natCast,Int.toNat_natCast,List.getElem?_map,Lo _ hvl];rfl
   have hbd:=Qq (k:=k) (i:=v) (by omega) q1.2.1 q2
   have hmb:=u4 hxb hyb
   have hnew:V6 l k r (v + 1) v = V6 l k r v v + x * y:=by unfold V6;rw [if_pos (by omega),if_neg (by omega),hxg,hyg];omega
   have hac:-200000000000000 ≤ V6 l k r v v ∧ V6 l k r v v ≤ 200000000000000:=by unfold V6;rw [if_neg (by omega),Int.add_zero];exact hbd
   have hwm:IntKind.i64.wrap (x * y) = x * y:=I9 (by omega)
   have hset:=Nt (l:=l) (k:=k) (n:=n) (v:=v) (r:=r)
   rw [hnew, ← hwm] at hset
   generalize hd:B8 r = d at *
   repeat' ((first | (refine B4 (x:=x) hx2 (by omega) ?_) | (refine B4 (x:=y) hy02 (by omega) ?_) | (refine I2 (x:=E5 (V6 l k r v v)) hcell (by omega) ?_) | (refine Af (id:=13) ⟨[(0,C3 l),(2, .ref 0 0),(4, .row 2 0 (k + 1)),(5, .row 3 0 (k + 1)),(6, .row 1 0 n),(8,C2 r),(9,C2 (d)),(40,C3 l),(41, .i l.length),(42, .i k),(64,C2 d),(65, .i d.length),(66, .i v)],4,[(0,some (.box z9)),(1,some (.row 3 1 0 ((I3 n (V6 l k r (v + 1))).map E5))),(2,some (.row 27 1 0 (((l.take k).map fun r=>[C2 (B8 r)]) ++ [[C2 d]]))),(3,some (.row 27 1 0 (((l.take k).map fun r=>[C2 (H2 r)]) ++ [[C2 (H2 r)]])))]⟩ ?_ ?_) |refine A6 ?_|refine S1 ?_|refine Z1 ?_|refine Z2 ?_|(refine And.intro ?_ ?_<;>intro h<;>try first|(exfalso;omega)|exact absurd rfl h)|refine Z3 ?_|refine Z4 ?_|intro el hel hbB|intro el hel|intro ex|refine Z5 ?_|(refine B2 ?_ ?_;exact ⟨by kernel_rfl,by decide⟩)|refine B0 ?_ ?_|exact A9|refine A8 ?_ ?_|exact A7|(refine A3 ?_ ?_ ?_;kernel_rfl;kernel_rfl)) <;> (try (conv=>whnf)))
   all_goals first
    | (exfalso;omega)
    | exact B3 h0 rfl ⟨rfl,rfl,rfl,rfl,rfl,rfl,rfl,rfl,rfl,rfl,rfl,rfl,rfl,trivial⟩ ⟨rfl,⟨_,congrArg (E0.row _ _ _) hset.symm⟩,⟨_,rfl⟩,⟨_,rfl⟩,trivial⟩ rfl rfl rfl
    | (subst hd;exact ⟨v + 1,by omega,by omega,B3 h0 rfl ⟨rfl,rfl,rfl,rfl,rfl,rfl,rfl,rfl,rfl,rfl,rfl,rfl,rfl,trivial⟩ ⟨rfl,⟨_,rfl⟩,⟨_,rfl⟩,⟨_,rfl⟩,trivial⟩ rfl rfl rfl⟩)
  ·have hvv:v = n:=by omega
   subst hvv
   have e1:((l.take (k + 1)).map fun r=>[C2 (B8 r)]) = ((l.take k).map fun r=>[C2 (B8 r)]) ++ [[C2 (B8 r)]]:=by rw [List.take_add_one,hr,Option.toList_some,List.map_append];rfl
   have e2:((l.take (k + 1)).map fun r=>[C2 (H2 r)]) = ((l.take k).map fun r=>[C2 (H2 r)]) ++ [[C2 (H2 r)]]:=by rw [List.take_add_one,hr,Option.toList_some,List.map_append];rfl
   rw [RW hr, ← e1, ← e2]
   repeat' ((first|refine A6 ?_|refine S1 ?_|refine Z1 ?_|refine Z2 ?_|(refine And.intro ?_ ?_<;>intro h<;>try first|(exfalso;omega)|exact absurd rfl h)|refine Z3 ?_|refine Z4 ?_|intro el hel hbB|intro el hel|intro ex|refine Z5 ?_|(refine B2 ?_ ?_;exact ⟨by kernel_rfl,by decide⟩)|refine B0 ?_ ?_|exact A9|refine A8 ?_ ?_|exact A7|(refine A3 ?_ ?_ ?_;kernel_rfl;kernel_rfl)) <;> (try (conv=>whnf)))
   all_goals first
    | (exfalso;omega)
    | exact ⟨k + 1,by omega,by omega,B3 h0 rfl ⟨rfl,rfl,rfl,rfl,rfl,rfl,rfl,rfl,trivial⟩ ⟨rfl,⟨_,rfl⟩,⟨_,rfl⟩,⟨_,rfl⟩,trivial⟩ rfl rfl rfl⟩
 ·have hkk:k = l.length:=by omega
  subst hkk
  have e3:(l.map fun r=>[C2 (B8 r)]) = (l.map B8).map fun r=>[C2 r]:=by rw [List.map_map];rfl
  have e4:(l.map fun r=>[C2 (H2 r)]) = (l.map H2).map fun r=>[C2 r]:=by rw [List.map_map];rfl
  rw [List.take_length,Pm,e3,e4]
  refine o7 (B3 (σ':=⟨[(0,C3 l),(2, .ref 0 0),(4,C3 (l.map B8)),(5,C3 (l.map H2)),(6,C2 (N9 l n)),(41, .i l.length),(42, .i l.length)],1,[(0,some (.box z9))]⟩) h0 rfl ⟨rfl,rfl,rfl,rfl,rfl,rfl,rfl,trivial⟩ ⟨rfl,trivial⟩ rfl rfl rfl) ?_
  have dR0:∀ r ∈ l,(B8 r).length = n ∧ ∀ x ∈ B8 r, -1000000 ≤ x ∧ x ≤ 1000000:=fun r hr=>by
   obtain ⟨a1,a2⟩:=q2 r hr
   refine ⟨by simp [B8];omega,fun x hx=>?_⟩
   rcases List.mem_cons.1 hx with h | h
   ·subst h;decide
   ·exact a2 x (List.mem_of_mem_drop h)
  have wR0:∀ r ∈ l,(H2 r).length = n + 1 ∧ ∀ x ∈ H2 r, -1000000 ≤ x ∧ x ≤ 1000000:=fun r hr=>by
   obtain ⟨a1,a2⟩:=dR0 r hr
   refine ⟨by simp [H2];omega,fun x hx=>?_⟩
   rcases List.mem_append.1 hx with h | h
   ·exact a2 x h
   ·obtain ⟨y,hy⟩:∃ y,r[0]? = some y:=⟨_,List.getElem?_eq_getElem (by have:=(q2 r hr).1;omega)⟩
    have e:x = y:=by rw [List.mem_singleton.1 h,List.getD_eq_getElem?_getD,hy];rfl
    rw [e]
    exact (q2 r hr).2 y (List.mem_of_getElem? hy)
  have wd:C8 (l.map B8) = n:=by rw [s9 (r:=B8 r0) (by rw [List.getElem?_map,hr0];rfl)];exact (dR0 r0 (List.mem_of_getElem? hr0)).1
  have ww:C8 (l.map H2) = n + 1:=by rw [s9 (r:=H2 r0) (by rw [List.getElem?_map,hr0];rfl)];exact (wR0 r0 (List.mem_of_getElem? hr0)).1
  have s1:=CW (l.map B8) n wd (by rw [List.length_map];omega) (by omega) (fun r hr=>by obtain ⟨t,ht,rfl⟩:=List.mem_map.1 hr;exact dR0 t ht)
  have s3:=CW (l.map H2) (n + 1) ww (by rw [List.length_map];omega) (by omega) (fun r hr=>by obtain ⟨t,ht,rfl⟩:=List.mem_map.1 hr;exact wR0 t ht)
  have s5:=KL l he
  have hGl:(D2 (l.map B8) n).length = n:=by simp [D2]
  generalize D2 (l.map B8) n = G at *
  generalize D2 (l.map H2) (n + 1) = W at *
  generalize N9 l n = B at *
  have s2:=KJ G B
  have hcl:=Nu G B
  have s4:=KI W G
  generalize U6 G B = S at *
  generalize j7 W G = R at *
  generalize CP l = T at *
  obtain ⟨s,cs⟩:=S
  obtain ⟨r,ra,rb⟩:=R
  dsimp only at hF hcl
  by_cases hs:s = 0
  rotate_left
  ·rw [if_pos hs] at hF
   subst hF
   repeat' ((first | refine A4 s1 ?_ | refine A4 s2 ?_ |refine A6 ?_|refine S1 ?_|refine Z1 ?_|refine Z2 ?_|(refine And.intro ?_ ?_<;>intro h<;>try first|(exfalso;omega)|exact absurd rfl h)|refine Z3 ?_|refine Z4 ?_|intro el hel hbB|intro el hel|intro ex|refine Z5 ?_|(refine B2 ?_ ?_;exact ⟨by kernel_rfl,by decide⟩)|refine B0 ?_ ?_|exact A9|refine A8 ?_ ?_|exact A7|(refine A3 ?_ ?_ ?_;kernel_rfl;kernel_rfl)) <;> (try (conv=>whnf)))
   all_goals first
    | (exfalso;omega)
    | exact F9 rfl rfl rfl Aq rfl (.refl _) rfl
  rw [if_neg (fun h=>h hs)] at hF
  subst hs
  by_cases hs:r = 0
  rotate_left
  ·rw [if_pos hs] at hF
   subst hF
   repeat' ((first | refine A4 s1 ?_ | refine A4 s2 ?_ | refine A4 s3 ?_ | refine A4 s4 ?_ |refine A6 ?_|refine S1 ?_|refine Z1 ?_|refine Z2 ?_|(refine And.intro ?_ ?_<;>intro h<;>try first|(exfalso;omega)|exact absurd rfl h)|refine Z3 ?_|refine Z4 ?_|intro el hel hbB|intro el hel|intro ex|refine Z5 ?_|(refine B2 ?_ ?_;exact ⟨by kernel_rfl,by decide⟩)|refine B0 ?_ ?_|exact A9|refine A8 ?_ ?_|exact A7|(refine A3 ?_ ?_ ?_;kernel_rfl;kernel_rfl)) <;> (try (conv=>whnf)))
   all_goals first
    | (exfalso;omega)
    | exact F9 rfl rfl rfl Aq rfl (.refl _) rfl
  rw [if_neg (fun h=>h hs)] at hF
  subst hs
  cases T with
  | none =>
    dsimp only at hF
    subst hF
    repeat' ((first | refine A4 s1 ?_ | refine A4 s2 ?_ | refine A4 s3 ?_ | refine A4 s4 ?_ | refine A4 s5 ?_ |refine A6 ?_|refine S1 ?_|refine Z1 ?_|refine Z2 ?_|(refine And.intro ?_ ?_<;>intro h<;>try first|(exfalso;omega)|exact absurd rfl h)|refine Z3 ?_|refine Z4 ?_|intro el hel hbB|intro el hel|intro ex|refine Z5 ?_|(refine B2 ?_ ?_;exact ⟨by kernel_rfl,by decide⟩)|refine B0 ?_ ?_|exact A9|refine A8 ?_ ?_|exact A7|(refine A3 ?_ ?_ ?_;kernel_rfl;kernel_rfl)) <;> (try (conv=>whnf)))
    all_goals first
     | (exfalso;omega)
     | exact F9 rfl rfl rfl Aq rfl (.refl _) rfl
  | some t =>
    obtain ⟨ta,tb⟩:=t
    dsimp only at hF
    subst hF
    repeat' ((first | refine A4 s1 ?_ | refine A4 s2 ?_ | refine A4 s3 ?_ | refine A4 s4 ?_ | refine A4 s5 ?_ |refine A6 ?_|refine S1 ?_|refine Z1 ?_|refine Z2 ?_|(refine And.intro ?_ ?_<;>intro h<;>try first|(exfalso;omega)|exact absurd rfl h)|refine Z3 ?_|refine Z4 ?_|intro el hel hbB|intro el hel|intro ex|refine Z5 ?_|(refine B2 ?_ ?_;exact ⟨by kernel_rfl,by decide⟩)|refine B0 ?_ ?_|exact A9|refine A8 ?_ ?_|exact A7|(refine A3 ?_ ?_ ?_;kernel_rfl;kernel_rfl)) <;> (try (conv=>whnf)))
    all_goals first
     | (exfalso;omega)
     | exact F9 rfl rfl rfl (Qp ..) rfl (.refl _) rfl
end Go.Proofs.YtbhegmcbpolemaaDoor
