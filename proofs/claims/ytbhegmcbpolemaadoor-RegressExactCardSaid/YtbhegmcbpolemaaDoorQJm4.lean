/- Least squares, by the program. -/
import Derived.Test.YtbhegmcbpolemaaDoorQJm3
import Derived.Test.YtbhegmcbpolemaaDoorQAvY
import Derived.Test.YtbhegmcbpolemaaDoorQNl1
set_option linter.unusedVariables false
set_option linter.unnecessarySimpa false
set_option linter.unusedSimpArgs false
namespace Go.Proofs.YtbhegmcbpolemaaDoor
open Go Go.Av
attribute [local irreducible] E2 B3 G0 F3 DQ H4 H7 St.le B7 E1
set_option maxRecDepth 100000
def Jk (m:II):List AV:=[.i 0, .sl 1 [], .sl 2 (m.coefs.map BH), .i m.res.1, .i m.res.2, .i m.tot.1, .i m.tot.2, .i m.cnt, .i m.free]
def NA (p:Int × II):AV:=.tup [.agg (Jk p.2), .i p.1]
abbrev zM:II:=⟨[],(0,0),(0,0),0,0⟩
abbrev NB:AV:=.v (.slice none 0 0)
abbrev z9:List AV:=[.i 0,NB,NB, .i 0, .i 0, .i 0, .i 0, .i 0, .i 0]
theorem AO:NL (.agg z9) (.agg (Jk zM)):=LM ⟨.refl _, .nil 1, .nil 2, .refl _, .refl _, .refl _, .refl _, .refl _, .refl _,trivial⟩
theorem Pv (c:List (Int × Int)) (a b d e f g:Int):NL (.agg [.i 0,NB, .sl 2 (c.map BH), .i a, .i b, .i d, .i e, .i f, .i g]) (.agg (Jk ⟨c,(a,b),(d,e),f,g⟩)):=LM ⟨.refl _, .nil 1, .refl _, .refl _, .refl _, .refl _, .refl _, .refl _, .refl _,trivial⟩
set_option maxHeartbeats 4000000 in
theorem Hf (l:List Int) (hl:l.length ≤ 1000000):E1 Tryd.prog 24 0 [] [B9 l] 1 [(0,some (.row 3 1 0 (l.map C9)))] (.row 0 0 l.length):=by
 refine Ex Tryd.func24 8 fun E h0=>?_
 repeat' ((first | (refine Jj rfl rfl rfl (fun b hb=>?_);cases b) | refine w5 (T:=27) rfl ?_ |refine A5 ?_|refine S1 ?_|refine Z1 ?_|refine Z2 ?_|(refine And.intro ?_ ?_<;>intro h<;>try first|(exfalso;omega)|exact absurd rfl h)|refine Z3 ?_|refine Z4 ?_|intro el hel hbB|intro el hel|intro ex|refine Z5 ?_|(refine B2 ?_ ?_;exact ⟨by kernel_rfl,by decide⟩)|refine B0 ?_ ?_|exact A9|refine A7 ?_ ?_|exact A6|(refine A3 ?_ ?_ ?_;kernel_rfl;kernel_rfl)) <;> (try (conv=>whnf)))
 all_goals first
  | (exfalso;omega)
  | exact O5 (B4 h0 rfl ⟨congrArg (fun z:Nat=>some (AV.row 0 0 z)) (by simp),trivial⟩ ⟨⟨_,congrArg (D9.row 3 1 _) (by simp [J2])⟩,trivial⟩ rfl rfl rfl)
  | (have e:=List.map_eq_nil_iff.1 (hb rfl);subst e;exact O5 (E7 (W0 (d:=2) (e:=3) (sz:=1) rfl) (B4 h0 rfl ⟨rfl,trivial⟩ ⟨⟨_,rfl⟩,trivial⟩ rfl rfl rfl)))
def s7 (l:List (List Int)) (k i:Nat):Int:=C1 (l.take k) fun r=>(C0 r).getD i 0 * r.getD 0 0
def U4 (l:List (List Int)) (k:Nat) (r:List Int) (v i:Nat):Int:=s7 l k i + if i < v then (C0 r).getD i 0 * r.getD 0 0 else 0
theorem Qd (l:List (List Int)) (k n:Nat) (r:List Int):I1 n (U4 l k r 0) = I1 n (s7 l k):=W8 fun b _=>by unfold U4;rw [if_neg (by omega),Int.add_zero]
theorem Qe {l:List (List Int)} {k n:Nat} {r:List Int} (h:l[k]? = some r):I1 n (U4 l k r n) = I1 n (s7 l (k + 1)):=W8 fun b hb=>by unfold U4 s7;rw [if_pos hb,W7 h]
theorem NC {l:List (List Int)} {k n v:Nat} {r:List Int}:((I1 n (U4 l k r v)).map C9).set v (C9 (U4 l k r (v + 1) v)) = (I1 n (U4 l k r (v + 1))).map C9:=by
 rw [← List.map_set]
 congr 1
 exact Bp (f:=U4 l k r v) (g:=U4 l k r (v + 1)) fun b _ hne=>by
  unfold U4
  congr 1
  by_cases h:b < v
  ·rw [if_pos h,if_pos (by omega)]
  ·rw [if_neg h,if_neg (by omega)]
theorem On (l:List (List Int)) (n:Nat):I1 n (s7 l l.length) = N0 l n:=by unfold N0 I1 s7;rw [List.take_length]
theorem Pw {l:List (List Int)} {k i n:Nat} (hn:1 ≤ n) (hl:l.length ≤ 200) (hr:∀ r ∈ l,r.length = n ∧ ∀ x ∈ r, -1000000 ≤ x ∧ x ≤ 1000000):-200000000000000 ≤ s7 l k i ∧ s7 l k i ≤ 200000000000000:=by
 have hg:∀ (r:List Int) (k:Nat),(∀ x ∈ r, -1000000 ≤ x ∧ x ≤ 1000000) → -1000000 ≤ r.getD k 0 ∧ r.getD k 0 ≤ 1000000:=fun r k h=>by
  rw [List.getD_eq_getElem?_getD]
  cases e:r[k]? with
  | none=>simp
  | some x=>exact h x (List.mem_of_getElem? e)
 have h1:=b8 (l:=l.take k) (f:=fun r=>(C0 r).getD i 0 * r.getD 0 0) (B:=1000000000000) fun r hr2=>by
  have h3:=(hr r (List.mem_of_mem_take hr2)).2
  have h4:∀ x ∈ C0 r, -1000000 ≤ x ∧ x ≤ 1000000:=fun x hx=>by
   rcases List.mem_cons.1 hx with h | h
   ·subst h;decide
   ·exact h3 x (List.mem_of_mem_drop h)
  have:=o6 (hg _ i h4) (hg r 0 h3)
  omega
 have h2:(l.take k).length ≤ 200:=by rw [List.length_take];omega
 unfold s7
 omega
theorem ND (a:List (List Int)) (b:List Int):(U6 a b).2.length ≤ a.length:=by
 unfold U6
 split
 ·simp
 split
 ·simp
 split
 ·simp
 split
 ·simp
 split
 ·rename_i l h
  have:=r9 h
  dsimp only
  omega
 ·simp
set_option maxHeartbeats 32000000 in
theorem DA (l:List (List Int)):B7 Tryd.prog 10 [D3 l] (NA (Y4 l)):=by
 have c1:=BI l
 generalize hF:Y4 l = F
 unfold Y4 at hF
 by_cases he:U5 l = true
 rotate_left
 ·rw [if_neg fun h=>he h.1] at hF
  rw [Bool.not_eq_true] at he
  rw [he] at c1
  subst hF
  refine F0 Tryd.func10 127 fun hrd E h0=>?_
  clear hrd
  repeat' ((first | refine A8 c1 ?_ |refine A5 ?_|refine S1 ?_|refine Z1 ?_|refine Z2 ?_|(refine And.intro ?_ ?_<;>intro h<;>try first|(exfalso;omega)|exact absurd rfl h)|refine Z3 ?_|refine Z4 ?_|intro el hel hbB|intro el hel|intro ex|refine Z5 ?_|(refine B2 ?_ ?_;exact ⟨by kernel_rfl,by decide⟩)|refine B0 ?_ ?_|exact A9|refine A7 ?_ ?_|exact A6|(refine A3 ?_ ?_ ?_;kernel_rfl;kernel_rfl)) <;> (try (conv=>whnf)))
  all_goals first
   | (exfalso;omega)
   | exact K3 rfl rfl rfl AO rfl (.refl _) rfl
 rw [he] at c1
 obtain ⟨q1,q2⟩:=(T6 l).1 he
 obtain ⟨r0,hr0⟩:∃ r,l[0]? = some r:=⟨_,List.getElem?_eq_getElem (by omega)⟩
 have hr00:l[((0:Int)).toNat]? = some r0:=hr0
 have hw:=AM hr0
 by_cases hc:2 ≤ E3 l ∧ E3 l ≤ 4
 rotate_left
 ·rw [if_neg fun h=>hc h.2] at hF
  subst hF
  refine F0 Tryd.func10 127 fun hrd E h0=>?_
  clear hrd
  repeat' ((first | refine A8 c1 ?_ | (refine B5 (x:=r0) hr00 (by omega) ?_) |refine A5 ?_|refine S1 ?_|refine Z1 ?_|refine Z2 ?_|(refine And.intro ?_ ?_<;>intro h<;>try first|(exfalso;omega)|exact absurd rfl h)|refine Z3 ?_|refine Z4 ?_|intro el hel hbB|intro el hel|intro ex|refine Z5 ?_|(refine B2 ?_ ?_;exact ⟨by kernel_rfl,by decide⟩)|refine B0 ?_ ?_|exact A9|refine A7 ?_ ?_|exact A6|(refine A3 ?_ ?_ ?_;kernel_rfl;kernel_rfl)) <;> (try (conv=>whnf)))
  all_goals first
   | (exfalso;omega)
   | exact K3 rfl rfl rfl AO rfl (.refl _) rfl
 rw [if_pos ⟨he,hc.1,hc.2⟩] at hF
 generalize hnn:E3 l = n at *
 have hz0:List.replicate n [AV.i 0] = (I1 n (s7 l 0)).map C9:=by
  have:I1 n (s7 l 0) = List.replicate n 0:=by unfold I1 s7;simp [C1,List.map_const']
  rw [this,List.map_replicate]
 refine F0 Tryd.func10 127 fun hrd E h0=>?_
 clear hrd
 repeat' ((first | refine A8 c1 ?_ | (refine B5 (x:=r0) hr00 (by omega) ?_) |refine A5 ?_|refine S1 ?_|refine Z1 ?_|refine Z2 ?_|(refine And.intro ?_ ?_<;>intro h<;>try first|(exfalso;omega)|exact absurd rfl h)|refine Z3 ?_|refine Z4 ?_|intro el hel hbB|intro el hel|intro ex|refine Z5 ?_|(refine B2 ?_ ?_;exact ⟨by kernel_rfl,by decide⟩)|refine B0 ?_ ?_|exact A9|refine A7 ?_ ?_|exact A6|(refine A3 ?_ ?_ ?_;kernel_rfl;kernel_rfl)) <;> (try (conv=>whnf)))
 all_goals first
  | (exfalso;omega)
  | skip
 refine F4 (ι:=Nat) (fun k=>⟨[(0,D3 l),(2, .ref 0 0),(4, .row 2 0 k),(5, .row 3 0 k),(6, .row 1 0 n),(40,D3 l),(41, .i l.length),(42, .i k)],4,[(0,some (.box z9)),(1,some (.row 3 1 0 ((I1 n (s7 l k)).map C9))),(2,some (.row 27 1 0 ((l.take k).map fun r=>[B9 (C0 r)]))),(3,some (.row 27 1 0 ((l.take k).map fun r=>[B9 (G4 r)])))]⟩) (fun k=>k ≤ l.length) (fun k=>l.length - k) 0 (Nat.zero_le _)
  (E7 (W0 (d:=4) (e:=27) (sz:=1) rfl) (E7 (W0 (d:=5) (e:=27) (sz:=1) rfl) (B4 h0 rfl ⟨rfl,rfl,rfl,rfl,congrArg (fun z=>some (AV.row 1 0 z)) hw.symm,rfl,rfl,rfl,trivial⟩ ⟨rfl,⟨_,congrArg (D9.row 3 1 0) (by rw [← hz0,hw];rfl)⟩,⟨0,rfl⟩,⟨0,rfl⟩,trivial⟩ rfl rfl rfl))) (fun k hk=>?_)
 by_cases hkl:k < l.length
 ·obtain ⟨r,hr⟩:∃ r,l[k]? = some r:=⟨_,List.getElem?_eq_getElem hkl⟩
  have hr2:l[((k:Nat):Int).toNat]? = some r:=hr
  obtain ⟨hrl,hrb⟩:=q2 r (List.mem_of_getElem? hr)
  obtain ⟨y,hy0⟩:∃ y,r[0]? = some y:=⟨_,List.getElem?_eq_getElem (by omega)⟩
  have hy02:r[((0:Int)).toNat]? = some y:=hy0
  have hyb:=hrb y (List.mem_of_getElem? hy0)
  repeat' ((first | (refine B5 (x:=r) hr2 (by omega) ?_) | refine w5 (T:=27) rfl ?_ |refine A5 ?_|refine S1 ?_|refine Z1 ?_|refine Z2 ?_|(refine And.intro ?_ ?_<;>intro h<;>try first|(exfalso;omega)|exact absurd rfl h)|refine Z3 ?_|refine Z4 ?_|intro el hel hbB|intro el hel|intro ex|refine Z5 ?_|(refine B2 ?_ ?_;exact ⟨by kernel_rfl,by decide⟩)|refine B0 ?_ ?_|exact A9|refine A7 ?_ ?_|exact A6|(refine A3 ?_ ?_ ?_;kernel_rfl;kernel_rfl)) <;> (try (conv=>whnf)))
  all_goals first
   | (exfalso;omega)
   | skip
  have hraw:(List.take ((r.map fun x=>[AV.i x]).length:Int).toNat (r.map fun x=>[AV.i x])).drop (Int.toNat 1) = (r.drop 1).map fun x=>[AV.i x]:=by
   rw [Int.toNat_natCast,List.take_length,List.map_drop];rfl
  have hdl:((r.drop 1).map fun x=>[AV.i x]).length = n - 1:=by rw [List.length_map,List.length_drop];omega
  rw [hraw]
  have hdlen:(C0 r).length = n:=by simp [C0];omega
  have hcl:=Hf (C0 r) (by omega)
  have hyg:r.getD 0 0 = y:=by rw [List.getD_eq_getElem?_getD,hy0];rfl
  have hwho:(G4 r).map (fun x=>[AV.i x]) = (C0 r).map (fun x=>[AV.i x]) ++ [[.i y]]:=by unfold G4;rw [List.map_append,hyg];rfl
  have hdb:∀ x ∈ C0 r, -1000000 ≤ x ∧ x ≤ 1000000:=fun x hx=>by
   rcases List.mem_cons.1 hx with h | h
   ·subst h;decide
   ·exact hrb x (List.mem_of_mem_drop h)
  repeat' ((first | (refine Hz 9 ?_;refine IB (id:=9) (σ':=⟨[(0,D3 l),(2, .ref 0 0),(4, .row 2 0 k),(5, .row 3 0 k),(6, .row 1 0 n),(8,B9 r),(9,B9 (C0 r)),(40,D3 l),(41, .i l.length),(42, .i k)],4,[(0,some (.box z9)),(1,some (.row 3 1 0 ((I1 n (s7 l k)).map C9))),(2,some (.row 27 1 0 ((l.take k).map fun r=>[B9 (C0 r)]))),(3,some (.row 27 1 0 ((l.take k).map fun r=>[B9 (G4 r)])))]⟩) (B4 h0 rfl ⟨rfl,rfl,rfl,rfl,rfl,rfl,rfl,rfl,rfl,rfl,trivial⟩ ⟨rfl,⟨_,rfl⟩,⟨_,rfl⟩,⟨_,rfl⟩,trivial⟩ rfl rfl rfl) ?_;refine p9 (id:=9) ⟨[(0,D3 l),(2, .ref 0 0),(4, .row 2 0 (k + 1)),(5, .row 3 0 (k + 1)),(6, .row 1 0 n),(8,B9 r),(9,B9 (C0 r)),(40,D3 l),(41, .i l.length),(42, .i k)],4,[(0,some (.box z9)),(1,some (.row 3 1 0 ((I1 n (s7 l k)).map C9))),(2,some (.row 27 1 0 (((l.take k).map fun r=>[B9 (C0 r)]) ++ [[B9 (C0 r)]]))),(3,some (.row 27 1 0 (((l.take k).map fun r=>[B9 (G4 r)]) ++ [[B9 (G4 r)]])))]⟩ ?_ ?_) | refine AG [] [] hcl rfl rfl rfl rfl rfl trivial rfl rfl rfl rfl rfl ?_ | (refine B5 (x:=y) hy02 (by omega) ?_) | refine Mt 61 rfl ?_ |refine A5 ?_|refine S1 ?_|refine Z1 ?_|refine Z2 ?_|(refine And.intro ?_ ?_<;>intro h<;>try first|(exfalso;omega)|exact absurd rfl h)|refine Z3 ?_|refine Z4 ?_|intro el hel hbB|intro el hel|intro ex|refine Z5 ?_|(refine B2 ?_ ?_;exact ⟨by kernel_rfl,by decide⟩)|refine B0 ?_ ?_|exact A9|refine A7 ?_ ?_|exact A6|(refine A3 ?_ ?_ ?_;kernel_rfl;kernel_rfl)) <;> (try (conv=>whnf)))
  all_goals first
   | (exfalso;omega)
   | exact B4 h0 rfl ⟨rfl,rfl,rfl,rfl,rfl,rfl,rfl,rfl,rfl,rfl,trivial⟩ ⟨rfl,⟨_,rfl⟩,⟨_,rfl⟩,⟨_,congrArg (D9.row 27 1 _) (by rw [show B9 (G4 r) = .sl 1 ((C0 r).map (fun x=>[AV.i x]) ++ [[.i y]]) from congrArg (AV.sl 1) hwho];rfl)⟩,trivial⟩ rfl rfl rfl
   | skip
  refine F4 (ι:=Nat) (fun v=>⟨[(0,D3 l),(2, .ref 0 0),(4, .row 2 0 (k + 1)),(5, .row 3 0 (k + 1)),(6, .row 1 0 n),(8,B9 r),(9,B9 (C0 r)),(40,D3 l),(41, .i l.length),(42, .i k),(64,B9 (C0 r)),(65, .i (C0 r).length),(66, .i v)],4,[(0,some (.box z9)),(1,some (.row 3 1 0 ((I1 n (U4 l k r v)).map C9))),(2,some (.row 27 1 0 (((l.take k).map fun r=>[B9 (C0 r)]) ++ [[B9 (C0 r)]]))),(3,some (.row 27 1 0 (((l.take k).map fun r=>[B9 (G4 r)]) ++ [[B9 (G4 r)]])))]⟩) (fun v=>v ≤ n) (fun v=>n - v) 0 (Nat.zero_le _)
   (B4 h0 rfl ⟨rfl,rfl,rfl,rfl,rfl,rfl,rfl,rfl,rfl,rfl,rfl,rfl,rfl,trivial⟩ ⟨rfl,⟨_,congrArg (D9.row _ _ _) (congrArg (List.map C9) (Qd l k n r))⟩,⟨_,rfl⟩,⟨_,rfl⟩,trivial⟩ rfl rfl rfl) (fun v hv=>?_)
  by_cases hvl:v < n
  ·obtain ⟨x,hx⟩:∃ x,(C0 r)[v]? = some x:=⟨_,List.getElem?_eq_getElem (by omega)⟩
   have hx2:(C0 r)[((v:Nat):Int).toNat]? = some x:=hx
   have hxb:=hdb x (List.mem_of_getElem? hx)
   have hxg:(C0 r).getD v 0 = x:=by rw [List.getD_eq_getElem?_getD,hx];rfl
   have hml3:((I1 n (U4 l k r v)).map C9).length = n:=by rw [List.length_map,EW]
   have hcell:((I1 n (U4 l k r v)).map C9)[((((v:Nat):Int).toNat:Nat):Int).toNat]? = some (C9 (U4 l k r v v)):=by rw [Int.toNat_natCast,Int.toNat_natCast,List.getElem?_map,LF _ hvl];rfl
   have hbd:=Pw (k:=k) (i:=v) (by omega) q1.2.1 q2
   have hmb:=o6 hxb hyb
   have hnew:U4 l k r (v + 1) v = U4 l k r v v + x * y:=by unfold U4;rw [if_pos (by omega),if_neg (by omega),hxg,hyg];omega
   have hac:-200000000000000 ≤ U4 l k r v v ∧ U4 l k r v v ≤ 200000000000000:=by unfold U4;rw [if_neg (by omega),Int.add_zero];exact hbd
   have hwm:IntKind.i64.wrap (x * y) = x * y:=I3 (by omega)
   have hset:=NC (l:=l) (k:=k) (n:=n) (v:=v) (r:=r)
   rw [hnew, ← hwm] at hset
   generalize hd:C0 r = d at *
   repeat' ((first | (refine B5 (x:=x) hx2 (by omega) ?_) | (refine B5 (x:=y) hy02 (by omega) ?_) | (refine G9 (x:=C9 (U4 l k r v v)) hcell (by omega) ?_) | (refine p9 (id:=13) ⟨[(0,D3 l),(2, .ref 0 0),(4, .row 2 0 (k + 1)),(5, .row 3 0 (k + 1)),(6, .row 1 0 n),(8,B9 r),(9,B9 (d)),(40,D3 l),(41, .i l.length),(42, .i k),(64,B9 d),(65, .i d.length),(66, .i v)],4,[(0,some (.box z9)),(1,some (.row 3 1 0 ((I1 n (U4 l k r (v + 1))).map C9))),(2,some (.row 27 1 0 (((l.take k).map fun r=>[B9 (C0 r)]) ++ [[B9 d]]))),(3,some (.row 27 1 0 (((l.take k).map fun r=>[B9 (G4 r)]) ++ [[B9 (G4 r)]])))]⟩ ?_ ?_) |refine A5 ?_|refine S1 ?_|refine Z1 ?_|refine Z2 ?_|(refine And.intro ?_ ?_<;>intro h<;>try first|(exfalso;omega)|exact absurd rfl h)|refine Z3 ?_|refine Z4 ?_|intro el hel hbB|intro el hel|intro ex|refine Z5 ?_|(refine B2 ?_ ?_;exact ⟨by kernel_rfl,by decide⟩)|refine B0 ?_ ?_|exact A9|refine A7 ?_ ?_|exact A6|(refine A3 ?_ ?_ ?_;kernel_rfl;kernel_rfl)) <;> (try (conv=>whnf)))
   all_goals first
    | (exfalso;omega)
    | exact B4 h0 rfl ⟨rfl,rfl,rfl,rfl,rfl,rfl,rfl,rfl,rfl,rfl,rfl,rfl,rfl,trivial⟩ ⟨rfl,⟨_,congrArg (D9.row _ _ _) hset.symm⟩,⟨_,rfl⟩,⟨_,rfl⟩,trivial⟩ rfl rfl rfl
    | (subst hd;exact ⟨v + 1,by omega,by omega,B4 h0 rfl ⟨rfl,rfl,rfl,rfl,rfl,rfl,rfl,rfl,rfl,rfl,rfl,rfl,rfl,trivial⟩ ⟨rfl,⟨_,rfl⟩,⟨_,rfl⟩,⟨_,rfl⟩,trivial⟩ rfl rfl rfl⟩)
  ·have hvv:v = n:=by omega
   subst hvv
   have e1:((l.take (k + 1)).map fun r=>[B9 (C0 r)]) = ((l.take k).map fun r=>[B9 (C0 r)]) ++ [[B9 (C0 r)]]:=by rw [List.take_add_one,hr,Option.toList_some,List.map_append];rfl
   have e2:((l.take (k + 1)).map fun r=>[B9 (G4 r)]) = ((l.take k).map fun r=>[B9 (G4 r)]) ++ [[B9 (G4 r)]]:=by rw [List.take_add_one,hr,Option.toList_some,List.map_append];rfl
   rw [Qe hr, ← e1, ← e2]
   repeat' ((first|refine A5 ?_|refine S1 ?_|refine Z1 ?_|refine Z2 ?_|(refine And.intro ?_ ?_<;>intro h<;>try first|(exfalso;omega)|exact absurd rfl h)|refine Z3 ?_|refine Z4 ?_|intro el hel hbB|intro el hel|intro ex|refine Z5 ?_|(refine B2 ?_ ?_;exact ⟨by kernel_rfl,by decide⟩)|refine B0 ?_ ?_|exact A9|refine A7 ?_ ?_|exact A6|(refine A3 ?_ ?_ ?_;kernel_rfl;kernel_rfl)) <;> (try (conv=>whnf)))
   all_goals first
    | (exfalso;omega)
    | exact ⟨k + 1,by omega,by omega,B4 h0 rfl ⟨rfl,rfl,rfl,rfl,rfl,rfl,rfl,rfl,trivial⟩ ⟨rfl,⟨_,rfl⟩,⟨_,rfl⟩,⟨_,rfl⟩,trivial⟩ rfl rfl rfl⟩
 ·have hkk:k = l.length:=by omega
  subst hkk
  have e3:(l.map fun r=>[B9 (C0 r)]) = (l.map C0).map fun r=>[B9 r]:=by rw [List.map_map];rfl
  have e4:(l.map fun r=>[B9 (G4 r)]) = (l.map G4).map fun r=>[B9 r]:=by rw [List.map_map];rfl
  rw [List.take_length,On,e3,e4]
  refine T8 (B4 (σ':=⟨[(0,D3 l),(2, .ref 0 0),(4,D3 (l.map C0)),(5,D3 (l.map G4)),(6,B9 (N0 l n)),(41, .i l.length),(42, .i l.length)],1,[(0,some (.box z9))]⟩) h0 rfl ⟨rfl,rfl,rfl,rfl,rfl,rfl,rfl,trivial⟩ ⟨rfl,trivial⟩ rfl rfl rfl) ?_
  have dR0:∀ r ∈ l,(C0 r).length = n ∧ ∀ x ∈ C0 r, -1000000 ≤ x ∧ x ≤ 1000000:=fun r hr=>by
   obtain ⟨a1,a2⟩:=q2 r hr
   refine ⟨by simp [C0];omega,fun x hx=>?_⟩
   rcases List.mem_cons.1 hx with h | h
   ·subst h;decide
   ·exact a2 x (List.mem_of_mem_drop h)
  have wR0:∀ r ∈ l,(G4 r).length = n + 1 ∧ ∀ x ∈ G4 r, -1000000 ≤ x ∧ x ≤ 1000000:=fun r hr=>by
   obtain ⟨a1,a2⟩:=dR0 r hr
   refine ⟨by simp [G4];omega,fun x hx=>?_⟩
   rcases List.mem_append.1 hx with h | h
   ·exact a2 x h
   ·obtain ⟨y,hy⟩:∃ y,r[0]? = some y:=⟨_,List.getElem?_eq_getElem (by have:=(q2 r hr).1;omega)⟩
    have e:x = y:=by rw [List.mem_singleton.1 h,List.getD_eq_getElem?_getD,hy];rfl
    rw [e]
    exact (q2 r hr).2 y (List.mem_of_getElem? hy)
  have wd:E3 (l.map C0) = n:=by rw [AM (r:=C0 r0) (by rw [List.getElem?_map,hr0];rfl)];exact (dR0 r0 (List.mem_of_getElem? hr0)).1
  have ww:E3 (l.map G4) = n + 1:=by rw [AM (r:=G4 r0) (by rw [List.getElem?_map,hr0];rfl)];exact (wR0 r0 (List.mem_of_getElem? hr0)).1
  have s1:=Bq (l.map C0) n wd (by rw [List.length_map];omega) (by omega) (fun r hr=>by obtain ⟨t,ht,rfl⟩:=List.mem_map.1 hr;exact dR0 t ht)
  have s3:=Bq (l.map G4) (n + 1) ww (by rw [List.length_map];omega) (by omega) (fun r hr=>by obtain ⟨t,ht,rfl⟩:=List.mem_map.1 hr;exact wR0 t ht)
  have s5:=Ji l he
  have hGl:(D0 (l.map C0) n).length = n:=by simp [D0]
  generalize D0 (l.map C0) n = G at *
  generalize D0 (l.map G4) (n + 1) = W at *
  generalize N0 l n = B at *
  have s2:=Jg G B
  have hcl:=ND G B
  have s4:=Jf W G
  generalize U6 G B = S at *
  generalize AB W G = R at *
  generalize Aw l = T at *
  obtain ⟨s,cs⟩:=S
  obtain ⟨r,ra,rb⟩:=R
  dsimp only at hF hcl
  by_cases hs:s = 0
  rotate_left
  ·rw [if_pos hs] at hF
   subst hF
   repeat' ((first | refine A8 s1 ?_ | refine A8 s2 ?_ |refine A5 ?_|refine S1 ?_|refine Z1 ?_|refine Z2 ?_|(refine And.intro ?_ ?_<;>intro h<;>try first|(exfalso;omega)|exact absurd rfl h)|refine Z3 ?_|refine Z4 ?_|intro el hel hbB|intro el hel|intro ex|refine Z5 ?_|(refine B2 ?_ ?_;exact ⟨by kernel_rfl,by decide⟩)|refine B0 ?_ ?_|exact A9|refine A7 ?_ ?_|exact A6|(refine A3 ?_ ?_ ?_;kernel_rfl;kernel_rfl)) <;> (try (conv=>whnf)))
   all_goals first
    | (exfalso;omega)
    | exact K3 rfl rfl rfl AO rfl (.refl _) rfl
  rw [if_neg (fun h=>h hs)] at hF
  subst hs
  by_cases hs:r = 0
  rotate_left
  ·rw [if_pos hs] at hF
   subst hF
   repeat' ((first | refine A8 s1 ?_ | refine A8 s2 ?_ | refine A8 s3 ?_ | refine A8 s4 ?_ |refine A5 ?_|refine S1 ?_|refine Z1 ?_|refine Z2 ?_|(refine And.intro ?_ ?_<;>intro h<;>try first|(exfalso;omega)|exact absurd rfl h)|refine Z3 ?_|refine Z4 ?_|intro el hel hbB|intro el hel|intro ex|refine Z5 ?_|(refine B2 ?_ ?_;exact ⟨by kernel_rfl,by decide⟩)|refine B0 ?_ ?_|exact A9|refine A7 ?_ ?_|exact A6|(refine A3 ?_ ?_ ?_;kernel_rfl;kernel_rfl)) <;> (try (conv=>whnf)))
   all_goals first
    | (exfalso;omega)
    | exact K3 rfl rfl rfl AO rfl (.refl _) rfl
  rw [if_neg (fun h=>h hs)] at hF
  subst hs
  cases T with
  | none =>
    dsimp only at hF
    subst hF
    repeat' ((first | refine A8 s1 ?_ | refine A8 s2 ?_ | refine A8 s3 ?_ | refine A8 s4 ?_ | refine A8 s5 ?_ |refine A5 ?_|refine S1 ?_|refine Z1 ?_|refine Z2 ?_|(refine And.intro ?_ ?_<;>intro h<;>try first|(exfalso;omega)|exact absurd rfl h)|refine Z3 ?_|refine Z4 ?_|intro el hel hbB|intro el hel|intro ex|refine Z5 ?_|(refine B2 ?_ ?_;exact ⟨by kernel_rfl,by decide⟩)|refine B0 ?_ ?_|exact A9|refine A7 ?_ ?_|exact A6|(refine A3 ?_ ?_ ?_;kernel_rfl;kernel_rfl)) <;> (try (conv=>whnf)))
    all_goals first
     | (exfalso;omega)
     | exact K3 rfl rfl rfl AO rfl (.refl _) rfl
  | some t =>
    obtain ⟨ta,tb⟩:=t
    dsimp only at hF
    subst hF
    repeat' ((first | refine A8 s1 ?_ | refine A8 s2 ?_ | refine A8 s3 ?_ | refine A8 s4 ?_ | refine A8 s5 ?_ |refine A5 ?_|refine S1 ?_|refine Z1 ?_|refine Z2 ?_|(refine And.intro ?_ ?_<;>intro h<;>try first|(exfalso;omega)|exact absurd rfl h)|refine Z3 ?_|refine Z4 ?_|intro el hel hbB|intro el hel|intro ex|refine Z5 ?_|(refine B2 ?_ ?_;exact ⟨by kernel_rfl,by decide⟩)|refine B0 ?_ ?_|exact A9|refine A7 ?_ ?_|exact A6|(refine A3 ?_ ?_ ?_;kernel_rfl;kernel_rfl)) <;> (try (conv=>whnf)))
    all_goals first
     | (exfalso;omega)
     | exact K3 rfl rfl rfl (Pv ..) rfl (.refl _) rfl
end Go.Proofs.YtbhegmcbpolemaaDoor
