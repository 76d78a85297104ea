/- Least squares, by the program. -/
import Derived.Test.YtbhegmcbpolemaaDoorTJm3
import Derived.Test.YtbhegmcbpolemaaDoorTNl1
set_option linter.unusedVariables false
set_option linter.unnecessarySimpa false
set_option linter.unusedSimpArgs false
namespace Go.Proofs.YtbhegmcbpolemaaDoor
open Go Go.Av
attribute [local irreducible] E4 B6 F1 E7 DQ F6 F9 St.le B5 D4
set_option maxRecDepth 100000
def HU (m:LF):List AV:=[.i 0, .sl 1 [], .sl 2 (m.coefs.map Aa), .i m.res.1, .i m.res.2, .i m.tot.1, .i m.tot.2, .i m.cnt, .i m.free]
def Jv (p:Int × LF):AV:=.tup [.agg (HU p.2), .i p.1]
abbrev zM:LF:=⟨[],(0,0),(0,0),0,0⟩
abbrev HV:AV:=.v (.slice none 0 0)
abbrev z9:List AV:=[.i 0,HV,HV, .i 0, .i 0, .i 0, .i 0, .i 0, .i 0]
theorem T1:NL (.agg z9) (.agg (HU zM)):=LO ⟨.refl _, .nil 1, .nil 2, .refl _, .refl _, .refl _, .refl _, .refl _, .refl _,trivial⟩
theorem LP (c:List (Int × Int)) (a b d e f g:Int):NL (.agg [.i 0,HV, .sl 2 (c.map Aa), .i a, .i b, .i d, .i e, .i f, .i g]) (.agg (HU ⟨c,(a,b),(d,e),f,g⟩)):=LO ⟨.refl _, .nil 1, .refl _, .refl _, .refl _, .refl _, .refl _, .refl _, .refl _,trivial⟩
set_option maxHeartbeats 4000000 in
theorem ID (l:List Int) (hl:l.length ≤ 1000000):D4 Tryd.prog 24 0 [] [B8 l] 1 [(0,some (.row 3 1 0 (l.map C3)))] (.row 0 0 l.length):=by
 refine FX Tryd.func24 8 fun E h0=>?_
 repeat' ((first | (refine BL rfl rfl rfl (fun b hb=>?_);cases b) | refine R3 (T:=27) rfl ?_ |refine A5 ?_|refine S1 ?_|refine Z1 ?_|refine Z2 ?_|(refine And.intro ?_ ?_<;>intro h<;>try first|(exfalso;omega)|exact absurd rfl h)|refine Z3 ?_|refine Z4 ?_|intro el hel hbB|intro el hel|intro ex|refine Z5 ?_|(refine B0 ?_ ?_;exact ⟨by kernel_rfl,by decide⟩)|refine A9 ?_ ?_|exact A8|refine A7 ?_ ?_|exact A6|(refine A3 ?_ ?_ ?_;kernel_rfl;kernel_rfl)) <;> (try (conv=>whnf)))
 all_goals first
  | (exfalso;omega)
  | exact P3 (B4 h0 rfl ⟨congrArg (fun z:Nat=>some (AV.row 0 0 z)) (by simp),trivial⟩ ⟨⟨_,congrArg (D9.row 3 1 _) (by simp [I7])⟩,trivial⟩ rfl rfl rfl)
  | (have e:=List.map_eq_nil_iff.1 (hb rfl);subst e;exact P3 (E0 (N0 (d:=2) (e:=3) (sz:=1) rfl) (B4 h0 rfl ⟨rfl,trivial⟩ ⟨⟨_,rfl⟩,trivial⟩ rfl rfl rfl)))
def W0 (l:List (List Int)) (k i:Nat):Int:=C8 (l.take k) fun r=>(C9 r).getD i 0 * r.getD 0 0
def M8 (l:List (List Int)) (k:Nat) (r:List Int) (v i:Nat):Int:=W0 l k i + if i < v then (C9 r).getD i 0 * r.getD 0 0 else 0
theorem Nx (l:List (List Int)) (k n:Nat) (r:List Int):E5 n (M8 l k r 0) = E5 n (W0 l k):=P1 fun b _=>by unfold M8;rw [if_neg (by omega),Int.add_zero]
theorem Ny {l:List (List Int)} {k n:Nat} {r:List Int} (h:l[k]? = some r):E5 n (M8 l k r n) = E5 n (W0 l (k + 1)):=P1 fun b hb=>by unfold M8 W0;rw [if_pos hb,O9 h]
theorem HW {l:List (List Int)} {k n v:Nat} {r:List Int}:((E5 n (M8 l k r v)).map C3).set v (C3 (M8 l k r (v + 1) v)) = (E5 n (M8 l k r (v + 1))).map C3:=by
 rw [← List.map_set]
 congr 1
 exact x9 (f:=M8 l k r v) (g:=M8 l k r (v + 1)) fun b _ hne=>by
  unfold M8
  congr 1
  by_cases h:b < v
  ·rw [if_pos h,if_pos (by omega)]
  ·rw [if_neg h,if_neg (by omega)]
theorem Ip (l:List (List Int)) (n:Nat):E5 n (W0 l l.length) = AF l n:=by unfold AF E5 W0;rw [List.take_length]
theorem LQ {l:List (List Int)} {k i n:Nat} (hn:1 ≤ n) (hl:l.length ≤ 200) (hr:∀ r ∈ l,r.length = n ∧ ∀ x ∈ r, -1000000 ≤ x ∧ x ≤ 1000000):-200000000000000 ≤ W0 l k i ∧ W0 l k i ≤ 200000000000000:=by
 have hg:∀ (r:List Int) (k:Nat),(∀ x ∈ r, -1000000 ≤ x ∧ x ≤ 1000000) → -1000000 ≤ r.getD k 0 ∧ r.getD k 0 ≤ 1000000:=fun r k h=>by
  rw [List.getD_eq_getElem?_getD]
  cases e:r[k]? with
  | none=>simp
  | some x=>exact h x (List.mem_of_getElem? e)
 have h1:=p5 (l:=l.take k) (f:=fun r=>(C9 r).getD i 0 * r.getD 0 0) (B:=1000000000000) fun r hr2=>by
  have h3:=(hr r (List.mem_of_mem_take hr2)).2
  have h4:∀ x ∈ C9 r, -1000000 ≤ x ∧ x ≤ 1000000:=fun x hx=>by
   rcases List.mem_cons.1 hx with h | h
   ·subst h;decide
   ·exact h3 x (List.mem_of_mem_drop h)
  have:=p6 (hg _ i h4) (hg r 0 h3)
  omega
 have h2:(l.take k).length ≤ 200:=by rw [List.length_take];omega
 unfold W0
 omega
theorem HX (a:List (List Int)) (b:List Int):(m6 a b).2.length ≤ a.length:=by
 unfold m6
 split
 ·simp
 split
 ·simp
 split
 ·simp
 split
 ·simp
 split
 ·rename_i l h
  have:=BE h
  dsimp only
  omega
 ·simp
set_option maxHeartbeats 32000000 in
theorem DT (l:List (List Int)):B5 Tryd.prog 10 [B7 l] (Jv (BG l)):=by
 have c1:=BV l
 generalize hF:BG l = F
 unfold BG at hF
 by_cases he:P6 l = true
 rotate_left
 ·rw [if_neg fun h=>he h.1] at hF
  rw [Bool.not_eq_true] at he
  rw [he] at c1
  subst hF
  refine D1 Tryd.func10 127 fun hrd E h0=>?_
  clear hrd
  repeat' ((first | refine A4 c1 ?_ |refine A5 ?_|refine S1 ?_|refine Z1 ?_|refine Z2 ?_|(refine And.intro ?_ ?_<;>intro h<;>try first|(exfalso;omega)|exact absurd rfl h)|refine Z3 ?_|refine Z4 ?_|intro el hel hbB|intro el hel|intro ex|refine Z5 ?_|(refine B0 ?_ ?_;exact ⟨by kernel_rfl,by decide⟩)|refine A9 ?_ ?_|exact A8|refine A7 ?_ ?_|exact A6|(refine A3 ?_ ?_ ?_;kernel_rfl;kernel_rfl)) <;> (try (conv=>whnf)))
  all_goals first
   | (exfalso;omega)
   | exact E6 rfl rfl rfl T1 rfl (.refl _) rfl
 rw [he] at c1
 obtain ⟨q1,q2⟩:=(P7 l).1 he
 obtain ⟨r0,hr0⟩:∃ r,l[0]? = some r:=⟨_,List.getElem?_eq_getElem (by omega)⟩
 have hr00:l[((0:Int)).toNat]? = some r0:=hr0
 have hw:=X6 hr0
 by_cases hc:2 ≤ H8 l ∧ H8 l ≤ 4
 rotate_left
 ·rw [if_neg fun h=>hc h.2] at hF
  subst hF
  refine D1 Tryd.func10 127 fun hrd E h0=>?_
  clear hrd
  repeat' ((first | refine A4 c1 ?_ | (refine B3 (x:=r0) hr00 (by omega) ?_) |refine A5 ?_|refine S1 ?_|refine Z1 ?_|refine Z2 ?_|(refine And.intro ?_ ?_<;>intro h<;>try first|(exfalso;omega)|exact absurd rfl h)|refine Z3 ?_|refine Z4 ?_|intro el hel hbB|intro el hel|intro ex|refine Z5 ?_|(refine B0 ?_ ?_;exact ⟨by kernel_rfl,by decide⟩)|refine A9 ?_ ?_|exact A8|refine A7 ?_ ?_|exact A6|(refine A3 ?_ ?_ ?_;kernel_rfl;kernel_rfl)) <;> (try (conv=>whnf)))
  all_goals first
   | (exfalso;omega)
   | exact E6 rfl rfl rfl T1 rfl (.refl _) rfl
 rw [if_pos ⟨he,hc.1,hc.2⟩] at hF
 generalize hnn:H8 l = n at *
 have hz0:List.replicate n [AV.i 0] = (E5 n (W0 l 0)).map C3:=by
  have:E5 n (W0 l 0) = List.replicate n 0:=by unfold E5 W0;simp [C8,List.map_const']
  rw [this,List.map_replicate]
 refine D1 Tryd.func10 127 fun hrd E h0=>?_
 clear hrd
 repeat' ((first | refine A4 c1 ?_ | (refine B3 (x:=r0) hr00 (by omega) ?_) |refine A5 ?_|refine S1 ?_|refine Z1 ?_|refine Z2 ?_|(refine And.intro ?_ ?_<;>intro h<;>try first|(exfalso;omega)|exact absurd rfl h)|refine Z3 ?_|refine Z4 ?_|intro el hel hbB|intro el hel|intro ex|refine Z5 ?_|(refine B0 ?_ ?_;exact ⟨by kernel_rfl,by decide⟩)|refine A9 ?_ ?_|exact A8|refine A7 ?_ ?_|exact A6|(refine A3 ?_ ?_ ?_;kernel_rfl;kernel_rfl)) <;> (try (conv=>whnf)))
 all_goals first
  | (exfalso;omega)
  | skip
 refine D7 (ι:=Nat) (fun k=>⟨[(0,B7 l),(2, .ref 0 0),(4, .row 2 0 k),(5, .row 3 0 k),(6, .row 1 0 n),(40,B7 l),(41, .i l.length),(42, .i k)],4,[(0,some (.box z9)),(1,some (.row 3 1 0 ((E5 n (W0 l k)).map C3))),(2,some (.row 27 1 0 ((l.take k).map fun r=>[B8 (C9 r)]))),(3,some (.row 27 1 0 ((l.take k).map fun r=>[B8 (I0 r)])))]⟩) (fun k=>k ≤ l.length) (fun k=>l.length - k) 0 (Nat.zero_le _)
  (E0 (N0 (d:=4) (e:=27) (sz:=1) rfl) (E0 (N0 (d:=5) (e:=27) (sz:=1) rfl) (B4 h0 rfl ⟨rfl,rfl,rfl,rfl,congrArg (fun z=>some (AV.row 1 0 z)) hw.symm,rfl,rfl,rfl,trivial⟩ ⟨rfl,⟨_,congrArg (D9.row 3 1 0) (by rw [← hz0,hw];rfl)⟩,⟨0,rfl⟩,⟨0,rfl⟩,trivial⟩ rfl rfl rfl))) (fun k hk=>?_)
 by_cases hkl:k < l.length
 ·obtain ⟨r,hr⟩:∃ r,l[k]? = some r:=⟨_,List.getElem?_eq_getElem hkl⟩
  have hr2:l[((k:Nat):Int).toNat]? = some r:=hr
  obtain ⟨hrl,hrb⟩:=q2 r (List.mem_of_getElem? hr)
  obtain ⟨y,hy0⟩:∃ y,r[0]? = some y:=⟨_,List.getElem?_eq_getElem (by omega)⟩
  have hy02:r[((0:Int)).toNat]? = some y:=hy0
  have hyb:=hrb y (List.mem_of_getElem? hy0)
  repeat' ((first | (refine B3 (x:=r) hr2 (by omega) ?_) | refine R3 (T:=27) rfl ?_ |refine A5 ?_|refine S1 ?_|refine Z1 ?_|refine Z2 ?_|(refine And.intro ?_ ?_<;>intro h<;>try first|(exfalso;omega)|exact absurd rfl h)|refine Z3 ?_|refine Z4 ?_|intro el hel hbB|intro el hel|intro ex|refine Z5 ?_|(refine B0 ?_ ?_;exact ⟨by kernel_rfl,by decide⟩)|refine A9 ?_ ?_|exact A8|refine A7 ?_ ?_|exact A6|(refine A3 ?_ ?_ ?_;kernel_rfl;kernel_rfl)) <;> (try (conv=>whnf)))
  all_goals first
   | (exfalso;omega)
   | skip
  have hraw:(List.take ((r.map fun x=>[AV.i x]).length:Int).toNat (r.map fun x=>[AV.i x])).drop (Int.toNat 1) = (r.drop 1).map fun x=>[AV.i x]:=by
   rw [Int.toNat_natCast,List.take_length,List.map_drop];rfl
  have hdl:((r.drop 1).map fun x=>[AV.i x]).length = n - 1:=by rw [List.length_map,List.length_drop];omega
  rw [hraw]
  have hdlen:(C9 r).length = n:=by simp [C9];omega
  have hcl:=ID (C9 r) (by omega)
  have hyg:r.getD 0 0 = y:=by rw [List.getD_eq_getElem?_getD,hy0];rfl
  have hwho:(I0 r).map (fun x=>[AV.i x]) = (C9 r).map (fun x=>[AV.i x]) ++ [[.i y]]:=by unfold I0;rw [List.map_append,hyg];rfl
  have hdb:∀ x ∈ C9 r, -1000000 ≤ x ∧ x ≤ 1000000:=fun x hx=>by
   rcases List.mem_cons.1 hx with h | h
   ·subst h;decide
   ·exact hrb x (List.mem_of_mem_drop h)
  repeat' ((first | (refine Es 9 ?_;refine Et (id:=9) (σ':=⟨[(0,B7 l),(2, .ref 0 0),(4, .row 2 0 k),(5, .row 3 0 k),(6, .row 1 0 n),(8,B8 r),(9,B8 (C9 r)),(40,B7 l),(41, .i l.length),(42, .i k)],4,[(0,some (.box z9)),(1,some (.row 3 1 0 ((E5 n (W0 l k)).map C3))),(2,some (.row 27 1 0 ((l.take k).map fun r=>[B8 (C9 r)]))),(3,some (.row 27 1 0 ((l.take k).map fun r=>[B8 (I0 r)])))]⟩) (B4 h0 rfl ⟨rfl,rfl,rfl,rfl,rfl,rfl,rfl,rfl,rfl,rfl,trivial⟩ ⟨rfl,⟨_,rfl⟩,⟨_,rfl⟩,⟨_,rfl⟩,trivial⟩ rfl rfl rfl) ?_;refine l6 (id:=9) ⟨[(0,B7 l),(2, .ref 0 0),(4, .row 2 0 (k + 1)),(5, .row 3 0 (k + 1)),(6, .row 1 0 n),(8,B8 r),(9,B8 (C9 r)),(40,B7 l),(41, .i l.length),(42, .i k)],4,[(0,some (.box z9)),(1,some (.row 3 1 0 ((E5 n (W0 l k)).map C3))),(2,some (.row 27 1 0 (((l.take k).map fun r=>[B8 (C9 r)]) ++ [[B8 (C9 r)]]))),(3,some (.row 27 1 0 (((l.take k).map fun r=>[B8 (I0 r)]) ++ [[B8 (I0 r)]])))]⟩ ?_ ?_) | refine AN [] [] hcl rfl rfl rfl rfl rfl trivial rfl rfl rfl rfl rfl ?_ | (refine B3 (x:=y) hy02 (by omega) ?_) | refine Mx 61 rfl ?_ |refine A5 ?_|refine S1 ?_|refine Z1 ?_|refine Z2 ?_|(refine And.intro ?_ ?_<;>intro h<;>try first|(exfalso;omega)|exact absurd rfl h)|refine Z3 ?_|refine Z4 ?_|intro el hel hbB|intro el hel|intro ex|refine Z5 ?_|(refine B0 ?_ ?_;exact ⟨by kernel_rfl,by decide⟩)|refine A9 ?_ ?_|exact A8|refine A7 ?_ ?_|exact A6|(refine A3 ?_ ?_ ?_;kernel_rfl;kernel_rfl)) <;> (try (conv=>whnf)))
  all_goals first
   | (exfalso;omega)
   | exact B4 h0 rfl ⟨rfl,rfl,rfl,rfl,rfl,rfl,rfl,rfl,rfl,rfl,trivial⟩ ⟨rfl,⟨_,rfl⟩,⟨_,rfl⟩,⟨_,congrArg (D9.row 27 1 _) (by rw [show B8 (I0 r) = .sl 1 ((C9 r).map (fun x=>[AV.i x]) ++ [[.i y]]) from congrArg (AV.sl 1) hwho];rfl)⟩,trivial⟩ rfl rfl rfl
   | skip
  refine D7 (ι:=Nat) (fun v=>⟨[(0,B7 l),(2, .ref 0 0),(4, .row 2 0 (k + 1)),(5, .row 3 0 (k + 1)),(6, .row 1 0 n),(8,B8 r),(9,B8 (C9 r)),(40,B7 l),(41, .i l.length),(42, .i k),(64,B8 (C9 r)),(65, .i (C9 r).length),(66, .i v)],4,[(0,some (.box z9)),(1,some (.row 3 1 0 ((E5 n (M8 l k r v)).map C3))),(2,some (.row 27 1 0 (((l.take k).map fun r=>[B8 (C9 r)]) ++ [[B8 (C9 r)]]))),(3,some (.row 27 1 0 (((l.take k).map fun r=>[B8 (I0 r)]) ++ [[B8 (I0 r)]])))]⟩) (fun v=>v ≤ n) (fun v=>n - v) 0 (Nat.zero_le _)
   (B4 h0 rfl ⟨rfl,rfl,rfl,rfl,rfl,rfl,rfl,rfl,rfl,rfl,rfl,rfl,rfl,trivial⟩ ⟨rfl,⟨_,congrArg (D9.row _ _ _) (congrArg (List.map C3) (Nx l k n r))⟩,⟨_,rfl⟩,⟨_,rfl⟩,trivial⟩ rfl rfl rfl) (fun v hv=>?_)
  by_cases hvl:v < n
  ·obtain ⟨x,hx⟩:∃ x,(C9 r)[v]? = some x:=⟨_,List.getElem?_eq_getElem (by omega)⟩
   have hx2:(C9 r)[((v:Nat):Int).toNat]? = some x:=hx
   have hxb:=hdb x (List.mem_of_getElem? hx)
   have hxg:(C9 r).getD v 0 = x:=by rw [List.getD_eq_getElem?_getD,hx];rfl
   have hml3:((E5 n (M8 l k r v)).map C3).length = n:=by rw [List.length_map,U8]
   have hcell:((E5 n (M8 l k r v)).map C3)[((((v:Nat):Int).toNat:Nat):Int).toNat]? = some (C3 (M8 l k r v v)):=by rw [Int.toNat_natCast,Int.toNat_natCast,List.getElem?_map,EV _ hvl];rfl
   have hbd:=LQ (k:=k) (i:=v) (by omega) q1.2.1 q2
   have hmb:=p6 hxb hyb
   have hnew:M8 l k r (v + 1) v = M8 l k r v v + x * y:=by unfold M8;rw [if_pos (by omega),if_neg (by omega),hxg,hyg];omega
   have hac:-200000000000000 ≤ M8 l k r v v ∧ M8 l k r v v ≤ 200000000000000:=by unfold M8;rw [if_neg (by omega),Int.add_zero];exact hbd
   have hwm:IntKind.i64.wrap (x * y) = x * y:=H4 (by omega)
   have hset:=HW (l:=l) (k:=k) (n:=n) (v:=v) (r:=r)
   rw [hnew, ← hwm] at hset
   generalize hd:C9 r = d at *
   repeat' ((first | (refine B3 (x:=x) hx2 (by omega) ?_) | (refine B3 (x:=y) hy02 (by omega) ?_) | (refine H9 (x:=C3 (M8 l k r v v)) hcell (by omega) ?_) | (refine l6 (id:=13) ⟨[(0,B7 l),(2, .ref 0 0),(4, .row 2 0 (k + 1)),(5, .row 3 0 (k + 1)),(6, .row 1 0 n),(8,B8 r),(9,B8 (d)),(40,B7 l),(41, .i l.length),(42, .i k),(64,B8 d),(65, .i d.length),(66, .i v)],4,[(0,some (.box z9)),(1,some (.row 3 1 0 ((E5 n (M8 l k r (v + 1))).map C3))),(2,some (.row 27 1 0 (((l.take k).map fun r=>[B8 (C9 r)]) ++ [[B8 d]]))),(3,some (.row 27 1 0 (((l.take k).map fun r=>[B8 (I0 r)]) ++ [[B8 (I0 r)]])))]⟩ ?_ ?_) |refine A5 ?_|refine S1 ?_|refine Z1 ?_|refine Z2 ?_|(refine And.intro ?_ ?_<;>intro h<;>try first|(exfalso;omega)|exact absurd rfl h)|refine Z3 ?_|refine Z4 ?_|intro el hel hbB|intro el hel|intro ex|refine Z5 ?_|(refine B0 ?_ ?_;exact ⟨by kernel_rfl,by decide⟩)|refine A9 ?_ ?_|exact A8|refine A7 ?_ ?_|exact A6|(refine A3 ?_ ?_ ?_;kernel_rfl;kernel_rfl)) <;> (try (conv=>whnf)))
   all_goals first
    | (exfalso;omega)
    | exact B4 h0 rfl ⟨rfl,rfl,rfl,rfl,rfl,rfl,rfl,rfl,rfl,rfl,rfl,rfl,rfl,trivial⟩ ⟨rfl,⟨_,congrArg (D9.row _ _ _) hset.symm⟩,⟨_,rfl⟩,⟨_,rfl⟩,trivial⟩ rfl rfl rfl
    | (subst hd;exact ⟨v + 1,by omega,by omega,B4 h0 rfl ⟨rfl,rfl,rfl,rfl,rfl,rfl,rfl,rfl,rfl,rfl,rfl,rfl,rfl,trivial⟩ ⟨rfl,⟨_,rfl⟩,⟨_,rfl⟩,⟨_,rfl⟩,trivial⟩ rfl rfl rfl⟩)
  ·have hvv:v = n:=by omega
   subst hvv
   have e1:((l.take (k + 1)).map fun r=>[B8 (C9 r)]) = ((l.take k).map fun r=>[B8 (C9 r)]) ++ [[B8 (C9 r)]]:=by rw [List.take_add_one,hr,Option.toList_some,List.map_append];rfl
   have e2:((l.take (k + 1)).map fun r=>[B8 (I0 r)]) = ((l.take k).map fun r=>[B8 (I0 r)]) ++ [[B8 (I0 r)]]:=by rw [List.take_add_one,hr,Option.toList_some,List.map_append];rfl
   rw [Ny hr, ← e1, ← e2]
   repeat' ((first|refine A5 ?_|refine S1 ?_|refine Z1 ?_|refine Z2 ?_|(refine And.intro ?_ ?_<;>intro h<;>try first|(exfalso;omega)|exact absurd rfl h)|refine Z3 ?_|refine Z4 ?_|intro el hel hbB|intro el hel|intro ex|refine Z5 ?_|(refine B0 ?_ ?_;exact ⟨by kernel_rfl,by decide⟩)|refine A9 ?_ ?_|exact A8|refine A7 ?_ ?_|exact A6|(refine A3 ?_ ?_ ?_;kernel_rfl;kernel_rfl)) <;> (try (conv=>whnf)))
   all_goals first
    | (exfalso;omega)
    | exact ⟨k + 1,by omega,by omega,B4 h0 rfl ⟨rfl,rfl,rfl,rfl,rfl,rfl,rfl,rfl,trivial⟩ ⟨rfl,⟨_,rfl⟩,⟨_,rfl⟩,⟨_,rfl⟩,trivial⟩ rfl rfl rfl⟩
 ·have hkk:k = l.length:=by omega
  subst hkk
  have e3:(l.map fun r=>[B8 (C9 r)]) = (l.map C9).map fun r=>[B8 r]:=by rw [List.map_map];rfl
  have e4:(l.map fun r=>[B8 (I0 r)]) = (l.map I0).map fun r=>[B8 r]:=by rw [List.map_map];rfl
  rw [List.take_length,Ip,e3,e4]
  refine U3 (B4 (σ':=⟨[(0,B7 l),(2, .ref 0 0),(4,B7 (l.map C9)),(5,B7 (l.map I0)),(6,B8 (AF l n)),(41, .i l.length),(42, .i l.length)],1,[(0,some (.box z9))]⟩) h0 rfl ⟨rfl,rfl,rfl,rfl,rfl,rfl,rfl,trivial⟩ ⟨rfl,trivial⟩ rfl rfl rfl) ?_
  have dR0:∀ r ∈ l,(C9 r).length = n ∧ ∀ x ∈ C9 r, -1000000 ≤ x ∧ x ≤ 1000000:=fun r hr=>by
   obtain ⟨a1,a2⟩:=q2 r hr
   refine ⟨by simp [C9];omega,fun x hx=>?_⟩
   rcases List.mem_cons.1 hx with h | h
   ·subst h;decide
   ·exact a2 x (List.mem_of_mem_drop h)
  have wR0:∀ r ∈ l,(I0 r).length = n + 1 ∧ ∀ x ∈ I0 r, -1000000 ≤ x ∧ x ≤ 1000000:=fun r hr=>by
   obtain ⟨a1,a2⟩:=dR0 r hr
   refine ⟨by simp [I0];omega,fun x hx=>?_⟩
   rcases List.mem_append.1 hx with h | h
   ·exact a2 x h
   ·obtain ⟨y,hy⟩:∃ y,r[0]? = some y:=⟨_,List.getElem?_eq_getElem (by have:=(q2 r hr).1;omega)⟩
    have e:x = y:=by rw [List.mem_singleton.1 h,List.getD_eq_getElem?_getD,hy];rfl
    rw [e]
    exact (q2 r hr).2 y (List.mem_of_getElem? hy)
  have wd:H8 (l.map C9) = n:=by rw [X6 (r:=C9 r0) (by rw [List.getElem?_map,hr0];rfl)];exact (dR0 r0 (List.mem_of_getElem? hr0)).1
  have ww:H8 (l.map I0) = n + 1:=by rw [X6 (r:=I0 r0) (by rw [List.getElem?_map,hr0];rfl)];exact (wR0 r0 (List.mem_of_getElem? hr0)).1
  have s1:=CF (l.map C9) n wd (by rw [List.length_map];omega) (by omega) (fun r hr=>by obtain ⟨t,ht,rfl⟩:=List.mem_map.1 hr;exact dR0 t ht)
  have s3:=CF (l.map I0) (n + 1) ww (by rw [List.length_map];omega) (by omega) (fun r hr=>by obtain ⟨t,ht,rfl⟩:=List.mem_map.1 hr;exact wR0 t ht)
  have s5:=Ju l he
  have hGl:(G9 (l.map C9) n).length = n:=by simp [G9]
  generalize G9 (l.map C9) n = G at *
  generalize G9 (l.map I0) (n + 1) = W at *
  generalize AF l n = B at *
  have s2:=Jt G B
  have hcl:=HX G B
  have s4:=Js W G
  generalize m6 G B = S at *
  generalize BF W G = R at *
  generalize CE l = T at *
  obtain ⟨s,cs⟩:=S
  obtain ⟨r,ra,rb⟩:=R
  dsimp only at hF hcl
  by_cases hs:s = 0
  rotate_left
  ·rw [if_pos hs] at hF
   subst hF
   repeat' ((first | refine A4 s1 ?_ | refine A4 s2 ?_ |refine A5 ?_|refine S1 ?_|refine Z1 ?_|refine Z2 ?_|(refine And.intro ?_ ?_<;>intro h<;>try first|(exfalso;omega)|exact absurd rfl h)|refine Z3 ?_|refine Z4 ?_|intro el hel hbB|intro el hel|intro ex|refine Z5 ?_|(refine B0 ?_ ?_;exact ⟨by kernel_rfl,by decide⟩)|refine A9 ?_ ?_|exact A8|refine A7 ?_ ?_|exact A6|(refine A3 ?_ ?_ ?_;kernel_rfl;kernel_rfl)) <;> (try (conv=>whnf)))
   all_goals first
    | (exfalso;omega)
    | exact E6 rfl rfl rfl T1 rfl (.refl _) rfl
  rw [if_neg (fun h=>h hs)] at hF
  subst hs
  by_cases hs:r = 0
  rotate_left
  ·rw [if_pos hs] at hF
   subst hF
   repeat' ((first | refine A4 s1 ?_ | refine A4 s2 ?_ | refine A4 s3 ?_ | refine A4 s4 ?_ |refine A5 ?_|refine S1 ?_|refine Z1 ?_|refine Z2 ?_|(refine And.intro ?_ ?_<;>intro h<;>try first|(exfalso;omega)|exact absurd rfl h)|refine Z3 ?_|refine Z4 ?_|intro el hel hbB|intro el hel|intro ex|refine Z5 ?_|(refine B0 ?_ ?_;exact ⟨by kernel_rfl,by decide⟩)|refine A9 ?_ ?_|exact A8|refine A7 ?_ ?_|exact A6|(refine A3 ?_ ?_ ?_;kernel_rfl;kernel_rfl)) <;> (try (conv=>whnf)))
   all_goals first
    | (exfalso;omega)
    | exact E6 rfl rfl rfl T1 rfl (.refl _) rfl
  rw [if_neg (fun h=>h hs)] at hF
  subst hs
  cases T with
  | none =>
    dsimp only at hF
    subst hF
    repeat' ((first | refine A4 s1 ?_ | refine A4 s2 ?_ | refine A4 s3 ?_ | refine A4 s4 ?_ | refine A4 s5 ?_ |refine A5 ?_|refine S1 ?_|refine Z1 ?_|refine Z2 ?_|(refine And.intro ?_ ?_<;>intro h<;>try first|(exfalso;omega)|exact absurd rfl h)|refine Z3 ?_|refine Z4 ?_|intro el hel hbB|intro el hel|intro ex|refine Z5 ?_|(refine B0 ?_ ?_;exact ⟨by kernel_rfl,by decide⟩)|refine A9 ?_ ?_|exact A8|refine A7 ?_ ?_|exact A6|(refine A3 ?_ ?_ ?_;kernel_rfl;kernel_rfl)) <;> (try (conv=>whnf)))
    all_goals first
     | (exfalso;omega)
     | exact E6 rfl rfl rfl T1 rfl (.refl _) rfl
  | some t =>
    obtain ⟨ta,tb⟩:=t
    dsimp only at hF
    subst hF
    repeat' ((first | refine A4 s1 ?_ | refine A4 s2 ?_ | refine A4 s3 ?_ | refine A4 s4 ?_ | refine A4 s5 ?_ |refine A5 ?_|refine S1 ?_|refine Z1 ?_|refine Z2 ?_|(refine And.intro ?_ ?_<;>intro h<;>try first|(exfalso;omega)|exact absurd rfl h)|refine Z3 ?_|refine Z4 ?_|intro el hel hbB|intro el hel|intro ex|refine Z5 ?_|(refine B0 ?_ ?_;exact ⟨by kernel_rfl,by decide⟩)|refine A9 ?_ ?_|exact A8|refine A7 ?_ ?_|exact A6|(refine A3 ?_ ?_ ?_;kernel_rfl;kernel_rfl)) <;> (try (conv=>whnf)))
    all_goals first
     | (exfalso;omega)
     | exact E6 rfl rfl rfl (LP ..) rfl (.refl _) rfl
end Go.Proofs.YtbhegmcbpolemaaDoor
