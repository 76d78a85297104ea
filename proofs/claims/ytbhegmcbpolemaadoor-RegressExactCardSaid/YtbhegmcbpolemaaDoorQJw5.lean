/- RegressExact: rows that lie on a plane have its coefficients, and nothing left. -/
import Derived.Test.YtbhegmcbpolemaaDoorQJw2
import Derived.Test.YtbhegmcbpolemaaDoorQJw3
import Derived.Test.YtbhegmcbpolemaaDoorQJw4
import Derived.Test.YtbhegmcbpolemaaDoorQOp1
set_option linter.unusedVariables false
set_option linter.unnecessarySimpa false
set_option linter.unusedSimpArgs false
namespace Go.Proofs.YtbhegmcbpolemaaDoor
open Go Go.Av
attribute [local irreducible] E2 B3 G0 F3 DQ H4 H7 St.le B7 E1
set_option maxRecDepth 100000
def U7 (l:List UInt8) (a:Nat):Nat → List Int × Nat
 | 0=>([],a)
 | k + 1=>((U7 l a k).1 ++ [(I0 l (U7 l a k).2 (-8) 8).1],(I0 l (U7 l a k).2 (-8) 8).2)
theorem HG (l:List UInt8) (a k:Nat):(U7 l a k).1.length = k:=by
 induction k with
 | zero=>rfl
 | succ k ih=>rw [U7,List.length_append,ih];rfl
theorem Ot (l:List UInt8) (a k:Nat):∀ x ∈ (U7 l a k).1, -8 ≤ x ∧ x ≤ 8:=by
 induction k with
 | zero=>intro x hx;cases hx
 | succ k ih =>
   intro x hx
   rw [U7] at hx
   rcases List.mem_append.1 hx with h | h
   ·exact ih x h
   ·rw [List.mem_singleton.1 h];exact k8 l _ (by decide)
def s9 (f:List Int → List Int) (R:List (List Int)) (i:Nat):List (List Int):=(R.take i).map f ++ R.drop i
theorem Ou (f:List Int → List Int) (R:List (List Int)):s9 f R R.length = R.map f:=by unfold s9;rw [List.take_length,List.drop_length,List.append_nil]
theorem Ov (f:List Int → List Int) (R:List (List Int)) {i:Nat} (h:i ≤ R.length):(s9 f R i).length = R.length:=by
 unfold s9
 rw [List.length_append,List.length_map,List.length_take,List.length_drop];omega
theorem QC (f:List Int → List Int) {R:List (List Int)} {i:Nat} {r:List Int} (h:R[i]? = some r):(s9 f R i)[i]? = some r:=by
 have hi:i < R.length:=(List.getElem?_eq_some_iff.1 h).1
 unfold s9
 rw [List.getElem?_append_right (by rw [List.length_map,List.length_take];omega),List.length_map,List.length_take,Nat.min_eq_left (by omega),Nat.sub_self,List.getElem?_drop,Nat.add_zero]
 exact h
theorem Ow (f:List Int → List Int) {R:List (List Int)} {i:Nat} {r:List Int} (h:R[i]? = some r):(s9 f R i).set i (f r) = s9 f R (i + 1):=by
 have hi:i < R.length:=(List.getElem?_eq_some_iff.1 h).1
 have hd:R.drop i = r :: R.drop (i + 1):=by
  rw [List.drop_eq_getElem_cons hi]
  have:=(List.getElem?_eq_some_iff.1 h).2
  rw [this]
 unfold s9
 rw [List.take_add_one,h,hd,List.set_append_right _ _ (by rw [List.length_map,List.length_take];omega),List.length_map,List.length_take,Nat.min_eq_left (by omega),Nat.sub_self]
 simp
set_option maxHeartbeats 32000000 in
theorem LP (l:List UInt8) (hl:l.length ≤ maxLen):B7 Tryd.prog 3 [.sl 1 (l.map X9)] (.b true):=by
 unfold maxLen at hl
 have hL:(l.take 400).length ≤ 400:=List.length_take_le _ _
 have hnew:=MX l (by omega)
 generalize l.take 400 = t at *
 have hrow:=Jm t 0 hL
 obtain ⟨n,n2,n4,m1,m9,hR⟩:=NF t 0
 have hm:(I0 t (I0 t 0 2 4).2 1 9).1.toNat = (Y5 t 0).1.length:=by unfold Y5;rw [x7]
 rw [hm] at hrow
 clear hm
 generalize Y5 t 0 = R at *
 obtain ⟨R,a0⟩:=R
 dsimp only at *
 have c8:=fun a=>s8 t a (-8) 8 hL (by decide) (by decide) (by decide)
 have ha:=HE
 obtain ⟨r0,hr0⟩:∃ r,R[0]? = some r:=⟨_,List.getElem?_eq_getElem (by omega)⟩
 have hr0l:r0.length = n:=(hR r0 (List.mem_of_getElem? hr0)).1
 have hcell0:(R.map fun r=>[B9 r])[((((0:Int)).toNat:Nat):Int).toNat]? = some [B9 r0]:=by rw [show ((((0:Int)).toNat:Nat):Int).toNat = 0 from rfl,List.getElem?_map,hr0];rfl
 have hRm:(R.map fun r=>[B9 r]).length = R.length:=List.length_map ..
 refine F0 Tryd.func3 112 fun hrd E h0=>?_
 clear hrd
 repeat' ((first | refine AG [] [] hnew rfl rfl rfl rfl rfl trivial rfl rfl rfl rfl rfl ?_ | refine nc [0] [0] hrow rfl rfl rfl ⟨rfl,trivial⟩ ?_ | (refine G9 (x:=[B9 r0]) hcell0 (by omega) ?_) |refine A5 ?_|refine S1 ?_|refine Z1 ?_|refine Z2 ?_|(refine And.intro ?_ ?_<;>intro h<;>try first|(exfalso;omega)|exact absurd rfl h)|refine Z3 ?_|refine Z4 ?_|intro el hel hbB|intro el hel|intro ex|refine Z5 ?_|(refine B2 ?_ ?_;exact ⟨by kernel_rfl,by decide⟩)|refine B0 ?_ ?_|exact A9|refine A7 ?_ ?_|exact A6|(refine A3 ?_ ?_ ?_;kernel_rfl;kernel_rfl)) <;> (try (conv=>whnf)))
 all_goals first
  | (exfalso;omega)
  | skip
 refine F4 (ι:=Nat) (fun i=>⟨[(3, .ref 0 0),(4, .row 1 0 R.length),(5, .i n),(6, .row 2 0 i),(7, .i i)],3,[(0,some (.box [.sl 1 (t.map X9), .i (U7 t a0 i).2])),(1,some (.row 27 1 0 (R.map fun r=>[B9 r]))),(2,some (.row 3 1 0 ((U7 t a0 i).1.map C9)))]⟩) (fun i=>i ≤ n) (fun i=>n - i) 0 (Nat.zero_le _)
  (E7 (W0 (d:=6) (e:=3) (sz:=1) rfl) (B4 h0 rfl ⟨rfl,rfl,congrArg (fun z:Nat=>some (AV.i z)) hr0l,rfl,rfl,trivial⟩ ⟨rfl,⟨_,rfl⟩,⟨_,rfl⟩,trivial⟩ rfl rfl rfl)) (fun i hi=>?_)
 by_cases hin:i < n
 ·have hvl:=HG t a0 i
  have c8:=c8 (U7 t a0 i).2
  have hV:U7 t a0 (i + 1) = ((U7 t a0 i).1 ++ [(I0 t (U7 t a0 i).2 (-8) 8).1],(I0 t (U7 t a0 i).2 (-8) 8).2):=rfl
  obtain ⟨W,hW⟩:∃ W,U7 t a0 i = W:=⟨_,rfl⟩
  rw [hW] at c8 hvl hV ⊢
  obtain ⟨W,a4⟩:=W
  dsimp only at *
  generalize I0 t a4 (-8) 8 = z at *
  obtain ⟨z,a5⟩:=z
  dsimp only at *
  have hm:(W ++ [z]).map C9 = W.map C9 ++ [[.i z]]:=by rw [List.map_append];rfl
  repeat' ((first | refine nc [0] [0] c8 rfl rfl rfl ⟨rfl,trivial⟩ ?_ |refine A5 ?_|refine S1 ?_|refine Z1 ?_|refine Z2 ?_|(refine And.intro ?_ ?_<;>intro h<;>try first|(exfalso;omega)|exact absurd rfl h)|refine Z3 ?_|refine Z4 ?_|intro el hel hbB|intro el hel|intro ex|refine Z5 ?_|(refine B2 ?_ ?_;exact ⟨by kernel_rfl,by decide⟩)|refine B0 ?_ ?_|exact A9|refine A7 ?_ ?_|exact A6|(refine A3 ?_ ?_ ?_;kernel_rfl;kernel_rfl)) <;> (try (conv=>whnf)))
  all_goals first
   | (exfalso;omega)
   | exact ⟨i + 1,by omega,by omega,by rw [hV];exact B4 h0 rfl ⟨rfl,rfl,rfl,rfl,rfl,trivial⟩ ⟨rfl,⟨_,rfl⟩,⟨_,congrArg (D9.row 3 1 _) hm⟩,trivial⟩ rfl rfl rfl⟩
 have hnn:n = i:=by omega
 subst hnn
 have hwl:=HG t a0 n
 have hwb:=Ot t a0 n
 generalize U7 t a0 n = W at *
 obtain ⟨w,a8⟩:=W
 dsimp only at *
 obtain ⟨w0,hw0⟩:∃ x,w[0]? = some x:=⟨_,List.getElem?_eq_getElem (by omega)⟩
 have hw02:w[((0:Int)).toNat]? = some w0:=hw0
 have hw0g:w.getD 0 0 = w0:=by rw [List.getD_eq_getElem?_getD,hw0];rfl
 refine T8 (B4 (σ':=⟨[(3, .ref 0 0),(4, .row 1 0 R.length),(5, .i n),(6,B9 w),(7, .i n)],2,[(0,some (.box [.sl 1 (t.map X9), .i a8])),(1,some (.row 27 1 0 (R.map fun r=>[B9 r])))]⟩) h0 rfl ⟨rfl,rfl,rfl,rfl,rfl,trivial⟩ ⟨rfl,⟨_,rfl⟩,trivial⟩ rfl rfl rfl) ?_
 repeat' ((first|refine A5 ?_|refine S1 ?_|refine Z1 ?_|refine Z2 ?_|(refine And.intro ?_ ?_<;>intro h<;>try first|(exfalso;omega)|exact absurd rfl h)|refine Z3 ?_|refine Z4 ?_|intro el hel hbB|intro el hel|intro ex|refine Z5 ?_|(refine B2 ?_ ?_;exact ⟨by kernel_rfl,by decide⟩)|refine B0 ?_ ?_|exact A9|refine A7 ?_ ?_|exact A6|(refine A3 ?_ ?_ ?_;kernel_rfl;kernel_rfl)) <;> (try (conv=>whnf)))
 all_goals first
  | (exfalso;omega)
  | skip
 refine F4 (ι:=Nat) (fun i=>⟨[(4, .row 1 0 R.length),(5, .i n),(6,B9 w),(33, .i R.length),(34, .i i)],2,[(0,some (.box [.sl 1 (t.map X9), .i a8])),(1,some (.row 27 1 0 ((s9 (Y9 w n) R i).map fun r=>[B9 r])))]⟩) (fun i=>i ≤ R.length) (fun i=>R.length - i) 0 (Nat.zero_le _)
  (B4 h0 rfl ⟨rfl,rfl,rfl,rfl,rfl,trivial⟩ ⟨rfl,⟨_,rfl⟩,trivial⟩ rfl rfl rfl) (fun i hi=>?_)
 by_cases him:i < R.length
 ·obtain ⟨r,hr⟩:∃ r,R[i]? = some r:=⟨_,List.getElem?_eq_getElem him⟩
  obtain ⟨hrl,hrb,hrt⟩:=hR r (List.mem_of_getElem? hr)
  have hpl:=Ov (Y9 w n) R hi
  have hps:=Ow (Y9 w n) hr
  have hcell:((s9 (Y9 w n) R i).map fun r=>[B9 r])[((((i:Nat):Int).toNat:Nat):Int).toNat]? = some [B9 r]:=by rw [Int.toNat_natCast,Int.toNat_natCast,List.getElem?_map,QC _ hr];rfl
  have hpm:((s9 (Y9 w n) R i).map fun r=>[B9 r]).length = R.length:=by rw [List.length_map,hpl]
  have hsetR:(((s9 (Y9 w n) R i).map fun r=>[B9 r]).set i [.sl 1 ((r.set 0 (P1 w r n)).map C9)]) = (s9 (Y9 w n) R (i + 1)).map fun r=>[B9 r]:=by
   rw [← hps]
   exact (List.map_set (f:=fun r=>[B9 r]) (a:=Y9 w n r)).symm
  obtain ⟨P,hP⟩:∃ P,s9 (Y9 w n) R i = P:=⟨_,rfl⟩
  rw [hP] at hcell hpm hsetR hpl ⊢
  obtain ⟨y0,hy0⟩:∃ y,r[0]? = some y:=⟨_,List.getElem?_eq_getElem (by omega)⟩
  have hcy:([] ++ r.map fun x=>[AV.i x])[((((0:Int)).toNat:Nat):Int).toNat]? = some [.i y0]:=by rw [show ((((0:Int)).toNat:Nat):Int).toNat = 0 from rfl,List.nil_append,List.getElem?_map,hy0];rfl
  have hry:([] ++ r.map fun x=>[AV.i x]).length = n:=by rw [List.nil_append,List.length_map];exact hrl
  have hfirst:((r.set 0 (P1 w r 1)).map C9) = ([] ++ r.map fun x=>[AV.i x]).set 0 [.i w0]:=by
   have e:P1 w r 1 = w0:=by unfold P1;rw [B8,B8,hw0g];simp [C0]
   rw [e,List.nil_append,List.map_set]
  repeat' ((first | (refine G9 (x:=[B9 r]) hcell (by omega) ?_) | (refine B5 (x:=w0) hw02 (by omega) ?_) | (refine G9 (x:=[.i y0]) hcy (by omega) ?_) |refine A5 ?_|refine S1 ?_|refine Z1 ?_|refine Z2 ?_|(refine And.intro ?_ ?_<;>intro h<;>try first|(exfalso;omega)|exact absurd rfl h)|refine Z3 ?_|refine Z4 ?_|intro el hel hbB|intro el hel|intro ex|refine Z5 ?_|(refine B2 ?_ ?_;exact ⟨by kernel_rfl,by decide⟩)|refine B0 ?_ ?_|exact A9|refine A7 ?_ ?_|exact A6|(refine A3 ?_ ?_ ?_;kernel_rfl;kernel_rfl)) <;> (try (conv=>whnf)))
  all_goals first
   | (exfalso;omega)
   | skip
  refine F4 (ι:=Nat) (fun k=>⟨[(4, .row 1 0 R.length),(5, .i n),(6,B9 w),(8, .i i),(9, .row 2 0 n),(10, .i k),(33, .i R.length),(34, .i i)],3,[(0,some (.box [.sl 1 (t.map X9), .i a8])),(1,some (.row 27 1 0 (P.map fun r=>[B9 r]))),(2,some (.row 3 1 0 ((r.set 0 (P1 w r k)).map C9)))]⟩) (fun k=>1 ≤ k ∧ k ≤ n) (fun k=>n - k) 1 ⟨by omega,by omega⟩
   (B4 h0 rfl ⟨rfl,rfl,rfl,rfl,congrArg (fun z:Nat=>some (AV.row 2 0 z)) (by simp [hrl]),rfl,rfl,rfl,trivial⟩ ⟨rfl,⟨_,rfl⟩,⟨_,congrArg (D9.row 3 1 _) hfirst⟩,trivial⟩ rfl rfl rfl) (fun k hk=>?_)
  obtain ⟨hk1,hk⟩:=hk
  have hml:((r.set 0 (P1 w r k)).map C9).length = n:=by rw [List.length_map,List.length_set,hrl]
  by_cases hkn:k < n
  ·obtain ⟨y,hy⟩:∃ y,r[k]? = some y:=⟨_,List.getElem?_eq_getElem (by omega)⟩
   obtain ⟨x,hx⟩:∃ x,w[k]? = some x:=⟨_,List.getElem?_eq_getElem (by omega)⟩
   have hx2:w[((k:Nat):Int).toNat]? = some x:=hx
   have hxb:=hwb x (List.mem_of_getElem? hx)
   have hyd:(r.drop 1)[k - 1]? = some y:=by rw [List.getElem?_drop,show 1 + (k - 1) = k by omega];exact hy
   have hyb:=hrt y (List.mem_of_getElem? hyd)
   have hc0:((r.set 0 (P1 w r k)).map C9)[((((0:Int)).toNat:Nat):Int).toNat]? = some (C9 (P1 w r k)):=by rw [show ((((0:Int)).toNat:Nat):Int).toNat = 0 from rfl,List.getElem?_map,List.getElem?_set_self (by omega)];rfl
   have hck:((r.set 0 (P1 w r k)).map C9)[((((k:Nat):Int).toNat:Nat):Int).toNat]? = some (C9 y):=by rw [Int.toNat_natCast,Int.toNat_natCast,List.getElem?_map,List.getElem?_set_ne (by omega),hy];rfl
   have hb:=IX hk1 hwb hrt
   have hmb:=b9 (A:=8) (B:=20) hxb (b:=y) (by omega)
   have hwm:IntKind.i64.wrap (x * y) = x * y:=I3 (by omega)
   have hnew:P1 w r (k + 1) = P1 w r k + IntKind.i64.wrap (x * y):=by
    rw [hwm]
    have e1:w.getD k 0 = x:=by rw [List.getD_eq_getElem?_getD,hx];rfl
    have e2:(C0 r).getD k 0 = y:=by
     obtain ⟨m,rfl⟩:∃ m,k = m + 1:=⟨k - 1,by omega⟩
     unfold C0
     rw [List.getD_cons_succ,List.getD_eq_getElem?_getD,List.getElem?_drop,show 1 + m = m + 1 by omega,hy];rfl
    unfold P1
    rw [B8,e1,e2]
   have hset:((r.set 0 (P1 w r k)).map C9).set 0 (C9 (P1 w r k + IntKind.i64.wrap (x * y))) = (r.set 0 (P1 w r (k + 1))).map C9:=by rw [← hnew, ← List.map_set,List.set_set]
   repeat' ((first | (refine B5 (x:=x) hx2 (by omega) ?_) | (refine G9 (x:=C9 (P1 w r k)) hc0 (by omega) ?_) | (refine G9 (x:=C9 y) hck (by omega) ?_) | (refine p9 (id:=17) ⟨[(4, .row 1 0 R.length),(5, .i n),(6,B9 w),(8, .i i),(9, .row 2 0 n),(10, .i k),(33, .i R.length),(34, .i i)],3,[(0,some (.box [.sl 1 (t.map X9), .i a8])),(1,some (.row 27 1 0 (P.map fun r=>[B9 r]))),(2,some (.row 3 1 0 ((r.set 0 (P1 w r (k + 1))).map C9)))]⟩ ?_ ?_) |refine A5 ?_|refine S1 ?_|refine Z1 ?_|refine Z2 ?_|(refine And.intro ?_ ?_<;>intro h<;>try first|(exfalso;omega)|exact absurd rfl h)|refine Z3 ?_|refine Z4 ?_|intro el hel hbB|intro el hel|intro ex|refine Z5 ?_|(refine B2 ?_ ?_;exact ⟨by kernel_rfl,by decide⟩)|refine B0 ?_ ?_|exact A9|refine A7 ?_ ?_|exact A6|(refine A3 ?_ ?_ ?_;kernel_rfl;kernel_rfl)) <;> (try (conv=>whnf)))
   all_goals first
    | (exfalso;omega)
    | exact B4 h0 rfl ⟨rfl,rfl,rfl,rfl,rfl,rfl,rfl,rfl,trivial⟩ ⟨rfl,⟨_,rfl⟩,⟨_,congrArg (D9.row 3 1 _) hset.symm⟩,trivial⟩ rfl rfl rfl
    | exact ⟨k + 1,⟨by omega,by omega⟩,by omega,B4 h0 rfl ⟨rfl,rfl,rfl,rfl,rfl,rfl,rfl,rfl,trivial⟩ ⟨rfl,⟨_,rfl⟩,⟨_,rfl⟩,trivial⟩ rfl rfl rfl⟩
  ·have hkk:n = k:=by omega
   subst hkk
   repeat' ((first | refine LB rfl ?_ |refine A5 ?_|refine S1 ?_|refine Z1 ?_|refine Z2 ?_|(refine And.intro ?_ ?_<;>intro h<;>try first|(exfalso;omega)|exact absurd rfl h)|refine Z3 ?_|refine Z4 ?_|intro el hel hbB|intro el hel|intro ex|refine Z5 ?_|(refine B2 ?_ ?_;exact ⟨by kernel_rfl,by decide⟩)|refine B0 ?_ ?_|exact A9|refine A7 ?_ ?_|exact A6|(refine A3 ?_ ?_ ?_;kernel_rfl;kernel_rfl)) <;> (try (conv=>whnf)))
   all_goals first
    | (exfalso;omega)
    | exact ⟨i + 1,by omega,by omega,B4 h0 rfl ⟨rfl,rfl,rfl,rfl,rfl,trivial⟩ ⟨rfl,⟨_,congrArg (D9.row 27 1 _) hsetR.symm⟩,trivial⟩ rfl rfl rfl⟩
 have hii:R.length = i:=by omega
 subst hii
 rw [Ou]
 have hex:=Oq ⟨n2,n4⟩ hwl hwb ⟨m1,m9⟩ (fun r h=>⟨(hR r h).1,(hR r h).2.2⟩)
 generalize R.map (Y9 w n) = Q at *
 have c1:=DA Q
 refine T8 (B4 (σ':=⟨[(4,D3 Q),(5, .i n),(6,B9 w),(33, .i R.length),(34, .i R.length)],1,[(0,some (.box [.sl 1 (t.map X9), .i a8]))]⟩) h0 rfl ⟨rfl,rfl,rfl,rfl,rfl,trivial⟩ ⟨rfl,trivial⟩ rfl rfl rfl) ?_
 rcases hex with hx | ⟨T,c,f,hx⟩
 ·generalize Y4 Q = F at *
  obtain ⟨e,cf,⟨r1,r2⟩,⟨t1,t2⟩,cn,fr⟩:=F
  dsimp only at hx
  subst hx
  repeat' ((first | refine A8 c1 ?_ | refine A8 ha ?_ |refine A5 ?_|refine S1 ?_|refine Z1 ?_|refine Z2 ?_|(refine And.intro ?_ ?_<;>intro h<;>try first|(exfalso;omega)|exact absurd rfl h)|refine Z3 ?_|refine Z4 ?_|intro el hel hbB|intro el hel|intro ex|refine Z5 ?_|(refine B2 ?_ ?_;exact ⟨by kernel_rfl,by decide⟩)|refine B0 ?_ ?_|exact A9|refine A7 ?_ ?_|exact A6|(refine A3 ?_ ?_ ?_;kernel_rfl;kernel_rfl)) <;> (try (conv=>whnf)))
  all_goals first
   | (exfalso;omega)
   | exact C6 rfl rfl
 rw [hx] at c1
 obtain ⟨t1,t2⟩:=T
 have hcl:((w.map fun x=>((x,1):Int × Int)).map BH).length = n:=by rw [List.length_map,List.length_map,hwl]
 have hcw:(w.map fun x=>((x,1):Int × Int)).length = n:=by rw [List.length_map,hwl]
 repeat' ((first | refine A8 c1 ?_ |refine A5 ?_|refine S1 ?_|refine Z1 ?_|refine Z2 ?_|(refine And.intro ?_ ?_<;>intro h<;>try first|(exfalso;omega)|exact absurd rfl h)|refine Z3 ?_|refine Z4 ?_|intro el hel hbB|intro el hel|intro ex|refine Z5 ?_|(refine B2 ?_ ?_;exact ⟨by kernel_rfl,by decide⟩)|refine B0 ?_ ?_|exact A9|refine A7 ?_ ?_|exact A6|(refine A3 ?_ ?_ ?_;kernel_rfl;kernel_rfl)) <;> (try (conv=>whnf)))
 all_goals first
  | (exfalso;omega)
  | (exfalso;rename_i h;exact h (congrArg (fun z:Nat=>(z:Int)) hcw))
  | skip
 refine F4 (ι:=Nat) (fun k=>⟨[(6,B9 w),(11, .ref 1 0),(95, .i n),(96, .i k)],2,[(0,some (.box [.sl 1 (t.map X9), .i a8])),(1,some (.box (Jk ⟨w.map fun x=>(x,1),(0,1),(t1,t2),c,f⟩)))]⟩) (fun k=>k ≤ n) (fun k=>n - k) 0 (Nat.zero_le _)
  (B4 h0 rfl ⟨rfl,rfl,congrArg (fun z:Int=>some (AV.i z)) (by simp [hwl]),rfl,trivial⟩ ⟨rfl,rfl,trivial⟩ rfl rfl rfl) (fun k hk=>?_)
 by_cases hkn:k < n
 ·obtain ⟨x,hx⟩:∃ x,w[k]? = some x:=⟨_,List.getElem?_eq_getElem (by omega)⟩
  have hx2:w[((k:Nat):Int).toNat]? = some x:=hx
  have hx3:(w.map fun x=>((x,1):Int × Int))[((k:Nat):Int).toNat]? = some (x,1):=by rw [List.getElem?_map,hx2];rfl
  have hwm:(w.map fun x=>((x,1):Int × Int)).length = n:=by rw [List.length_map,hwl]
  repeat' ((first | (refine B5 (x:=x) hx2 (by omega) ?_) | (refine B5 (x:=((x,1):Int × Int)) hx3 (by omega) ?_) | (refine X5 ?_ ?_;kernel_rfl) |refine A5 ?_|refine S1 ?_|refine Z1 ?_|refine Z2 ?_|(refine And.intro ?_ ?_<;>intro h<;>try first|(exfalso;omega)|exact absurd rfl h)|refine Z3 ?_|refine Z4 ?_|intro el hel hbB|intro el hel|intro ex|refine Z5 ?_|(refine B2 ?_ ?_;exact ⟨by kernel_rfl,by decide⟩)|refine B0 ?_ ?_|exact A9|refine A7 ?_ ?_|exact A6|(refine A3 ?_ ?_ ?_;kernel_rfl;kernel_rfl)) <;> (try (conv=>whnf)))
  all_goals first
   | (exfalso;omega)
   | (exfalso;simp_all;done)
   | exact ⟨k + 1,by omega,by omega,B4 h0 rfl ⟨rfl,rfl,rfl,rfl,trivial⟩ ⟨rfl,rfl,trivial⟩ rfl rfl rfl⟩
 ·repeat' ((first | refine A8 ha ?_ |refine A5 ?_|refine S1 ?_|refine Z1 ?_|refine Z2 ?_|(refine And.intro ?_ ?_<;>intro h<;>try first|(exfalso;omega)|exact absurd rfl h)|refine Z3 ?_|refine Z4 ?_|intro el hel hbB|intro el hel|intro ex|refine Z5 ?_|(refine B2 ?_ ?_;exact ⟨by kernel_rfl,by decide⟩)|refine B0 ?_ ?_|exact A9|refine A7 ?_ ?_|exact A6|(refine A3 ?_ ?_ ?_;kernel_rfl;kernel_rfl)) <;> (try (conv=>whnf)))
  all_goals first
   | (exfalso;omega)
   | exact C6 rfl rfl
theorem NI (l:List AV) (h:CC Tryd.prog Tryd.f3.params.toList l):B7 Tryd.prog 3 l (.b true):=by
 obtain ⟨a1,r1,rfl,h1,rfl⟩:=h
 obtain ⟨l,hl,rfl⟩:=QB h1
 exact LP l hl
end Go.Proofs.YtbhegmcbpolemaaDoor
