/- The reference's model of rows. -/
import Derived.Test.YtbhegmcbpolemaaDoorTJy7
import Derived.Test.YtbhegmcbpolemaaDoorTJy6
set_option linter.unusedVariables false
set_option linter.unnecessarySimpa false
set_option linter.unusedSimpArgs false
namespace Go.Proofs.YtbhegmcbpolemaaDoor
open Go Go.Av
attribute [local irreducible] E4 B6 F1 E7 DQ F6 F9 St.le B5 D4
set_option maxRecDepth 100000
theorem PJ {P:Program} {E:Env} {n:Nat} {ops:Array Oper} {rest:List Oper} {σ:St} {K:St → Prop} {d:Nat} {ty:TypeId} {pos:String} {after:Array Edge} {x y:Operand} {T T2 e s0:Nat} [ts:I6 P T e s0] (hx:D8 σ x = some (.v (.slice none 0 0))) (hy:D8 σ y = some (.v (.slice none 0 0))) (hd:Nat.blt d n = true) (k:B6 P E n ops rest (σ.put d (.v (.bool true))) K) :
  B6 P E n ops (⟨some d, .binOp .eql T x y T2,ty,pos,after,none⟩ :: rest) σ K:=by
 delta B6 at k ⊢
 intro a w ⟨θ,hs⟩
 have hU:=ts.out.1
 have hxv:=(hs.ev hx).val
 have hyv:=(hs.ev hy).val
 unfold wpList
 rw [if_pos (by simp [Region.wanted])]
 left
 have hr:(execOp a.eval ⟨some d, .binOp .eql T x y T2,ty,pos,after,none⟩).run P w = .ok (.value (.bool true)) w:=by
  refine G1 ?_ ?_
  ·rw [hxv,hyv];simp [eqGuard,Sem.run_pure]
  ·rw [hxv,hyv];simp [binOp,Y6 hU,Sem.run_bind,Sem.run_pure]
 unfold Oper.wp
 rw [hr]
 exact k _ _ ⟨θ,hs.put (Nat.blt_eq ▸ hd) (.im (.v _))⟩
theorem OA {l:List (List Int)} {n:Nat} (hn:1 ≤ n) (q2:∀ r ∈ l,r.length = n ∧ ∀ x ∈ r, -1000000 ≤ x ∧ x ≤ 1000000):∀ r ∈ l.map C9,r.length = n ∧ ∀ x ∈ r, -1000000 ≤ x ∧ x ≤ 1000000:=fun r hr=>by
 obtain ⟨t,ht,rfl⟩:=List.mem_map.1 hr
 obtain ⟨a1,a2⟩:=q2 t ht
 refine ⟨by simp [C9];omega,fun x hx=>?_⟩
 rcases List.mem_cons.1 hx with h | h
 ·subst h;decide
 ·exact a2 x (List.mem_of_mem_drop h)
theorem Qw {l:List (List Int)} {n:Nat} (hn:1 ≤ n) (q2:∀ r ∈ l,r.length = n ∧ ∀ x ∈ r, -1000000 ≤ x ∧ x ≤ 1000000):∀ r ∈ l.map I0,r.length = n + 1 ∧ ∀ x ∈ r, -1000000 ≤ x ∧ x ≤ 1000000:=fun r hr=>by
 obtain ⟨t,ht,rfl⟩:=List.mem_map.1 hr
 obtain ⟨a1,a2⟩:=OA hn q2 (C9 t) (List.mem_map.2 ⟨t,ht,rfl⟩)
 refine ⟨by simp [I0];omega,fun x hx=>?_⟩
 rcases List.mem_append.1 hx with h | h
 ·exact a2 x h
 ·rw [List.mem_singleton.1 h];exact EX (by decide) (q2 t ht).2 0
theorem CK {l:List (List Int)} {n:Nat} (hl:1 ≤ l.length ∧ l.length ≤ 200) (hn:1 ≤ n ∧ n ≤ 5) (h:∀ r ∈ l,r.length = n ∧ ∀ x ∈ r, -1000000 ≤ x ∧ x ≤ 1000000):B5 Tryd.prog 16 [B7 l] (B7 (G9 l n)):=by
 obtain ⟨r0,hr0⟩:∃ r,l[0]? = some r:=⟨_,List.getElem?_eq_getElem (by omega)⟩
 have hw:H8 l = n:=by rw [X6 hr0];exact (h r0 (List.mem_of_getElem? hr0)).1
 have he:P6 l = true:=(P7 l).2 ⟨by rw [hw];omega,fun r hr=>by rw [hw];exact h r hr⟩
 refine CI l _ rfl (fun h2=>by rw [he] at h2;cases h2) fun _=>by rw [hw]
set_option maxHeartbeats 32000000 in
theorem Lc (l:List (List Int)):B5 Tryd.prog 12 [B7 l] (Jv (BG l)):=by
 generalize hF:BG l = F
 unfold BG at hF
 by_cases he:P6 l = true
 rotate_left
 ·rw [if_neg fun h=>he h.1] at hF
  rw [Bool.not_eq_true] at he
  have c1:=CI l HV rfl (fun _=>.inl rfl) (fun h=>by rw [he] at h;cases h)
  subst hF
  refine D1 Tryd.func12 162 fun hrd E h0=>?_
  clear hrd
  repeat' ((first | refine A4 c1 ?_ | refine PJ rfl rfl rfl ?_ |refine A5 ?_|refine S1 ?_|refine Z1 ?_|refine Z2 ?_|(refine And.intro ?_ ?_<;>intro h<;>try first|(exfalso;omega)|exact absurd rfl h)|refine Z3 ?_|refine Z4 ?_|intro el hel hbB|intro el hel|intro ex|refine Z5 ?_|(refine B0 ?_ ?_;exact ⟨by kernel_rfl,by decide⟩)|refine A9 ?_ ?_|exact A8|refine A7 ?_ ?_|exact A6|(refine A3 ?_ ?_ ?_;kernel_rfl;kernel_rfl)) <;> (try (conv=>whnf)))
  all_goals first
   | (exfalso;omega)
   | exact E6 rfl rfl rfl T1 rfl (.refl _) rfl
 obtain ⟨q1,q2⟩:=(P7 l).1 he
 obtain ⟨r0,hr0⟩:∃ r,l[0]? = some r:=⟨_,List.getElem?_eq_getElem (by omega)⟩
 have hr00:l[((0:Int)).toNat]? = some r0:=hr0
 have hw:=X6 hr0
 generalize hnn:H8 l = n at *
 have c1:=CK (l:=l) (n:=n) ⟨q1.1,q1.2.1⟩ ⟨q1.2.2.1,q1.2.2.2⟩ q2
 have hGne:¬ ((G9 l n).map fun r=>[B8 r]) = []:=fun h=>by
  have:=congrArg List.length h
  rw [List.length_map,Fm] at this
  simp at this;omega
 generalize G9 l n = G0 at *
 by_cases hc:2 ≤ n ∧ n ≤ 4
 rotate_left
 ·rw [if_neg fun h=>hc h.2] at hF
  subst hF
  refine D1 Tryd.func12 162 fun hrd E h0=>?_
  clear hrd
  repeat' ((first | refine A4 c1 ?_ | (refine B3 (x:=r0) hr00 (by omega) ?_) | (refine BL rfl rfl rfl (fun b hb=>?_);cases b) |refine A5 ?_|refine S1 ?_|refine Z1 ?_|refine Z2 ?_|(refine And.intro ?_ ?_<;>intro h<;>try first|(exfalso;omega)|exact absurd rfl h)|refine Z3 ?_|refine Z4 ?_|intro el hel hbB|intro el hel|intro ex|refine Z5 ?_|(refine B0 ?_ ?_;exact ⟨by kernel_rfl,by decide⟩)|refine A9 ?_ ?_|exact A8|refine A7 ?_ ?_|exact A6|(refine A3 ?_ ?_ ?_;kernel_rfl;kernel_rfl)) <;> (try (conv=>whnf)))
  all_goals first
   | (exfalso;omega)
   | exact absurd (hb rfl) hGne
   | exact E6 rfl rfl rfl T1 rfl (.refl _) rfl
 rw [if_pos ⟨he,hc.1,hc.2⟩] at hF
 have hz0:List.replicate n [AV.i 0] = (E5 n (W0 l 0)).map C3:=by
  have:E5 n (W0 l 0) = List.replicate n 0:=by unfold E5 W0;simp [C8,List.map_const']
  rw [this,List.map_replicate]
 refine D1 Tryd.func12 162 fun hrd E h0=>?_
 clear hrd
 repeat' ((first | refine A4 c1 ?_ | (refine B3 (x:=r0) hr00 (by omega) ?_) | (refine BL rfl rfl rfl (fun b hb=>?_);cases b) |refine A5 ?_|refine S1 ?_|refine Z1 ?_|refine Z2 ?_|(refine And.intro ?_ ?_<;>intro h<;>try first|(exfalso;omega)|exact absurd rfl h)|refine Z3 ?_|refine Z4 ?_|intro el hel hbB|intro el hel|intro ex|refine Z5 ?_|(refine B0 ?_ ?_;exact ⟨by kernel_rfl,by decide⟩)|refine A9 ?_ ?_|exact A8|refine A7 ?_ ?_|exact A6|(refine A3 ?_ ?_ ?_;kernel_rfl;kernel_rfl)) <;> (try (conv=>whnf)))
 all_goals first
  | (exfalso;omega)
  | exact absurd (hb rfl) hGne
  | skip
 clear c1 hGne
 refine D7 (ι:=Nat) (fun k=>⟨[(0,B7 l),(2, .ref 0 0),(4, .row 1 0 k),(5, .row 2 0 k),(6, .i (C8 (l.take k) fun r=>r.getD 0 0)),(7, .i (C8 (l.take k) fun r=>r.getD 0 0 * r.getD 0 0)),(8, .i k)],3,[(0,some (.box z9)),(1,some (.row 27 1 0 ((l.take k).map fun r=>[B8 (C9 r)]))),(2,some (.row 27 1 0 ((l.take k).map fun r=>[B8 (I0 r)])))]⟩) (fun k=>k ≤ l.length) (fun k=>l.length - k) 0 (Nat.zero_le _)
  (E0 (N0 (d:=4) (e:=27) (sz:=1) rfl) (E0 (N0 (d:=5) (e:=27) (sz:=1) rfl) (B4 h0 rfl ⟨rfl,rfl,rfl,rfl,rfl,rfl,rfl,trivial⟩ ⟨rfl,⟨0,rfl⟩,⟨0,rfl⟩,trivial⟩ rfl rfl rfl))) (fun k hk=>?_)
 have sb1:=p5 (l:=l.take k) (f:=fun r=>r.getD 0 0) (B:=1000000) fun r hr=>EX (by decide) (q2 r (List.mem_of_mem_take hr)).2 0
 have sb2:=p5 (l:=l.take k) (f:=fun r=>r.getD 0 0 * r.getD 0 0) (B:=1000000000000) fun r hr=>by
  have h:=EX (by decide) (q2 r (List.mem_of_mem_take hr)).2 0
  have:=e9 (A:=1000000) (B:=1000000) h h
  omega
 have sbl:(l.take k).length ≤ 200:=by rw [List.length_take];omega
 have sb3:-200000000 ≤ (C8 (l.take k) fun r=>r.getD 0 0) ∧ (C8 (l.take k) fun r=>r.getD 0 0) ≤ 200000000:=by omega
 have sb4:-200000000000000 ≤ (C8 (l.take k) fun r=>r.getD 0 0 * r.getD 0 0) ∧ (C8 (l.take k) fun r=>r.getD 0 0 * r.getD 0 0) ≤ 200000000000000:=by omega
 clear sb1 sb2 sbl
 by_cases hkl:k < l.length
 ·obtain ⟨r,hr⟩:∃ r,l[k]? = some r:=⟨_,List.getElem?_eq_getElem hkl⟩
  have hr2:l[((k:Nat):Int).toNat]? = some r:=hr
  obtain ⟨hrl,hrb⟩:=q2 r (List.mem_of_getElem? hr)
  obtain ⟨y,hy0⟩:∃ y,r[0]? = some y:=⟨_,List.getElem?_eq_getElem (by omega)⟩
  have hy02:r[((0:Int)).toNat]? = some y:=hy0
  have hyb:=hrb y (List.mem_of_getElem? hy0)
  have hyg:r.getD 0 0 = y:=by rw [List.getD_eq_getElem?_getD,hy0];rfl
  have hyy:=e9 (A:=1000000) (B:=1000000) hyb hyb
  have ew1:(C8 (l.take (k + 1)) fun r=>r.getD 0 0) = (C8 (l.take k) fun r=>r.getD 0 0) + y:=by rw [O9 hr,hyg]
  have ew2:(C8 (l.take (k + 1)) fun r=>r.getD 0 0 * r.getD 0 0) = (C8 (l.take k) fun r=>r.getD 0 0 * r.getD 0 0) + y * y:=by rw [O9 hr,hyg]
  have hraw:(List.take ((r.map fun x=>[AV.i x]).length:Int).toNat (r.map fun x=>[AV.i x])).drop (Int.toNat 1) = (r.drop 1).map fun x=>[AV.i x]:=by
   rw [Int.toNat_natCast,List.take_length,List.map_drop];rfl
  have hdl:((r.drop 1).map fun x=>[AV.i x]).length = n - 1:=by rw [List.length_map,List.length_drop];omega
  have hdes:I7 [(0,Q1 (Value.int IntKind.i64 1))] ++ ((r.drop 1).map fun x=>[AV.i x]) = (C9 r).map fun x=>[AV.i x]:=rfl
  have hdlen:((C9 r).map fun x=>[AV.i x]).length = n:=by simp [C9];omega
  have hS9:(0 + ((C9 r).map fun x=>[AV.i x]).length + 1) * 8 ≤ 140737488355328 ∧ 0 + ((C9 r).map fun x=>[AV.i x]).length + 1 ≤ 9223372036854775807:=by rw [hdlen];omega
  have hwho:(I0 r).map (fun x=>[AV.i x]) = (C9 r).map (fun x=>[AV.i x]) ++ [[.i y]]:=by unfold I0;rw [List.map_append,hyg];rfl
  have e1:((l.take (k + 1)).map fun r=>[B8 (C9 r)]) = ((l.take k).map fun r=>[B8 (C9 r)]) ++ [[.sl 1 ((C9 r).map fun x=>[AV.i x])]]:=by rw [List.take_add_one,hr,Option.toList_some,List.map_append];rfl
  have e2:((l.take (k + 1)).map fun r=>[B8 (I0 r)]) = ((l.take k).map fun r=>[B8 (I0 r)]) ++ [[.sl 1 ((C9 r).map (fun x=>[AV.i x]) ++ [[.i y]])]]:=by rw [List.take_add_one,hr,Option.toList_some,List.map_append, ← hwho];rfl
  generalize hU1:(C8 (l.take k) fun r=>r.getD 0 0) = uA1 at *
  generalize hU2:(C8 (l.take k) fun r=>r.getD 0 0 * r.getD 0 0) = uA2 at *
  repeat' ((first | (refine B3 (x:=r) hr2 (by omega) ?_) | (refine B3 (x:=y) hy02 (by omega) ?_) | refine R3 (T:=27) rfl ?_ | refine X0 (T:=25) rfl ?_ |refine A5 ?_|refine S1 ?_|refine Z1 ?_|refine Z2 ?_|(refine And.intro ?_ ?_<;>intro h<;>try first|(exfalso;omega)|exact absurd rfl h)|refine Z3 ?_|refine Z4 ?_|intro el hel hbB|intro el hel|intro ex|refine Z5 ?_|(refine B0 ?_ ?_;exact ⟨by kernel_rfl,by decide⟩)|refine A9 ?_ ?_|exact A8|refine A7 ?_ ?_|exact A6|(refine A3 ?_ ?_ ?_;kernel_rfl;kernel_rfl)) <;> (try (conv=>whnf)))
  all_goals first
   | (exfalso;omega)
   | skip
  rw [hraw]
  repeat' ((first | (refine B3 (x:=r) hr2 (by omega) ?_) | (refine B3 (x:=y) hy02 (by omega) ?_) | refine R3 (T:=27) rfl ?_ | refine X0 (T:=25) rfl ?_ |refine A5 ?_|refine S1 ?_|refine Z1 ?_|refine Z2 ?_|(refine And.intro ?_ ?_<;>intro h<;>try first|(exfalso;omega)|exact absurd rfl h)|refine Z3 ?_|refine Z4 ?_|intro el hel hbB|intro el hel|intro ex|refine Z5 ?_|(refine B0 ?_ ?_;exact ⟨by kernel_rfl,by decide⟩)|refine A9 ?_ ?_|exact A8|refine A7 ?_ ?_|exact A6|(refine A3 ?_ ?_ ?_;kernel_rfl;kernel_rfl)) <;> (try (conv=>whnf)))
  all_goals first
   | (exfalso;omega)
   | skip
  rw [hdes]
  repeat' ((first | refine T8 hS9 ?_ | (refine B3 (x:=r) hr2 (by omega) ?_) | (refine B3 (x:=y) hy02 (by omega) ?_) | refine R3 (T:=27) rfl ?_ | refine X0 (T:=25) rfl ?_ |refine A5 ?_|refine S1 ?_|refine Z1 ?_|refine Z2 ?_|(refine And.intro ?_ ?_<;>intro h<;>try first|(exfalso;omega)|exact absurd rfl h)|refine Z3 ?_|refine Z4 ?_|intro el hel hbB|intro el hel|intro ex|refine Z5 ?_|(refine B0 ?_ ?_;exact ⟨by kernel_rfl,by decide⟩)|refine A9 ?_ ?_|exact A8|refine A7 ?_ ?_|exact A6|(refine A3 ?_ ?_ ?_;kernel_rfl;kernel_rfl)) <;> (try (conv=>whnf)))
  all_goals first
   | (exfalso;omega)
   | exact ⟨k + 1,by omega,by omega,by rw [ew1,ew2];exact B4 h0 rfl ⟨rfl,rfl,rfl,rfl,rfl,rfl,rfl,trivial⟩ ⟨rfl,⟨_,congrArg (D9.row 27 1 _) e1⟩,⟨_,congrArg (D9.row 27 1 _) e2⟩,trivial⟩ rfl rfl rfl⟩
 have hkk:k = l.length:=by omega
 subst hkk
 rw [List.take_length] at sb3 sb4 ⊢
 have e3:(l.map fun r=>[B8 (C9 r)]) = (l.map C9).map fun r=>[B8 r]:=by rw [List.map_map];rfl
 have e4:(l.map fun r=>[B8 (I0 r)]) = (l.map I0).map fun r=>[B8 r]:=by rw [List.map_map];rfl
 rw [e3,e4]
 have dR0:=OA (by omega) q2
 have wR0:=Qw (by omega) q2
 have s1:=CK (l:=l.map C9) (n:=n) (by rw [List.length_map];omega) (by omega) dR0
 have s3:=CK (l:=l.map I0) (n:=n + 1) (by rw [List.length_map];omega) (by omega) wR0
 have hGl:(G9 (l.map C9) n).length = n:=by simp [G9]
 have hTT:CE l = M4 (l.length * (C8 l fun r=>r.getD 0 0 * r.getD 0 0) - (C8 l fun r=>r.getD 0 0) * C8 l fun r=>r.getD 0 0) l.length:=rfl
 generalize (C8 l fun r=>r.getD 0 0 * r.getD 0 0) = uA2 at *
 generalize (C8 l fun r=>r.getD 0 0) = uA1 at *
 have hm1:=e9 (A:=200000000) (B:=200000000) sb3 sb3
 have hm2:=e9 (A:=200) (B:=200000000000000) (a:=(l.length:Int)) (by omega) sb4
 have s5:=NT (l.length * uA2 - uA1 * uA1) l.length (by omega) (by omega)
 rw [← hTT] at s5
 generalize G9 (l.map C9) n = G at *
 generalize G9 (l.map I0) (n + 1) = W at *
 generalize hLD:l.map C9 = LD at *
 generalize l.map I0 = LW at *
 refine U3 (B4 (σ':=⟨[(0,B7 l),(2, .ref 0 0),(4,B7 LD),(5,B7 LW),(6, .i uA1),(7, .i uA2),(8, .i l.length)],3,[(0,some (.box z9))]⟩) h0 rfl ⟨rfl,rfl,rfl,rfl,rfl,rfl,rfl,trivial⟩ ⟨rfl,trivial⟩ rfl rfl rfl) ?_
 have hGm:(G.map fun r=>[B8 r]).length = n:=by rw [List.length_map];exact hGl
 repeat' ((first | refine A4 s1 ?_ |refine A5 ?_|refine S1 ?_|refine Z1 ?_|refine Z2 ?_|(refine And.intro ?_ ?_<;>intro h<;>try first|(exfalso;omega)|exact absurd rfl h)|refine Z3 ?_|refine Z4 ?_|intro el hel hbB|intro el hel|intro ex|refine Z5 ?_|(refine B0 ?_ ?_;exact ⟨by kernel_rfl,by decide⟩)|refine A9 ?_ ?_|exact A8|refine A7 ?_ ?_|exact A6|(refine A3 ?_ ?_ ?_;kernel_rfl;kernel_rfl)) <;> (try (conv=>whnf)))
 all_goals first
  | (exfalso;omega)
  | skip
 refine D7 (ι:=Nat) (fun k=>⟨[(0,B7 l),(2, .ref 0 0),(4,B7 LD),(5,B7 LW),(6, .i uA1),(7, .i uA2),(11,B7 G),(12, .row 3 0 n),(13, .i k)],4,[(0,some (.box z9)),(3,some (.row 3 1 0 ((E5 n (W0 l k)).map C3)))]⟩) (fun k=>k ≤ l.length) (fun k=>l.length - k) 0 (Nat.zero_le _)
  (B4 h0 rfl ⟨rfl,rfl,rfl,rfl,rfl,rfl,rfl,congrArg (fun z=>some (AV.row 3 0 z)) (by simp [hGl]),rfl,trivial⟩ ⟨rfl,⟨_,congrArg (D9.row 3 1 _) (by rw [← hz0, ← hGl];rfl)⟩,trivial⟩ rfl rfl rfl) (fun k hk=>?_)
 by_cases hkl:k < l.length
 ·obtain ⟨r,hr⟩:∃ r,l[k]? = some r:=⟨_,List.getElem?_eq_getElem hkl⟩
  have hr2:l[((k:Nat):Int).toNat]? = some r:=hr
  have hd2:LD[((k:Nat):Int).toNat]? = some (C9 r):=by rw [← hLD,List.getElem?_map,hr2];rfl
  obtain ⟨hrl,hrb⟩:=q2 r (List.mem_of_getElem? hr)
  obtain ⟨y,hy0⟩:∃ y,r[0]? = some y:=⟨_,List.getElem?_eq_getElem (by omega)⟩
  have hy02:r[((0:Int)).toNat]? = some y:=hy0
  have hyb:=hrb y (List.mem_of_getElem? hy0)
  have hyg:r.getD 0 0 = y:=by rw [List.getD_eq_getElem?_getD,hy0];rfl
  have hdl:LD.length = l.length:=by rw [← hLD,List.length_map]
  have hdlen:(C9 r).length = n:=by simp [C9];omega
  have hdb:=(dR0 (C9 r) (List.mem_of_getElem? hd2)).2
  have hml:((E5 n (W0 l k)).map C3).length = n:=by rw [List.length_map,U8]
  repeat' ((first|refine A5 ?_|refine S1 ?_|refine Z1 ?_|refine Z2 ?_|(refine And.intro ?_ ?_<;>intro h<;>try first|(exfalso;omega)|exact absurd rfl h)|refine Z3 ?_|refine Z4 ?_|intro el hel hbB|intro el hel|intro ex|refine Z5 ?_|(refine B0 ?_ ?_;exact ⟨by kernel_rfl,by decide⟩)|refine A9 ?_ ?_|exact A8|refine A7 ?_ ?_|exact A6|(refine A3 ?_ ?_ ?_;kernel_rfl;kernel_rfl)) <;> (try (conv=>whnf)))
  all_goals first
   | (exfalso;omega)
   | skip
  refine D7 (ι:=Nat) (fun v=>⟨[(0,B7 l),(2, .ref 0 0),(4,B7 LD),(5,B7 LW),(6, .i uA1),(7, .i uA2),(11,B7 G),(12, .row 3 0 n),(13, .i k),(14, .i v)],4,[(0,some (.box z9)),(3,some (.row 3 1 0 ((E5 n (M8 l k r v)).map C3)))]⟩) (fun v=>v ≤ n) (fun v=>n - v) 0 (Nat.zero_le _)
   (B4 h0 rfl ⟨rfl,rfl,rfl,rfl,rfl,rfl,rfl,rfl,rfl,rfl,trivial⟩ ⟨rfl,⟨_,congrArg (D9.row _ _ _) (congrArg (List.map C3) (Nx l k n r))⟩,trivial⟩ rfl rfl rfl) (fun v hv=>?_)
  by_cases hvl:v < n
  ·obtain ⟨x,hx⟩:∃ x,(C9 r)[v]? = some x:=⟨_,List.getElem?_eq_getElem (by omega)⟩
   have hx2:(C9 r)[((v:Nat):Int).toNat]? = some x:=hx
   have hxb:=hdb x (List.mem_of_getElem? hx)
   have hxg:(C9 r).getD v 0 = x:=by rw [List.getD_eq_getElem?_getD,hx];rfl
   have hml3:((E5 n (M8 l k r v)).map C3).length = n:=by rw [List.length_map,U8]
   have hcell:((E5 n (M8 l k r v)).map C3)[((((v:Nat):Int).toNat:Nat):Int).toNat]? = some (C3 (M8 l k r v v)):=by rw [Int.toNat_natCast,Int.toNat_natCast,List.getElem?_map,EV _ hvl];rfl
   have hbd:=LQ (k:=k) (i:=v) (by omega) q1.2.1 q2
   have hmb:=e9 (A:=1000000) (B:=1000000) hxb hyb
   have hnew:M8 l k r (v + 1) v = M8 l k r v v + x * y:=by unfold M8;rw [if_pos (by omega),if_neg (by omega),hxg,hyg];omega
   have hac:-200000000000000 ≤ M8 l k r v v ∧ M8 l k r v v ≤ 200000000000000:=by unfold M8;rw [if_neg (by omega),Int.add_zero];exact hbd
   have hwm:IntKind.i64.wrap (x * y) = x * y:=H4 (by omega)
   have hset:=HW (l:=l) (k:=k) (n:=n) (v:=v) (r:=r)
   rw [hnew, ← hwm] at hset
   clear s1 s3 s5 hF
   repeat' ((first | (refine B3 (x:=x) hx2 (by omega) ?_) | (refine B3 (x:=y) hy02 (by omega) ?_) | (refine B3 (x:=r) hr2 (by omega) ?_) | (refine B3 (x:=C9 r) hd2 (by omega) ?_) | (refine H9 (x:=C3 (M8 l k r v v)) hcell (by omega) ?_) | (refine l6 (id:=21) ⟨[(0,B7 l),(2, .ref 0 0),(4,B7 LD),(5,B7 LW),(6, .i uA1),(7, .i uA2),(11,B7 G),(12, .row 3 0 n),(13, .i k),(14, .i v)],4,[(0,some (.box z9)),(3,some (.row 3 1 0 ((E5 n (M8 l k r (v + 1))).map C3)))]⟩ ?_ ?_) |refine A5 ?_|refine S1 ?_|refine Z1 ?_|refine Z2 ?_|(refine And.intro ?_ ?_<;>intro h<;>try first|(exfalso;omega)|exact absurd rfl h)|refine Z3 ?_|refine Z4 ?_|intro el hel hbB|intro el hel|intro ex|refine Z5 ?_|(refine B0 ?_ ?_;exact ⟨by kernel_rfl,by decide⟩)|refine A9 ?_ ?_|exact A8|refine A7 ?_ ?_|exact A6|(refine A3 ?_ ?_ ?_;kernel_rfl;kernel_rfl)) <;> (try (conv=>whnf)))
   all_goals first
    | (exfalso;omega)
    | exact B4 h0 rfl ⟨rfl,rfl,rfl,rfl,rfl,rfl,rfl,rfl,rfl,rfl,trivial⟩ ⟨rfl,⟨_,congrArg (D9.row _ _ _) hset.symm⟩,trivial⟩ rfl rfl rfl
    | exact ⟨v + 1,by omega,by omega,B4 h0 rfl ⟨rfl,rfl,rfl,rfl,rfl,rfl,rfl,rfl,rfl,rfl,trivial⟩ ⟨rfl,⟨_,rfl⟩,trivial⟩ rfl rfl rfl⟩
  ·have hvv:v = n:=by omega
   subst hvv
   rw [Ny hr]
   have hml4:((E5 v (W0 l (k + 1))).map C3).length = v:=by rw [List.length_map,U8]
   repeat' ((first|refine A5 ?_|refine S1 ?_|refine Z1 ?_|refine Z2 ?_|(refine And.intro ?_ ?_<;>intro h<;>try first|(exfalso;omega)|exact absurd rfl h)|refine Z3 ?_|refine Z4 ?_|intro el hel hbB|intro el hel|intro ex|refine Z5 ?_|(refine B0 ?_ ?_;exact ⟨by kernel_rfl,by decide⟩)|refine A9 ?_ ?_|exact A8|refine A7 ?_ ?_|exact A6|(refine A3 ?_ ?_ ?_;kernel_rfl;kernel_rfl)) <;> (try (conv=>whnf)))
   all_goals first
    | (exfalso;omega)
    | exact ⟨k + 1,by omega,by omega,B4 h0 rfl ⟨rfl,rfl,rfl,rfl,rfl,rfl,rfl,rfl,rfl,trivial⟩ ⟨rfl,⟨_,rfl⟩,trivial⟩ rfl rfl rfl⟩
 have hkk:k = l.length:=by omega
 subst hkk
 rw [Ip]
 refine U3 (B4 (σ':=⟨[(0,B7 l),(2, .ref 0 0),(5,B7 LW),(6, .i uA1),(7, .i uA2),(11,B7 G),(12,B8 (AF l n)),(13, .i l.length)],4,[(0,some (.box z9))]⟩) h0 rfl ⟨rfl,rfl,rfl,rfl,rfl,rfl,rfl,rfl,trivial⟩ ⟨rfl,trivial⟩ rfl rfl rfl) ?_
 generalize AF l n = B at *
 have s2:=IG G B
 have hcl:=HX G B
 have s4:=IF W G
 generalize m6 G B = S at *
 generalize BF W G = R at *
 generalize CE l = T at *
 obtain ⟨s,cs⟩:=S
 obtain ⟨r,ra,rb⟩:=R
 dsimp only at hF hcl
 clear dR0 wR0 q2 hTT
 by_cases hs:s = 0
 rotate_left
 ·rw [if_pos hs] at hF
  subst hF
  repeat' ((first | refine A4 s1 ?_ | refine A4 s2 ?_ |refine A5 ?_|refine S1 ?_|refine Z1 ?_|refine Z2 ?_|(refine And.intro ?_ ?_<;>intro h<;>try first|(exfalso;omega)|exact absurd rfl h)|refine Z3 ?_|refine Z4 ?_|intro el hel hbB|intro el hel|intro ex|refine Z5 ?_|(refine B0 ?_ ?_;exact ⟨by kernel_rfl,by decide⟩)|refine A9 ?_ ?_|exact A8|refine A7 ?_ ?_|exact A6|(refine A3 ?_ ?_ ?_;kernel_rfl;kernel_rfl)) <;> (try (conv=>whnf)))
  all_goals first
   | (exfalso;omega)
   | exact E6 rfl rfl rfl T1 rfl (.refl _) rfl
 rw [if_neg (fun h=>h hs)] at hF
 subst hs
 by_cases hs:r = 0
 rotate_left
 ·rw [if_pos hs] at hF
  subst hF
  repeat' ((first | refine A4 s1 ?_ | refine A4 s2 ?_ | refine A4 s3 ?_ | refine A4 s4 ?_ |refine A5 ?_|refine S1 ?_|refine Z1 ?_|refine Z2 ?_|(refine And.intro ?_ ?_<;>intro h<;>try first|(exfalso;omega)|exact absurd rfl h)|refine Z3 ?_|refine Z4 ?_|intro el hel hbB|intro el hel|intro ex|refine Z5 ?_|(refine B0 ?_ ?_;exact ⟨by kernel_rfl,by decide⟩)|refine A9 ?_ ?_|exact A8|refine A7 ?_ ?_|exact A6|(refine A3 ?_ ?_ ?_;kernel_rfl;kernel_rfl)) <;> (try (conv=>whnf)))
  all_goals first
   | (exfalso;omega)
   | exact E6 rfl rfl rfl T1 rfl (.refl _) rfl
 rw [if_neg (fun h=>h hs)] at hF
 subst hs
 cases T with
 | none =>
   dsimp only at hF
   subst hF
   repeat' ((first | refine A4 s1 ?_ | refine A4 s2 ?_ | refine A4 s3 ?_ | refine A4 s4 ?_ | refine A4 s5 ?_ |refine A5 ?_|refine S1 ?_|refine Z1 ?_|refine Z2 ?_|(refine And.intro ?_ ?_<;>intro h<;>try first|(exfalso;omega)|exact absurd rfl h)|refine Z3 ?_|refine Z4 ?_|intro el hel hbB|intro el hel|intro ex|refine Z5 ?_|(refine B0 ?_ ?_;exact ⟨by kernel_rfl,by decide⟩)|refine A9 ?_ ?_|exact A8|refine A7 ?_ ?_|exact A6|(refine A3 ?_ ?_ ?_;kernel_rfl;kernel_rfl)) <;> (try (conv=>whnf)))
   all_goals first
    | (exfalso;omega)
    | exact E6 rfl rfl rfl T1 rfl (.refl _) rfl
 | some t =>
   obtain ⟨ta,tb⟩:=t
   dsimp only at hF
   subst hF
   repeat' ((first | refine A4 s1 ?_ | refine A4 s2 ?_ | refine A4 s3 ?_ | refine A4 s4 ?_ | refine A4 s5 ?_ |refine A5 ?_|refine S1 ?_|refine Z1 ?_|refine Z2 ?_|(refine And.intro ?_ ?_<;>intro h<;>try first|(exfalso;omega)|exact absurd rfl h)|refine Z3 ?_|refine Z4 ?_|intro el hel hbB|intro el hel|intro ex|refine Z5 ?_|(refine B0 ?_ ?_;exact ⟨by kernel_rfl,by decide⟩)|refine A9 ?_ ?_|exact A8|refine A7 ?_ ?_|exact A6|(refine A3 ?_ ?_ ?_;kernel_rfl;kernel_rfl)) <;> (try (conv=>whnf)))
   all_goals first
    | (exfalso;omega)
    | exact E6 rfl rfl rfl (LP ..) rfl (.refl _) rfl
end Go.Proofs.YtbhegmcbpolemaaDoor
