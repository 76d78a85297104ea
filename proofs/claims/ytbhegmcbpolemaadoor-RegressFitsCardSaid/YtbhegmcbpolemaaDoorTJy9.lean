/- RegressFits: the model of any rows, or the error, and the sums of products. -/
import Derived.Test.YtbhegmcbpolemaaDoorTJy8
import Derived.Test.YtbhegmcbpolemaaDoorTOp1
import Derived.Test.YtbhegmcbpolemaaDoorTAvV
set_option linter.unusedVariables false
set_option linter.unnecessarySimpa false
set_option linter.unusedSimpArgs false
namespace Go.Proofs.YtbhegmcbpolemaaDoor
open Go Go.Av
attribute [local irreducible] E4 B6 F1 E7 DQ F6 F9 St.le B5 D4
set_option maxRecDepth 100000
set_option maxHeartbeats 4000000 in
theorem Hg (cs:List (Int × Int)) (r1 r2 t1 t2 cn fr:Int):B5 Tryd.prog 13 [.agg (HU ⟨cs,(r1,r2),(t1,t2),cn,fr⟩), .agg (HU ⟨cs,(r1,r2),(t1,t2),cn,fr⟩)] (.b true):=by
 have c1:=(Cu [] []).congr (congrArg AV.b (decide_eq_true rfl))
 have c2:=(EW cs cs).congr (congrArg AV.b (decide_eq_true rfl))
 refine D1 Tryd.func13 52 fun hrd E h0=>?_
 clear hrd
 repeat' ((first | refine A4 c1 ?_ | refine A4 c2 ?_ | (refine M3 ?_ ?_;kernel_rfl) |refine A5 ?_|refine S1 ?_|refine Z1 ?_|refine Z2 ?_|(refine And.intro ?_ ?_<;>intro h<;>try first|(exfalso;omega)|exact absurd rfl h)|refine Z3 ?_|refine Z4 ?_|intro el hel hbB|intro el hel|intro ex|refine Z5 ?_|(refine B0 ?_ ?_;exact ⟨by kernel_rfl,by decide⟩)|refine A9 ?_ ?_|exact A8|refine A7 ?_ ?_|exact A6|(refine A3 ?_ ?_ ?_;kernel_rfl;kernel_rfl)) <;> (try (conv=>whnf)))
 all_goals first
  | exact B9 rfl rfl
  | (exfalso;exact h rfl)
  | (exfalso;exact h ⟨rfl,rfl⟩)
  | exact B9 rfl (congrArg AV.b (decide_eq_true rfl))
theorem RB {P:Program} {E:Env} {n:Nat} {ops:Array Oper} {rest:List Oper} {σ:St} {K:St → Prop} (d k:Nat) {op:Op} {ty:TypeId} {pos:String} {after:Array Edge} (hk:(Go.Av.look σ.sl k).isSome = true) (h:B6 P E n ops (⟨some d,op,ty,pos,after,none⟩ :: rest) σ K):B6 P E n ops (⟨some d,op,ty,pos,after,none⟩ :: rest) σ K:=h
theorem PK {f:Nat} {l:List AV} (h:Sh Tryd.prog f 27 l):∃ r:List Int,True ∧ l = [B8 r]:=by
 obtain ⟨f2,ls,hl,hall,rfl,_⟩:=HH (c:=1) Tryd.underlying27 (by kernel_rfl) h
 obtain ⟨ws,rfl,_⟩:=BA (F:=C3) (R:=QR) (fun x hx=>RP (hall x hx))
 exact ⟨ws,trivial,rfl⟩
theorem PL {a:AV} (h:U0 Tryd.prog 25 a):∃ M:List (List Int),a = B7 M:=by
 obtain ⟨f,ls,_,hall,rfl⟩:=FV (c:=1) Tryd.underlying25 (by kernel_rfl) h
 obtain ⟨M,rfl,_⟩:=BA (F:=fun r=>[B8 r]) (R:=fun _=>True) (fun x hx=>PK (hall x hx))
 exact ⟨M,rfl⟩
theorem NX {Q:List (List Int)} (h:P6 Q = false):k7 Q = []:=by unfold k7;rw [h];rfl
theorem KB (Q:List (List Int)):B5 Tryd.prog 16 [B7 Q] (B7 (k7 Q)) :=
 CI Q _ rfl (fun h=>.inr (by rw [NX h];rfl)) fun h=>by unfold k7;rw [if_pos h]
theorem PM (r:List Int) (b:Int):AV.sl 1 (I7 [(0,AV.i b)] ++ (List.take ((r.map fun x=>[AV.i x]).length:Int).toNat (r.map fun x=>[AV.i x])).drop (Int.toNat 1)) = B8 (b :: r.drop 1):=by
 rw [Int.toNat_natCast,List.take_length]
 show AV.sl 1 ([AV.i b] :: List.drop 1 (r.map fun x=>[AV.i x])) = AV.sl 1 ([AV.i b] :: (r.drop 1).map fun x=>[AV.i x])
 rw [List.map_drop]
set_option maxHeartbeats 32000000 in
theorem KC (l:List UInt8) (hl:l.length ≤ maxLen) (M:List (List Int)) (b:Int):B5 Tryd.prog 4 [.sl 1 (l.map AU),B7 M, .i b] (.b true):=by
 unfold maxLen at hl
 have hL:(l.take 400).length ≤ 400:=List.length_take_le _ _
 have hnew:=NF l (by omega)
 generalize l.take 400 = t at *
 have hrow:=IE t 0 hL
 obtain ⟨n,n2,n4,m1,m9,hR⟩:=NJ t 0
 generalize Y7 t 0 = R at *
 obtain ⟨R,a0⟩:=R
 dsimp only at *
 have haw:=Hf
 obtain ⟨r0,hr0⟩:∃ r,R[0]? = some r:=⟨_,List.getElem?_eq_getElem (by omega)⟩
 have hr02:R[((0:Int)).toNat]? = some r0:=hr0
 have hr0l:r0.length = n:=(hR r0 (List.mem_of_getElem? hr0)).1
 clear hR
 refine D1 Tryd.func4 89 fun hrd E h0=>?_
 have hMl:M.length ≤ 9223372036854775807:=by
  have:=(hrd (B7 M) (by simp)).sl
  simpa using this
 clear hrd
 repeat' ((first | refine A4 haw ?_ |refine A5 ?_|refine S1 ?_|refine Z1 ?_|refine Z2 ?_|(refine And.intro ?_ ?_<;>intro h<;>try first|(exfalso;omega)|exact absurd rfl h)|refine Z3 ?_|refine Z4 ?_|intro el hel hbB|intro el hel|intro ex|refine Z5 ?_|(refine B0 ?_ ?_;exact ⟨by kernel_rfl,by decide⟩)|refine A9 ?_ ?_|exact A8|refine A7 ?_ ?_|exact A6|(refine A3 ?_ ?_ ?_;kernel_rfl;kernel_rfl)) <;> (try (conv=>whnf)))
 all_goals first
  | (exfalso;omega)
  | exact B9 rfl rfl
  | skip
 refine D7 (ι:=Nat) (fun i=>⟨[(0, .sl 1 (l.map AU)),(1,B7 M),(2, .i b),(21, .i M.length),(22, .i i)],0,[]⟩) (fun i=>i ≤ M.length) (fun i=>M.length - i) 0 (Nat.zero_le _)
  (B4 h0 rfl ⟨rfl,rfl,rfl,rfl,rfl,trivial⟩ trivial rfl rfl rfl) (fun i hi=>?_)
 by_cases hin:i < M.length
 ·obtain ⟨r,hr⟩:∃ r,M[i]? = some r:=⟨_,List.getElem?_eq_getElem hin⟩
  have hr2:M[((i:Nat):Int).toNat]? = some r:=hr
  repeat' ((first | refine A4 haw ?_ | (refine B3 (x:=r) hr2 (by omega) ?_) |refine A5 ?_|refine S1 ?_|refine Z1 ?_|refine Z2 ?_|(refine And.intro ?_ ?_<;>intro h<;>try first|(exfalso;omega)|exact absurd rfl h)|refine Z3 ?_|refine Z4 ?_|intro el hel hbB|intro el hel|intro ex|refine Z5 ?_|(refine B0 ?_ ?_;exact ⟨by kernel_rfl,by decide⟩)|refine A9 ?_ ?_|exact A8|refine A7 ?_ ?_|exact A6|(refine A3 ?_ ?_ ?_;kernel_rfl;kernel_rfl)) <;> (try (conv=>whnf)))
  all_goals first
   | (exfalso;omega)
   | exact B9 rfl rfl
   | exact ⟨i + 1,by omega,by omega,B4 h0 rfl ⟨rfl,rfl,rfl,rfl,rfl,trivial⟩ trivial rfl rfl rfl⟩
 have hRm:(R.map fun r=>[B8 r]).length = R.length:=List.length_map ..
 have hRm2:([] ++ R.map fun r=>[B8 r]).length = R.length:=by rw [List.nil_append];exact hRm
 have hImR:∀ (el:List AV),el ∈ (R.map fun r=>[B8 r]) → ∀ (u:AV),u ∈ el → J8 u:=fun el hel u hu=>by
  obtain ⟨x,_,rfl⟩:=List.mem_map.1 hel
  rw [List.mem_singleton.1 hu];exact V9 rfl
 have hIm:∀ a c,∀ el ∈ List.drop a (List.take c (r0.map fun x=>[AV.i x])),∀ u ∈ el,J8 u:=fun a c el hel u hu=>by
  obtain ⟨x,_,rfl⟩:=List.mem_map.1 (List.mem_of_mem_take (List.mem_of_mem_drop hel))
  rw [List.mem_singleton.1 hu];exact V9 rfl
 have hSz:∀ a c,(1 + (List.drop a (List.take c (r0.map fun x=>[AV.i x]))).length) * 8 ≤ 140737488355328 ∧ 1 + (List.drop a (List.take c (r0.map fun x=>[AV.i x]))).length ≤ 9223372036854775807:=fun a c=>by
  have:(List.drop a (List.take c (r0.map fun x=>[AV.i x]))).length ≤ n:=by
   rw [List.length_drop,List.length_take,List.length_map];omega
  omega
 have hcell0:([] ++ R.map fun r=>[B8 r])[((((0:Int)).toNat:Nat):Int).toNat]? = some [B8 r0]:=by rw [show ((((0:Int)).toNat:Nat):Int).toNat = 0 from rfl,List.nil_append,List.getElem?_map,hr0];rfl
 obtain ⟨O,hO⟩:∃ O,R.set 0 (b :: r0.drop 1) = O:=⟨_,rfl⟩
 have hOl:O.length = R.length:=by rw [← hO,List.length_set]
 have hX:(O.map fun r=>[B8 r]) = ([] ++ R.map fun r=>[B8 r]).set 0 [AV.sl 1 (I7 [(0,AV.i b)] ++ (List.take ((r0.map fun x=>[AV.i x]).length:Int).toNat (r0.map fun x=>[AV.i x])).drop (Int.toNat 1))]:=by
  rw [PM, ← hO,List.nil_append,List.map_set]
 have hOm:(O.map fun r=>[B8 r]).length = R.length:=by rw [List.length_map,hOl]
 have hOne:(O.map fun r=>[B8 r]) ≠ []:=fun h=>by
  rw [h] at hOm
  have h2:(0:Nat) = R.length:=hOm
  omega
 have hOz:(R.length + 1) * 24 ≤ 140737488355328:=by omega
 have hO6:R.length + 1 ≤ 9223372036854775807:=by omega
 have hEB:[[B7 R],[AV.sl 1 (O.map fun r=>[B8 r])],[B7 M],[AV.sl 1 ((O.map fun r=>[B8 r]) ++ [[AV.sl 1 [[AV.i 1]]]])]] = [R,O,M,O ++ [[1]]].map fun Q=>[B7 Q]:=by
  show [[B7 R],[AV.sl 1 (O.map fun r=>[B8 r])],[B7 M],[AV.sl 1 ((O.map fun r=>[B8 r]) ++ [[AV.sl 1 [[AV.i 1]]]])]] = [[B7 R],[B7 O],[B7 M],[AV.sl 1 ((O ++ [[1]]).map fun r=>[B8 r])]]
  rw [List.map_append];rfl
 obtain ⟨Xs,hXs⟩:∃ Xs,[R,O,M,O ++ [[1]]] = Xs:=⟨_,rfl⟩
 have hXl:Xs.length = 4:=by rw [← hXs];rfl
 have hXl2:(Xs.map fun Q=>[B7 Q]).length = 4:=by rw [List.length_map];exact hXl
 rw [hXs] at hEB
 clear hXs hO
 repeat' ((first | refine AN [] [] hnew rfl rfl rfl rfl rfl trivial rfl rfl rfl rfl rfl ?_ | refine nc [0] [0] hrow rfl rfl rfl ⟨rfl,trivial⟩ ?_ | (refine B3 (x:=r0) hr02 (by omega) ?_) | refine T8 hImR ?_ | refine T8 (hIm _ _) ?_ | refine T8 (hSz _ _) ?_ | (refine H9 (x:=[B8 r0]) hcell0 (by omega) ?_) | refine R3 (d:=40) (T:=27) rfl ?_ | refine LG rfl ?_ | (refine RB 47 37 rfl ?_;refine p4 (σ':=⟨[(1,B7 M),(8,B7 R),(9, .row 1 0 R.length)],3,[(1,some (.row 27 1 0 (O.map fun r=>[B8 r])))]⟩) (B4 h0 rfl ⟨rfl,rfl,congrArg (fun z:Nat=>some (AV.row 1 0 z)) (by rw [hRm,Nat.zero_add]),trivial⟩ ⟨⟨_,congrArg (D9.row 27 1 _) hX⟩,trivial⟩ rfl rfl rfl) ?_) | (refine RB 53 50 rfl ?_;refine Ea 48 rfl rfl rfl rfl hOne (List.cons_ne_nil _ _) (Pt rfl) rfl (by decide) (by decide) hOm hOz hO6 rfl ?_) |refine A5 ?_|refine S1 ?_|refine Z1 ?_|refine Z2 ?_|(refine And.intro ?_ ?_<;>intro h<;>try first|(exfalso;omega)|exact absurd rfl h)|refine Z3 ?_|refine Z4 ?_|intro el hel hbB|intro el hel|intro ex|refine Z5 ?_|(refine B0 ?_ ?_;exact ⟨by kernel_rfl,by decide⟩)|refine A9 ?_ ?_|exact A8|refine A7 ?_ ?_|exact A6|(refine A3 ?_ ?_ ?_;kernel_rfl;kernel_rfl)) <;> (try (conv=>whnf)))
 all_goals first
  | (exfalso;omega)
  | skip
 refine D7 (ι:=Nat) (fun j=>⟨[(54, .sl 1 (Xs.map fun Q=>[B7 Q])),(55, .i 4),(56, .i j)],3,[]⟩) (fun j=>j ≤ 4) (fun j=>4 - j) 0 (Nat.zero_le _)
  (B4 h0 rfl ⟨congrArg (fun z=>some (AV.sl 1 z)) hEB,rfl,rfl,trivial⟩ trivial rfl rfl rfl) (fun j hj=>?_)
 by_cases hj4:j < 4
 ·obtain ⟨Q,hQ⟩:∃ Q,Xs[j]? = some Q:=⟨_,List.getElem?_eq_getElem (by omega)⟩
  have hQ2:Xs[((j:Nat):Int).toNat]? = some Q:=hQ
  have c1:=DT Q
  have c2:=Lc Q
  have c3:=Fu Q
  have c4:=KB Q
  have c5:=(Cv (k7 Q) (k7 Q)).congr (congrArg AV.b (decide_eq_true rfl))
  generalize BG Q = F at *
  obtain ⟨e,cs,⟨r1,r2⟩,⟨t1,t2⟩,cn,fr⟩:=F
  have c6:=Hg cs r1 r2 t1 t2 cn fr
  generalize k7 Q = G at *
  repeat' ((first | (refine B3 (x:=Q) hQ2 (by omega) ?_) | refine A4 c1 ?_ | refine A4 c2 ?_ | refine A4 c3 ?_ | refine A4 c4 ?_ | refine A4 c5 ?_ | refine A4 c6 ?_ | (refine M3 ?_ ?_;kernel_rfl) |refine A5 ?_|refine S1 ?_|refine Z1 ?_|refine Z2 ?_|(refine And.intro ?_ ?_<;>intro h<;>try first|(exfalso;omega)|exact absurd rfl h)|refine Z3 ?_|refine Z4 ?_|intro el hel hbB|intro el hel|intro ex|refine Z5 ?_|(refine B0 ?_ ?_;exact ⟨by kernel_rfl,by decide⟩)|refine A9 ?_ ?_|exact A8|refine A7 ?_ ?_|exact A6|(refine A3 ?_ ?_ ?_;kernel_rfl;kernel_rfl)) <;> (try (conv=>whnf)))
  all_goals first
   | (exfalso;omega)
   | (exfalso;exact h rfl)
   | exact ⟨j + 1,by omega,by omega,B4 h0 rfl ⟨rfl,rfl,rfl,trivial⟩ trivial rfl rfl rfl⟩
 ·repeat' ((first | refine A4 haw ?_ |refine A5 ?_|refine S1 ?_|refine Z1 ?_|refine Z2 ?_|(refine And.intro ?_ ?_<;>intro h<;>try first|(exfalso;omega)|exact absurd rfl h)|refine Z3 ?_|refine Z4 ?_|intro el hel hbB|intro el hel|intro ex|refine Z5 ?_|(refine B0 ?_ ?_;exact ⟨by kernel_rfl,by decide⟩)|refine A9 ?_ ?_|exact A8|refine A7 ?_ ?_|exact A6|(refine A3 ?_ ?_ ?_;kernel_rfl;kernel_rfl)) <;> (try (conv=>whnf)))
  all_goals first
   | (exfalso;omega)
   | exact B9 rfl rfl
theorem Ld (l:List AV) (h:CU Tryd.prog Tryd.f4.params.toList l):B5 Tryd.prog 4 l (.b true):=by
 obtain ⟨a1,q1,rfl,h1,a2,q2,rfl,h2,a3,q3,rfl,h3,rfl⟩:=h
 obtain ⟨l,hl,rfl⟩:=QT h1
 obtain ⟨M,rfl⟩:=PL h2
 obtain ⟨b,_,rfl⟩:=Qx h3
 exact KC l hl M b
end Go.Proofs.YtbhegmcbpolemaaDoor
