/- Chapter 3: the reference's reader: rows. -/
import Derived.Test.YtiphlhoclaogjabGreatDoorQKe1
set_option linter.unusedVariables false
set_option linter.unnecessarySimpa false
set_option linter.unusedSimpArgs false
namespace Go.Proofs.YtiphlhoclaogjabGreatDoor
open Go Go.Av
attribute [local irreducible] D6 B8 D8 D7 DQ E0 E1 St.le B4 B9
set_option maxRecDepth 100000
def u5 (z:List UInt8) (cs:List Code) (q:Nat):Int:=I5 (fun c:Code=>decide (c.name = z)) (cs.drop q) q
def b4 (z:List UInt8) (cs:List Code) (q:Nat):Int:=if 0 ≤ u5 z cs q then u5 z cs q else 0
theorem Fe (z:List UInt8) (cs:List Code):b4 z cs cs.length = 0 ∧ decide (0 ≤ u5 z cs cs.length) = false:=by
 have e:u5 z cs cs.length = -1:=by unfold u5;rw [List.drop_length];rfl
 unfold b4
 rw [e];exact ⟨rfl,rfl⟩
theorem OJ {z:List UInt8} {cs:List Code} {q:Nat} {c:Code} (hc:cs[q]? = some c) (h:c.name = z):b4 z cs q = q ∧ decide (0 ≤ u5 z cs q) = true:=by
 have e:u5 z cs q = q:=by unfold u5;rw [S3 hc,I5,if_pos (decide_eq_true h)]
 unfold b4
 rw [e,if_pos (by omega)]
 exact ⟨rfl,decide_eq_true (by omega)⟩
theorem Mc {z:List UInt8} {cs:List Code} {q:Nat} {c:Code} (hc:cs[q]? = some c) (h:¬ c.name = z):b4 z cs q = b4 z cs (q + 1) ∧ decide (0 ≤ u5 z cs q) = decide (0 ≤ u5 z cs (q + 1)):=by
 have e:u5 z cs q = u5 z cs (q + 1):=by
  unfold u5
  rw [S3 hc,I5,if_neg (by rw [decide_eq_true_iff];exact h)];rfl
 unfold b4
 rw [e];exact ⟨rfl,rfl⟩
set_option maxHeartbeats 4000000 in
theorem SE (ls:List CL) (cs:List C5) (w:List (List UInt8)) (hn:cs.length ≤ 20000) (h:¬ w.length = cs.length + 1):B4 Tryz.prog 77 [.agg [.sl 2 (ls.map D3), .sl 7 (cs.map C0)], .sl 1 (w.map C1)] (.tup [.sl 1 [], .b false]):=by
 refine F3 Tryz.func77 108 fun hrd E h0=>?_
 clear hrd
 repeat' ((first|refine A4 ?_|refine S1 ?_|refine Z1 ?_|refine Z2 ?_|(refine And.intro ?_ ?_<;>intro h<;>try first|(exfalso;omega)|exact absurd rfl h)|refine Z3 ?_|refine Z4 ?_|intro el hel hbB|intro el hel|intro ex|refine Z5 ?_|(refine A9 ?_ ?_;exact ⟨by kernel_rfl,by decide⟩)|refine A8 ?_ ?_|exact A7|refine A6 ?_ ?_|exact A5|(refine A0 ?_ ?_ ?_;kernel_rfl;kernel_rfl)) <;> (try (conv=>whnf)))
 all_goals first
  | (exfalso;omega)
  | exact F9 (rs:=[.tmp 4, .tmp 5]) (vs:=[_,_]) rfl ⟨⟨_,rfl, .nil 1⟩,⟨_,rfl, .refl _⟩,trivial⟩ rfl
abbrev ah (R:Option (List Int)):AV:=.tup [.sl 1 ((R.getD []).map wA), .b R.isSome]
set_option maxHeartbeats 32000000 in
theorem II (ls:List CL) (cs:List C5) (w:List (List UInt8)) (hn:cs.length ≤ 20000) (hls:ls.length ≤ 20001 ∧ ∀ l ∈ ls,l.2.length ≤ 20001) (hwl:∀ z ∈ w,z.length ≤ 20000):B4 Tryz.prog 77 [.agg [.sl 2 (ls.map D3), .sl 7 (cs.map C0)], .sl 1 (w.map C1)] (ah (CR ls cs w)):=by
 unfold CR
 by_cases hw:¬ w.length = cs.length + 1
 ·rw [if_pos hw];exact SE ls cs w hn hw
 rw [if_neg hw]
 have hw:w.length = cs.length + 1:=Decidable.of_not_not hw
 have hzl:(cs.zip (w.drop 1)).length = cs.length:=by rw [List.length_zip,List.length_drop];omega
 generalize hR:G4 (BP ls) (cs.zip (w.drop 1)) = R
 refine F3 Tryz.func77 108 fun hrd E h0=>?_
 clear hrd
 repeat' ((first|refine A4 ?_|refine S1 ?_|refine Z1 ?_|refine Z2 ?_|(refine And.intro ?_ ?_<;>intro h<;>try first|(exfalso;omega)|exact absurd rfl h)|refine Z3 ?_|refine Z4 ?_|intro el hel hbB|intro el hel|intro ex|refine Z5 ?_|(refine A9 ?_ ?_;exact ⟨by kernel_rfl,by decide⟩)|refine A8 ?_ ?_|exact A7|refine A6 ?_ ?_|exact A5|(refine A0 ?_ ?_ ?_;kernel_rfl;kernel_rfl)) <;> (try (conv=>whnf)))
 all_goals first
  | (exfalso;omega)
  | skip
 refine C2 (ι:=List Int) (fun l=>⟨[(1, .sl 1 (w.map C1)),(2, .iptr [.sl 2 (ls.map D3), .sl 7 (cs.map C0)]),(6, .row 0 0 l.length),(7, .i l.length)],1,[(0,some (.row z1 1 0 (l.map wA)))]⟩) (fun l=>l.length ≤ cs.length ∧ G4 (BP ls) ((cs.zip (w.drop 1)).take l.length) = some l) (fun l=>cs.length - l.length) [] ⟨Nat.zero_le _,rfl⟩
  (C3 (AL (d:=6) (e:=z1) (sz:=1) rfl) (by first | exact B0 h0 rfl ⟨rfl,rfl,rfl,rfl,trivial⟩ ⟨⟨0,rfl⟩,trivial⟩ rfl rfl rfl | exact C3 (Bf 0 1 h0 rfl rfl) (B0 h0 rfl ⟨rfl,rfl,rfl,rfl,trivial⟩ ⟨⟨0,rfl⟩,trivial⟩ rfl rfl rfl))) (fun l hI=>?_)
 obtain ⟨hk,hI⟩:=hI
 by_cases hlt:l.length < cs.length
 ·obtain ⟨c,hc⟩:∃ c,cs[l.length]? = some c:=⟨_,List.getElem?_eq_getElem hlt⟩
  obtain ⟨z,hz⟩:∃ z,w[l.length + 1]? = some z:=⟨_,List.getElem?_eq_getElem (by omega)⟩
  have hz2:w[((l.length:Int) + 1).toNat]? = some z:=by rw [show ((l.length:Int) + 1).toNat = l.length + 1 by omega];exact hz
  have hzp:(cs.zip (w.drop 1))[l.length]? = some (c,z):=by
   rw [List.getElem?_zip_eq_some]
   exact ⟨hc,by rw [List.getElem?_drop,Nat.add_comm];exact hz⟩
  have hq:=L3 z (by have:=hwl z (List.mem_of_getElem? hz);omega)
  have hst:=fun ho=>CO (f:=BP ls) hI hzp ho
  have hno:=fun ho=>OC (f:=BP ls) (List.mem_of_getElem? hzp) ho
  have e1:∀ n:Int,l.length + 1 = (l ++ [n]).length:=fun n=>by simp
  have e2:∀ n:Int,((l.length:Int) + 1) = (((l ++ [n]).length:Nat):Int):=fun n=>by simp
  have hv:BP ls (c,z) = if c.kind = 2 then (if c.lst < 0 ∨ (ls.length:Int) ≤ c.lst then (0,false) else if 0 ≤ I5 (fun c:Code=>decide (c.name = z)) (ls.getD c.lst.toNat ([],[])).2 0 then (I5 (fun c:Code=>decide (c.name = z)) (ls.getD c.lst.toNat ([],[])).2 0,true) else (0,false)) else if (c.kind = 3 ∧ c.opt = true) ∧ z = CJ then ((-1099511627776),true) else ((D1 z).1,(D1 z).2 && decide (¬ (D1 z).1 = (-1099511627776))):=rfl
  rw [hv] at hst hno
  clear hv
  generalize D1 z = q at *
  obtain ⟨n,o⟩:=q
  dsimp only at hq hst hno
  by_cases h2:c.kind = 2
  ·rw [if_pos h2] at hst hno
   by_cases h3:c.lst < 0 ∨ (ls.length:Int) ≤ c.lst
   ·rw [if_pos h3] at hst hno
    clear hst
    have hno:=hno rfl
    rw [hR] at hno
    subst hno
    repeat' ((first | (refine A3 (x:=c) hc (by omega) ?_) | (refine A3 (x:=z) hz2 (by omega) ?_) | refine B2 hq ?_ | (refine E3 ?_ ?_;kernel_rfl) |refine A4 ?_|refine S1 ?_|refine Z1 ?_|refine Z2 ?_|(refine And.intro ?_ ?_<;>intro h<;>try first|(exfalso;omega)|exact absurd rfl h)|refine Z3 ?_|refine Z4 ?_|intro el hel hbB|intro el hel|intro ex|refine Z5 ?_|(refine A9 ?_ ?_;exact ⟨by kernel_rfl,by decide⟩)|refine A8 ?_ ?_|exact A7|refine A6 ?_ ?_|exact A5|(refine A0 ?_ ?_ ?_;kernel_rfl;kernel_rfl)) <;> (try (conv=>whnf)))
    all_goals first
     | (exfalso;omega)
     | exact F9 (rs:=[.tmp 4, .tmp 5]) (vs:=[_,_]) rfl ⟨⟨_,rfl, .nil 1⟩,⟨_,rfl, .refl _⟩,trivial⟩ rfl
     | contradiction
     | exact absurd (o3.symm.trans (by assumption)) (by decide)
   ·rw [if_neg h3] at hst hno
    obtain ⟨L,hL⟩:∃ L,ls[c.lst.toNat]? = some L:=⟨_,List.getElem?_eq_getElem (by omega)⟩
    rw [U3 hL] at hst hno
    have hLl:=hls.2 L (List.mem_of_getElem? hL)
    have hll:=hls.1
    generalize hidx:I5 (fun c:Code=>decide (c.name = z)) L.2 0 = I at hst hno
    have hI0:u5 z L.2 0 = I:=hidx
    cases o with
    | false =>
      repeat' ((first | (refine A3 (x:=c) hc (by omega) ?_) | (refine A3 (x:=z) hz2 (by omega) ?_) | refine B2 hq ?_ | (refine E3 ?_ ?_;kernel_rfl) | (refine A3 (x:=L) hL (by omega) ?_) |refine A4 ?_|refine S1 ?_|refine Z1 ?_|refine Z2 ?_|(refine And.intro ?_ ?_<;>intro h<;>try first|(exfalso;omega)|exact absurd rfl h)|refine Z3 ?_|refine Z4 ?_|intro el hel hbB|intro el hel|intro ex|refine Z5 ?_|(refine A9 ?_ ?_;exact ⟨by kernel_rfl,by decide⟩)|refine A8 ?_ ?_|exact A7|refine A6 ?_ ?_|exact A5|(refine A0 ?_ ?_ ?_;kernel_rfl;kernel_rfl)) <;> (try (conv=>whnf)))
      all_goals first
       | (exfalso;omega)
       | contradiction
       | skip
      refine C2 (ι:=Nat) (fun q=>⟨[(1, .sl 1 (w.map C1)),(2, .iptr [.sl 2 (ls.map D3), .sl 7 (cs.map C0)]),(6, .row 0 0 l.length),(7, .i l.length),(9, .i (b4 z L.2 q)),(10, .b (decide (0 ≤ u5 z L.2 q))),(11, .sl 2 (L.2.map cA)),(12, .i ((q:Int) - 1))],1,[(0,some (.row z1 1 0 (l.map wA)))]⟩) (fun q=>q ≤ L.2.length) (fun q=>q) L.2.length (Nat.le_refl _) (B0 h0 rfl ⟨rfl,rfl,rfl,rfl,congrArg (fun z=>some (AV.i z)) (Fe z L.2).1.symm,congrArg (fun z=>some (AV.b z)) (Fe z L.2).2.symm,rfl,rfl,trivial⟩ ⟨⟨_,rfl⟩,trivial⟩ rfl rfl rfl) (fun q hq2=>?_)
      by_cases hq0:q = 0
      ·subst hq0
       by_cases hf:0 ≤ I
       ·rw [if_pos hf] at hst hno
        have hN:b4 z L.2 0 = I:=by unfold b4;rw [hI0,if_pos hf]
        have hB:decide (0 ≤ u5 z L.2 0) = true:=by rw [hI0];exact decide_eq_true hf
        rw [hN,hB]
        have hst:=hst rfl
        rw [e1 (I)] at hst
        repeat' ((first | (refine A3 (x:=c) hc (by omega) ?_) | (refine A3 (x:=z) hz2 (by omega) ?_) | refine B2 hq ?_ | (refine E3 ?_ ?_;kernel_rfl) |refine A4 ?_|refine S1 ?_|refine Z1 ?_|refine Z2 ?_|(refine And.intro ?_ ?_<;>intro h<;>try first|(exfalso;omega)|exact absurd rfl h)|refine Z3 ?_|refine Z4 ?_|intro el hel hbB|intro el hel|intro ex|refine Z5 ?_|(refine A9 ?_ ?_;exact ⟨by kernel_rfl,by decide⟩)|refine A8 ?_ ?_|exact A7|refine A6 ?_ ?_|exact A5|(refine A0 ?_ ?_ ?_;kernel_rfl;kernel_rfl)) <;> (try (conv=>whnf)))
        all_goals first
         | (exfalso;omega)
         | exact ⟨l ++ [I],⟨(by have:=e1 (I);omega),hst⟩,(by have:=e1 (I);omega),B0 h0 rfl ⟨rfl,rfl,congrArg (fun z=>some (AV.row 0 _ z)) (e1 I),congrArg (fun z=>some (AV.i z)) (e2 I),trivial⟩ ⟨⟨_,congrArg (C6.row z1 1 _) (by rw [List.map_append];rfl)⟩,trivial⟩ rfl rfl rfl⟩
         | contradiction
         | exact absurd (o3.symm.trans (by assumption)) (by decide)
       ·rw [if_neg hf] at hst hno
        have hN:b4 z L.2 0 = 0:=by unfold b4;rw [hI0,if_neg hf]
        have hB:decide (0 ≤ u5 z L.2 0) = false:=by rw [hI0];exact decide_eq_false hf
        rw [hN,hB]
        have hno:=hno rfl
        rw [hR] at hno
        subst hno
        repeat' ((first | (refine A3 (x:=c) hc (by omega) ?_) | (refine A3 (x:=z) hz2 (by omega) ?_) | refine B2 hq ?_ | (refine E3 ?_ ?_;kernel_rfl) |refine A4 ?_|refine S1 ?_|refine Z1 ?_|refine Z2 ?_|(refine And.intro ?_ ?_<;>intro h<;>try first|(exfalso;omega)|exact absurd rfl h)|refine Z3 ?_|refine Z4 ?_|intro el hel hbB|intro el hel|intro ex|refine Z5 ?_|(refine A9 ?_ ?_;exact ⟨by kernel_rfl,by decide⟩)|refine A8 ?_ ?_|exact A7|refine A6 ?_ ?_|exact A5|(refine A0 ?_ ?_ ?_;kernel_rfl;kernel_rfl)) <;> (try (conv=>whnf)))
        all_goals first
         | (exfalso;omega)
         | exact F9 (rs:=[.tmp 4, .tmp 5]) (vs:=[_,_]) rfl ⟨⟨_,rfl, .nil 1⟩,⟨_,rfl, .refl _⟩,trivial⟩ rfl
         | contradiction
         | exact absurd (o3.symm.trans (by assumption)) (by decide)
      ·obtain ⟨q,rfl⟩:∃ k,q = k + 1:=⟨q - 1,by omega⟩
       clear hst hno
       obtain ⟨x,hx⟩:∃ x,L.2[q]? = some x:=⟨_,List.getElem?_eq_getElem (by omega)⟩
       have hx2:L.2[((((q + 1:Nat):Int)) - 1).toNat]? = some x:=by rw [show ((((q + 1:Nat):Int)) - 1).toNat = q by omega];exact hx
       have hQ:(((q + 1:Nat):Int) - 1) - 1 = (q:Int) - 1:=by omega
       by_cases hxz:x.name = z
       ·obtain ⟨k1,k2⟩:=OJ hx hxz
        have k3:(((q + 1:Nat):Int) - 1) = b4 z L.2 q:=by rw [k1];omega
        repeat' ((first | (refine A3 (x:=c) hc (by omega) ?_) | (refine A3 (x:=z) hz2 (by omega) ?_) | refine B2 hq ?_ | (refine E3 ?_ ?_;kernel_rfl) | (refine A3 (x:=x) hx2 (by omega) ?_) |refine A4 ?_|refine S1 ?_|refine Z1 ?_|refine Z2 ?_|(refine And.intro ?_ ?_<;>intro h<;>try first|(exfalso;omega)|exact absurd rfl h)|refine Z3 ?_|refine Z4 ?_|intro el hel hbB|intro el hel|intro ex|refine Z5 ?_|(refine A9 ?_ ?_;exact ⟨by kernel_rfl,by decide⟩)|refine A8 ?_ ?_|exact A7|refine A6 ?_ ?_|exact A5|(refine A0 ?_ ?_ ?_;kernel_rfl;kernel_rfl)) <;> (try (conv=>whnf)))
        all_goals first
         | (exfalso;omega)
         | exact ⟨q,by omega,by omega,B0 h0 rfl ⟨rfl,rfl,rfl,rfl,congrArg (fun z=>some (AV.i z)) k3,congrArg (fun z=>some (AV.b z)) k2.symm,rfl,congrArg (fun z=>some (AV.i z)) hQ,trivial⟩ ⟨⟨_,rfl⟩,trivial⟩ rfl rfl rfl⟩
         | contradiction
         | exact absurd (o3.symm.trans (by assumption)) (by decide)
       ·obtain ⟨k1,k2⟩:=Mc hx hxz
        repeat' ((first | (refine A3 (x:=c) hc (by omega) ?_) | (refine A3 (x:=z) hz2 (by omega) ?_) | refine B2 hq ?_ | (refine E3 ?_ ?_;kernel_rfl) | (refine A3 (x:=x) hx2 (by omega) ?_) |refine A4 ?_|refine S1 ?_|refine Z1 ?_|refine Z2 ?_|(refine And.intro ?_ ?_<;>intro h<;>try first|(exfalso;omega)|exact absurd rfl h)|refine Z3 ?_|refine Z4 ?_|intro el hel hbB|intro el hel|intro ex|refine Z5 ?_|(refine A9 ?_ ?_;exact ⟨by kernel_rfl,by decide⟩)|refine A8 ?_ ?_|exact A7|refine A6 ?_ ?_|exact A5|(refine A0 ?_ ?_ ?_;kernel_rfl;kernel_rfl)) <;> (try (conv=>whnf)))
        all_goals first
         | (exfalso;omega)
         | exact ⟨q,by omega,by omega,B0 h0 rfl ⟨rfl,rfl,rfl,rfl,congrArg (fun z=>some (AV.i z)) k1.symm,congrArg (fun z=>some (AV.b z)) k2.symm,rfl,congrArg (fun z=>some (AV.i z)) hQ,trivial⟩ ⟨⟨_,rfl⟩,trivial⟩ rfl rfl rfl⟩
         | contradiction
         | exact absurd (o3.symm.trans (by assumption)) (by decide)
    | true =>
      repeat' ((first | (refine A3 (x:=c) hc (by omega) ?_) | (refine A3 (x:=z) hz2 (by omega) ?_) | refine B2 hq ?_ | (refine E3 ?_ ?_;kernel_rfl) | (refine A3 (x:=L) hL (by omega) ?_) |refine A4 ?_|refine S1 ?_|refine Z1 ?_|refine Z2 ?_|(refine And.intro ?_ ?_<;>intro h<;>try first|(exfalso;omega)|exact absurd rfl h)|refine Z3 ?_|refine Z4 ?_|intro el hel hbB|intro el hel|intro ex|refine Z5 ?_|(refine A9 ?_ ?_;exact ⟨by kernel_rfl,by decide⟩)|refine A8 ?_ ?_|exact A7|refine A6 ?_ ?_|exact A5|(refine A0 ?_ ?_ ?_;kernel_rfl;kernel_rfl)) <;> (try (conv=>whnf)))
      all_goals first
       | (exfalso;omega)
       | contradiction
       | skip
      refine C2 (ι:=Nat) (fun q=>⟨[(1, .sl 1 (w.map C1)),(2, .iptr [.sl 2 (ls.map D3), .sl 7 (cs.map C0)]),(6, .row 0 0 l.length),(7, .i l.length),(9, .i (b4 z L.2 q)),(10, .b (decide (0 ≤ u5 z L.2 q))),(11, .sl 2 (L.2.map cA)),(12, .i ((q:Int) - 1))],1,[(0,some (.row z1 1 0 (l.map wA)))]⟩) (fun q=>q ≤ L.2.length) (fun q=>q) L.2.length (Nat.le_refl _) (B0 h0 rfl ⟨rfl,rfl,rfl,rfl,congrArg (fun z=>some (AV.i z)) (Fe z L.2).1.symm,congrArg (fun z=>some (AV.b z)) (Fe z L.2).2.symm,rfl,rfl,trivial⟩ ⟨⟨_,rfl⟩,trivial⟩ rfl rfl rfl) (fun q hq2=>?_)
      by_cases hq0:q = 0
      ·subst hq0
       by_cases hf:0 ≤ I
       ·rw [if_pos hf] at hst hno
        have hN:b4 z L.2 0 = I:=by unfold b4;rw [hI0,if_pos hf]
        have hB:decide (0 ≤ u5 z L.2 0) = true:=by rw [hI0];exact decide_eq_true hf
        rw [hN,hB]
        have hst:=hst rfl
        rw [e1 (I)] at hst
        repeat' ((first | (refine A3 (x:=c) hc (by omega) ?_) | (refine A3 (x:=z) hz2 (by omega) ?_) | refine B2 hq ?_ | (refine E3 ?_ ?_;kernel_rfl) |refine A4 ?_|refine S1 ?_|refine Z1 ?_|refine Z2 ?_|(refine And.intro ?_ ?_<;>intro h<;>try first|(exfalso;omega)|exact absurd rfl h)|refine Z3 ?_|refine Z4 ?_|intro el hel hbB|intro el hel|intro ex|refine Z5 ?_|(refine A9 ?_ ?_;exact ⟨by kernel_rfl,by decide⟩)|refine A8 ?_ ?_|exact A7|refine A6 ?_ ?_|exact A5|(refine A0 ?_ ?_ ?_;kernel_rfl;kernel_rfl)) <;> (try (conv=>whnf)))
        all_goals first
         | (exfalso;omega)
         | exact ⟨l ++ [I],⟨(by have:=e1 (I);omega),hst⟩,(by have:=e1 (I);omega),B0 h0 rfl ⟨rfl,rfl,congrArg (fun z=>some (AV.row 0 _ z)) (e1 I),congrArg (fun z=>some (AV.i z)) (e2 I),trivial⟩ ⟨⟨_,congrArg (C6.row z1 1 _) (by rw [List.map_append];rfl)⟩,trivial⟩ rfl rfl rfl⟩
         | contradiction
         | exact absurd (o3.symm.trans (by assumption)) (by decide)
       ·rw [if_neg hf] at hst hno
        have hN:b4 z L.2 0 = 0:=by unfold b4;rw [hI0,if_neg hf]
        have hB:decide (0 ≤ u5 z L.2 0) = false:=by rw [hI0];exact decide_eq_false hf
        rw [hN,hB]
        have hno:=hno rfl
        rw [hR] at hno
        subst hno
        repeat' ((first | (refine A3 (x:=c) hc (by omega) ?_) | (refine A3 (x:=z) hz2 (by omega) ?_) | refine B2 hq ?_ | (refine E3 ?_ ?_;kernel_rfl) |refine A4 ?_|refine S1 ?_|refine Z1 ?_|refine Z2 ?_|(refine And.intro ?_ ?_<;>intro h<;>try first|(exfalso;omega)|exact absurd rfl h)|refine Z3 ?_|refine Z4 ?_|intro el hel hbB|intro el hel|intro ex|refine Z5 ?_|(refine A9 ?_ ?_;exact ⟨by kernel_rfl,by decide⟩)|refine A8 ?_ ?_|exact A7|refine A6 ?_ ?_|exact A5|(refine A0 ?_ ?_ ?_;kernel_rfl;kernel_rfl)) <;> (try (conv=>whnf)))
        all_goals first
         | (exfalso;omega)
         | exact F9 (rs:=[.tmp 4, .tmp 5]) (vs:=[_,_]) rfl ⟨⟨_,rfl, .nil 1⟩,⟨_,rfl, .refl _⟩,trivial⟩ rfl
         | contradiction
         | exact absurd (o3.symm.trans (by assumption)) (by decide)
      ·obtain ⟨q,rfl⟩:∃ k,q = k + 1:=⟨q - 1,by omega⟩
       clear hst hno
       obtain ⟨x,hx⟩:∃ x,L.2[q]? = some x:=⟨_,List.getElem?_eq_getElem (by omega)⟩
       have hx2:L.2[((((q + 1:Nat):Int)) - 1).toNat]? = some x:=by rw [show ((((q + 1:Nat):Int)) - 1).toNat = q by omega];exact hx
       have hQ:(((q + 1:Nat):Int) - 1) - 1 = (q:Int) - 1:=by omega
       by_cases hxz:x.name = z
       ·obtain ⟨k1,k2⟩:=OJ hx hxz
        have k3:(((q + 1:Nat):Int) - 1) = b4 z L.2 q:=by rw [k1];omega
        repeat' ((first | (refine A3 (x:=c) hc (by omega) ?_) | (refine A3 (x:=z) hz2 (by omega) ?_) | refine B2 hq ?_ | (refine E3 ?_ ?_;kernel_rfl) | (refine A3 (x:=x) hx2 (by omega) ?_) |refine A4 ?_|refine S1 ?_|refine Z1 ?_|refine Z2 ?_|(refine And.intro ?_ ?_<;>intro h<;>try first|(exfalso;omega)|exact absurd rfl h)|refine Z3 ?_|refine Z4 ?_|intro el hel hbB|intro el hel|intro ex|refine Z5 ?_|(refine A9 ?_ ?_;exact ⟨by kernel_rfl,by decide⟩)|refine A8 ?_ ?_|exact A7|refine A6 ?_ ?_|exact A5|(refine A0 ?_ ?_ ?_;kernel_rfl;kernel_rfl)) <;> (try (conv=>whnf)))
        all_goals first
         | (exfalso;omega)
         | exact ⟨q,by omega,by omega,B0 h0 rfl ⟨rfl,rfl,rfl,rfl,congrArg (fun z=>some (AV.i z)) k3,congrArg (fun z=>some (AV.b z)) k2.symm,rfl,congrArg (fun z=>some (AV.i z)) hQ,trivial⟩ ⟨⟨_,rfl⟩,trivial⟩ rfl rfl rfl⟩
         | contradiction
         | exact absurd (o3.symm.trans (by assumption)) (by decide)
       ·obtain ⟨k1,k2⟩:=Mc hx hxz
        repeat' ((first | (refine A3 (x:=c) hc (by omega) ?_) | (refine A3 (x:=z) hz2 (by omega) ?_) | refine B2 hq ?_ | (refine E3 ?_ ?_;kernel_rfl) | (refine A3 (x:=x) hx2 (by omega) ?_) |refine A4 ?_|refine S1 ?_|refine Z1 ?_|refine Z2 ?_|(refine And.intro ?_ ?_<;>intro h<;>try first|(exfalso;omega)|exact absurd rfl h)|refine Z3 ?_|refine Z4 ?_|intro el hel hbB|intro el hel|intro ex|refine Z5 ?_|(refine A9 ?_ ?_;exact ⟨by kernel_rfl,by decide⟩)|refine A8 ?_ ?_|exact A7|refine A6 ?_ ?_|exact A5|(refine A0 ?_ ?_ ?_;kernel_rfl;kernel_rfl)) <;> (try (conv=>whnf)))
        all_goals first
         | (exfalso;omega)
         | exact ⟨q,by omega,by omega,B0 h0 rfl ⟨rfl,rfl,rfl,rfl,congrArg (fun z=>some (AV.i z)) k1.symm,congrArg (fun z=>some (AV.b z)) k2.symm,rfl,congrArg (fun z=>some (AV.i z)) hQ,trivial⟩ ⟨⟨_,rfl⟩,trivial⟩ rfl rfl rfl⟩
         | contradiction
         | exact absurd (o3.symm.trans (by assumption)) (by decide)
  ·rw [if_neg h2] at hst hno
   by_cases h3:(c.kind = 3 ∧ c.opt = true) ∧ z = CJ
   ·rw [if_pos h3] at hst hno
    obtain ⟨⟨k3,o3⟩,rfl⟩:=h3
    have hst:=hst rfl
    rw [e1 ((-1099511627776))] at hst
    repeat' ((first | (refine A3 (x:=c) hc (by omega) ?_) | (refine A3 (x:=z) hz2 (by omega) ?_) | refine B2 hq ?_ | (refine E3 ?_ ?_;kernel_rfl) |refine A4 ?_|refine S1 ?_|refine Z1 ?_|refine Z2 ?_|(refine And.intro ?_ ?_<;>intro h<;>try first|(exfalso;omega)|exact absurd rfl h)|refine Z3 ?_|refine Z4 ?_|intro el hel hbB|intro el hel|intro ex|refine Z5 ?_|(refine A9 ?_ ?_;exact ⟨by kernel_rfl,by decide⟩)|refine A8 ?_ ?_|exact A7|refine A6 ?_ ?_|exact A5|(refine A0 ?_ ?_ ?_;kernel_rfl;kernel_rfl)) <;> (try (conv=>whnf)))
    all_goals first
     | (exfalso;omega)
     | exact ⟨l ++ [(-1099511627776)],⟨(by have:=e1 (((-1099511627776)));omega),hst⟩,(by have:=e1 (((-1099511627776)));omega),B0 h0 rfl ⟨rfl,rfl,congrArg (fun z=>some (AV.row 0 _ z)) (e1 ((-1099511627776))),congrArg (fun z=>some (AV.i z)) (e2 ((-1099511627776))),trivial⟩ ⟨⟨_,congrArg (C6.row z1 1 _) (by rw [List.map_append];rfl)⟩,trivial⟩ rfl rfl rfl⟩
     | contradiction
     | exact absurd (o3.symm.trans (by assumption)) (by decide)
   ·rw [if_neg h3] at hst hno
    have h4:c.kind = 3 → c.opt = true → ¬ z = CJ:=fun a b d=>h3 ⟨⟨a,b⟩,d⟩
    clear h3
    cases o with
    | false =>
      rw [Bool.false_and] at hst hno
      have hno:=hno rfl
      rw [hR] at hno
      subst hno
      repeat' ((first | (refine A3 (x:=c) hc (by omega) ?_) | (refine A3 (x:=z) hz2 (by omega) ?_) | refine B2 hq ?_ | (refine E3 ?_ ?_;kernel_rfl) |refine A4 ?_|refine S1 ?_|refine Z1 ?_|refine Z2 ?_|(refine And.intro ?_ ?_<;>intro h<;>try first|(exfalso;omega)|exact absurd rfl h)|refine Z3 ?_|refine Z4 ?_|intro el hel hbB|intro el hel|intro ex|refine Z5 ?_|(refine A9 ?_ ?_;exact ⟨by kernel_rfl,by decide⟩)|refine A8 ?_ ?_|exact A7|refine A6 ?_ ?_|exact A5|(refine A0 ?_ ?_ ?_;kernel_rfl;kernel_rfl)) <;> (try (conv=>whnf)))
      all_goals first
       | (exfalso;omega)
       | (exfalso;exact h4 (by omega) (by assumption) (by assumption))
       | exact F9 (rs:=[.tmp 4, .tmp 5]) (vs:=[_,_]) rfl ⟨⟨_,rfl, .nil 1⟩,⟨_,rfl, .refl _⟩,trivial⟩ rfl
       | contradiction
       | exact absurd (o3.symm.trans (by assumption)) (by decide)
    | true =>
      rw [Bool.true_and] at hst hno
      by_cases hm:n = (-1099511627776)
      ·rw [decide_eq_false (fun g=>g hm)] at hst hno
       have hno:=hno rfl
       rw [hR] at hno
       subst hno
       repeat' ((first | (refine A3 (x:=c) hc (by omega) ?_) | (refine A3 (x:=z) hz2 (by omega) ?_) | refine B2 hq ?_ | (refine E3 ?_ ?_;kernel_rfl) |refine A4 ?_|refine S1 ?_|refine Z1 ?_|refine Z2 ?_|(refine And.intro ?_ ?_<;>intro h<;>try first|(exfalso;omega)|exact absurd rfl h)|refine Z3 ?_|refine Z4 ?_|intro el hel hbB|intro el hel|intro ex|refine Z5 ?_|(refine A9 ?_ ?_;exact ⟨by kernel_rfl,by decide⟩)|refine A8 ?_ ?_|exact A7|refine A6 ?_ ?_|exact A5|(refine A0 ?_ ?_ ?_;kernel_rfl;kernel_rfl)) <;> (try (conv=>whnf)))
       all_goals first
        | (exfalso;omega)
        | (exfalso;exact h4 (by omega) (by assumption) (by assumption))
        | exact F9 (rs:=[.tmp 4, .tmp 5]) (vs:=[_,_]) rfl ⟨⟨_,rfl, .nil 1⟩,⟨_,rfl, .refl _⟩,trivial⟩ rfl
        | contradiction
        | exact absurd (o3.symm.trans (by assumption)) (by decide)
      ·rw [decide_eq_true hm] at hst hno
       have hst:=hst rfl
       rw [e1 (n)] at hst
       repeat' ((first | (refine A3 (x:=c) hc (by omega) ?_) | (refine A3 (x:=z) hz2 (by omega) ?_) | refine B2 hq ?_ | (refine E3 ?_ ?_;kernel_rfl) |refine A4 ?_|refine S1 ?_|refine Z1 ?_|refine Z2 ?_|(refine And.intro ?_ ?_<;>intro h<;>try first|(exfalso;omega)|exact absurd rfl h)|refine Z3 ?_|refine Z4 ?_|intro el hel hbB|intro el hel|intro ex|refine Z5 ?_|(refine A9 ?_ ?_;exact ⟨by kernel_rfl,by decide⟩)|refine A8 ?_ ?_|exact A7|refine A6 ?_ ?_|exact A5|(refine A0 ?_ ?_ ?_;kernel_rfl;kernel_rfl)) <;> (try (conv=>whnf)))
       all_goals first
        | (exfalso;omega)
        | (exfalso;exact h4 (by omega) (by assumption) (by assumption))
        | exact ⟨l ++ [n],⟨(by have:=e1 (n);omega),hst⟩,(by have:=e1 (n);omega),B0 h0 rfl ⟨rfl,rfl,congrArg (fun z=>some (AV.row 0 _ z)) (e1 n),congrArg (fun z=>some (AV.i z)) (e2 n),trivial⟩ ⟨⟨_,congrArg (C6.row z1 1 _) (by rw [List.map_append];rfl)⟩,trivial⟩ rfl rfl rfl⟩
        | contradiction
        | exact absurd (o3.symm.trans (by assumption)) (by decide)
 ·rw [List.take_of_length_le (by omega),hR] at hI
  subst hI
  repeat' ((first|refine A4 ?_|refine S1 ?_|refine Z1 ?_|refine Z2 ?_|(refine And.intro ?_ ?_<;>intro h<;>try first|(exfalso;omega)|exact absurd rfl h)|refine Z3 ?_|refine Z4 ?_|intro el hel hbB|intro el hel|intro ex|refine Z5 ?_|(refine A9 ?_ ?_;exact ⟨by kernel_rfl,by decide⟩)|refine A8 ?_ ?_|exact A7|refine A6 ?_ ?_|exact A5|(refine A0 ?_ ?_ ?_;kernel_rfl;kernel_rfl)) <;> (try (conv=>whnf)))
  all_goals first
   | (exfalso;omega)
   | exact F9 (rs:=[.tmp 4, .tmp 5]) (vs:=[_,_]) rfl ⟨⟨_,rfl, .refl _⟩,⟨_,rfl, .refl _⟩,trivial⟩ rfl
end Go.Proofs.YtiphlhoclaogjabGreatDoor
