/- Chapter 3: the reference's reader: columns. -/
import Derived.Test.YtiphlhoclaogjabGreatDoorQKe3
set_option linter.unusedVariables false
set_option linter.unnecessarySimpa false
set_option linter.unusedSimpArgs false
namespace Go.Proofs.YtiphlhoclaogjabGreatDoor
open Go Go.Av
attribute [local irreducible] D6 B8 D8 D7 DQ E0 E1 St.le B4 B9
set_option maxRecDepth 100000
theorem KX:∀ {a a' b b':List (List AV)},d7 a a' → d7 b b' → d7 (a ++ b) (a' ++ b')
 | [],[],_,_,_,h=>h
 | _ :: _,_ :: _,_,_,h,h2=>⟨h.1,KX h.2 h2⟩
 | [],_ :: _,_,_,h,_=>h.elim
 | _ :: _,[],_,_,h,_=>h.elim
theorem Md (w:List (List UInt8)) (hL:w.length ≤ 20001) (hwl:∀ z ∈ w,z.length ≤ 20000):∃ c o,B4 Tryz.prog 76 [.sl 1 (w.map C1)] (.tup [M4 c, .b o]) ∧ (o = true → CQ w = some c) ∧ (o = false → CQ w = none):=by
 unfold CQ
 by_cases h:w.length < 6 ∨ ¬ B6 w 4 = G8 ∧ ¬ B6 w 4 = H2
 ·rw [if_pos h];exact ⟨_,_,Wo w h,(fun e=>by cases e),fun _=>rfl⟩
 rw [if_neg h]
 have h6:6 ≤ w.length:=by
  have:=fun g=>h (.inl g)
  omega
 have hx:∀ (op:Bool),decide (B6 w 4 = H2) = op → B4 Tryz.prog 76 [.sl 1 (w.map C1)] (.tup [M4 ⟨B6 w 1,3,0,(D1 (B6 w 2)).1,(D1 (B6 w 3)).1,Dx D1 (w.drop 5),op⟩, .b ((G4 D1 (w.drop 5)).isSome && ((D1 (B6 w 2)).2 && (D1 (B6 w 3)).2))]) → ∃ c o,B4 Tryz.prog 76 [.sl 1 (w.map C1)] (.tup [M4 c, .b o]) ∧ (o = true → (match G4 D1 (w.drop 5) with
   | none=>none
   | some ns=>if (D1 (B6 w 2)).2 = true ∧ (D1 (B6 w 3)).2 = true then some ⟨B6 w 1,3,0,(D1 (B6 w 2)).1,(D1 (B6 w 3)).1,ns,decide (B6 w 4 = H2)⟩ else none) = some c) ∧ (o = false → (match G4 D1 (w.drop 5) with
   | none=>none
   | some ns=>if (D1 (B6 w 2)).2 = true ∧ (D1 (B6 w 3)).2 = true then some (⟨B6 w 1,3,0,(D1 (B6 w 2)).1,(D1 (B6 w 3)).1,ns,decide (B6 w 4 = H2)⟩:C5) else none) = none):=by
  intro op hop hc
  rw [hop]
  cases ha:G4 D1 (w.drop 5) with
  | none =>
    rw [ha] at hc
    exact ⟨_,false,hc,(fun e=>by cases e),fun _=>rfl⟩
  | some ns =>
    rw [ha,Dy ha] at hc
    dsimp only
    by_cases hn:(D1 (B6 w 2)).2 = true ∧ (D1 (B6 w 3)).2 = true
    ·rw [if_pos hn]
     rw [hn.1,hn.2] at hc
     exact ⟨_,true,hc,(fun _=>rfl),fun e=>by cases e⟩
    ·rw [if_neg hn]
     have he:((some ns).isSome && ((D1 (B6 w 2)).2 && (D1 (B6 w 3)).2)) = false:=by
      rw [Option.isSome_some,Bool.true_and]
      exact Bool.eq_false_iff.2 fun g=>hn ((Bool.and_eq_true _ _).mp g)
     rw [he] at hc
     exact ⟨_,false,hc,(fun e=>by cases e),fun _=>rfl⟩
 by_cases g:B6 w 4 = G8
 ·exact hx false (by rw [g];rfl) (SD w h6 hL hwl g)
 ·have g2:B6 w 4 = H2:=Decidable.byContradiction fun g2=>h (.inr ⟨g,g2⟩)
  exact hx true (by rw [g2];rfl) (Uf w h6 hL hwl g2)
set_option maxHeartbeats 16000000 in
theorem Za (tx:List UInt8) (w:List (List UInt8)) (c2:B4 Tryz.prog 38 [.str tx, .str [32]] (.sl 1 (w.map C1))) (ls:List CL) (cs:List C5) (hw0:[] ∉ w) (hn:cs.length ≤ 20001) (hl:w.length = 2) (h1:B6 w 0 = U6):B9 Tryz.prog 48 3 (fB false (ls,cs,[])) [z6 (ls,cs,[]), .str tx] 3 (fB false (ls,cs ++ [(⟨B6 w 1,1,0,0,0,[],false⟩:C5)],[])) (.tup [z6 (ls,cs ++ [(⟨B6 w 1,1,0,0,0,[],false⟩:C5)],[]), .b true]):=by
 have g0:=C8 (ws:=w) (i:=0) (by omega)
 have g1:=C8 (ws:=w) (i:=1) (by omega)
 rw [h1] at g0
 clear h1
 generalize B6 w 1 = nm at *
 have hlen:cs.length + 1 = (cs ++ [(⟨nm,1,0,0,0,[],false⟩:C5)]).length:=by simp
 have hnl:d7 (cs.map C0 ++ [[.str nm, .i 1, .i 0, .i 0, .i 0, .v (.slice none 0 0), .b false]]) ((cs ++ [(⟨nm,1,0,0,0,[],false⟩:C5)]).map C0):=by
  rw [List.map_append]
  exact KX (d7.refl _) ⟨⟨.refl _, .refl _, .refl _, .refl _, .refl _, .nil 1, .refl _,trivial⟩,trivial⟩
 dsimp only [fB,z6,y9]
 refine J1 Tryz.func48 240 fun E h0=>?_
 repeat' ((first | refine B2 c2 ?_ |refine A4 ?_|refine S1 ?_|refine Z1 ?_|refine Z2 ?_|(refine And.intro ?_ ?_<;>intro h<;>try first|(exfalso;omega)|exact absurd rfl h)|refine Z3 ?_|refine Z4 ?_|intro el hel hbB|intro el hel|intro ex|refine Z5 ?_|(refine A9 ?_ ?_;exact ⟨by kernel_rfl,by decide⟩)|refine A8 ?_ ?_|exact A7|refine A6 ?_ ?_|exact A5|(refine A0 ?_ ?_ ?_;kernel_rfl;kernel_rfl)) <;> (try (conv=>whnf)))
 all_goals first
  | (exfalso;omega)
  | skip
 refine C2 (ι:=Nat) (fun k=>⟨[(2, .ref 3 0),(4, .ref 4 0),(6, .sl 1 (w.map C1)),(7, .i k)],5,[(0,some (.row K3 2 0 (ls.map D3))),(1,some (.row J2 7 0 (cs.map C0))),(2,some (.row I3 1 0 [])),(3,some (.box [.row 0 0 ls.length, .row 1 0 cs.length, .row 2 0 0])),(4,some (.box [.v (.slice none 0 0), .v (.slice none 0 0), .v (.slice none 0 0)]))]⟩) (fun k=>k ≤ w.length) (fun k=>w.length - k) 0  (Nat.zero_le _) (B0 h0 rfl ⟨rfl,rfl,rfl,rfl,trivial⟩ ⟨⟨_,rfl⟩,⟨_,rfl⟩,⟨_,rfl⟩,rfl,rfl,trivial⟩ rfl rfl rfl) (fun k hk=>?_)
 by_cases hlt:k < w.length
 ·obtain ⟨z,hz⟩:∃ z,w[k]? = some z:=⟨_,List.getElem?_eq_getElem hlt⟩
  have hze:¬ z = []:=fun e=>hw0 (e ▸ List.mem_of_getElem? hz)
  clear c2
  repeat' ((first | (refine A3 (x:=z) hz (by omega) ?_) |refine A4 ?_|refine S1 ?_|refine Z1 ?_|refine Z2 ?_|(refine And.intro ?_ ?_<;>intro h<;>try first|(exfalso;omega)|exact absurd rfl h)|refine Z3 ?_|refine Z4 ?_|intro el hel hbB|intro el hel|intro ex|refine Z5 ?_|(refine A9 ?_ ?_;exact ⟨by kernel_rfl,by decide⟩)|refine A8 ?_ ?_|exact A7|refine A6 ?_ ?_|exact A5|(refine A0 ?_ ?_ ?_;kernel_rfl;kernel_rfl)) <;> (try (conv=>whnf)))
  all_goals first
   | (exfalso;omega)
   | (exfalso;exact hze (by assumption))
   | exact ⟨k + 1,by omega,by omega,B0 h0 rfl ⟨rfl,rfl,rfl,rfl,trivial⟩ ⟨⟨_,rfl⟩,⟨_,rfl⟩,⟨_,rfl⟩,rfl,rfl,trivial⟩ rfl rfl rfl⟩
 ·clear c2
  repeat' ((first | (refine A3 (x:=U6) g0 (by omega) ?_) | (refine A3 (x:=nm) g1 (by omega) ?_) | (refine G6 (id:=25) ⟨[(2, .ref 3 0),(4, .ref 4 0)],5,[(0,some (.row K3 2 0 (ls.map D3))),(1,some (.row J2 7 0 (cs.map C0 ++ [[.str nm, .i 1, .i 0, .i 0, .i 0, .v (.slice none 0 0), .b false]]))),(2,some (.row I3 1 0 [])),(3,some (.box [.row 0 0 ls.length, .row 1 0 (cs.length + 1), .row 2 0 0])),(4,some (.box [.v (.slice none 0 0), .v (.slice none 0 0), .v (.slice none 0 0)]))]⟩ ?_ ?_) |refine A4 ?_|refine S1 ?_|refine Z1 ?_|refine Z2 ?_|(refine And.intro ?_ ?_<;>intro h<;>try first|(exfalso;omega)|exact absurd rfl h)|refine Z3 ?_|refine Z4 ?_|intro el hel hbB|intro el hel|intro ex|refine Z5 ?_|(refine A9 ?_ ?_;exact ⟨by kernel_rfl,by decide⟩)|refine A8 ?_ ?_|exact A7|refine A6 ?_ ?_|exact A5|(refine A0 ?_ ?_ ?_;kernel_rfl;kernel_rfl)) <;> (try (conv=>whnf)))
  all_goals first
   | (exfalso;omega)
   | exact B0 h0 rfl ⟨rfl,rfl,trivial⟩ ⟨⟨_,rfl⟩,⟨_,rfl⟩,⟨_,rfl⟩,rfl,rfl,trivial⟩ rfl rfl rfl
   | exact H8 (rvs:=[.cell 4 As, .tmp 5]) (vs:=[_,_]) ⟨4,_,_,rfl,rfl,inferInstance,rfl,rfl,trivial⟩ rfl rfl (C3 (Hl 1 ((cs ++ [(⟨nm,1,0,0,0,[],false⟩:C5)]).map C0) rfl hnl) (B0 h0 rfl ⟨congrArg (fun z=>some (AV.agg [.row 0 0 ls.length, .row 1 0 z, .row 2 0 0])) hlen,rfl,trivial⟩ ⟨⟨_,rfl⟩,⟨_,rfl⟩,⟨_,rfl⟩,trivial⟩ rfl rfl rfl)) rfl
   | contradiction
set_option maxHeartbeats 16000000 in
theorem Yl (tx:List UInt8) (w:List (List UInt8)) (c2:B4 Tryz.prog 38 [.str tx, .str [32]] (.sl 1 (w.map C1))) (ls:List CL) (cs:List C5) (hw0:[] ∉ w) (hn:cs.length ≤ 20001) (n:Int) (hwl:∀ z ∈ w,z.length ≤ 20000) (hl:w.length = 3) (h1:B6 w 0 = O2) (hok:D1 (B6 w 2) = (n,true)):B9 Tryz.prog 48 3 (fB false (ls,cs,[])) [z6 (ls,cs,[]), .str tx] 3 (fB false (ls,cs ++ [(⟨B6 w 1,2,n,0,0,[],false⟩:C5)],[])) (.tup [z6 (ls,cs ++ [(⟨B6 w 1,2,n,0,0,[],false⟩:C5)],[]), .b true]):=by
 have g0:=C8 (ws:=w) (i:=0) (by omega)
 have g1:=C8 (ws:=w) (i:=1) (by omega)
 have g2:=C8 (ws:=w) (i:=2) (by omega)
 have hq:=L3 (B6 w 2) (by have:=hwl _ (List.mem_of_getElem? g2);omega)
 rw [h1] at g0
 clear h1
 generalize B6 w 1 = nm at *
 generalize B6 w 2 = z2 at *
 rw [hok] at hq
 clear hok
 have hlen:cs.length + 1 = (cs ++ [(⟨nm,2,n,0,0,[],false⟩:C5)]).length:=by simp
 have hnl:d7 (cs.map C0 ++ [[.str nm, .i 2, .i n, .i 0, .i 0, .v (.slice none 0 0), .b false]]) ((cs ++ [(⟨nm,2,n,0,0,[],false⟩:C5)]).map C0):=by
  rw [List.map_append]
  exact KX (d7.refl _) ⟨⟨.refl _, .refl _, .refl _, .refl _, .refl _, .nil 1, .refl _,trivial⟩,trivial⟩
 dsimp only [fB,z6,y9]
 refine J1 Tryz.func48 240 fun E h0=>?_
 repeat' ((first | refine B2 c2 ?_ |refine A4 ?_|refine S1 ?_|refine Z1 ?_|refine Z2 ?_|(refine And.intro ?_ ?_<;>intro h<;>try first|(exfalso;omega)|exact absurd rfl h)|refine Z3 ?_|refine Z4 ?_|intro el hel hbB|intro el hel|intro ex|refine Z5 ?_|(refine A9 ?_ ?_;exact ⟨by kernel_rfl,by decide⟩)|refine A8 ?_ ?_|exact A7|refine A6 ?_ ?_|exact A5|(refine A0 ?_ ?_ ?_;kernel_rfl;kernel_rfl)) <;> (try (conv=>whnf)))
 all_goals first
  | (exfalso;omega)
  | skip
 refine C2 (ι:=Nat) (fun k=>⟨[(2, .ref 3 0),(4, .ref 4 0),(6, .sl 1 (w.map C1)),(7, .i k)],5,[(0,some (.row K3 2 0 (ls.map D3))),(1,some (.row J2 7 0 (cs.map C0))),(2,some (.row I3 1 0 [])),(3,some (.box [.row 0 0 ls.length, .row 1 0 cs.length, .row 2 0 0])),(4,some (.box [.v (.slice none 0 0), .v (.slice none 0 0), .v (.slice none 0 0)]))]⟩) (fun k=>k ≤ w.length) (fun k=>w.length - k) 0  (Nat.zero_le _) (B0 h0 rfl ⟨rfl,rfl,rfl,rfl,trivial⟩ ⟨⟨_,rfl⟩,⟨_,rfl⟩,⟨_,rfl⟩,rfl,rfl,trivial⟩ rfl rfl rfl) (fun k hk=>?_)
 by_cases hlt:k < w.length
 ·obtain ⟨z,hz⟩:∃ z,w[k]? = some z:=⟨_,List.getElem?_eq_getElem hlt⟩
  have hze:¬ z = []:=fun e=>hw0 (e ▸ List.mem_of_getElem? hz)
  clear c2
  repeat' ((first | (refine A3 (x:=z) hz (by omega) ?_) |refine A4 ?_|refine S1 ?_|refine Z1 ?_|refine Z2 ?_|(refine And.intro ?_ ?_<;>intro h<;>try first|(exfalso;omega)|exact absurd rfl h)|refine Z3 ?_|refine Z4 ?_|intro el hel hbB|intro el hel|intro ex|refine Z5 ?_|(refine A9 ?_ ?_;exact ⟨by kernel_rfl,by decide⟩)|refine A8 ?_ ?_|exact A7|refine A6 ?_ ?_|exact A5|(refine A0 ?_ ?_ ?_;kernel_rfl;kernel_rfl)) <;> (try (conv=>whnf)))
  all_goals first
   | (exfalso;omega)
   | (exfalso;exact hze (by assumption))
   | exact ⟨k + 1,by omega,by omega,B0 h0 rfl ⟨rfl,rfl,rfl,rfl,trivial⟩ ⟨⟨_,rfl⟩,⟨_,rfl⟩,⟨_,rfl⟩,rfl,rfl,trivial⟩ rfl rfl rfl⟩
 ·clear c2
  repeat' ((first | (refine A3 (x:=O2) g0 (by omega) ?_) | (refine A3 (x:=z2) g2 (by omega) ?_) | (refine A3 (x:=nm) g1 (by omega) ?_) | refine B2 hq ?_ | (refine G6 (id:=32) ⟨[(2, .ref 3 0),(4, .ref 4 0)],5,[(0,some (.row K3 2 0 (ls.map D3))),(1,some (.row J2 7 0 (cs.map C0 ++ [[.str nm, .i 2, .i n, .i 0, .i 0, .v (.slice none 0 0), .b false]]))),(2,some (.row I3 1 0 [])),(3,some (.box [.row 0 0 ls.length, .row 1 0 (cs.length + 1), .row 2 0 0])),(4,some (.box [.v (.slice none 0 0), .v (.slice none 0 0), .v (.slice none 0 0)]))]⟩ ?_ ?_) |refine A4 ?_|refine S1 ?_|refine Z1 ?_|refine Z2 ?_|(refine And.intro ?_ ?_<;>intro h<;>try first|(exfalso;omega)|exact absurd rfl h)|refine Z3 ?_|refine Z4 ?_|intro el hel hbB|intro el hel|intro ex|refine Z5 ?_|(refine A9 ?_ ?_;exact ⟨by kernel_rfl,by decide⟩)|refine A8 ?_ ?_|exact A7|refine A6 ?_ ?_|exact A5|(refine A0 ?_ ?_ ?_;kernel_rfl;kernel_rfl)) <;> (try (conv=>whnf)))
  all_goals first
   | (exfalso;omega)
   | exact B0 h0 rfl ⟨rfl,rfl,trivial⟩ ⟨⟨_,rfl⟩,⟨_,rfl⟩,⟨_,rfl⟩,rfl,rfl,trivial⟩ rfl rfl rfl
   | exact H8 (rvs:=[.cell 4 As, .tmp 5]) (vs:=[_,_]) ⟨4,_,_,rfl,rfl,inferInstance,rfl,rfl,trivial⟩ rfl rfl (C3 (Hl 1 ((cs ++ [(⟨nm,2,n,0,0,[],false⟩:C5)]).map C0) rfl hnl) (B0 h0 rfl ⟨congrArg (fun z=>some (AV.agg [.row 0 0 ls.length, .row 1 0 z, .row 2 0 0])) hlen,rfl,trivial⟩ ⟨⟨_,rfl⟩,⟨_,rfl⟩,⟨_,rfl⟩,trivial⟩ rfl rfl rfl)) rfl
   | contradiction
set_option maxHeartbeats 16000000 in
theorem Ym (tx:List UInt8) (w:List (List UInt8)) (c2:B4 Tryz.prog 38 [.str tx, .str [32]] (.sl 1 (w.map C1))) (ls:List CL) (cs:List C5) (hw0:[] ∉ w) (hn:cs.length ≤ 20001) (c:C5) (hL:0 < w.length ∧ w.length ≤ 20001) (h1:B6 w 0 = L4) (hq:B4 Tryz.prog 76 [.sl 1 (w.map C1)] (.tup [M4 c, .b true])):B9 Tryz.prog 48 3 (fB false (ls,cs,[])) [z6 (ls,cs,[]), .str tx] 3 (fB false (ls,cs ++ [c],[])) (.tup [z6 (ls,cs ++ [c],[]), .b true]):=by
 have g0:=C8 (ws:=w) (i:=0) (by omega)
 rw [h1] at g0
 clear h1
 obtain ⟨nm,k0,l0,lo,hi,ws,op⟩:=c
 dsimp only [M4,C0] at hq
 have hlen:cs.length + 1 = (cs ++ [(⟨nm,k0,l0,lo,hi,ws,op⟩:C5)]).length:=by simp
 have hnl:d7 (cs.map C0 ++ [[.str nm, .i k0, .i l0, .i lo, .i hi, .sl 1 (ws.map wA), .b op]]) ((cs ++ [(⟨nm,k0,l0,lo,hi,ws,op⟩:C5)]).map C0):=by
  rw [List.map_append]
  exact KX (d7.refl _) ⟨⟨.refl _, .refl _, .refl _, .refl _, .refl _, .refl _, .refl _,trivial⟩,trivial⟩
 dsimp only [fB,z6,y9]
 refine J1 Tryz.func48 240 fun E h0=>?_
 repeat' ((first | refine B2 c2 ?_ |refine A4 ?_|refine S1 ?_|refine Z1 ?_|refine Z2 ?_|(refine And.intro ?_ ?_<;>intro h<;>try first|(exfalso;omega)|exact absurd rfl h)|refine Z3 ?_|refine Z4 ?_|intro el hel hbB|intro el hel|intro ex|refine Z5 ?_|(refine A9 ?_ ?_;exact ⟨by kernel_rfl,by decide⟩)|refine A8 ?_ ?_|exact A7|refine A6 ?_ ?_|exact A5|(refine A0 ?_ ?_ ?_;kernel_rfl;kernel_rfl)) <;> (try (conv=>whnf)))
 all_goals first
  | (exfalso;omega)
  | skip
 refine C2 (ι:=Nat) (fun k=>⟨[(2, .ref 3 0),(4, .ref 4 0),(6, .sl 1 (w.map C1)),(7, .i k)],5,[(0,some (.row K3 2 0 (ls.map D3))),(1,some (.row J2 7 0 (cs.map C0))),(2,some (.row I3 1 0 [])),(3,some (.box [.row 0 0 ls.length, .row 1 0 cs.length, .row 2 0 0])),(4,some (.box [.v (.slice none 0 0), .v (.slice none 0 0), .v (.slice none 0 0)]))]⟩) (fun k=>k ≤ w.length) (fun k=>w.length - k) 0  (Nat.zero_le _) (B0 h0 rfl ⟨rfl,rfl,rfl,rfl,trivial⟩ ⟨⟨_,rfl⟩,⟨_,rfl⟩,⟨_,rfl⟩,rfl,rfl,trivial⟩ rfl rfl rfl) (fun k hk=>?_)
 by_cases hlt:k < w.length
 ·obtain ⟨z,hz⟩:∃ z,w[k]? = some z:=⟨_,List.getElem?_eq_getElem hlt⟩
  have hze:¬ z = []:=fun e=>hw0 (e ▸ List.mem_of_getElem? hz)
  clear c2
  repeat' ((first | (refine A3 (x:=z) hz (by omega) ?_) |refine A4 ?_|refine S1 ?_|refine Z1 ?_|refine Z2 ?_|(refine And.intro ?_ ?_<;>intro h<;>try first|(exfalso;omega)|exact absurd rfl h)|refine Z3 ?_|refine Z4 ?_|intro el hel hbB|intro el hel|intro ex|refine Z5 ?_|(refine A9 ?_ ?_;exact ⟨by kernel_rfl,by decide⟩)|refine A8 ?_ ?_|exact A7|refine A6 ?_ ?_|exact A5|(refine A0 ?_ ?_ ?_;kernel_rfl;kernel_rfl)) <;> (try (conv=>whnf)))
  all_goals first
   | (exfalso;omega)
   | (exfalso;exact hze (by assumption))
   | exact ⟨k + 1,by omega,by omega,B0 h0 rfl ⟨rfl,rfl,rfl,rfl,trivial⟩ ⟨⟨_,rfl⟩,⟨_,rfl⟩,⟨_,rfl⟩,rfl,rfl,trivial⟩ rfl rfl rfl⟩
 ·clear c2
  repeat' ((first | (refine A3 (x:=L4) g0 (by omega) ?_) | refine B2 hq ?_ | (refine G6 (id:=37) ⟨[(2, .ref 3 0),(4, .ref 4 0)],5,[(0,some (.row K3 2 0 (ls.map D3))),(1,some (.row J2 7 0 (cs.map C0 ++ [[.str nm, .i k0, .i l0, .i lo, .i hi, .sl 1 (ws.map wA), .b op]]))),(2,some (.row I3 1 0 [])),(3,some (.box [.row 0 0 ls.length, .row 1 0 (cs.length + 1), .row 2 0 0])),(4,some (.box [.v (.slice none 0 0), .v (.slice none 0 0), .v (.slice none 0 0)]))]⟩ ?_ ?_) |refine A4 ?_|refine S1 ?_|refine Z1 ?_|refine Z2 ?_|(refine And.intro ?_ ?_<;>intro h<;>try first|(exfalso;omega)|exact absurd rfl h)|refine Z3 ?_|refine Z4 ?_|intro el hel hbB|intro el hel|intro ex|refine Z5 ?_|(refine A9 ?_ ?_;exact ⟨by kernel_rfl,by decide⟩)|refine A8 ?_ ?_|exact A7|refine A6 ?_ ?_|exact A5|(refine A0 ?_ ?_ ?_;kernel_rfl;kernel_rfl)) <;> (try (conv=>whnf)))
  all_goals first
   | (exfalso;omega)
   | exact B0 h0 rfl ⟨rfl,rfl,trivial⟩ ⟨⟨_,rfl⟩,⟨_,rfl⟩,⟨_,rfl⟩,rfl,rfl,trivial⟩ rfl rfl rfl
   | exact H8 (rvs:=[.cell 4 As, .tmp 5]) (vs:=[_,_]) ⟨4,_,_,rfl,rfl,inferInstance,rfl,rfl,trivial⟩ rfl rfl (C3 (Hl 1 ((cs ++ [(⟨nm,k0,l0,lo,hi,ws,op⟩:C5)]).map C0) rfl hnl) (B0 h0 rfl ⟨congrArg (fun z=>some (AV.agg [.row 0 0 ls.length, .row 1 0 z, .row 2 0 0])) hlen,rfl,trivial⟩ ⟨⟨_,rfl⟩,⟨_,rfl⟩,⟨_,rfl⟩,trivial⟩ rfl rfl rfl)) rfl
   | contradiction
end Go.Proofs.YtiphlhoclaogjabGreatDoor
