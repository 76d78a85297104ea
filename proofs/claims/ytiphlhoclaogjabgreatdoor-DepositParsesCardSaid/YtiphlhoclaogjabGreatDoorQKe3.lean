/- Chapter 3: the reference's reader: lists and codes. -/
import Derived.Test.YtiphlhoclaogjabGreatDoorQKe2
import Derived.Test.YtiphlhoclaogjabGreatDoorQKc5
set_option linter.unusedVariables false
set_option linter.unnecessarySimpa false
set_option linter.unusedSimpArgs false
namespace Go.Proofs.YtiphlhoclaogjabGreatDoor
open Go Go.Av
attribute [local irreducible] D6 B8 D8 D7 DQ E0 E1 St.le B4 B9
set_option maxRecDepth 100000
abbrev As:Nat:=95
abbrev fB (g:Bool) (x:Fl):Hp:=[(0,some (y9 g x.1)),(1,some (.row J2 7 0 (x.2.1.map C0))),(2,some (.row I3 1 0 (x.2.2.map D2)))]
abbrev z6 (x:Fl):AV:=.agg [.row 0 0 x.1.length, .row 1 0 x.2.1.length, .row 2 0 x.2.2.length]
set_option maxHeartbeats 16000000 in
theorem Yk (tx:List UInt8) (w:List (List UInt8)) (c2:B4 Tryz.prog 38 [.str tx, .str [32]] (.sl 1 (w.map C1))) (ls:List CL) (hw0:[] ∉ w) (hn:ls.length ≤ 20001) (hl:w.length = 2) (h1:B6 w 0 = I8):B9 Tryz.prog 48 3 (fB true (ls,[],[])) [z6 (ls,[],[]), .str tx] 3 (fB true (ls ++ [(B6 w 1,[])],[],[])) (.tup [z6 (ls ++ [(B6 w 1,[])],[],[]), .b true]):=by
 have g0:=C8 (ws:=w) (i:=0) (by omega)
 have g1:=C8 (ws:=w) (i:=1) (by omega)
 rw [h1] at g0
 clear h1
 generalize B6 w 1 = nm at *
 have hnn:=MS ls nm
 have hlen:ls.length + 1 = (ls ++ [(nm,([]:List Code))]).length:=by simp
 dsimp only [fB,z6,y9]
 refine J1 Tryz.func48 240 fun E h0=>?_
 refine O6 (C3 (CM (i:=0) (l':=ls.map D3) (.inl rfl) rfl (by decide) (Cy ls)) (B0 (σ':=⟨[(0, .agg [.row 0 0 ls.length, .row 1 0 0, .row 2 0 0]),(1, .str tx)],3,[(0,some (.row K3 2 0 (ls.map D3))),(1,some (.row J2 7 0 [])),(2,some (.row I3 1 0 []))]⟩) h0 rfl ⟨rfl,rfl,trivial⟩ ⟨⟨_,rfl⟩,⟨_,rfl⟩,⟨_,rfl⟩,trivial⟩ rfl rfl rfl)) ?_
 repeat' ((first | refine B2 c2 ?_ |refine A4 ?_|refine S1 ?_|refine Z1 ?_|refine Z2 ?_|(refine And.intro ?_ ?_<;>intro h<;>try first|(exfalso;omega)|exact absurd rfl h)|refine Z3 ?_|refine Z4 ?_|intro el hel hbB|intro el hel|intro ex|refine Z5 ?_|(refine A9 ?_ ?_;exact ⟨by kernel_rfl,by decide⟩)|refine A8 ?_ ?_|exact A7|refine A6 ?_ ?_|exact A5|(refine A0 ?_ ?_ ?_;kernel_rfl;kernel_rfl)) <;> (try (conv=>whnf)))
 all_goals first
  | (exfalso;omega)
  | skip
 refine C2 (ι:=Nat) (fun k=>⟨[(2, .ref 3 0),(4, .ref 4 0),(6, .sl 1 (w.map C1)),(7, .i k)],5,[(0,some (.row K3 2 0 (ls.map D3))),(1,some (.row J2 7 0 [])),(2,some (.row I3 1 0 [])),(3,some (.box [.row 0 0 ls.length, .row 1 0 0, .row 2 0 0])),(4,some (.box [.v (.slice none 0 0), .v (.slice none 0 0), .v (.slice none 0 0)]))]⟩) (fun k=>k ≤ w.length) (fun k=>w.length - k) 0  (Nat.zero_le _) (B0 h0 rfl ⟨rfl,rfl,rfl,rfl,trivial⟩ ⟨⟨_,rfl⟩,⟨_,rfl⟩,⟨_,rfl⟩,rfl,rfl,trivial⟩ rfl rfl rfl) (fun k hk=>?_)
 by_cases hlt:k < w.length
 ·obtain ⟨z,hz⟩:∃ z,w[k]? = some z:=⟨_,List.getElem?_eq_getElem hlt⟩
  have hze:¬ z = []:=fun e=>hw0 (e ▸ List.mem_of_getElem? hz)
  clear c2
  repeat' ((first | (refine A3 (x:=z) hz (by omega) ?_) |refine A4 ?_|refine S1 ?_|refine Z1 ?_|refine Z2 ?_|(refine And.intro ?_ ?_<;>intro h<;>try first|(exfalso;omega)|exact absurd rfl h)|refine Z3 ?_|refine Z4 ?_|intro el hel hbB|intro el hel|intro ex|refine Z5 ?_|(refine A9 ?_ ?_;exact ⟨by kernel_rfl,by decide⟩)|refine A8 ?_ ?_|exact A7|refine A6 ?_ ?_|exact A5|(refine A0 ?_ ?_ ?_;kernel_rfl;kernel_rfl)) <;> (try (conv=>whnf)))
  all_goals first
   | (exfalso;omega)
   | (exfalso;exact hze (by assumption))
   | exact ⟨k + 1,by omega,by omega,B0 h0 rfl ⟨rfl,rfl,rfl,rfl,trivial⟩ ⟨⟨_,rfl⟩,⟨_,rfl⟩,⟨_,rfl⟩,rfl,rfl,trivial⟩ rfl rfl rfl⟩
 ·clear c2
  repeat' ((first | (refine A3 (x:=I8) g0 (by omega) ?_) | (refine A3 (x:=nm) g1 (by omega) ?_) | (refine G6 (id:=13) ⟨[(2, .ref 3 0),(4, .ref 4 0)],5,[(0,some (.row K3 2 0 (ls.map D3 ++ [[.str nm, .v (.slice none 0 0)]]))),(1,some (.row J2 7 0 [])),(2,some (.row I3 1 0 [])),(3,some (.box [.row 0 0 (ls.length + 1), .row 1 0 0, .row 2 0 0])),(4,some (.box [.v (.slice none 0 0), .v (.slice none 0 0), .v (.slice none 0 0)]))]⟩ ?_ ?_) |refine A4 ?_|refine S1 ?_|refine Z1 ?_|refine Z2 ?_|(refine And.intro ?_ ?_<;>intro h<;>try first|(exfalso;omega)|exact absurd rfl h)|refine Z3 ?_|refine Z4 ?_|intro el hel hbB|intro el hel|intro ex|refine Z5 ?_|(refine A9 ?_ ?_;exact ⟨by kernel_rfl,by decide⟩)|refine A8 ?_ ?_|exact A7|refine A6 ?_ ?_|exact A5|(refine A0 ?_ ?_ ?_;kernel_rfl;kernel_rfl)) <;> (try (conv=>whnf)))
  all_goals first
   | (exfalso;omega)
   | exact B0 h0 rfl ⟨rfl,rfl,trivial⟩ ⟨⟨_,rfl⟩,⟨_,rfl⟩,⟨_,rfl⟩,rfl,rfl,trivial⟩ rfl rfl rfl
   | exact H8 (rvs:=[.cell 4 As, .tmp 5]) (vs:=[_,_]) ⟨4,_,_,rfl,rfl,inferInstance,rfl,rfl,trivial⟩ rfl rfl (C3 (Fb (i:=0) (.inl rfl) rfl (fun h=>absurd h (by decide)) (by decide) hnn) (B0 h0 rfl ⟨congrArg (fun z=>some (AV.agg [.row 0 0 z, .row 1 0 0, .row 2 0 0])) hlen,rfl,trivial⟩ ⟨⟨_,rfl⟩,⟨_,rfl⟩,⟨_,rfl⟩,trivial⟩ rfl rfl rfl)) rfl
   | contradiction
set_option maxHeartbeats 16000000 in
theorem Wp (tx:List UInt8) (w:List (List UInt8)) (c2:B4 Tryz.prog 38 [.str tx, .str [32]] (.sl 1 (w.map C1))) (X:List CL) (l:CL) (n:Int) (hw0:[] ∉ w) (hn:X.length ≤ 20001) (hm:l.2.length ≤ 20001) (hwl:∀ z ∈ w,z.length ≤ 20000) (hl:w.length = 3) (h1:B6 w 0 = W0) (hok:D1 (B6 w 2) = (n,true)):B9 Tryz.prog 48 3 (fB true (X ++ [l],[],[])) [z6 (X ++ [l],[],[]), .str tx] 3 (fB true (X ++ [(l.1,l.2 ++ [⟨B6 w 1,n⟩])],[],[])) (.tup [z6 (X ++ [(l.1,l.2 ++ [⟨B6 w 1,n⟩])],[],[]), .b true]):=by
 have g0:=C8 (ws:=w) (i:=0) (by omega)
 have g1:=C8 (ws:=w) (i:=1) (by omega)
 have g2:=C8 (ws:=w) (i:=2) (by omega)
 have hq:=L3 (B6 w 2) (by have:=hwl _ (List.mem_of_getElem? g2);omega)
 rw [h1] at g0
 clear h1
 generalize B6 w 1 = nm at *
 generalize B6 w 2 = z2 at *
 rw [hok] at hq
 clear hok
 obtain ⟨lm,lc⟩:=l
 dsimp only at hm ⊢
 have e1:=Bp X (lm,lc)
 have e2:=Bp X (lm,lc ++ [⟨nm,n⟩])
 have hlen:(X ++ [(lm,lc)]).length = X.length + 1:=by simp
 have hlen2:(X ++ [(lm,lc ++ [(⟨nm,n⟩:Code)])]).length = X.length + 1:=by simp
 dsimp only [fB,z6,y9]
 rw [e1,e2,hlen,hlen2]
 clear e1 e2 hlen hlen2
 have hK:((((X.length + 1:Nat):Int)) - 1).toNat = X.length:=by omega
 have hkk:(X.map D3 ++ [g9 (lm,lc)])[X.length]? = some [.str lm, .own Bl 2 (lc.map cA)]:=by
  rw [List.getElem?_append_right (by rw [List.length_map];exact Nat.le_refl _),List.length_map,Nat.sub_self];rfl
 have hk2:((X.map D3 ++ [g9 (lm,lc)]).set X.length [.str lm, .any])[X.length]? = some [.str lm, .any]:=List.getElem?_set_self (by simp)
 have hset:((X.map D3 ++ [g9 (lm,lc)]).set X.length [.str lm, .any]).set X.length [.str lm, .own Bl 2 (lc.map cA ++ [[.str nm, .i n]])] = X.map D3 ++ [g9 (lm,lc ++ [⟨nm,n⟩])]:=by
  rw [List.set_set,Jw X _ _]
  show _ = X.map D3 ++ [[.str lm, .own Bl 2 ((lc ++ [(⟨nm,n⟩:Code)]).map cA)]]
  rw [List.map_append];rfl
 refine J1 Tryz.func48 240 fun E h0=>?_
 repeat' ((first | refine B2 c2 ?_ |refine A4 ?_|refine S1 ?_|refine Z1 ?_|refine Z2 ?_|(refine And.intro ?_ ?_<;>intro h<;>try first|(exfalso;omega)|exact absurd rfl h)|refine Z3 ?_|refine Z4 ?_|intro el hel hbB|intro el hel|intro ex|refine Z5 ?_|(refine A9 ?_ ?_;exact ⟨by kernel_rfl,by decide⟩)|refine A8 ?_ ?_|exact A7|refine A6 ?_ ?_|exact A5|(refine A0 ?_ ?_ ?_;kernel_rfl;kernel_rfl)) <;> (try (conv=>whnf)))
 all_goals first
  | (exfalso;omega)
  | skip
 refine C2 (ι:=Nat) (fun k=>⟨[(2, .ref 3 0),(4, .ref 4 0),(6, .sl 1 (w.map C1)),(7, .i k)],5,[(0,some (.row (G0 + K3) 2 0 (X.map D3 ++ [g9 (lm,lc)]))),(1,some (.row J2 7 0 [])),(2,some (.row I3 1 0 [])),(3,some (.box [.row 0 0 (X.length + 1), .row 1 0 0, .row 2 0 0])),(4,some (.box [.v (.slice none 0 0), .v (.slice none 0 0), .v (.slice none 0 0)]))]⟩) (fun k=>k ≤ w.length) (fun k=>w.length - k) 0  (Nat.zero_le _) (B0 h0 rfl ⟨rfl,rfl,rfl,rfl,trivial⟩ ⟨⟨_,rfl⟩,⟨_,rfl⟩,⟨_,rfl⟩,rfl,rfl,trivial⟩ rfl rfl rfl) (fun k hk=>?_)
 by_cases hlt:k < w.length
 ·obtain ⟨z,hz⟩:∃ z,w[k]? = some z:=⟨_,List.getElem?_eq_getElem hlt⟩
  have hze:¬ z = []:=fun e=>hw0 (e ▸ List.mem_of_getElem? hz)
  clear c2
  repeat' ((first | (refine A3 (x:=z) hz (by omega) ?_) |refine A4 ?_|refine S1 ?_|refine Z1 ?_|refine Z2 ?_|(refine And.intro ?_ ?_<;>intro h<;>try first|(exfalso;omega)|exact absurd rfl h)|refine Z3 ?_|refine Z4 ?_|intro el hel hbB|intro el hel|intro ex|refine Z5 ?_|(refine A9 ?_ ?_;exact ⟨by kernel_rfl,by decide⟩)|refine A8 ?_ ?_|exact A7|refine A6 ?_ ?_|exact A5|(refine A0 ?_ ?_ ?_;kernel_rfl;kernel_rfl)) <;> (try (conv=>whnf)))
  all_goals first
   | (exfalso;omega)
   | (exfalso;exact hze (by assumption))
   | exact ⟨k + 1,by omega,by omega,B0 h0 rfl ⟨rfl,rfl,rfl,rfl,trivial⟩ ⟨⟨_,rfl⟩,⟨_,rfl⟩,⟨_,rfl⟩,rfl,rfl,trivial⟩ rfl rfl rfl⟩
 ·clear c2
  repeat' ((first | (refine A3 (x:=W0) g0 (by omega) ?_) | (refine A3 (x:=z2) g2 (by omega) ?_) | (refine A3 (x:=nm) g1 (by omega) ?_) | refine B2 hq ?_ | (refine G6 (id:=20) ⟨[(2, .ref 3 0),(4, .ref 4 0),(6, .sl 1 (w.map C1)),(9, .i n),(11, .elt 0 0 X.length 0)],5,[(0,some (.row (G0 + K3) 2 0 (X.map D3 ++ [g9 (lm,lc)]))),(1,some (.row J2 7 0 [])),(2,some (.row I3 1 0 [])),(3,some (.box [.row 0 0 (X.length + 1), .row 1 0 0, .row 2 0 0])),(4,some (.box [.v (.slice none 0 0), .v (.slice none 0 0), .v (.slice none 0 0)]))]⟩ ?_ ?_) | (refine G6 (id:=21) ⟨[(2, .ref 3 0),(4, .ref 4 0)],5,[(0,some (.row (G0 + K3) 2 0 (X.map D3 ++ [g9 (lm,lc ++ [⟨nm,n⟩])]))),(1,some (.row J2 7 0 [])),(2,some (.row I3 1 0 [])),(3,some (.box [.row 0 0 (X.length + 1), .row 1 0 0, .row 2 0 0])),(4,some (.box [.v (.slice none 0 0), .v (.slice none 0 0), .v (.slice none 0 0)]))]⟩ ?_ ?_) | refine Jn (i:=0) hkk rfl rfl rfl rfl rfl ?_ | refine Jo (i:=0) hk2 rfl rfl rfl rfl rfl rfl rfl rfl rfl ?_ | (refine E3 ?_ ?_;kernel_rfl) |refine A4 ?_|refine S1 ?_|refine Z1 ?_|refine Z2 ?_|(refine And.intro ?_ ?_<;>intro h<;>try first|(exfalso;omega)|exact absurd rfl h)|refine Z3 ?_|refine Z4 ?_|intro el hel hbB|intro el hel|intro ex|refine Z5 ?_|(refine A9 ?_ ?_;exact ⟨by kernel_rfl,by decide⟩)|refine A8 ?_ ?_|exact A7|refine A6 ?_ ?_|exact A5|(refine A0 ?_ ?_ ?_;kernel_rfl;kernel_rfl)) <;> (try (conv=>whnf)))
  all_goals first
   | (exfalso;omega)
   | exact B0 h0 rfl ⟨rfl,rfl,rfl,rfl,congrArg (fun z=>some (AV.elt 0 0 z 0)) hK,trivial⟩ ⟨⟨_,rfl⟩,⟨_,rfl⟩,⟨_,rfl⟩,rfl,rfl,trivial⟩ rfl rfl rfl
   | exact B0 h0 rfl ⟨rfl,rfl,trivial⟩ ⟨⟨_,congrArg (C6.row (G0 + K3) 2 _) hset⟩,⟨_,rfl⟩,⟨_,rfl⟩,rfl,rfl,trivial⟩ rfl rfl rfl
   | exact B0 h0 rfl ⟨rfl,rfl,trivial⟩ ⟨⟨_,congrArg (C6.row (G0 + K3) 2 _) hset.symm⟩,⟨_,rfl⟩,⟨_,rfl⟩,rfl,rfl,trivial⟩ rfl rfl rfl
   | exact H8 (rvs:=[.cell 4 As, .tmp 5]) (vs:=[_,_]) ⟨4,_,_,rfl,rfl,inferInstance,rfl,rfl,trivial⟩ rfl rfl (B0 h0 rfl ⟨rfl,rfl,trivial⟩ ⟨⟨_,rfl⟩,⟨_,rfl⟩,⟨_,rfl⟩,trivial⟩ rfl rfl rfl) rfl
   | contradiction
end Go.Proofs.YtiphlhoclaogjabGreatDoor
