/- Chapter 3: the program's reader of files: values and rows. -/
import Derived.Test.YtiphlhoclaogjabGreatDoorQAvI
set_option linter.unusedVariables false
set_option linter.unnecessarySimpa false
set_option linter.unusedSimpArgs false
namespace Go.Proofs.YtiphlhoclaogjabGreatDoor
open Go Go.Av
attribute [local irreducible] D6 B8 D8 D7 DQ E0 E1 St.le B4 B9
set_option maxRecDepth 100000
abbrev b5 (r:F5):Hp:=[(0,some (.box (Z9 r))),(1,some (.row K3 2 0 (r.lists.map D3))),(2,some (.row (E9 + J2) 7 0 (r.cols.map C0))),(3,some (.row I3 1 0 (r.rows.map D2)))]
set_option maxHeartbeats 8000000 in
theorem NM (r:F5) (c:C5) (w:List UInt8) (h2:c.kind = 2) (h3:¬ (c.lst < 0 ∨ (r.lists.length:Int) ≤ c.lst)):B9 Tryz.prog 98 4 (b5 r) [.ref 0 0,M4 c, .str w] 4 (b5 r) (.tup [.i (I5 (fun c:Code=>decide (c.name = w)) (r.lists.getD c.lst.toNat ([],[])).2 0), .b (decide (0 ≤ I5 (fun c:Code=>decide (c.name = w)) (r.lists.getD c.lst.toNat ([],[])).2 0))]):=by
 obtain ⟨ls,cs,rs,st⟩:=r
 obtain ⟨nm,kd,lt,lo,hi,ws,op⟩:=c
 dsimp only [b5,Z9,M4,C0] at *
 subst h2
 obtain ⟨l,hl⟩:∃ l,ls[lt.toNat]? = some l:=⟨_,List.getElem?_eq_getElem (by omega)⟩
 rw [U3 hl]
 have hq:=Lg l.2 125 [.iptr [.str w]] (fun c:Code=>decide (c.name = w)) (fun x _=>MN x w)
 generalize I5 (fun c:Code=>decide (c.name = w)) l.2 0 = n at *
 refine J1 Tryz.func98 65 fun E h0=>?_
 repeat' ((first | (refine G2 2 ?_;refine E3 ?_ ?_;kernel_rfl) | (refine G2 7 ?_;refine E3 ?_ ?_;kernel_rfl) | (refine A3 (x:=l) hl (by omega) ?_) | refine B2 hq ?_ | (refine G2 4 ?_;refine K5 (id:=4) (σ':=⟨[(0, .ref 0 0),(4, .iptr [.str nm, .i 2, .i lt, .i lo, .i hi, .sl 1 (ws.map wA), .b op]),(5, .iptr [.str w])],4,[(0,some (.box [.row 1 0 ls.length, .row 2 0 cs.length, .row 3 0 rs.length, .i st])),(1,some (.row K3 2 0 (ls.map D3))),(2,some (.row (E9 + J2) 7 0 (cs.map C0))),(3,some (.row I3 1 0 (rs.map D2)))]⟩) (B0 h0 rfl ⟨rfl,rfl,rfl,trivial⟩ ⟨rfl,⟨_,rfl⟩,⟨_,rfl⟩,⟨_,rfl⟩,trivial⟩ rfl rfl rfl) ?_;refine G6 (id:=4) ⟨[(0, .ref 0 0),(8, .i n)],4,[(0,some (.box [.row 1 0 ls.length, .row 2 0 cs.length, .row 3 0 rs.length, .i st])),(1,some (.row K3 2 0 (ls.map D3))),(2,some (.row (E9 + J2) 7 0 (cs.map C0))),(3,some (.row I3 1 0 (rs.map D2)))]⟩ ?_ ?_) |refine A4 ?_|refine S1 ?_|refine Z1 ?_|refine Z2 ?_|(refine And.intro ?_ ?_<;>intro h<;>try first|(exfalso;omega)|exact absurd rfl h)|refine Z3 ?_|refine Z4 ?_|intro el hel hbB|intro el hel|intro ex|refine Z5 ?_|(refine A9 ?_ ?_;exact ⟨by kernel_rfl,by decide⟩)|refine A8 ?_ ?_|exact A7|refine A6 ?_ ?_|exact A5|(refine A0 ?_ ?_ ?_;kernel_rfl;kernel_rfl)) <;> (try (conv=>whnf)))
 all_goals first
  | (exfalso;omega)
  | exact B0 h0 rfl ⟨rfl,rfl,trivial⟩ ⟨rfl,⟨_,rfl⟩,⟨_,rfl⟩,⟨_,rfl⟩,trivial⟩ rfl rfl rfl
  | (exfalso;exact h4 (by omega) (by assumption))
  | exact H8 (rvs:=[.tmp 6, .tmp 7]) (vs:=[_,_]) trivial rfl rfl (B0 h0 rfl ⟨rfl,rfl,trivial⟩ ⟨rfl,⟨_,rfl⟩,⟨_,rfl⟩,⟨_,rfl⟩,trivial⟩ rfl rfl rfl) rfl
  | contradiction
set_option maxHeartbeats 8000000 in
theorem NN (r:F5) (c:C5) (w:List UInt8) (h2:c.kind = 2) (h3:c.lst < 0 ∨ (r.lists.length:Int) ≤ c.lst):B9 Tryz.prog 98 4 (b5 r) [.ref 0 0,M4 c, .str w] 4 (b5 r) (.tup [.i 0, .b false]):=by
 obtain ⟨ls,cs,rs,st⟩:=r
 obtain ⟨nm,kd,lt,lo,hi,ws,op⟩:=c
 dsimp only [b5,Z9,M4,C0] at *
 subst h2
 refine J1 Tryz.func98 65 fun E h0=>?_
 repeat' ((first | (refine G2 2 ?_;refine E3 ?_ ?_;kernel_rfl) | (refine G2 7 ?_;refine E3 ?_ ?_;kernel_rfl) |refine A4 ?_|refine S1 ?_|refine Z1 ?_|refine Z2 ?_|(refine And.intro ?_ ?_<;>intro h<;>try first|(exfalso;omega)|exact absurd rfl h)|refine Z3 ?_|refine Z4 ?_|intro el hel hbB|intro el hel|intro ex|refine Z5 ?_|(refine A9 ?_ ?_;exact ⟨by kernel_rfl,by decide⟩)|refine A8 ?_ ?_|exact A7|refine A6 ?_ ?_|exact A5|(refine A0 ?_ ?_ ?_;kernel_rfl;kernel_rfl)) <;> (try (conv=>whnf)))
 all_goals first
  | (exfalso;omega)
  | exact B0 h0 rfl ⟨rfl,rfl,trivial⟩ ⟨rfl,⟨_,rfl⟩,⟨_,rfl⟩,⟨_,rfl⟩,trivial⟩ rfl rfl rfl
  | (exfalso;exact h4 (by omega) (by assumption))
  | exact H8 (rvs:=[.tmp 6, .tmp 7]) (vs:=[_,_]) trivial rfl rfl (B0 h0 rfl ⟨rfl,rfl,trivial⟩ ⟨rfl,⟨_,rfl⟩,⟨_,rfl⟩,⟨_,rfl⟩,trivial⟩ rfl rfl rfl) rfl
  | contradiction
set_option maxHeartbeats 8000000 in
theorem Rm (r:F5) (c:C5) (w:List UInt8) (h2:c.kind = 3) (h3:w = CJ):B9 Tryz.prog 98 4 (b5 r) [.ref 0 0,M4 c, .str w] 4 (b5 r) (.tup [.i (-1099511627776), .b c.opt]):=by
 obtain ⟨ls,cs,rs,st⟩:=r
 obtain ⟨nm,kd,lt,lo,hi,ws,op⟩:=c
 dsimp only [b5,Z9,M4,C0] at *
 subst h2 h3
 refine J1 Tryz.func98 65 fun E h0=>?_
 repeat' ((first | (refine G2 2 ?_;refine E3 ?_ ?_;kernel_rfl) | (refine G2 7 ?_;refine E3 ?_ ?_;kernel_rfl) |refine A4 ?_|refine S1 ?_|refine Z1 ?_|refine Z2 ?_|(refine And.intro ?_ ?_<;>intro h<;>try first|(exfalso;omega)|exact absurd rfl h)|refine Z3 ?_|refine Z4 ?_|intro el hel hbB|intro el hel|intro ex|refine Z5 ?_|(refine A9 ?_ ?_;exact ⟨by kernel_rfl,by decide⟩)|refine A8 ?_ ?_|exact A7|refine A6 ?_ ?_|exact A5|(refine A0 ?_ ?_ ?_;kernel_rfl;kernel_rfl)) <;> (try (conv=>whnf)))
 all_goals first
  | (exfalso;omega)
  | exact B0 h0 rfl ⟨rfl,rfl,trivial⟩ ⟨rfl,⟨_,rfl⟩,⟨_,rfl⟩,⟨_,rfl⟩,trivial⟩ rfl rfl rfl
  | (exfalso;exact h4 (by omega) (by assumption))
  | exact H8 (rvs:=[.tmp 6, .tmp 7]) (vs:=[_,_]) trivial rfl rfl (B0 h0 rfl ⟨rfl,rfl,trivial⟩ ⟨rfl,⟨_,rfl⟩,⟨_,rfl⟩,⟨_,rfl⟩,trivial⟩ rfl rfl rfl) rfl
  | contradiction
set_option maxHeartbeats 8000000 in
theorem Pc (r:F5) (c:C5) (w:List UInt8) (h2:¬ c.kind = 2) (h3:¬ (c.kind = 3 ∧ w = CJ)) (hw:w.length ≤ 20000):B9 Tryz.prog 98 4 (b5 r) [.ref 0 0,M4 c, .str w] 4 (b5 r) (.tup [.i (H4 w).1, .b ((H4 w).2 && decide (¬ (H4 w).1 = (-1099511627776)))]):=by
 have hq:=x9 w (by omega)
 obtain ⟨ls,cs,rs,st⟩:=r
 obtain ⟨nm,kd,lt,lo,hi,ws,op⟩:=c
 dsimp only [b5,Z9,M4,C0] at *
 generalize H4 w = q at *
 obtain ⟨n,ok⟩:=q
 dsimp only at *
 have h4:kd = 3 → ¬ w = CJ:=fun h g=>h3 ⟨h,g⟩
 clear h3
 cases ok with
 | true =>
   refine J1 Tryz.func98 65 fun E h0=>?_
   repeat' ((first | (refine G2 2 ?_;refine E3 ?_ ?_;kernel_rfl) | (refine G2 7 ?_;refine E3 ?_ ?_;kernel_rfl) | refine B2 hq ?_ |refine A4 ?_|refine S1 ?_|refine Z1 ?_|refine Z2 ?_|(refine And.intro ?_ ?_<;>intro h<;>try first|(exfalso;omega)|exact absurd rfl h)|refine Z3 ?_|refine Z4 ?_|intro el hel hbB|intro el hel|intro ex|refine Z5 ?_|(refine A9 ?_ ?_;exact ⟨by kernel_rfl,by decide⟩)|refine A8 ?_ ?_|exact A7|refine A6 ?_ ?_|exact A5|(refine A0 ?_ ?_ ?_;kernel_rfl;kernel_rfl)) <;> (try (conv=>whnf)))
   all_goals first
    | (exfalso;omega)
    | exact B0 h0 rfl ⟨rfl,rfl,trivial⟩ ⟨rfl,⟨_,rfl⟩,⟨_,rfl⟩,⟨_,rfl⟩,trivial⟩ rfl rfl rfl
    | (exfalso;exact h4 (by omega) (by assumption))
    | exact H8 (rvs:=[.tmp 6, .tmp 7]) (vs:=[_,_]) trivial rfl rfl (B0 h0 rfl ⟨rfl,rfl,trivial⟩ ⟨rfl,⟨_,rfl⟩,⟨_,rfl⟩,⟨_,rfl⟩,trivial⟩ rfl rfl rfl) rfl
    | contradiction
 | false =>
   refine J1 Tryz.func98 65 fun E h0=>?_
   repeat' ((first | (refine G2 2 ?_;refine E3 ?_ ?_;kernel_rfl) | (refine G2 7 ?_;refine E3 ?_ ?_;kernel_rfl) | refine B2 hq ?_ |refine A4 ?_|refine S1 ?_|refine Z1 ?_|refine Z2 ?_|(refine And.intro ?_ ?_<;>intro h<;>try first|(exfalso;omega)|exact absurd rfl h)|refine Z3 ?_|refine Z4 ?_|intro el hel hbB|intro el hel|intro ex|refine Z5 ?_|(refine A9 ?_ ?_;exact ⟨by kernel_rfl,by decide⟩)|refine A8 ?_ ?_|exact A7|refine A6 ?_ ?_|exact A5|(refine A0 ?_ ?_ ?_;kernel_rfl;kernel_rfl)) <;> (try (conv=>whnf)))
   all_goals first
    | (exfalso;omega)
    | exact B0 h0 rfl ⟨rfl,rfl,trivial⟩ ⟨rfl,⟨_,rfl⟩,⟨_,rfl⟩,⟨_,rfl⟩,trivial⟩ rfl rfl rfl
    | (exfalso;exact h4 (by omega) (by assumption))
    | exact H8 (rvs:=[.tmp 6, .tmp 7]) (vs:=[_,_]) trivial rfl rfl (B0 h0 rfl ⟨rfl,rfl,trivial⟩ ⟨rfl,⟨_,rfl⟩,⟨_,rfl⟩,⟨_,rfl⟩,trivial⟩ rfl rfl rfl) rfl
    | contradiction
theorem NO (r:F5) (c:C5) (w:List UInt8) (hw:w.length ≤ 20000):B9 Tryz.prog 98 4 (b5 r) [.ref 0 0,M4 c, .str w] 4 (b5 r) (.tup [.i (AW r.lists (c,w)).1, .b (AW r.lists (c,w)).2]):=by
 unfold AW
 dsimp only
 by_cases h2:c.kind = 2
 ·rw [if_pos h2]
  by_cases h3:c.lst < 0 ∨ (r.lists.length:Int) ≤ c.lst
  ·rw [if_pos h3];exact NN r c w h2 h3
  ·rw [if_neg h3];exact NM r c w h2 h3
 ·rw [if_neg h2]
  by_cases h3:c.kind = 3 ∧ w = CJ
  ·rw [if_pos h3];exact Rm r c w h3.1 h3.2
  ·rw [if_neg h3];exact Pc r c w h2 h3 hw
set_option maxHeartbeats 4000000 in
theorem UN (r:F5) (w:List (List UInt8)) (hn:r.cols.length ≤ 20000) (h:¬ w.length = r.cols.length + 1):B9 Tryz.prog 70 4 (b5 r) [.ref 0 0, .sl 1 (w.map C1)] 4 (b5 r) (.b false):=by
 obtain ⟨ls,cs,rs,st⟩:=r
 dsimp only [b5,Z9] at *
 refine J1 Tryz.func70 62 fun E h0=>?_
 repeat' ((first|refine A4 ?_|refine S1 ?_|refine Z1 ?_|refine Z2 ?_|(refine And.intro ?_ ?_<;>intro h<;>try first|(exfalso;omega)|exact absurd rfl h)|refine Z3 ?_|refine Z4 ?_|intro el hel hbB|intro el hel|intro ex|refine Z5 ?_|(refine A9 ?_ ?_;exact ⟨by kernel_rfl,by decide⟩)|refine A8 ?_ ?_|exact A7|refine A6 ?_ ?_|exact A5|(refine A0 ?_ ?_ ?_;kernel_rfl;kernel_rfl)) <;> (try (conv=>whnf)))
 all_goals first
  | (exfalso;omega)
  | exact D5 (B0 h0 rfl ⟨rfl,trivial⟩ ⟨rfl,⟨_,rfl⟩,⟨_,rfl⟩,⟨_,rfl⟩,trivial⟩ rfl rfl rfl)
theorem UO {α β:Type} {a:List α} {b:List β} {k:Nat} {x:α} {y:β} (h:a[k]? = some x) (h2:b[k + 1]? = some y):(a.zip (b.drop 1))[k]? = some (x,y):=by
 rw [List.getElem?_zip_eq_some]
 exact ⟨h,by rw [List.getElem?_drop,Nat.add_comm];exact h2⟩
set_option maxHeartbeats 16000000 in
theorem Rn (r:F5) (w:List (List UInt8)) (hn:r.cols.length ≤ 20000) (hm:r.rows.length ≤ 20000) (h:w.length = r.cols.length + 1) (hwl:∀ z ∈ w,z.length ≤ 20000):B9 Tryz.prog 70 4 (b5 r) [.ref 0 0, .sl 1 (w.map C1)] 4 (b5 (AX r w).1) (.b (AX r w).2):=by
 unfold AX
 rw [if_neg (fun g=>g h)]
 have hv:=fun c z (hz:z.length ≤ 20000)=>NO (⟨r.lists,r.cols,r.rows,2⟩:F5) c z hz
 obtain ⟨ls,cs,rs,st⟩:=r
 dsimp only at *
 have hzl:(cs.zip (w.drop 1)).length = cs.length:=by rw [List.length_zip,List.length_drop];omega
 generalize hR:G4 (AW ls) (cs.zip (w.drop 1)) = R
 dsimp only [b5,Z9]
 generalize hF:(match R with | some vs=>(⟨ls,cs,rs ++ [vs],2⟩,true) | none=>(⟨ls,cs,rs,2⟩,false):F5 × Bool) = F
 obtain ⟨⟨ls2,cs2,rs2,st2⟩,ok2⟩:=F
 refine J1 Tryz.func70 62 fun E h0=>?_
 repeat' ((first|refine A4 ?_|refine S1 ?_|refine Z1 ?_|refine Z2 ?_|(refine And.intro ?_ ?_<;>intro h<;>try first|(exfalso;omega)|exact absurd rfl h)|refine Z3 ?_|refine Z4 ?_|intro el hel hbB|intro el hel|intro ex|refine Z5 ?_|(refine A9 ?_ ?_;exact ⟨by kernel_rfl,by decide⟩)|refine A8 ?_ ?_|exact A7|refine A6 ?_ ?_|exact A5|(refine A0 ?_ ?_ ?_;kernel_rfl;kernel_rfl)) <;> (try (conv=>whnf)))
 all_goals first
  | (exfalso;omega)
  | skip
 refine C2 (ι:=List Int) (fun l=>⟨[(0, .ref 0 0),(1, .sl 1 (w.map C1)),(5, .row 4 0 l.length),(27, .row 2 0 cs.length),(28, .i cs.length),(29, .i l.length)],5,[(0,some (.box [.row 1 0 ls.length, .row 2 0 cs.length, .row 3 0 rs.length, .i 2])),(1,some (.row K3 2 0 (ls.map D3))),(2,some (.row (E9 + J2) 7 0 (cs.map C0))),(3,some (.row I3 1 0 (rs.map D2))),(4,some (.row 3 1 0 (l.map wA)))]⟩)
  (fun l=>l.length ≤ cs.length ∧ G4 (AW ls) ((cs.zip (w.drop 1)).take l.length) = some l) (fun l=>cs.length - l.length) [] ⟨Nat.zero_le _,rfl⟩
  (C3 (AL (d:=5) (e:=3) (sz:=1) rfl) (B0 h0 rfl ⟨rfl,rfl,rfl,rfl,rfl,rfl,trivial⟩ ⟨rfl,⟨_,rfl⟩,⟨_,rfl⟩,⟨_,rfl⟩,⟨0,rfl⟩,trivial⟩ rfl rfl rfl)) (fun l hI=>?_)
 obtain ⟨hk,hI⟩:=hI
 by_cases hlt:l.length < cs.length
 ·obtain ⟨c,hc⟩:∃ c,cs[l.length]? = some c:=⟨_,List.getElem?_eq_getElem hlt⟩
  obtain ⟨z,hz⟩:∃ z,w[l.length + 1]? = some z:=⟨_,List.getElem?_eq_getElem (by omega)⟩
  have hz2:w[((l.length:Int) + 1).toNat]? = some z:=by rw [show ((l.length:Int) + 1).toNat = l.length + 1 by omega];exact hz
  have hzp:=UO hc hz
  have hq:=hv c z (hwl z (List.mem_of_getElem? hz))
  have hst:=fun ho=>CO hI hzp ho
  have hno:=fun ho=>OC (f:=AW ls) (List.mem_of_getElem? hzp) ho
  generalize AW ls (c,z) = q at *
  obtain ⟨n,ok⟩:=q
  dsimp only at hq hst hno
  cases ok with
  | true =>
    have hst:=hst rfl
    clear hno hv hF hR
    have e1:l.length + 1 = (l ++ [n]).length:=by simp
    have e2:((l.length:Int) + 1) = (((l ++ [n]).length:Nat):Int):=by simp
    rw [e1] at hst
    repeat' ((first | (refine A3 (x:=c) hc (by omega) ?_) | (refine A3 (x:=z) hz2 (by omega) ?_) | (refine G2 8 ?_;refine K5 (id:=8) (σ':=⟨[(0, .ref 0 0),(1, .sl 1 (w.map C1)),(5, .row 4 0 l.length),(6, .i l.length),(7, .iptr (C0 c)),(27, .row 2 0 cs.length),(28, .i cs.length),(29, .i l.length)],5,[(0,some (.box [.row 1 0 ls.length, .row 2 0 cs.length, .row 3 0 rs.length, .i 2])),(1,some (.row K3 2 0 (ls.map D3))),(2,some (.row (E9 + J2) 7 0 (cs.map C0))),(3,some (.row I3 1 0 (rs.map D2))),(4,some (.row 3 1 0 (l.map wA)))]⟩) (B0 h0 rfl ⟨rfl,rfl,rfl,rfl,rfl,rfl,rfl,rfl,trivial⟩ ⟨rfl,⟨_,rfl⟩,⟨_,rfl⟩,⟨_,rfl⟩,⟨_,rfl⟩,trivial⟩ rfl rfl rfl) ?_;refine G6 (id:=8) ⟨[(0, .ref 0 0),(1, .sl 1 (w.map C1)),(5, .row 4 0 l.length),(8, .i n),(9, .b true),(27, .row 2 0 cs.length),(28, .i cs.length),(29, .i l.length)],5,[(0,some (.box [.row 1 0 ls.length, .row 2 0 cs.length, .row 3 0 rs.length, .i 2])),(1,some (.row K3 2 0 (ls.map D3))),(2,some (.row (E9 + J2) 7 0 (cs.map C0))),(3,some (.row I3 1 0 (rs.map D2))),(4,some (.row 3 1 0 (l.map wA)))]⟩ ?_ ?_) |refine A4 ?_|refine S1 ?_|refine Z1 ?_|refine Z2 ?_|(refine And.intro ?_ ?_<;>intro h<;>try first|(exfalso;omega)|exact absurd rfl h)|refine Z3 ?_|refine Z4 ?_|intro el hel hbB|intro el hel|intro ex|refine Z5 ?_|(refine A9 ?_ ?_;exact ⟨by kernel_rfl,by decide⟩)|refine A8 ?_ ?_|exact A7|refine A6 ?_ ?_|exact A5|(refine A0 ?_ ?_ ?_;kernel_rfl;kernel_rfl) | refine nc [0,1,2,3] [0,0,0,0] hq rfl rfl rfl ⟨rfl,rfl,rfl,rfl,trivial⟩ ?_) <;> (try (conv=>whnf)))
    all_goals first
     | (exfalso;omega)
     | exact B0 h0 rfl ⟨rfl,rfl,rfl,rfl,rfl,rfl,rfl,rfl,trivial⟩ ⟨rfl,⟨_,rfl⟩,⟨_,rfl⟩,⟨_,rfl⟩,⟨_,rfl⟩,trivial⟩ rfl rfl rfl
     | exact ⟨l ++ [n],⟨by omega,hst⟩,by omega,B0 h0 rfl ⟨rfl,rfl,congrArg (fun z=>some (AV.row 4 _ z)) e1,rfl,rfl,congrArg (fun z=>some (AV.i z)) e2,trivial⟩ ⟨rfl,⟨_,rfl⟩,⟨_,rfl⟩,⟨_,rfl⟩,⟨_,congrArg (C6.row 3 1 _) (by rw [List.map_append];rfl)⟩,trivial⟩ rfl rfl rfl⟩
  | false =>
    have hno:=hno rfl
    rw [hR] at hno
    subst hno
    simp only [Prod.mk.injEq,F5.mk.injEq] at hF
    obtain ⟨⟨rfl,rfl,rfl,rfl⟩,rfl⟩:=hF
    clear hst hv
    repeat' ((first | (refine A3 (x:=c) hc (by omega) ?_) | (refine A3 (x:=z) hz2 (by omega) ?_) | (refine G2 8 ?_;refine K5 (id:=8) (σ':=⟨[(0, .ref 0 0),(1, .sl 1 (w.map C1)),(5, .row 4 0 l.length),(6, .i l.length),(7, .iptr (C0 c)),(27, .row 2 0 cs.length),(28, .i cs.length),(29, .i l.length)],5,[(0,some (.box [.row 1 0 ls.length, .row 2 0 cs.length, .row 3 0 rs.length, .i 2])),(1,some (.row K3 2 0 (ls.map D3))),(2,some (.row (E9 + J2) 7 0 (cs.map C0))),(3,some (.row I3 1 0 (rs.map D2))),(4,some (.row 3 1 0 (l.map wA)))]⟩) (B0 h0 rfl ⟨rfl,rfl,rfl,rfl,rfl,rfl,rfl,rfl,trivial⟩ ⟨rfl,⟨_,rfl⟩,⟨_,rfl⟩,⟨_,rfl⟩,⟨_,rfl⟩,trivial⟩ rfl rfl rfl) ?_;refine G6 (id:=8) ⟨[(0, .ref 0 0),(1, .sl 1 (w.map C1)),(5, .row 4 0 l.length),(8, .i n),(9, .b false),(27, .row 2 0 cs.length),(28, .i cs.length),(29, .i l.length)],5,[(0,some (.box [.row 1 0 ls.length, .row 2 0 cs.length, .row 3 0 rs.length, .i 2])),(1,some (.row K3 2 0 (ls.map D3))),(2,some (.row (E9 + J2) 7 0 (cs.map C0))),(3,some (.row I3 1 0 (rs.map D2))),(4,some (.row 3 1 0 (l.map wA)))]⟩ ?_ ?_) |refine A4 ?_|refine S1 ?_|refine Z1 ?_|refine Z2 ?_|(refine And.intro ?_ ?_<;>intro h<;>try first|(exfalso;omega)|exact absurd rfl h)|refine Z3 ?_|refine Z4 ?_|intro el hel hbB|intro el hel|intro ex|refine Z5 ?_|(refine A9 ?_ ?_;exact ⟨by kernel_rfl,by decide⟩)|refine A8 ?_ ?_|exact A7|refine A6 ?_ ?_|exact A5|(refine A0 ?_ ?_ ?_;kernel_rfl;kernel_rfl) | refine nc [0,1,2,3] [0,0,0,0] hq rfl rfl rfl ⟨rfl,rfl,rfl,rfl,trivial⟩ ?_) <;> (try (conv=>whnf)))
    all_goals first
     | (exfalso;omega)
     | exact B0 h0 rfl ⟨rfl,rfl,rfl,rfl,rfl,rfl,rfl,rfl,trivial⟩ ⟨rfl,⟨_,rfl⟩,⟨_,rfl⟩,⟨_,rfl⟩,⟨_,rfl⟩,trivial⟩ rfl rfl rfl
     | exact D5 (B0 h0 rfl ⟨rfl,trivial⟩ ⟨rfl,⟨_,rfl⟩,⟨_,rfl⟩,⟨_,rfl⟩,trivial⟩ rfl rfl rfl)
 ·rw [List.take_of_length_le (by omega),hR] at hI
  subst hI
  simp only [Prod.mk.injEq,F5.mk.injEq] at hF
  obtain ⟨⟨rfl,rfl,rfl,rfl⟩,rfl⟩:=hF
  clear hv
  repeat' ((first|refine A4 ?_|refine S1 ?_|refine Z1 ?_|refine Z2 ?_|(refine And.intro ?_ ?_<;>intro h<;>try first|(exfalso;omega)|exact absurd rfl h)|refine Z3 ?_|refine Z4 ?_|intro el hel hbB|intro el hel|intro ex|refine Z5 ?_|(refine A9 ?_ ?_;exact ⟨by kernel_rfl,by decide⟩)|refine A8 ?_ ?_|exact A7|refine A6 ?_ ?_|exact A5|(refine A0 ?_ ?_ ?_;kernel_rfl;kernel_rfl) | refine P8 4 ?_) <;> (try (conv=>whnf)))
  all_goals first
   | (exfalso;omega)
   | exact D5 (B0 h0 rfl ⟨rfl,trivial⟩ ⟨congrArg (fun z=>C6.box [.row 1 0 ls.length, .row 2 0 cs.length, .row 3 0 z, .i 2]) (by rw [List.length_append];rfl),⟨_,rfl⟩,⟨_,rfl⟩,⟨_,congrArg (C6.row I3 1 _) (by rw [List.map_append];rfl)⟩,trivial⟩ rfl rfl rfl)
end Go.Proofs.YtiphlhoclaogjabGreatDoor
