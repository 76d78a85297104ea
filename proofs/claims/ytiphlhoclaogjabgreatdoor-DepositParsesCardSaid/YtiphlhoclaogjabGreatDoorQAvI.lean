/- Chapter 3: the program's reader of files: lists and codes. -/
import Derived.Test.YtiphlhoclaogjabGreatDoorQKb7
import Derived.Test.YtiphlhoclaogjabGreatDoorQB12
import Derived.Test.YtiphlhoclaogjabGreatDoorQF7
import Derived.Test.YtiphlhoclaogjabGreatDoorQAvH
import Derived.Lib.AppendZeros
set_option linter.unusedVariables false
set_option linter.unnecessarySimpa false
set_option linter.unusedSimpArgs false
namespace Go.Proofs.YtiphlhoclaogjabGreatDoor
open Go Go.Av
attribute [local irreducible] D6 B8 D8 D7 DQ E0 E1 St.le B4 B9
set_option maxRecDepth 100000
abbrev J2:Nat:=49
abbrev I3:Nat:=29
abbrev g9 (l:CL):List AV:=[.str l.1, .own Bl 2 (l.2.map cA)]
def OD:List CL → List (List AV)
 | []=>[]
 | [l]=>[g9 l]
 | l :: m :: r=>D3 l :: OD (m :: r)
theorem Bp (X:List CL) (l:CL):OD (X ++ [l]) = X.map D3 ++ [g9 l]:=by
 induction X with
 | nil=>rfl
 | cons x X ih =>
   cases X with
   | nil=>rfl
   | cons y X=>exact congrArg (D3 x :: ·) ih
theorem Cy:∀ ls:List CL,ls.map D3 = (OD ls).map (·.map Ix)
 | []=>rfl
 | [l]=>rfl
 | l :: m :: r=>congrArg (D3 l :: ·) (Cy (m :: r))
theorem NJ:∀ l:List CL,∀ x ∈ l,y8 (D3 x) (D3 x):=fun _ _ _=>⟨rfl,rfl,trivial⟩
theorem NK {a b:List (List AV)} {x y:List AV} (h:Ex a b) (hx:y8 x y):Ex (a ++ [x]) (b ++ [y]):=by
 refine ⟨by rw [List.length_append,List.length_append,h.1];rfl,fun k z hz=>?_⟩
 by_cases hk:k < b.length
 ·rw [List.getElem?_append_left hk] at hz
  obtain ⟨u,hu,hn⟩:=h.2 k z hz
  exact ⟨u,by rw [List.getElem?_append_left (by rw [h.1];exact hk)];exact hu,hn⟩
 ·rw [List.getElem?_append_right (by omega)] at hz
  have h0:k - b.length = 0:=by
   have:=(List.getElem?_eq_some_iff.1 hz).1
   rw [List.length_singleton] at this;omega
  rw [h0] at hz
  cases hz
  refine ⟨x,?_,hx⟩
  rw [List.getElem?_append_right (by rw [h.1];omega),h.1,h0];rfl
theorem MS (X:List CL) (nm:List UInt8):Ex (X.map D3 ++ [[.str nm, .v (.slice none 0 0)]]) (OD (X ++ [(nm,[])])):=by
 rw [Bp]
 exact NK (PO fun x hx=>NJ X x hx) ⟨rfl,⟨rfl,rfl,by decide⟩,trivial⟩
abbrev Z9 (r:F5):List AV:=[.row 1 0 r.lists.length, .row 2 0 r.cols.length, .row 3 0 r.rows.length, .i r.st]
abbrev R8 (r:F5):Hp:=[(0,some (.box (Z9 r))),(1,some (.row K3 2 0 (r.lists.map D3))),(2,some (.row J2 7 0 (r.cols.map C0))),(3,some (.row I3 1 0 (r.rows.map D2)))]
abbrev AF (r:F5):Hp:=[(0,some (.box (Z9 r))),(1,some (.row (G0 + K3) 2 0 (OD r.lists))),(2,some (.row J2 7 0 (r.cols.map C0))),(3,some (.row I3 1 0 (r.rows.map D2)))]
set_option maxHeartbeats 4000000 in
theorem UK (r:F5) (w:List (List UInt8)) (hst:¬ r.st = 0):B9 Tryz.prog 68 4 (R8 r) [.ref 0 0, .sl 1 (w.map C1)] 4 (R8 r) (.b false):=by
 obtain ⟨ls,cs,rs,st⟩:=r
 dsimp only at hst ⊢
 dsimp only [R8,AF,Z9]
 refine J1 Tryz.func68 82 fun E h0=>?_
 repeat' ((first|refine A4 ?_|refine S1 ?_|refine Z1 ?_|refine Z2 ?_|(refine And.intro ?_ ?_<;>intro h<;>try first|(exfalso;omega)|exact absurd rfl h)|refine Z3 ?_|refine Z4 ?_|intro el hel hbB|intro el hel|intro ex|refine Z5 ?_|(refine A9 ?_ ?_;exact ⟨by kernel_rfl,by decide⟩)|refine A8 ?_ ?_|exact A7|refine A6 ?_ ?_|exact A5|(refine A0 ?_ ?_ ?_;kernel_rfl;kernel_rfl)) <;> (try (conv=>whnf)))
 all_goals first
  | (exfalso;omega)
  | exact D5 (B0 h0 rfl ⟨rfl,trivial⟩ ⟨rfl,⟨_,rfl⟩,⟨_,rfl⟩,⟨_,rfl⟩,trivial⟩ rfl rfl rfl)
set_option maxHeartbeats 4000000 in
theorem UL (r:F5) (w:List (List UInt8)) (hw:0 < w.length) (hst:r.st = 0) (h0:B6 w 0 = I8) (hl:¬ w.length = 2):B9 Tryz.prog 68 4 (AF r) [.ref 0 0, .sl 1 (w.map C1)] 4 (AF r) (.b false):=by
 obtain ⟨ls,cs,rs,st⟩:=r
 dsimp only at hst ⊢
 subst hst
 have g0:=C8 (ws:=w) (i:=0) hw
 rw [h0] at g0
 clear h0
 dsimp only [R8,AF,Z9]
 refine J1 Tryz.func68 82 fun E h0=>?_
 repeat' ((first | (refine A3 (x:=I8) g0 (by omega) ?_) |refine A4 ?_|refine S1 ?_|refine Z1 ?_|refine Z2 ?_|(refine And.intro ?_ ?_<;>intro h<;>try first|(exfalso;omega)|exact absurd rfl h)|refine Z3 ?_|refine Z4 ?_|intro el hel hbB|intro el hel|intro ex|refine Z5 ?_|(refine A9 ?_ ?_;exact ⟨by kernel_rfl,by decide⟩)|refine A8 ?_ ?_|exact A7|refine A6 ?_ ?_|exact A5|(refine A0 ?_ ?_ ?_;kernel_rfl;kernel_rfl)) <;> (try (conv=>whnf)))
 all_goals first
  | (exfalso;omega)
  | exact D5 (B0 h0 rfl ⟨rfl,trivial⟩ ⟨rfl,⟨_,rfl⟩,⟨_,rfl⟩,⟨_,rfl⟩,trivial⟩ rfl rfl rfl)
set_option maxHeartbeats 4000000 in
theorem Rj (r:F5) (w:List (List UInt8)) (hn:r.lists.length ≤ 20000) (hst:r.st = 0) (h0:B6 w 0 = I8) (hl:w.length = 2):B9 Tryz.prog 68 4 (AF r) [.ref 0 0, .sl 1 (w.map C1)] 4 (AF ⟨r.lists ++ [(B6 w 1,[])],r.cols,r.rows,r.st⟩) (.b true):=by
 obtain ⟨ls,cs,rs,st⟩:=r
 dsimp only at hst hn ⊢
 subst hst
 have g0:=C8 (ws:=w) (i:=0) (by omega)
 have g1:=C8 (ws:=w) (i:=1) (by omega)
 rw [h0] at g0
 clear h0
 generalize B6 w 1 = nm at *
 have hnn:=MS ls nm
 have hun:=Cy ls
 have hlen:ls.length + 1 = (ls ++ [(nm,([]:List Code))]).length:=by simp
 dsimp only [R8,AF,Z9]
 refine J1 Tryz.func68 82 fun E h0=>?_
 refine O6 (C3 (CM (i:=1) (l':=ls.map D3) (.inl rfl) rfl (by decide) hun) (B0 (σ':=⟨[(0, .ref 0 0),(1, .sl 1 (w.map C1))],4,R8 ⟨ls,cs,rs,0⟩⟩) h0 rfl ⟨rfl,rfl,trivial⟩ ⟨rfl,⟨_,rfl⟩,⟨_,rfl⟩,⟨_,rfl⟩,trivial⟩ rfl rfl rfl)) ?_
 repeat' ((first | (refine A3 (x:=I8) g0 (by omega) ?_) | (refine A3 (x:=nm) g1 (by omega) ?_) | (refine G6 (id:=6) ⟨[(0, .ref 0 0),(1, .sl 1 (w.map C1))],4,[(0,some (.box [.row 1 0 (ls.length + 1), .row 2 0 cs.length, .row 3 0 rs.length, .i 0])),(1,some (.row K3 2 0 (ls.map D3 ++ [[.str nm, .v (.slice none 0 0)]]))),(2,some (.row J2 7 0 (cs.map C0))),(3,some (.row I3 1 0 (rs.map D2)))]⟩ ?_ ?_) |refine A4 ?_|refine S1 ?_|refine Z1 ?_|refine Z2 ?_|(refine And.intro ?_ ?_<;>intro h<;>try first|(exfalso;omega)|exact absurd rfl h)|refine Z3 ?_|refine Z4 ?_|intro el hel hbB|intro el hel|intro ex|refine Z5 ?_|(refine A9 ?_ ?_;exact ⟨by kernel_rfl,by decide⟩)|refine A8 ?_ ?_|exact A7|refine A6 ?_ ?_|exact A5|(refine A0 ?_ ?_ ?_;kernel_rfl;kernel_rfl)) <;> (try (conv=>whnf)))
 all_goals first
  | (exfalso;omega)
  | exact B0 h0 rfl ⟨rfl,rfl,trivial⟩ ⟨rfl,⟨_,rfl⟩,⟨_,rfl⟩,⟨_,rfl⟩,trivial⟩ rfl rfl rfl
  | exact D5 (C3 (Fb (i:=1) (.inl rfl) rfl (fun h=>absurd h (by decide)) (by decide) hnn) (B0 h0 rfl ⟨rfl,trivial⟩ ⟨congrArg (fun z=>C6.box [.row 1 0 z, .row 2 0 cs.length, .row 3 0 rs.length, .i 0]) hlen.symm,⟨_,rfl⟩,⟨_,rfl⟩,⟨_,rfl⟩,trivial⟩ rfl rfl rfl))
set_option maxHeartbeats 4000000 in
theorem Rk (r:F5) (w:List (List UInt8)) (hw:0 < w.length) (hst:r.st = 0) (h1:¬ B6 w 0 = I8) (hl:¬ w.length = 3 ∨ r.lists = []):B9 Tryz.prog 68 4 (AF r) [.ref 0 0, .sl 1 (w.map C1)] 4 (AF r) (.b false):=by
 obtain ⟨ls,cs,rs,st⟩:=r
 dsimp only at hst hl ⊢
 subst hst
 have g0:=C8 (ws:=w) (i:=0) hw
 generalize B6 w 0 = w0 at *
 have hl2:¬ w.length = 3 ∨ ls.length = 0:=hl.imp id fun h=>by rw [h];rfl
 clear hl
 dsimp only [R8,AF,Z9]
 refine J1 Tryz.func68 82 fun E h0=>?_
 repeat' ((first | (refine A3 (x:=w0) g0 (by omega) ?_) |refine A4 ?_|refine S1 ?_|refine Z1 ?_|refine Z2 ?_|(refine And.intro ?_ ?_<;>intro h<;>try first|(exfalso;omega)|exact absurd rfl h)|refine Z3 ?_|refine Z4 ?_|intro el hel hbB|intro el hel|intro ex|refine Z5 ?_|(refine A9 ?_ ?_;exact ⟨by kernel_rfl,by decide⟩)|refine A8 ?_ ?_|exact A7|refine A6 ?_ ?_|exact A5|(refine A0 ?_ ?_ ?_;kernel_rfl;kernel_rfl)) <;> (try (conv=>whnf)))
 all_goals first
  | (exfalso;omega)
  | contradiction
  | exact D5 (B0 h0 rfl ⟨rfl,trivial⟩ ⟨rfl,⟨_,rfl⟩,⟨_,rfl⟩,⟨_,rfl⟩,trivial⟩ rfl rfl rfl)
theorem Jw (X:List CL) (a b:List AV):(X.map D3 ++ [a]).set X.length b = X.map D3 ++ [b]:=by
 rw [List.set_append_right _ _ (by rw [List.length_map];exact Nat.le_refl _),List.length_map,Nat.sub_self];rfl
set_option maxHeartbeats 8000000 in
theorem Pa (X:List CL) (l:CL) (cs:List C5) (rs:List (List Int)) (w:List (List UInt8)) (hn:X.length ≤ 20000) (hm:l.2.length ≤ 20000) (h1:¬ B6 w 0 = I8) (hl:w.length = 3) (hz:(B6 w 2).length ≤ 20000):B9 Tryz.prog 68 4 (AF ⟨X ++ [l],cs,rs,0⟩) [.ref 0 0, .sl 1 (w.map C1)] 4 (AF ⟨X ++ [(l.1,l.2 ++ [⟨B6 w 1,(H4 (B6 w 2)).1⟩])],cs,rs,0⟩) (.b (H4 (B6 w 2)).2):=by
 have g0:=C8 (ws:=w) (i:=0) (by omega)
 have g1:=C8 (ws:=w) (i:=1) (by omega)
 have g2:=C8 (ws:=w) (i:=2) (by omega)
 have hq:=x9 (B6 w 2) (by omega)
 generalize B6 w 0 = w0 at *
 generalize B6 w 1 = nm at *
 generalize B6 w 2 = z at *
 generalize H4 z = q at *
 obtain ⟨n,ok⟩:=q
 dsimp only at hq ⊢
 obtain ⟨lm,lc⟩:=l
 dsimp only at hm ⊢
 have e1:=Bp X (lm,lc)
 have e2:=Bp X (lm,lc ++ [⟨nm,n⟩])
 have hlen:(X ++ [(lm,lc)]).length = X.length + 1:=by simp
 have hlen2:(X ++ [(lm,lc ++ [(⟨nm,n⟩:Code)])]).length = X.length + 1:=by simp
 dsimp only [AF,Z9]
 rw [e1,e2,hlen,hlen2]
 clear e1 e2 hlen hlen2
 have hK:((((X.length + 1:Nat):Int)) - 1).toNat = X.length:=by omega
 have hk:(X.map D3 ++ [g9 (lm,lc)])[X.length]? = some [.str lm, .own Bl 2 (lc.map cA)]:=by
  rw [List.getElem?_append_right (by rw [List.length_map];exact Nat.le_refl _),List.length_map,Nat.sub_self];rfl
 have hk2:((X.map D3 ++ [g9 (lm,lc)]).set X.length [.str lm, .any])[X.length]? = some [.str lm, .any]:=List.getElem?_set_self (by simp)
 have hset:((X.map D3 ++ [g9 (lm,lc)]).set X.length [.str lm, .any]).set X.length [.str lm, .own Bl 2 (lc.map cA ++ [[.str nm, .i n]])] = X.map D3 ++ [g9 (lm,lc ++ [⟨nm,n⟩])]:=by
  rw [List.set_set,Jw X _ _]
  show _ = X.map D3 ++ [[.str lm, .own Bl 2 ((lc ++ [(⟨nm,n⟩:Code)]).map cA)]]
  rw [List.map_append];rfl
 refine J1 Tryz.func68 82 fun E h0=>?_
 repeat' ((first | (refine A3 (x:=w0) g0 (by omega) ?_) | (refine A3 (x:=z) g2 (by omega) ?_) | (refine A3 (x:=nm) g1 (by omega) ?_) | refine B2 hq ?_ | (refine G2 12 ?_;refine K5 (id:=12) (σ':=⟨[(1, .sl 1 (w.map C1)),(5, .i n),(6, .b ok),(7, .elt 1 0 X.length 0)],4,[(0,some (.box [.row 1 0 (X.length + 1), .row 2 0 cs.length, .row 3 0 rs.length, .i 0])),(1,some (.row (G0 + K3) 2 0 (X.map D3 ++ [g9 (lm,lc)]))),(2,some (.row J2 7 0 (cs.map C0))),(3,some (.row I3 1 0 (rs.map D2)))]⟩) (B0 h0 rfl ⟨rfl,rfl,rfl,congrArg (fun z=>some (AV.elt 1 0 z 0)) hK,trivial⟩ ⟨rfl,⟨_,rfl⟩,⟨_,rfl⟩,⟨_,rfl⟩,trivial⟩ rfl rfl rfl) ?_;refine G6 (id:=12) ⟨[(6, .b ok)],4,[(0,some (.box [.row 1 0 (X.length + 1), .row 2 0 cs.length, .row 3 0 rs.length, .i 0])),(1,some (.row (G0 + K3) 2 0 (X.map D3 ++ [g9 (lm,lc ++ [⟨nm,n⟩])]))),(2,some (.row J2 7 0 (cs.map C0))),(3,some (.row I3 1 0 (rs.map D2)))]⟩ ?_ ?_) | refine Jn (i:=1) hk rfl rfl rfl rfl rfl ?_ | refine Jo (i:=1) hk2 rfl rfl rfl rfl rfl rfl rfl rfl rfl ?_ |refine A4 ?_|refine S1 ?_|refine Z1 ?_|refine Z2 ?_|(refine And.intro ?_ ?_<;>intro h<;>try first|(exfalso;omega)|exact absurd rfl h)|refine Z3 ?_|refine Z4 ?_|intro el hel hbB|intro el hel|intro ex|refine Z5 ?_|(refine A9 ?_ ?_;exact ⟨by kernel_rfl,by decide⟩)|refine A8 ?_ ?_|exact A7|refine A6 ?_ ?_|exact A5|(refine A0 ?_ ?_ ?_;kernel_rfl;kernel_rfl)) <;> (try (conv=>whnf)))
 all_goals first
  | (exfalso;omega)
  | contradiction
  | exact B0 h0 rfl ⟨rfl,trivial⟩ ⟨rfl,⟨_,congrArg (C6.row (G0 + K3) 2 _) hset⟩,⟨_,rfl⟩,⟨_,rfl⟩,trivial⟩ rfl rfl rfl
  | exact B0 h0 rfl ⟨rfl,trivial⟩ ⟨rfl,⟨_,congrArg (C6.row (G0 + K3) 2 _) hset.symm⟩,⟨_,rfl⟩,⟨_,rfl⟩,trivial⟩ rfl rfl rfl
  | exact D5 (B0 h0 rfl ⟨rfl,trivial⟩ ⟨rfl,⟨_,rfl⟩,⟨_,rfl⟩,⟨_,rfl⟩,trivial⟩ rfl rfl rfl)
end Go.Proofs.YtiphlhoclaogjabGreatDoor
namespace Go.Av
open Go Go.RowKit
section rules
variable {P:Program} {E:Env} {n:Nat} {ops:Array Oper} {rest:List Oper} {σ:St} {K:St → Prop} {ty:TypeId} {pos:String} {after:Array Edge} {x y:Operand}
theorem MT {d T e sz:Nat} [ts:K8 P T e sz] (hx:F1 σ x = some (.v (.slice none 0 0))) (hd:Nat.blt d n = true) (k:B8 P E n ops rest (σ.put d (.i 0)) K):B8 P E n ops (⟨some d, .call ⟨.builtin .cap, #[x], #[T]⟩,ty,pos,after,none⟩ :: rest) σ K :=
 Ch (E2 fun _ _ _ θ a w h=>⟨.int .i64 0,by
  rw [O8,(h.rel hx).val]
  simp [builtin,Builtin.cap_,run_underlying ts.out.1,Sem.run_bind,Sem.run_pure,goInt], .im (.v _)⟩) hd k
theorem JB {d T e sz:Nat} [ts:K8 P T e sz] {lo hi:Option Operand} (hx:F1 σ x = some (.v (.slice none 0 0))) (hl:Y9 (F1 σ) 0 lo = some 0) (hh:Y9 (F1 σ) 0 hi = some 0) (hd:Nat.blt d n = true)
  (k:B8 P E n ops rest (σ.put d (.v (.slice none 0 0))) K):B8 P E n ops (⟨some d, .slice T x lo hi none,ty,pos,after,none⟩ :: rest) σ K :=
 Ch (E2 fun _ _ _ θ a w hs=>by
  obtain ⟨hu,inf,hi2,hsz⟩:=ts.out
  have hv:=(hs.rel hx).val
  have hb:=k6 (P:=P) (isS:=true) (cap:=0) hs hl hh (Int.le_refl 0) (Int.le_refl 0) (by decide)
  refine ⟨.slice none 0 0,?_, .im (.v _)⟩
  simp only [execOp,hv,Instr.sliceAt,Instr.slice,Sem.run_bind,run_underlying hu,Result.andThen_ok,Option.map_none,hb,Sem.run_pure,sizeOf,typeInfo,program,Sem.run,hi2]
  rfl) hd k
theorem Fg {d T U e sz by_:Nat} {kn:IntKind} {z:List Value} [ts:K8 P T e sz] [ti:O0 P U kn] [tz:I1 P e z] [tb:M1 P e by_] {m:Int} (hx:F1 σ x = some (.v (.slice none 0 0))) (hy:F1 σ y = some (.v (.int .i64 m))) (h0:0 < m)
  (hb:m.toNat * by_ ≤ 140737488355328) (hz:z.length = sz) (hpos:Nat.blt 0 sz = true) (hmx:m ≤ 4611686018427387904) (hek:Nat.blt e E9 = true) (hd:Nat.blt d n = true)
  (k:B8 P E n ops rest ((σ.new (.row e sz 0 (List.replicate m.toNat (z.map R4)))).put d (.row σ.nx 0 m.toNat)) K):B8 P E n ops (⟨some d, .call ⟨.builtin .append, #[x,y], #[T,U]⟩,ty,pos,after,none⟩ :: rest) σ K :=
 f5 hd (fun θ a w h=>by
  obtain ⟨hu,i,hi,hsz⟩:=ts.out
  obtain ⟨i2,zv,hi2,hzv,hzc⟩:=tz.out
  obtain ⟨i3,hi3,hby⟩:=tb.out
  rw [hi] at hi2 hi3
  cases hi2;cases hi3
  have hpos:=Nat.blt_eq ▸ hpos
  have hek:=Nat.blt_eq ▸ hek
  obtain ⟨q,rfl⟩:∃ q:Nat,m = q:=⟨m.toNat,by omega⟩
  rw [Int.toNat_natCast] at hb ⊢
  have hr:=Lib.run_append_nil_zeros (P:=P) w T U ty e i zv .i64 kn hu ti.out hi hzv q (by omega) (by omega) (by omega) (by rw [hby];omega)
  have hcap:grownCap w q 0 e ≤ maxLen:=grownCap_le_maxLen w _ 0 e (by unfold maxLen;omega)
  have hge:=grownCap_ge w q 0 e
  generalize grownCap w q 0 e = cap at hr hcap hge
  have hlen:(List.replicate q (z.map R4)).length = q:=by simp
  have hzz:zv.cells.size = sz:=by rw [hzc,List.size_toArray,hz]
  have hs1:(Builtin.zeroCells zv.cells q).size = q * sz:=by simp [Builtin.zeroCells,hzz]
  have hs2:(Builtin.zeroCells zv.cells (cap - q)).size = (cap - q) * sz:=by simp [Builtin.zeroCells,hzz]
  refine ⟨.slice (some ⟨w.heap.size,0,none⟩) q cap, .slice (some ⟨w.heap.size,0,none⟩) q cap,w.drew.alloc (.cells (Builtin.zeroCells zv.cells q ++ Builtin.zeroCells zv.cells (cap - q)) e),?_,p3 w _,DI (Nat.le_refl _),fun le=>?_⟩
  ·rw [O9,(h.rel hx).val,(h.rel hy).val]
   simp only [builtin,Sem.run_bind,hr,Result.andThen_ok,Sem.run_pure]
  ·have key:=GO (E:=E) (σ:=σ) (θ:=θ) (w:=w) (w':=w.drew.alloc (.cells (Builtin.zeroCells zv.cells q ++ Builtin.zeroCells zv.cells (cap - q)) e)) (xs:=(Builtin.zeroCells zv.cells q).toList) (rest:=(Builtin.zeroCells zv.cells (cap - q)).toList) (e:=e) (sz:=sz) (g:=w.heap.size) (cap:=cap) (l:=List.replicate q (z.map R4))
    hek (Nat.le_refl _) (by
     have:=heap_alloc_new w.drew (.cells (Builtin.zeroCells zv.cells q ++ Builtin.zeroCells zv.cells (cap - q)) e)
     have e1:((Builtin.zeroCells zv.cells q).toList ++ (Builtin.zeroCells zv.cells (cap - q)).toList).toArray = Builtin.zeroCells zv.cells q ++ Builtin.zeroCells zv.cells (cap - q):=by
      rw [← Array.toList_append]
     rw [e1]
     exact this) (by rw [hlen,Array.length_toList,hs1]) (by rw [hlen];exact hge) hcap (by
     rw [List.length_append,Array.length_toList,Array.length_toList,hs1,hs2, ← Nat.add_mul]
     congr 1;omega) (fun el hel=>by rw [List.eq_of_mem_replicate hel];simp [hz]) (fun k el hk j u hu2=>?_) (by rw [hlen];exact le)
   ·rw [hlen] at key;exact key
   ·obtain ⟨hklt,hkeq⟩:=List.getElem?_eq_some_iff.1 hk
    have hel:el = z.map R4:=by rw [← hkeq];simp
    subst hel
    rw [hlen] at hklt
    simp only [List.getElem?_map,Option.map_eq_some_iff] at hu2
    obtain ⟨v,hv,rfl⟩:=hu2
    have hj:j < sz:=by rw [← hz];exact (List.getElem?_eq_some_iff.1 hv).1
    have hin:k * sz + j < q * zv.cells.size:=by
     rw [hzz]
     have:(k + 1) * sz ≤ q * sz:=Nat.mul_le_mul_right _ hklt
     rw [Nat.add_mul,Nat.one_mul] at this
     omega
    refine ⟨v,?_,BV _⟩
    have hmod:(k * sz + j) % sz = j:=by rw [Nat.mul_comm,Nat.mul_add_mod,Nat.mod_eq_of_lt hj]
    simp only [Builtin.zeroCells,Array.getElem?_toList,Array.getElem?_map,Array.getElem?_range,hin]
    simp only [if_true,Option.map_some,Option.some.injEq,hzz,hmod]
    rw [hzc,List.getElem!_toArray,List.getElem!_eq_getElem?_getD,hv]
    rfl) k (H7 (AH (Nat.blt_eq ▸ hek)))
end rules
end Go.Av
