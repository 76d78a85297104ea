/- Chapter 3: the program's reader of files: lists and codes. -/
import Derived.Test.YtiphlhoclaogjabGreatDoorQKb7
import Derived.Test.YtiphlhoclaogjabGreatDoorQB12
import Derived.Test.YtiphlhoclaogjabGreatDoorQF7
import Derived.Test.YtiphlhoclaogjabGreatDoorQAvH
import Derived.Lib.AppendZeros
set_option linter.unusedVariables false
set_option linter.unnecessarySimpa false
set_option linter.unusedSimpArgs false
namespace Go.Proofs.YtiphlhoclaogjabGreatDoor
open Go Go.Av
attribute [local irreducible] D1 B5 D5 D3 DQ D7 E0 St.le B3 B6
set_option maxRecDepth 100000
abbrev O6:Nat:=49
abbrev S7:Nat:=29
abbrev BC (l:CL):List AV:=[.str l.1, .own EA 2 (l.2.map cA)]
def OT:List CL → List (List AV)
 | []=>[]
 | [l]=>[BC l]
 | l :: m :: r=>F2 l :: OT (m :: r)
theorem Gb (X:List CL) (l:CL):OT (X ++ [l]) = X.map F2 ++ [BC l]:=by
 induction X with
 | nil=>rfl
 | cons x X ih =>
   cases X with
   | nil=>rfl
   | cons y X=>exact congrArg (F2 x :: ·) ih
theorem JE:∀ ls:List CL,ls.map F2 = (OT ls).map (·.map JB)
 | []=>rfl
 | [l]=>rfl
 | l :: m :: r=>congrArg (F2 l :: ·) (JE (m :: r))
theorem NZ:∀ l:List CL,∀ x ∈ l,z1 (F2 x) (F2 x):=fun _ _ _=>⟨rfl,rfl,trivial⟩
theorem Na {a b:List (List AV)} {x y:List AV} (h:Es a b) (hx:z1 x y):Es (a ++ [x]) (b ++ [y]):=by
 refine ⟨by rw [List.length_append,List.length_append,h.1];rfl,fun k z hz=>?_⟩
 by_cases hk:k < b.length
 ·rw [List.getElem?_append_left hk] at hz
  obtain ⟨u,hu,hn⟩:=h.2 k z hz
  exact ⟨u,by rw [List.getElem?_append_left (by rw [h.1];exact hk)];exact hu,hn⟩
 ·rw [List.getElem?_append_right (by omega)] at hz
  have h0:k - b.length = 0:=by
   have:=(List.getElem?_eq_some_iff.1 hz).1
   rw [List.length_singleton] at this;omega
  rw [h0] at hz
  cases hz
  refine ⟨x,?_,hx⟩
  rw [List.getElem?_append_right (by rw [h.1];omega),h.1,h0];rfl
theorem Um (X:List CL) (nm:List UInt8):Es (X.map F2 ++ [[.str nm, .v (.slice none 0 0)]]) (OT (X ++ [(nm,[])])):=by
 rw [Gb]
 exact Na (Pg fun x hx=>NZ X x hx) ⟨rfl,⟨rfl,rfl,by decide⟩,trivial⟩
abbrev Z7 (r:D6):List AV:=[.row 1 0 r.lists.length, .row 2 0 r.cols.length, .row 3 0 r.rows.length, .i r.st]
abbrev R4 (r:D6):Hp:=[(0,some (.box (Z7 r))),(1,some (.row N5 2 0 (r.lists.map F2))),(2,some (.row O6 7 0 (r.cols.map C2))),(3,some (.row S7 1 0 (r.rows.map D8)))]
abbrev AD (r:D6):Hp:=[(0,some (.box (Z7 r))),(1,some (.row (G4 + N5) 2 0 (OT r.lists))),(2,some (.row O6 7 0 (r.cols.map C2))),(3,some (.row S7 1 0 (r.rows.map D8)))]
set_option maxHeartbeats 4000000 in
theorem Un (r:D6) (w:List (List UInt8)) (hst:¬ r.st = 0):B6 Tryz.prog 68 4 (R4 r) [.ref 0 0, .sl 1 (w.map E2)] 4 (R4 r) (.b false):=by
 obtain ⟨ls,cs,rs,st⟩:=r
 dsimp only at hst ⊢
 dsimp only [R4,AD,Z7]
 refine M6 Tryz.func68 82 fun E h0=>?_
 repeat' ((first|refine A1 ?_|refine S1 ?_|refine Z1 ?_|refine Z2 ?_|(refine And.intro ?_ ?_<;>intro h<;>try first|(exfalso;omega)|exact absurd rfl h)|refine Z3 ?_|refine Z4 ?_|intro el hel hbB|intro el hel|intro ex|refine Z5 ?_|(refine A6 ?_ ?_;exact ⟨by kernel_rfl,by decide⟩)|refine A5 ?_ ?_|exact A4|refine A3 ?_ ?_|exact A2|(refine A0 ?_ ?_ ?_;kernel_rfl;kernel_rfl)) <;> (try (conv=>whnf)))
 all_goals first
  | (exfalso;omega)
  | exact C9 (A8 h0 rfl ⟨rfl,trivial⟩ ⟨rfl,⟨_,rfl⟩,⟨_,rfl⟩,⟨_,rfl⟩,trivial⟩ rfl rfl rfl)
set_option maxHeartbeats 4000000 in
theorem Uo (r:D6) (w:List (List UInt8)) (hw:0 < w.length) (hst:r.st = 0) (h0:B9 w 0 = G6) (hl:¬ w.length = 2):B6 Tryz.prog 68 4 (AD r) [.ref 0 0, .sl 1 (w.map E2)] 4 (AD r) (.b false):=by
 obtain ⟨ls,cs,rs,st⟩:=r
 dsimp only at hst ⊢
 subst hst
 have g0:=H1 (ws:=w) (i:=0) hw
 rw [h0] at g0
 clear h0
 dsimp only [R4,AD,Z7]
 refine M6 Tryz.func68 82 fun E h0=>?_
 repeat' ((first | (refine A7 (x:=G6) g0 (by omega) ?_) |refine A1 ?_|refine S1 ?_|refine Z1 ?_|refine Z2 ?_|(refine And.intro ?_ ?_<;>intro h<;>try first|(exfalso;omega)|exact absurd rfl h)|refine Z3 ?_|refine Z4 ?_|intro el hel hbB|intro el hel|intro ex|refine Z5 ?_|(refine A6 ?_ ?_;exact ⟨by kernel_rfl,by decide⟩)|refine A5 ?_ ?_|exact A4|refine A3 ?_ ?_|exact A2|(refine A0 ?_ ?_ ?_;kernel_rfl;kernel_rfl)) <;> (try (conv=>whnf)))
 all_goals first
  | (exfalso;omega)
  | exact C9 (A8 h0 rfl ⟨rfl,trivial⟩ ⟨rfl,⟨_,rfl⟩,⟨_,rfl⟩,⟨_,rfl⟩,trivial⟩ rfl rfl rfl)
set_option maxHeartbeats 4000000 in
theorem SE (r:D6) (w:List (List UInt8)) (hn:r.lists.length ≤ 20000) (hst:r.st = 0) (h0:B9 w 0 = G6) (hl:w.length = 2):B6 Tryz.prog 68 4 (AD r) [.ref 0 0, .sl 1 (w.map E2)] 4 (AD ⟨r.lists ++ [(B9 w 1,[])],r.cols,r.rows,r.st⟩) (.b true):=by
 obtain ⟨ls,cs,rs,st⟩:=r
 dsimp only at hst hn ⊢
 subst hst
 have g0:=H1 (ws:=w) (i:=0) (by omega)
 have g1:=H1 (ws:=w) (i:=1) (by omega)
 rw [h0] at g0
 clear h0
 generalize B9 w 1 = nm at *
 have hnn:=Um ls nm
 have hun:=JE ls
 have hlen:ls.length + 1 = (ls ++ [(nm,([]:List Code))]).length:=by simp
 dsimp only [R4,AD,Z7]
 refine M6 Tryz.func68 82 fun E h0=>?_
 refine u5 (C7 (Ju (i:=1) (l':=ls.map F2) (.inl rfl) rfl (by decide) hun) (A8 (σ':=⟨[(0, .ref 0 0),(1, .sl 1 (w.map E2))],4,R4 ⟨ls,cs,rs,0⟩⟩) h0 rfl ⟨rfl,rfl,trivial⟩ ⟨rfl,⟨_,rfl⟩,⟨_,rfl⟩,⟨_,rfl⟩,trivial⟩ rfl rfl rfl)) ?_
 repeat' ((first | (refine A7 (x:=G6) g0 (by omega) ?_) | (refine A7 (x:=nm) g1 (by omega) ?_) | (refine I3 (id:=6) ⟨[(0, .ref 0 0),(1, .sl 1 (w.map E2))],4,[(0,some (.box [.row 1 0 (ls.length + 1), .row 2 0 cs.length, .row 3 0 rs.length, .i 0])),(1,some (.row N5 2 0 (ls.map F2 ++ [[.str nm, .v (.slice none 0 0)]]))),(2,some (.row O6 7 0 (cs.map C2))),(3,some (.row S7 1 0 (rs.map D8)))]⟩ ?_ ?_) |refine A1 ?_|refine S1 ?_|refine Z1 ?_|refine Z2 ?_|(refine And.intro ?_ ?_<;>intro h<;>try first|(exfalso;omega)|exact absurd rfl h)|refine Z3 ?_|refine Z4 ?_|intro el hel hbB|intro el hel|intro ex|refine Z5 ?_|(refine A6 ?_ ?_;exact ⟨by kernel_rfl,by decide⟩)|refine A5 ?_ ?_|exact A4|refine A3 ?_ ?_|exact A2|(refine A0 ?_ ?_ ?_;kernel_rfl;kernel_rfl)) <;> (try (conv=>whnf)))
 all_goals first
  | (exfalso;omega)
  | exact A8 h0 rfl ⟨rfl,rfl,trivial⟩ ⟨rfl,⟨_,rfl⟩,⟨_,rfl⟩,⟨_,rfl⟩,trivial⟩ rfl rfl rfl
  | exact C9 (C7 (OO (i:=1) (.inl rfl) rfl (fun h=>absurd h (by decide)) (by decide) hnn) (A8 h0 rfl ⟨rfl,trivial⟩ ⟨congrArg (fun z=>C0.box [.row 1 0 z, .row 2 0 cs.length, .row 3 0 rs.length, .i 0]) hlen.symm,⟨_,rfl⟩,⟨_,rfl⟩,⟨_,rfl⟩,trivial⟩ rfl rfl rfl))
set_option maxHeartbeats 4000000 in
theorem SF (r:D6) (w:List (List UInt8)) (hw:0 < w.length) (hst:r.st = 0) (h1:¬ B9 w 0 = G6) (hl:¬ w.length = 3 ∨ r.lists = []):B6 Tryz.prog 68 4 (AD r) [.ref 0 0, .sl 1 (w.map E2)] 4 (AD r) (.b false):=by
 obtain ⟨ls,cs,rs,st⟩:=r
 dsimp only at hst hl ⊢
 subst hst
 have g0:=H1 (ws:=w) (i:=0) hw
 generalize B9 w 0 = w0 at *
 have hl2:¬ w.length = 3 ∨ ls.length = 0:=hl.imp id fun h=>by rw [h];rfl
 clear hl
 dsimp only [R4,AD,Z7]
 refine M6 Tryz.func68 82 fun E h0=>?_
 repeat' ((first | (refine A7 (x:=w0) g0 (by omega) ?_) |refine A1 ?_|refine S1 ?_|refine Z1 ?_|refine Z2 ?_|(refine And.intro ?_ ?_<;>intro h<;>try first|(exfalso;omega)|exact absurd rfl h)|refine Z3 ?_|refine Z4 ?_|intro el hel hbB|intro el hel|intro ex|refine Z5 ?_|(refine A6 ?_ ?_;exact ⟨by kernel_rfl,by decide⟩)|refine A5 ?_ ?_|exact A4|refine A3 ?_ ?_|exact A2|(refine A0 ?_ ?_ ?_;kernel_rfl;kernel_rfl)) <;> (try (conv=>whnf)))
 all_goals first
  | (exfalso;omega)
  | contradiction
  | exact C9 (A8 h0 rfl ⟨rfl,trivial⟩ ⟨rfl,⟨_,rfl⟩,⟨_,rfl⟩,⟨_,rfl⟩,trivial⟩ rfl rfl rfl)
theorem SG (X:List CL) (a b:List AV):(X.map F2 ++ [a]).set X.length b = X.map F2 ++ [b]:=by
 rw [List.set_append_right _ _ (by rw [List.length_map];exact Nat.le_refl _),List.length_map,Nat.sub_self];rfl
set_option maxHeartbeats 8000000 in
theorem Pq (X:List CL) (l:CL) (cs:List C1) (rs:List (List Int)) (w:List (List UInt8)) (hn:X.length ≤ 20000) (hm:l.2.length ≤ 20000) (h1:¬ B9 w 0 = G6) (hl:w.length = 3) (hz:(B9 w 2).length ≤ 20000):B6 Tryz.prog 68 4 (AD ⟨X ++ [l],cs,rs,0⟩) [.ref 0 0, .sl 1 (w.map E2)] 4 (AD ⟨X ++ [(l.1,l.2 ++ [⟨B9 w 1,(H8 (B9 w 2)).1⟩])],cs,rs,0⟩) (.b (H8 (B9 w 2)).2):=by
 have g0:=H1 (ws:=w) (i:=0) (by omega)
 have g1:=H1 (ws:=w) (i:=1) (by omega)
 have g2:=H1 (ws:=w) (i:=2) (by omega)
 have hq:=y8 (B9 w 2) (by omega)
 generalize B9 w 0 = w0 at *
 generalize B9 w 1 = nm at *
 generalize B9 w 2 = z at *
 generalize H8 z = q at *
 obtain ⟨n,ok⟩:=q
 dsimp only at hq ⊢
 obtain ⟨lm,lc⟩:=l
 dsimp only at hm ⊢
 have e1:=Gb X (lm,lc)
 have e2:=Gb X (lm,lc ++ [⟨nm,n⟩])
 have hlen:(X ++ [(lm,lc)]).length = X.length + 1:=by simp
 have hlen2:(X ++ [(lm,lc ++ [(⟨nm,n⟩:Code)])]).length = X.length + 1:=by simp
 dsimp only [AD,Z7]
 rw [e1,e2,hlen,hlen2]
 clear e1 e2 hlen hlen2
 have hK:((((X.length + 1:Nat):Int)) - 1).toNat = X.length:=by omega
 have hk:(X.map F2 ++ [BC (lm,lc)])[X.length]? = some [.str lm, .own EA 2 (lc.map cA)]:=by
  rw [List.getElem?_append_right (by rw [List.length_map];exact Nat.le_refl _),List.length_map,Nat.sub_self];rfl
 have hk2:((X.map F2 ++ [BC (lm,lc)]).set X.length [.str lm, .any])[X.length]? = some [.str lm, .any]:=List.getElem?_set_self (by simp)
 have hset:((X.map F2 ++ [BC (lm,lc)]).set X.length [.str lm, .any]).set X.length [.str lm, .own EA 2 (lc.map cA ++ [[.str nm, .i n]])] = X.map F2 ++ [BC (lm,lc ++ [⟨nm,n⟩])]:=by
  rw [List.set_set,SG X _ _]
  show _ = X.map F2 ++ [[.str lm, .own EA 2 ((lc ++ [(⟨nm,n⟩:Code)]).map cA)]]
  rw [List.map_append];rfl
 refine M6 Tryz.func68 82 fun E h0=>?_
 repeat' ((first | (refine A7 (x:=w0) g0 (by omega) ?_) | (refine A7 (x:=z) g2 (by omega) ?_) | (refine A7 (x:=nm) g1 (by omega) ?_) | refine A9 hq ?_ | (refine G1 12 ?_;refine K1 (id:=12) (σ':=⟨[(1, .sl 1 (w.map E2)),(5, .i n),(6, .b ok),(7, .elt 1 0 X.length 0)],4,[(0,some (.box [.row 1 0 (X.length + 1), .row 2 0 cs.length, .row 3 0 rs.length, .i 0])),(1,some (.row (G4 + N5) 2 0 (X.map F2 ++ [BC (lm,lc)]))),(2,some (.row O6 7 0 (cs.map C2))),(3,some (.row S7 1 0 (rs.map D8)))]⟩) (A8 h0 rfl ⟨rfl,rfl,rfl,congrArg (fun z=>some (AV.elt 1 0 z 0)) hK,trivial⟩ ⟨rfl,⟨_,rfl⟩,⟨_,rfl⟩,⟨_,rfl⟩,trivial⟩ rfl rfl rfl) ?_;refine I3 (id:=12) ⟨[(6, .b ok)],4,[(0,some (.box [.row 1 0 (X.length + 1), .row 2 0 cs.length, .row 3 0 rs.length, .i 0])),(1,some (.row (G4 + N5) 2 0 (X.map F2 ++ [BC (lm,lc ++ [⟨nm,n⟩])]))),(2,some (.row O6 7 0 (cs.map C2))),(3,some (.row S7 1 0 (rs.map D8)))]⟩ ?_ ?_) | refine Rr (i:=1) hk rfl rfl rfl rfl rfl ?_ | refine Rs (i:=1) hk2 rfl rfl rfl rfl rfl rfl rfl rfl rfl ?_ |refine A1 ?_|refine S1 ?_|refine Z1 ?_|refine Z2 ?_|(refine And.intro ?_ ?_<;>intro h<;>try first|(exfalso;omega)|exact absurd rfl h)|refine Z3 ?_|refine Z4 ?_|intro el hel hbB|intro el hel|intro ex|refine Z5 ?_|(refine A6 ?_ ?_;exact ⟨by kernel_rfl,by decide⟩)|refine A5 ?_ ?_|exact A4|refine A3 ?_ ?_|exact A2|(refine A0 ?_ ?_ ?_;kernel_rfl;kernel_rfl)) <;> (try (conv=>whnf)))
 all_goals first
  | (exfalso;omega)
  | contradiction
  | exact A8 h0 rfl ⟨rfl,trivial⟩ ⟨rfl,⟨_,congrArg (C0.row (G4 + N5) 2 _) hset⟩,⟨_,rfl⟩,⟨_,rfl⟩,trivial⟩ rfl rfl rfl
  | exact A8 h0 rfl ⟨rfl,trivial⟩ ⟨rfl,⟨_,congrArg (C0.row (G4 + N5) 2 _) hset.symm⟩,⟨_,rfl⟩,⟨_,rfl⟩,trivial⟩ rfl rfl rfl
  | exact C9 (A8 h0 rfl ⟨rfl,trivial⟩ ⟨rfl,⟨_,rfl⟩,⟨_,rfl⟩,⟨_,rfl⟩,trivial⟩ rfl rfl rfl)
end Go.Proofs.YtiphlhoclaogjabGreatDoor
namespace Go.Av
open Go Go.RowKit
section rules
variable {P:Program} {E:Env} {n:Nat} {ops:Array Oper} {rest:List Oper} {σ:St} {K:St → Prop} {ty:TypeId} {pos:String} {after:Array Edge} {x y:Operand}
theorem Mh {d T e sz:Nat} [ts:J6 P T e sz] (hx:E4 σ x = some (.v (.slice none 0 0))) (hd:Nat.blt d n = true) (k:B5 P E n ops rest (σ.put d (.i 0)) K):B5 P E n ops (⟨some d, .call ⟨.builtin .cap, #[x], #[T]⟩,ty,pos,after,none⟩ :: rest) σ K :=
 Ba (D4 fun _ _ _ θ a w h=>⟨.int .i64 0,by
  rw [N9,(h.rel hx).val]
  simp [builtin,Builtin.cap_,run_underlying ts.out.1,Sem.run_bind,Sem.run_pure,goInt], .im (.v _)⟩) hd k
theorem JF {d T e sz:Nat} [ts:J6 P T e sz] {lo hi:Option Operand} (hx:E4 σ x = some (.v (.slice none 0 0))) (hl:Y9 (E4 σ) 0 lo = some 0) (hh:Y9 (E4 σ) 0 hi = some 0) (hd:Nat.blt d n = true)
  (k:B5 P E n ops rest (σ.put d (.v (.slice none 0 0))) K):B5 P E n ops (⟨some d, .slice T x lo hi none,ty,pos,after,none⟩ :: rest) σ K :=
 Ba (D4 fun _ _ _ θ a w hs=>by
  obtain ⟨hu,inf,hi2,hsz⟩:=ts.out
  have hv:=(hs.rel hx).val
  have hb:=l4 (P:=P) (isS:=true) (cap:=0) hs hl hh (Int.le_refl 0) (Int.le_refl 0) (by decide)
  refine ⟨.slice none 0 0,?_, .im (.v _)⟩
  simp only [execOp,hv,Instr.sliceAt,Instr.slice,Sem.run_bind,run_underlying hu,Result.andThen_ok,Option.map_none,hb,Sem.run_pure,sizeOf,typeInfo,program,Sem.run,hi2]
  rfl) hd k
theorem FZ {d T U e sz by_:Nat} {kn:IntKind} {z:List Value} [ts:J6 P T e sz] [ti:N1 P U kn] [tz:H6 P e z] [tb:K6 P e by_] {m:Int} (hx:E4 σ x = some (.v (.slice none 0 0))) (hy:E4 σ y = some (.v (.int .i64 m))) (h0:0 < m)
  (hb:m.toNat * by_ ≤ 140737488355328) (hz:z.length = sz) (hpos:Nat.blt 0 sz = true) (hmx:m ≤ 4611686018427387904) (hek:Nat.blt e E5 = true) (hd:Nat.blt d n = true)
  (k:B5 P E n ops rest ((σ.new (.row e sz 0 (List.replicate m.toNat (z.map Q6)))).put d (.row σ.nx 0 m.toNat)) K):B5 P E n ops (⟨some d, .call ⟨.builtin .append, #[x,y], #[T,U]⟩,ty,pos,after,none⟩ :: rest) σ K :=
 f0 hd (fun θ a w h=>by
  obtain ⟨hu,i,hi,hsz⟩:=ts.out
  obtain ⟨i2,zv,hi2,hzv,hzc⟩:=tz.out
  obtain ⟨i3,hi3,hby⟩:=tb.out
  rw [hi] at hi2 hi3
  cases hi2;cases hi3
  have hpos:=Nat.blt_eq ▸ hpos
  have hek:=Nat.blt_eq ▸ hek
  obtain ⟨q,rfl⟩:∃ q:Nat,m = q:=⟨m.toNat,by omega⟩
  rw [Int.toNat_natCast] at hb ⊢
  have hr:=Lib.run_append_nil_zeros (P:=P) w T U ty e i zv .i64 kn hu ti.out hi hzv q (by omega) (by omega) (by omega) (by rw [hby];omega)
  have hcap:grownCap w q 0 e ≤ maxLen:=grownCap_le_maxLen w _ 0 e (by unfold maxLen;omega)
  have hge:=grownCap_ge w q 0 e
  generalize grownCap w q 0 e = cap at hr hcap hge
  have hlen:(List.replicate q (z.map Q6)).length = q:=by simp
  have hzz:zv.cells.size = sz:=by rw [hzc,List.size_toArray,hz]
  have hs1:(Builtin.zeroCells zv.cells q).size = q * sz:=by simp [Builtin.zeroCells,hzz]
  have hs2:(Builtin.zeroCells zv.cells (cap - q)).size = (cap - q) * sz:=by simp [Builtin.zeroCells,hzz]
  refine ⟨.slice (some ⟨w.heap.size,0,none⟩) q cap, .slice (some ⟨w.heap.size,0,none⟩) q cap,w.drew.alloc (.cells (Builtin.zeroCells zv.cells q ++ Builtin.zeroCells zv.cells (cap - q)) e),?_,p5 w _,DJ (Nat.le_refl _),fun le=>?_⟩
  ·rw [O0,(h.rel hx).val,(h.rel hy).val]
   simp only [builtin,Sem.run_bind,hr,Result.andThen_ok,Sem.run_pure]
  ·have key:=GE (E:=E) (σ:=σ) (θ:=θ) (w:=w) (w':=w.drew.alloc (.cells (Builtin.zeroCells zv.cells q ++ Builtin.zeroCells zv.cells (cap - q)) e)) (xs:=(Builtin.zeroCells zv.cells q).toList) (rest:=(Builtin.zeroCells zv.cells (cap - q)).toList) (e:=e) (sz:=sz) (g:=w.heap.size) (cap:=cap) (l:=List.replicate q (z.map Q6))
    hek (Nat.le_refl _) (by
     have:=heap_alloc_new w.drew (.cells (Builtin.zeroCells zv.cells q ++ Builtin.zeroCells zv.cells (cap - q)) e)
     have e1:((Builtin.zeroCells zv.cells q).toList ++ (Builtin.zeroCells zv.cells (cap - q)).toList).toArray = Builtin.zeroCells zv.cells q ++ Builtin.zeroCells zv.cells (cap - q):=by
      rw [← Array.toList_append]
     rw [e1]
     exact this) (by rw [hlen,Array.length_toList,hs1]) (by rw [hlen];exact hge) hcap (by
     rw [List.length_append,Array.length_toList,Array.length_toList,hs1,hs2, ← Nat.add_mul]
     congr 1;omega) (fun el hel=>by rw [List.eq_of_mem_replicate hel];simp [hz]) (fun k el hk j u hu2=>?_) (by rw [hlen];exact le)
   ·rw [hlen] at key;exact key
   ·obtain ⟨hklt,hkeq⟩:=List.getElem?_eq_some_iff.1 hk
    have hel:el = z.map Q6:=by rw [← hkeq];simp
    subst hel
    rw [hlen] at hklt
    simp only [List.getElem?_map,Option.map_eq_some_iff] at hu2
    obtain ⟨v,hv,rfl⟩:=hu2
    have hj:j < sz:=by rw [← hz];exact (List.getElem?_eq_some_iff.1 hv).1
    have hin:k * sz + j < q * zv.cells.size:=by
     rw [hzz]
     have:(k + 1) * sz ≤ q * sz:=Nat.mul_le_mul_right _ hklt
     rw [Nat.add_mul,Nat.one_mul] at this
     omega
    refine ⟨v,?_,BZ _⟩
    have hmod:(k * sz + j) % sz = j:=by rw [Nat.mul_comm,Nat.mul_add_mod,Nat.mod_eq_of_lt hj]
    simp only [Builtin.zeroCells,Array.getElem?_toList,Array.getElem?_map,Array.getElem?_range,hin]
    simp only [if_true,Option.map_some,Option.some.injEq,hzz,hmod]
    rw [hzc,List.getElem!_toArray,List.getElem!_eq_getElem?_getD,hv]
    rfl) k (H3 (AF (Nat.blt_eq ▸ hek)))
end rules
end Go.Av
