/- Chapter 3: the program's reader as plain total functions; numbers, and the codes of a list with a name. -/
import Derived.Test.YtiphlhoclaogjabGreatDoorQKb1
import Derived.Test.YtiphlhoclaogjabGreatDoorQNm1
import Derived.Test.YtiphlhoclaogjabGreatDoorQRp1
import Derived.Test.YtiphlhoclaogjabGreatDoorQB8
set_option linter.unusedVariables false
set_option linter.unnecessarySimpa false
set_option linter.unusedSimpArgs false
namespace Go.Proofs.YtiphlhoclaogjabGreatDoor
open Go Go.Av
attribute [local irreducible] D6 B8 D8 D7 DQ E0 E1 St.le B4 B9
set_option maxRecDepth 100000
structure F5 where
 lists:List CL
 cols:List C5
 rows:List (List Int)
 st:Int
def P4:List (List UInt8) → Option (List Int)
 | []=>some []
 | w :: r=>if (H4 w).2 = true then (P4 r).map ((H4 w).1 :: ·) else none
theorem PS {ws:List (List UInt8)} {k:Nat} {w:List UInt8} {l:List Int} (h:P4 (ws.take k) = some l) (hw:ws[k]? = some w) (ho:(H4 w).2 = true):P4 (ws.take (k + 1)) = some (l ++ [(H4 w).1]):=by
 induction ws generalizing k l with
 | nil=>simp at hw
 | cons x r ih =>
   cases k with
   | zero =>
     simp only [List.getElem?_cons_zero,Option.some.injEq] at hw
     subst hw
     simp only [List.take_zero,P4,Option.some.injEq] at h
     subst h
     simp [P4,ho]
   | succ k =>
     rw [List.getElem?_cons_succ] at hw
     rw [List.take_succ_cons,P4] at h
     rw [List.take_succ_cons,P4]
     by_cases hx:(H4 x).2 = true
     ·rw [if_pos hx] at h ⊢
      cases hr:P4 (r.take k) with
      | none=>rw [hr] at h;cases h
      | some l' =>
        rw [hr] at h
        cases h
        rw [ih hr hw]
        rfl
     ·rw [if_neg hx] at h
      cases h
theorem UF {ws:List (List UInt8)} {w:List UInt8} (hw:w ∈ ws) (ho:(H4 w).2 = false):P4 ws = none:=by
 induction ws with
 | nil=>cases hw
 | cons x r ih =>
   rw [P4]
   rcases List.mem_cons.1 hw with rfl | h
   ·rw [if_neg (by simp [ho])]
   ·split
    ·rw [ih h];rfl
    ·rfl
abbrev IA (ws:List (List UInt8)):AV:=.tup [.sl 1 (((P4 ws).getD []).map wA), .b (P4 ws).isSome]
set_option maxHeartbeats 8000000 in
theorem FB (ws:List (List UInt8)) (hw:∀ w ∈ ws,w.length ≤ 281474976710656) (hN:ws.length ≤ 1000000):B4 Tryz.prog 96 [.sl 1 (ws.map C1)] (IA ws):=by
 have hnum:∀ w ∈ ws,_:=fun w h=>x9 w (hw w h)
 refine F3 Tryz.func96 28 fun hrd E h0=>?_
 clear hrd
 repeat' ((first|refine A4 ?_|refine S1 ?_|refine Z1 ?_|refine Z2 ?_|(refine And.intro ?_ ?_<;>intro h<;>try first|(exfalso;omega)|exact absurd rfl h)|refine Z3 ?_|refine Z4 ?_|intro el hel hbB|intro el hel|intro ex|refine Z5 ?_|(refine A9 ?_ ?_;exact ⟨by kernel_rfl,by decide⟩)|refine A8 ?_ ?_|exact A7|refine A6 ?_ ?_|exact A5|(refine A0 ?_ ?_ ?_;kernel_rfl;kernel_rfl)) <;> (try (conv=>whnf)))
 refine C2 (ι:=List Int) (fun l=>⟨[(4, .row 0 0 l.length),(9, .sl 1 (ws.map C1)),(10, .i ws.length),(11, .i l.length)],1,[(0,some (.row 3 1 0 (l.map wA)))]⟩) (fun l=>l.length ≤ ws.length ∧ P4 (ws.take l.length) = some l) (fun l=>ws.length - l.length) [] ⟨Nat.zero_le _,rfl⟩
  (C3 (AL (d:=4) (e:=3) (sz:=1) rfl) (B0 h0 rfl ⟨rfl,rfl,rfl,rfl,trivial⟩ ⟨⟨0,rfl⟩,trivial⟩ rfl rfl rfl)) (fun l hI=>?_)
 obtain ⟨hk,hI⟩:=hI
 by_cases hlt:l.length < ws.length
 ·obtain ⟨w,hwk⟩:∃ w,ws[l.length]? = some w:=⟨_,List.getElem?_eq_getElem hlt⟩
  have hwm:=List.mem_of_getElem? hwk
  have hq:=hnum w hwm
  have hst:=fun ho=>PS hI hwk ho
  have hno:=fun ho=>UF hwm ho
  generalize H4 w = q at *
  obtain ⟨n,ok⟩:=q
  dsimp only at hq hst hno
  cases ok with
  | true =>
    have hst:=hst rfl
    have e1:l.length + 1 = (l ++ [n]).length:=by simp
    have e2:((l.length:Int) + 1) = (((l ++ [n]).length:Nat):Int):=by simp
    rw [e1] at hst
    repeat' ((first | (refine A3 (x:=w) hwk (by omega) ?_) | refine B2 hq ?_ |refine A4 ?_|refine S1 ?_|refine Z1 ?_|refine Z2 ?_|(refine And.intro ?_ ?_<;>intro h<;>try first|(exfalso;omega)|exact absurd rfl h)|refine Z3 ?_|refine Z4 ?_|intro el hel hbB|intro el hel|intro ex|refine Z5 ?_|(refine A9 ?_ ?_;exact ⟨by kernel_rfl,by decide⟩)|refine A8 ?_ ?_|exact A7|refine A6 ?_ ?_|exact A5|(refine A0 ?_ ?_ ?_;kernel_rfl;kernel_rfl)) <;> (try (conv=>whnf)))
    all_goals first
     | (exfalso;omega)
     | exact ⟨l ++ [n],⟨by omega,hst⟩,by omega,B0 h0 rfl ⟨congrArg (fun z=>some (AV.row 0 _ z)) e1,rfl,rfl,congrArg (fun z=>some (AV.i z)) e2,trivial⟩ ⟨⟨_,congrArg (C6.row 3 1 _) (by rw [List.map_append];rfl)⟩,trivial⟩ rfl rfl rfl⟩
  | false =>
    have hno:=hno rfl
    unfold IA
    rw [hno]
    repeat' ((first | (refine A3 (x:=w) hwk (by omega) ?_) | refine B2 hq ?_ |refine A4 ?_|refine S1 ?_|refine Z1 ?_|refine Z2 ?_|(refine And.intro ?_ ?_<;>intro h<;>try first|(exfalso;omega)|exact absurd rfl h)|refine Z3 ?_|refine Z4 ?_|intro el hel hbB|intro el hel|intro ex|refine Z5 ?_|(refine A9 ?_ ?_;exact ⟨by kernel_rfl,by decide⟩)|refine A8 ?_ ?_|exact A7|refine A6 ?_ ?_|exact A5|(refine A0 ?_ ?_ ?_;kernel_rfl;kernel_rfl)) <;> (try (conv=>whnf)))
    all_goals first
     | (exfalso;omega)
     | exact F9 (rs:=[.tmp 2, .tmp 3]) (vs:=[_,_]) rfl ⟨⟨_,rfl, .nil _⟩,⟨_,rfl, .refl _⟩,trivial⟩ rfl
 ·rw [List.take_of_length_le (by omega)] at hI
  unfold IA
  rw [hI]
  have hkk:l.length = ws.length:=by omega
  repeat' ((first|refine A4 ?_|refine S1 ?_|refine Z1 ?_|refine Z2 ?_|(refine And.intro ?_ ?_<;>intro h<;>try first|(exfalso;omega)|exact absurd rfl h)|refine Z3 ?_|refine Z4 ?_|intro el hel hbB|intro el hel|intro ex|refine Z5 ?_|(refine A9 ?_ ?_;exact ⟨by kernel_rfl,by decide⟩)|refine A8 ?_ ?_|exact A7|refine A6 ?_ ?_|exact A5|(refine A0 ?_ ?_ ?_;kernel_rfl;kernel_rfl)) <;> (try (conv=>whnf)))
  all_goals first
   | (exfalso;omega)
   | exact F9 (rs:=[.tmp 2, .tmp 3]) (vs:=[_,_]) rfl ⟨⟨_,rfl, .refl _⟩,⟨_,rfl, .refl _⟩,trivial⟩ rfl
set_option maxHeartbeats 2000000 in
theorem MN (c:Code) (w:List UInt8):B4 Tryz.prog 125 [.agg (cA c), .iptr [.str w]] (.b (decide (c.name = w))):=by
 refine F3 Tryz.func125 8 fun hrd E h0=>?_
 clear hrd
 repeat' ((first|refine A4 ?_|refine S1 ?_|refine Z1 ?_|refine Z2 ?_|(refine And.intro ?_ ?_<;>intro h<;>try first|(exfalso;omega)|exact absurd rfl h)|refine Z3 ?_|refine Z4 ?_|intro el hel hbB|intro el hel|intro ex|refine Z5 ?_|(refine A9 ?_ ?_;exact ⟨by kernel_rfl,by decide⟩)|refine A8 ?_ ?_|exact A7|refine A6 ?_ ?_|exact A5|(refine A0 ?_ ?_ ?_;kernel_rfl;kernel_rfl)) <;> (try (conv=>whnf)))
 all_goals first
  | exact B5 rfl rfl
end Go.Proofs.YtiphlhoclaogjabGreatDoor
namespace Go.Proofs.YtiphlhoclaogjabGreatDoor
open Go Go.Av
attribute [local irreducible] D6 B8 D8 D7 DQ E0 E1 St.le B4 B9
set_option maxRecDepth 100000
mutual
def ZS:J3 → Int → Int
 | .mk _ _ _ _ _ ks,most=>VN ks most 1
def VN:List J3 → Int → Int → Int
 | [],_,n=>n
 | x :: r,most,n=>if n < most then VN r most (n + ZS x (most - n)) else n
end
abbrev MO (s:C4) (col kind:Int):Bool:=decide (0 ≤ col ∧ col < s.cols.length ∧ (I7 s col).kind = kind)
end Go.Proofs.YtiphlhoclaogjabGreatDoor
namespace Go.Proofs.YtiphlhoclaogjabGreatDoor
open Go Go.Av
attribute [local irreducible] D6 B8 D8 D7 DQ E0 E1 St.le B4 B9
set_option maxRecDepth 100000
inductive M5 where
 | mk (op num:Int) (name:List UInt8) (col:Int) (cols:List Int) (dims:List Pk) (cnd evt:J3) (kids:List M5)
def M5.op:M5 → Int | .mk o _ _ _ _ _ _ _ _=>o
def M5.num:M5 → Int | .mk _ n _ _ _ _ _ _ _=>n
def M5.name:M5 → List UInt8 | .mk _ _ nm _ _ _ _ _ _=>nm
def M5.col:M5 → Int | .mk _ _ _ c _ _ _ _ _=>c
def M5.cols:M5 → List Int | .mk _ _ _ _ cs _ _ _ _=>cs
def M5.dims:M5 → List Pk | .mk _ _ _ _ _ ds _ _ _=>ds
def M5.cnd:M5 → J3 | .mk _ _ _ _ _ _ c _ _=>c
def M5.evt:M5 → J3 | .mk _ _ _ _ _ _ _ v _=>v
def M5.kids:M5 → List M5 | .mk _ _ _ _ _ _ _ _ ks=>ks
mutual
def aI:M5 → List AV
 | .mk o n nm c cs ds cd ev ks=>[.i o, .i n, .str nm, .i c, .sl 1 (cs.map wA), .sl 2 (ds.map an), .i cd.op, .i cd.col, .i cd.code, .i cd.lo, .i cd.hi, .sl 6 (cd.kids.map Tj), .i ev.op, .i ev.col, .i ev.code, .i ev.lo, .i ev.hi, .sl 6 (ev.kids.map Tj), .sl 19 (VO ks)]
def VO:List M5 → List (List AV)
 | []=>[]
 | x :: r=>aI x :: VO r
end
mutual
def ZT:M5 → J3
 | .mk _ _ _ _ _ _ _ _ ks=>.mk 0 0 0 0 0 (Rf ks)
def Rf:List M5 → List J3
 | []=>[]
 | x :: r=>ZT x :: Rf r
end
structure au where
 name:List UInt8
 out:Bool
 x:M5
abbrev YQ (c:J3):Prop:=c.op = 0 ∧ c.col = 0 ∧ c.code = 0 ∧ c.lo = 0 ∧ c.hi = 0 ∧ c.kids.length = 0
abbrev ZU (op:Int):Prop:=op = 1 ∨ op = 13
abbrev YR (op:Int):Prop:=op = 2
abbrev PT (op:Int):Prop:=4 ≤ op ∧ op ≤ 5 ∨ 10 ≤ op ∧ op ≤ 14
abbrev YS (op:Int):Prop:=op = 11
abbrev YT (op:Int):Prop:=op = 10
abbrev PU (op:Int):Prop:=3 ≤ op ∧ op ≤ 5 ∨ 10 ≤ op ∧ op ≤ 14
abbrev PX (op:Int):Prop:=op = 12
abbrev DO (op:Int):Prop:=6 ≤ op ∧ op ≤ 9
abbrev YU (e:M5):Prop:=(ZU e.op ∨ e.num = 0) ∧ (YR e.op ∨ e.name.length = 0) ∧ (PT e.op ∨ e.col = 0) ∧ (YS e.op ∨ e.cols.length = 0) ∧ (YT e.op ∨ e.dims.length = 0) ∧ (PU e.op ∨ YQ e.cnd) ∧ (PX e.op ∨ YQ e.evt) ∧ (DO e.op ∨ e.kids.length = 0)
def aJ (s:C4) (l:List Pk) (i:Nat) (d:Pk):Int:=if VF s d ≠ 0 then VF s d else if (I7 s d.col).kind ≠ 2 then 7 else if ((l.take i).any fun x=>decide (x.col = d.col)) = true then 10 else 0
def ZV (s:C4) (l:List Pk):Int:=if l.length < 1 ∨ 3 < l.length then 1 else M2 (aJ s l) 0 l
def aK (s:C4) (m:Int) (l:List Int) (i:Nat) (c:Int):Int:=if MO s c 3 = false then 7 else if c = m ∨ ((l.take i).any fun x=>decide (x = c)) = true then 10 else 0
def ZW (s:C4) (m:Int) (l:List Int):Int:=if l.length < 1 ∨ 3 < l.length then 1 else M2 (aK s m l) 0 l
def UG (s:C4) (e:M5):Bool :=
 if e.op = 1 then decide (-1099511627776 ≤ e.num ∧ e.num ≤ 1099511627776) else if e.op = 2 then E7 e.name
 else if e.op = 4 ∨ e.op = 5 ∨ e.op = 14 then MO s e.col 3
 else if e.op = 10 then decide (ZV s e.dims = 0) && (decide (e.col = -1) || MO s e.col 3)
 else if e.op = 11 then MO s e.col 3 && decide (ZW s e.col e.cols = 0)
 else if e.op = 12 then MO s e.col 3 && decide (0 ≤ (I7 s e.col).low)
 else if e.op = 13 then MO s e.col 3 && (I7 s e.col).widths.any fun x=>decide (x = e.num)
 else true
def aL (s:C4) (e:M5):Bool:=decide (1 ≤ e.op ∧ e.op ≤ 14) && decide (YU e) && UG s e && (decide (¬ PU e.op) || decide (MA s e.cnd = 0)) && (decide (¬ PX e.op) || decide (MA s e.evt = 0)) && (decide (¬ DO e.op) || decide (e.kids.length = 2))
abbrev UH (op:Int):Prop:=1 ≤ op ∧ op ≤ 9
mutual
def UI (s:C4):M5 → Bool
 | .mk o n nm c cs ds cd ev ks=>aL s (.mk o n nm c cs ds cd ev ks) && !(YV s ks)
def YV (s:C4):List M5 → Bool
 | []=>false
 | x :: r=>(!decide (UH x.op) || !UI s x) || YV s r
end
def aM (s:C4) (e:M5):Bool:=decide (H6 s = 0) && UI s e
mutual
def aN (g:List UInt8 → Bool):M5 → Bool
 | .mk o n nm c cs ds cd ev ks=>!(decide (o = 2) && !g nm) && !(YW g ks)
def YW (g:List UInt8 → Bool):List M5 → Bool
 | []=>false
 | x :: r=>(!aN g x) || YW g r
end
instance:I4 Tryz.prog 124 false 1:=.of (by kernel_rfl) (by kernel_rfl)
end Go.Proofs.YtiphlhoclaogjabGreatDoor
namespace Go.Proofs.YtiphlhoclaogjabGreatDoor
open Go Go.Av
attribute [local irreducible] D6 B8 D8 D7 DQ E0 E1 St.le B4 B9
set_option maxRecDepth 100000
abbrev aO:List UInt8:=[59,32]
abbrev YX:List UInt8:=[44,32]
def aP (op:Int):List UInt8 :=
 if op = 3 then [99,111,117,110,116] else if op = 4 then [115,117,109] else if op = 5 then [109,101,97,110] else if op = 10 then [116,97,98,108,101] else if op = 11 then [109,111,100,101,108] else if op = 12 then [99,117,114,118,101] else if op = 13 then [104,105,115,116] else [98,111,120]
def aQ (op:Int):List UInt8:=if op = 6 then [32,43,32] else if op = 7 then [32,45,32] else if op = 8 then [32,42,32] else [32,47,32]
def u2 (sep:List UInt8):List (List UInt8) → List UInt8
 | []=>[]
 | [x]=>x
 | x :: y :: r=>x ++ sep ++ u2 sep (y :: r)
def MP (s:C4) (c:Int):List UInt8:=if c < 0 then [45] else KU s c
def aR (s:C4) (d:Pk):List UInt8:=MP s d.col ++ [47] ++ Lib.itoa d.lev
def aS (s:C4) (o n c:Int) (cs:List Int) (ds:List Pk) (ev:J3):List (List UInt8) :=
 if o = 3 then [] else if o = 10 then [u2 YX (ds.map (aR s)),MP s c] else if o = 11 then [MP s c,u2 YX (cs.map (MP s))] else if o = 12 then [MP s c,Tn s ev] else if o = 13 then [MP s c,Lib.itoa n] else [MP s c]
mutual
def aT (s:C4):M5 → List UInt8
 | .mk o n nm c cs ds cd ev ks =>
   if o = 1 then Lib.itoa n else if o = 2 then nm
   else if 6 ≤ o ∧ o ≤ 9 then [40] ++ (PY s ks).getD 0 [] ++ aQ o ++ (PY s ks).getD 1 [] ++ [41]
   else aP o ++ [40] ++ u2 aO (aS s o n c cs ds ev ++ [Tn s cd]) ++ [41]
def PY (s:C4):List M5 → List (List UInt8)
 | []=>[]
 | x :: r=>aT s x :: PY s r
end
structure Mid where
 num:Int
 cols:List Int
 evt:J3
def D0 (c:UInt8) (b:UInt8):Bool:=!decide (b = c)
end Go.Proofs.YtiphlhoclaogjabGreatDoor
namespace Go.Proofs.YtiphlhoclaogjabGreatDoor
open Go Go.Av
attribute [local irreducible] D6 B8 D8 D7 DQ E0 E1 St.le B4 B9
set_option maxRecDepth 100000
theorem UJ (sep x:List UInt8) {l:List (List UInt8)} (h:l ≠ []):u2 sep (x :: l) = x ++ sep ++ u2 sep l:=by
 cases l with
 | nil=>exact absurd rfl h
 | cons y r=>rfl
end Go.Proofs.YtiphlhoclaogjabGreatDoor
namespace Go.Proofs.YtiphlhoclaogjabGreatDoor
open Go Go.Av
attribute [local irreducible] D6 B8 D8 D7 DQ E0 E1 St.le B4 B9
set_option maxRecDepth 100000
structure YY (s:C4) (e:M5):Prop where
 op:1 ≤ e.op ∧ e.op ≤ 14
 unu:YU e
 par:UG s e = true
 cnd:PU e.op → MA s e.cnd = 0
 evt:PX e.op → MA s e.evt = 0
 pair:DO e.op → e.kids.length = 2
 kid:∀ k ∈ e.kids,UH k.op ∧ UI s k = true
theorem YY.col {s:C4} {e:M5} (h:YY s e) (ho:PT e.op):(e.op = 10 ∧ e.col = -1) ∨ MO s e.col 3 = true:=by
 have hp:=h.par
 have hop:=h.op
 simp only [PT] at ho
 unfold UG at hp
 rw [if_neg (by omega),if_neg (by omega)] at hp
 by_cases h4:e.op = 4 ∨ e.op = 5 ∨ e.op = 14
 ·rw [if_pos h4] at hp;exact .inr hp
 rw [if_neg h4] at hp
 by_cases h10:e.op = 10
 ·rw [if_pos h10] at hp
  simp only [Bool.and_eq_true,Bool.or_eq_true] at hp
  rcases hp.2 with h | h
  ·exact .inl ⟨h10,of_decide_eq_true h⟩
  ·exact .inr h
 rw [if_neg h10] at hp
 by_cases h11:e.op = 11
 ·rw [if_pos h11] at hp
  simp only [Bool.and_eq_true] at hp
  exact .inr hp.1
 rw [if_neg h11] at hp
 by_cases h12:e.op = 12
 ·rw [if_pos h12] at hp
  simp only [Bool.and_eq_true] at hp
  exact .inr hp.1
 rw [if_neg h12,if_pos (by omega)] at hp
 simp only [Bool.and_eq_true] at hp
 exact .inr hp.1
end Go.Proofs.YtiphlhoclaogjabGreatDoor
namespace Go.Proofs.YtiphlhoclaogjabGreatDoor
open Go Go.Av
attribute [local irreducible] D6 B8 D8 D7 DQ E0 E1 St.le B4 B9
set_option maxRecDepth 100000
theorem Rg (sep:List UInt8) (hs:1 ≤ sep.length):∀ l:List (List UInt8),l.length ≤ (u2 sep l).length + 1
 | []=>by simp
 | [x]=>by simp
 | x :: y :: r=>by
   have:=Rg sep hs (y :: r)
   rw [u2,List.length_append,List.length_append,List.length_cons]
   omega
def VP (u:List UInt8):Prop:=∀ b r,u = b :: r → b.toNat = 32 ∨ b.toNat = 41
theorem VP.stops {u:List UInt8} (h:VP u):VI u:=fun b r e=>by
 have:=h b r e
 unfold GE
 exact decide_eq_false (by omega)
theorem Rh (n:Int):∃ b r,Lib.itoa n = b :: r ∧ (b.toNat = 45 ∨ 48 ≤ b.toNat ∧ b.toNat ≤ 57):=by
 unfold Lib.itoa
 by_cases h:n < 0
 ·rw [if_pos h];exact ⟨45,_,rfl, .inl rfl⟩
 ·rw [if_neg h]
  obtain ⟨d1,d2,d3⟩:=q8 n.toNat
  cases hc:Lib.decDigits n.toNat with
  | nil=>rw [hc] at d3;simp at d3
  | cons c r=>exact ⟨c,r,rfl, .inr (Ga d2 hc)⟩
end Go.Proofs.YtiphlhoclaogjabGreatDoor
