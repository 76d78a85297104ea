/- Chapter 3: the program's reader as plain total functions; numbers, and the codes of a list with a name. -/
import Derived.Test.YtiphlhoclaogjabGreatDoorQKb1
import Derived.Test.YtiphlhoclaogjabGreatDoorQC4
import Derived.Test.YtiphlhoclaogjabGreatDoorQBk1
import Derived.Test.YtiphlhoclaogjabGreatDoorQB8
import Derived.Test.YtiphlhoclaogjabGreatDoorQRp2
set_option linter.unusedVariables false
set_option linter.unnecessarySimpa false
set_option linter.unusedSimpArgs false
namespace Go.Proofs.YtiphlhoclaogjabGreatDoor
open Go Go.Av
attribute [local irreducible] D1 B5 D5 D3 DQ D7 E0 St.le B3 B6
set_option maxRecDepth 100000
structure D6 where
 lists:List CL
 cols:List C1
 rows:List (List Int)
 st:Int
def N3:List (List UInt8) → Option (List Int)
 | []=>some []
 | w :: r=>if (H8 w).2 = true then (N3 r).map ((H8 w).1 :: ·) else none
theorem Pl {ws:List (List UInt8)} {k:Nat} {w:List UInt8} {l:List Int} (h:N3 (ws.take k) = some l) (hw:ws[k]? = some w) (ho:(H8 w).2 = true):N3 (ws.take (k + 1)) = some (l ++ [(H8 w).1]):=by
 induction ws generalizing k l with
 | nil=>simp at hw
 | cons x r ih =>
   cases k with
   | zero =>
     simp only [List.getElem?_cons_zero,Option.some.injEq] at hw
     subst hw
     simp only [List.take_zero,N3,Option.some.injEq] at h
     subst h
     simp [N3,ho]
   | succ k =>
     rw [List.getElem?_cons_succ] at hw
     rw [List.take_succ_cons,N3] at h
     rw [List.take_succ_cons,N3]
     by_cases hx:(H8 x).2 = true
     ·rw [if_pos hx] at h ⊢
      cases hr:N3 (r.take k) with
      | none=>rw [hr] at h;cases h
      | some l' =>
        rw [hr] at h
        cases h
        rw [ih hr hw]
        rfl
     ·rw [if_neg hx] at h
      cases h
theorem Ue {ws:List (List UInt8)} {w:List UInt8} (hw:w ∈ ws) (ho:(H8 w).2 = false):N3 ws = none:=by
 induction ws with
 | nil=>cases hw
 | cons x r ih =>
   rw [N3]
   rcases List.mem_cons.1 hw with rfl | h
   ·rw [if_neg (by simp [ho])]
   ·split
    ·rw [ih h];rfl
    ·rfl
abbrev IG (ws:List (List UInt8)):AV:=.tup [.sl 1 (((N3 ws).getD []).map wA), .b (N3 ws).isSome]
set_option maxHeartbeats 8000000 in
theorem Ev (ws:List (List UInt8)) (hw:∀ w ∈ ws,w.length ≤ 281474976710656) (hN:ws.length ≤ 1000000):B3 Tryz.prog 96 [.sl 1 (ws.map E2)] (IG ws):=by
 have hnum:∀ w ∈ ws,_:=fun w h=>y8 w (hw w h)
 refine F3 Tryz.func96 28 fun hrd E h0=>?_
 clear hrd
 repeat' ((first|refine A1 ?_|refine S1 ?_|refine Z1 ?_|refine Z2 ?_|(refine And.intro ?_ ?_<;>intro h<;>try first|(exfalso;omega)|exact absurd rfl h)|refine Z3 ?_|refine Z4 ?_|intro el hel hbB|intro el hel|intro ex|refine Z5 ?_|(refine A6 ?_ ?_;exact ⟨by kernel_rfl,by decide⟩)|refine A5 ?_ ?_|exact A4|refine A3 ?_ ?_|exact A2|(refine A0 ?_ ?_ ?_;kernel_rfl;kernel_rfl)) <;> (try (conv=>whnf)))
 refine C5 (ι:=List Int) (fun l=>⟨[(4, .row 0 0 l.length),(9, .sl 1 (ws.map E2)),(10, .i ws.length),(11, .i l.length)],1,[(0,some (.row 3 1 0 (l.map wA)))]⟩) (fun l=>l.length ≤ ws.length ∧ N3 (ws.take l.length) = some l) (fun l=>ws.length - l.length) [] ⟨Nat.zero_le _,rfl⟩
  (C7 (Bi (d:=4) (e:=3) (sz:=1) rfl) (A8 h0 rfl ⟨rfl,rfl,rfl,rfl,trivial⟩ ⟨⟨0,rfl⟩,trivial⟩ rfl rfl rfl)) (fun l hI=>?_)
 obtain ⟨hk,hI⟩:=hI
 by_cases hlt:l.length < ws.length
 ·obtain ⟨w,hwk⟩:∃ w,ws[l.length]? = some w:=⟨_,List.getElem?_eq_getElem hlt⟩
  have hwm:=List.mem_of_getElem? hwk
  have hq:=hnum w hwm
  have hst:=fun ho=>Pl hI hwk ho
  have hno:=fun ho=>Ue hwm ho
  generalize H8 w = q at *
  obtain ⟨n,ok⟩:=q
  dsimp only at hq hst hno
  cases ok with
  | true =>
    have hst:=hst rfl
    have e1:l.length + 1 = (l ++ [n]).length:=by simp
    have e2:((l.length:Int) + 1) = (((l ++ [n]).length:Nat):Int):=by simp
    rw [e1] at hst
    repeat' ((first | (refine A7 (x:=w) hwk (by omega) ?_) | refine A9 hq ?_ |refine A1 ?_|refine S1 ?_|refine Z1 ?_|refine Z2 ?_|(refine And.intro ?_ ?_<;>intro h<;>try first|(exfalso;omega)|exact absurd rfl h)|refine Z3 ?_|refine Z4 ?_|intro el hel hbB|intro el hel|intro ex|refine Z5 ?_|(refine A6 ?_ ?_;exact ⟨by kernel_rfl,by decide⟩)|refine A5 ?_ ?_|exact A4|refine A3 ?_ ?_|exact A2|(refine A0 ?_ ?_ ?_;kernel_rfl;kernel_rfl)) <;> (try (conv=>whnf)))
    all_goals first
     | (exfalso;omega)
     | exact ⟨l ++ [n],⟨by omega,hst⟩,by omega,A8 h0 rfl ⟨congrArg (fun z=>some (AV.row 0 _ z)) e1,rfl,rfl,congrArg (fun z=>some (AV.i z)) e2,trivial⟩ ⟨⟨_,congrArg (C0.row 3 1 _) (by rw [List.map_append];rfl)⟩,trivial⟩ rfl rfl rfl⟩
  | false =>
    have hno:=hno rfl
    unfold IG
    rw [hno]
    repeat' ((first | (refine A7 (x:=w) hwk (by omega) ?_) | refine A9 hq ?_ |refine A1 ?_|refine S1 ?_|refine Z1 ?_|refine Z2 ?_|(refine And.intro ?_ ?_<;>intro h<;>try first|(exfalso;omega)|exact absurd rfl h)|refine Z3 ?_|refine Z4 ?_|intro el hel hbB|intro el hel|intro ex|refine Z5 ?_|(refine A6 ?_ ?_;exact ⟨by kernel_rfl,by decide⟩)|refine A5 ?_ ?_|exact A4|refine A3 ?_ ?_|exact A2|(refine A0 ?_ ?_ ?_;kernel_rfl;kernel_rfl)) <;> (try (conv=>whnf)))
    all_goals first
     | (exfalso;omega)
     | exact K7 (rs:=[.tmp 2, .tmp 3]) (vs:=[_,_]) rfl ⟨⟨_,rfl, .nil _⟩,⟨_,rfl, .refl _⟩,trivial⟩ rfl
 ·rw [List.take_of_length_le (by omega)] at hI
  unfold IG
  rw [hI]
  have hkk:l.length = ws.length:=by omega
  repeat' ((first|refine A1 ?_|refine S1 ?_|refine Z1 ?_|refine Z2 ?_|(refine And.intro ?_ ?_<;>intro h<;>try first|(exfalso;omega)|exact absurd rfl h)|refine Z3 ?_|refine Z4 ?_|intro el hel hbB|intro el hel|intro ex|refine Z5 ?_|(refine A6 ?_ ?_;exact ⟨by kernel_rfl,by decide⟩)|refine A5 ?_ ?_|exact A4|refine A3 ?_ ?_|exact A2|(refine A0 ?_ ?_ ?_;kernel_rfl;kernel_rfl)) <;> (try (conv=>whnf)))
  all_goals first
   | (exfalso;omega)
   | exact K7 (rs:=[.tmp 2, .tmp 3]) (vs:=[_,_]) rfl ⟨⟨_,rfl, .refl _⟩,⟨_,rfl, .refl _⟩,trivial⟩ rfl
set_option maxHeartbeats 2000000 in
theorem Ma (c:Code) (w:List UInt8):B3 Tryz.prog 125 [.agg (cA c), .iptr [.str w]] (.b (decide (c.name = w))):=by
 refine F3 Tryz.func125 8 fun hrd E h0=>?_
 clear hrd
 repeat' ((first|refine A1 ?_|refine S1 ?_|refine Z1 ?_|refine Z2 ?_|(refine And.intro ?_ ?_<;>intro h<;>try first|(exfalso;omega)|exact absurd rfl h)|refine Z3 ?_|refine Z4 ?_|intro el hel hbB|intro el hel|intro ex|refine Z5 ?_|(refine A6 ?_ ?_;exact ⟨by kernel_rfl,by decide⟩)|refine A5 ?_ ?_|exact A4|refine A3 ?_ ?_|exact A2|(refine A0 ?_ ?_ ?_;kernel_rfl;kernel_rfl)) <;> (try (conv=>whnf)))
 all_goals first
  | exact B2 rfl rfl
end Go.Proofs.YtiphlhoclaogjabGreatDoor
namespace Go.Proofs.YtiphlhoclaogjabGreatDoor
open Go Go.Av
attribute [local irreducible] D1 B5 D5 D3 DQ D7 E0 St.le B3 B6
set_option maxRecDepth 100000
mutual
def ZZ:I8 → Int → Int
 | .mk _ _ _ _ _ ks,most=>Vn ks most 1
def Vn:List I8 → Int → Int → Int
 | [],_,n=>n
 | x :: r,most,n=>if n < most then Vn r most (n + ZZ x (most - n)) else n
end
abbrev Mb (s:B8) (col kind:Int):Bool:=decide (0 ≤ col ∧ col < s.cols.length ∧ (I0 s col).kind = kind)
end Go.Proofs.YtiphlhoclaogjabGreatDoor
namespace Go.Proofs.YtiphlhoclaogjabGreatDoor
open Go Go.Av
attribute [local irreducible] D1 B5 D5 D3 DQ D7 E0 St.le B3 B6
set_option maxRecDepth 100000
inductive L4 where
 | mk (op num:Int) (name:List UInt8) (col:Int) (cols:List Int) (dims:List Pk) (cnd evt:I8) (kids:List L4)
def L4.op:L4 → Int | .mk o _ _ _ _ _ _ _ _=>o
def L4.num:L4 → Int | .mk _ n _ _ _ _ _ _ _=>n
def L4.name:L4 → List UInt8 | .mk _ _ nm _ _ _ _ _ _=>nm
def L4.col:L4 → Int | .mk _ _ _ c _ _ _ _ _=>c
def L4.cols:L4 → List Int | .mk _ _ _ _ cs _ _ _ _=>cs
def L4.dims:L4 → List Pk | .mk _ _ _ _ _ ds _ _ _=>ds
def L4.cnd:L4 → I8 | .mk _ _ _ _ _ _ c _ _=>c
def L4.evt:L4 → I8 | .mk _ _ _ _ _ _ _ v _=>v
def L4.kids:L4 → List L4 | .mk _ _ _ _ _ _ _ _ ks=>ks
mutual
def aJ:L4 → List AV
 | .mk o n nm c cs ds cd ev ks=>[.i o, .i n, .str nm, .i c, .sl 1 (cs.map wA), .sl 2 (ds.map an), .i cd.op, .i cd.col, .i cd.code, .i cd.lo, .i cd.hi, .sl 6 (cd.kids.map UJ), .i ev.op, .i ev.col, .i ev.code, .i ev.lo, .i ev.hi, .sl 6 (ev.kids.map UJ), .sl 19 (Vo ks)]
def Vo:List L4 → List (List AV)
 | []=>[]
 | x :: r=>aJ x :: Vo r
end
mutual
def Za:L4 → I8
 | .mk _ _ _ _ _ _ _ _ ks=>.mk 0 0 0 0 0 (Rz ks)
def Rz:List L4 → List I8
 | []=>[]
 | x :: r=>Za x :: Rz r
end
structure au where
 name:List UInt8
 out:Bool
 x:L4
abbrev Yc (c:I8):Prop:=c.op = 0 ∧ c.col = 0 ∧ c.code = 0 ∧ c.lo = 0 ∧ c.hi = 0 ∧ c.kids.length = 0
abbrev Zb (op:Int):Prop:=op = 1 ∨ op = 13
abbrev Yd (op:Int):Prop:=op = 2
abbrev Pm (op:Int):Prop:=4 ≤ op ∧ op ≤ 5 ∨ 10 ≤ op ∧ op ≤ 14
abbrev Ye (op:Int):Prop:=op = 11
abbrev Yf (op:Int):Prop:=op = 10
abbrev Pn (op:Int):Prop:=3 ≤ op ∧ op ≤ 5 ∨ 10 ≤ op ∧ op ≤ 14
abbrev Po (op:Int):Prop:=op = 12
abbrev DO (op:Int):Prop:=6 ≤ op ∧ op ≤ 9
abbrev Yg (e:L4):Prop:=(Zb e.op ∨ e.num = 0) ∧ (Yd e.op ∨ e.name.length = 0) ∧ (Pm e.op ∨ e.col = 0) ∧ (Ye e.op ∨ e.cols.length = 0) ∧ (Yf e.op ∨ e.dims.length = 0) ∧ (Pn e.op ∨ Yc e.cnd) ∧ (Po e.op ∨ Yc e.evt) ∧ (DO e.op ∨ e.kids.length = 0)
def aK (s:B8) (l:List Pk) (i:Nat) (d:Pk):Int:=if Ve s d ≠ 0 then Ve s d else if (I0 s d.col).kind ≠ 2 then 7 else if ((l.take i).any fun x=>decide (x.col = d.col)) = true then 10 else 0
def Zc (s:B8) (l:List Pk):Int:=if l.length < 1 ∨ 3 < l.length then 1 else K8 (aK s l) 0 l
def aL (s:B8) (m:Int) (l:List Int) (i:Nat) (c:Int):Int:=if Mb s c 3 = false then 7 else if c = m ∨ ((l.take i).any fun x=>decide (x = c)) = true then 10 else 0
def Zd (s:B8) (m:Int) (l:List Int):Int:=if l.length < 1 ∨ 3 < l.length then 1 else K8 (aL s m l) 0 l
def Uf (s:B8) (e:L4):Bool :=
 if e.op = 1 then decide (-1099511627776 ≤ e.num ∧ e.num ≤ 1099511627776) else if e.op = 2 then D0 e.name
 else if e.op = 4 ∨ e.op = 5 ∨ e.op = 14 then Mb s e.col 3
 else if e.op = 10 then decide (Zc s e.dims = 0) && (decide (e.col = -1) || Mb s e.col 3)
 else if e.op = 11 then Mb s e.col 3 && decide (Zd s e.col e.cols = 0)
 else if e.op = 12 then Mb s e.col 3 && decide (0 ≤ (I0 s e.col).low)
 else if e.op = 13 then Mb s e.col 3 && (I0 s e.col).widths.any fun x=>decide (x = e.num)
 else true
def aM (s:B8) (e:L4):Bool:=decide (1 ≤ e.op ∧ e.op ≤ 14) && decide (Yg e) && Uf s e && (decide (¬ Pn e.op) || decide (ML s e.cnd = 0)) && (decide (¬ Po e.op) || decide (ML s e.evt = 0)) && (decide (¬ DO e.op) || decide (e.kids.length = 2))
abbrev Ug (op:Int):Prop:=1 ≤ op ∧ op ≤ 9
mutual
def Uh (s:B8):L4 → Bool
 | .mk o n nm c cs ds cd ev ks=>aM s (.mk o n nm c cs ds cd ev ks) && !(Yh s ks)
def Yh (s:B8):List L4 → Bool
 | []=>false
 | x :: r=>(!decide (Ug x.op) || !Uh s x) || Yh s r
end
def aN (s:B8) (e:L4):Bool:=decide (F8 s = 0) && Uh s e
mutual
def aO (g:List UInt8 → Bool):L4 → Bool
 | .mk o n nm c cs ds cd ev ks=>!(decide (o = 2) && !g nm) && !(Yi g ks)
def Yi (g:List UInt8 → Bool):List L4 → Bool
 | []=>false
 | x :: r=>(!aO g x) || Yi g r
end
instance:I1 Tryz.prog 124 false 1:=.of (by kernel_rfl) (by kernel_rfl)
end Go.Proofs.YtiphlhoclaogjabGreatDoor
namespace Go.Proofs.YtiphlhoclaogjabGreatDoor
open Go Go.Av
attribute [local irreducible] D1 B5 D5 D3 DQ D7 E0 St.le B3 B6
set_option maxRecDepth 100000
abbrev aP:List UInt8:=[59,32]
abbrev Yj:List UInt8:=[44,32]
def aQ (op:Int):List UInt8 :=
 if op = 3 then [99,111,117,110,116] else if op = 4 then [115,117,109] else if op = 5 then [109,101,97,110] else if op = 10 then [116,97,98,108,101] else if op = 11 then [109,111,100,101,108] else if op = 12 then [99,117,114,118,101] else if op = 13 then [104,105,115,116] else [98,111,120]
def aR (op:Int):List UInt8:=if op = 6 then [32,43,32] else if op = 7 then [32,45,32] else if op = 8 then [32,42,32] else [32,47,32]
def e9 (sep:List UInt8):List (List UInt8) → List UInt8
 | []=>[]
 | [x]=>x
 | x :: y :: r=>x ++ sep ++ e9 sep (y :: r)
def Mc (s:B8) (c:Int):List UInt8:=if c < 0 then [45] else Kf s c
def aS (s:B8) (d:Pk):List UInt8:=Mc s d.col ++ [47] ++ Lib.itoa d.lev
def aT (s:B8) (o n c:Int) (cs:List Int) (ds:List Pk) (ev:I8):List (List UInt8) :=
 if o = 3 then [] else if o = 10 then [e9 Yj (ds.map (aS s)),Mc s c] else if o = 11 then [Mc s c,e9 Yj (cs.map (Mc s))] else if o = 12 then [Mc s c,UM s ev] else if o = 13 then [Mc s c,Lib.itoa n] else [Mc s c]
mutual
def aU (s:B8):L4 → List UInt8
 | .mk o n nm c cs ds cd ev ks =>
   if o = 1 then Lib.itoa n else if o = 2 then nm
   else if 6 ≤ o ∧ o ≤ 9 then [40] ++ (Pp s ks).getD 0 [] ++ aR o ++ (Pp s ks).getD 1 [] ++ [41]
   else aQ o ++ [40] ++ e9 aP (aT s o n c cs ds ev ++ [UM s cd]) ++ [41]
def Pp (s:B8):List L4 → List (List UInt8)
 | []=>[]
 | x :: r=>aU s x :: Pp s r
end
structure Mid where
 num:Int
 cols:List Int
 evt:I8
def C8 (c:UInt8) (b:UInt8):Bool:=!decide (b = c)
end Go.Proofs.YtiphlhoclaogjabGreatDoor
namespace Go.Proofs.YtiphlhoclaogjabGreatDoor
open Go Go.Av
attribute [local irreducible] D1 B5 D5 D3 DQ D7 E0 St.le B3 B6
set_option maxRecDepth 100000
theorem Ui (sep x:List UInt8) {l:List (List UInt8)} (h:l ≠ []):e9 sep (x :: l) = x ++ sep ++ e9 sep l:=by
 cases l with
 | nil=>exact absurd rfl h
 | cons y r=>rfl
end Go.Proofs.YtiphlhoclaogjabGreatDoor
namespace Go.Proofs.YtiphlhoclaogjabGreatDoor
open Go Go.Av
attribute [local irreducible] D1 B5 D5 D3 DQ D7 E0 St.le B3 B6
set_option maxRecDepth 100000
structure Yk (s:B8) (e:L4):Prop where
 op:1 ≤ e.op ∧ e.op ≤ 14
 unu:Yg e
 par:Uf s e = true
 cnd:Pn e.op → ML s e.cnd = 0
 evt:Po e.op → ML s e.evt = 0
 pair:DO e.op → e.kids.length = 2
 kid:∀ k ∈ e.kids,Ug k.op ∧ Uh s k = true
theorem Yk.col {s:B8} {e:L4} (h:Yk s e) (ho:Pm e.op):(e.op = 10 ∧ e.col = -1) ∨ Mb s e.col 3 = true:=by
 have hp:=h.par
 have hop:=h.op
 simp only [Pm] at ho
 unfold Uf at hp
 rw [if_neg (by omega),if_neg (by omega)] at hp
 by_cases h4:e.op = 4 ∨ e.op = 5 ∨ e.op = 14
 ·rw [if_pos h4] at hp;exact .inr hp
 rw [if_neg h4] at hp
 by_cases h10:e.op = 10
 ·rw [if_pos h10] at hp
  simp only [Bool.and_eq_true,Bool.or_eq_true] at hp
  rcases hp.2 with h | h
  ·exact .inl ⟨h10,of_decide_eq_true h⟩
  ·exact .inr h
 rw [if_neg h10] at hp
 by_cases h11:e.op = 11
 ·rw [if_pos h11] at hp
  simp only [Bool.and_eq_true] at hp
  exact .inr hp.1
 rw [if_neg h11] at hp
 by_cases h12:e.op = 12
 ·rw [if_pos h12] at hp
  simp only [Bool.and_eq_true] at hp
  exact .inr hp.1
 rw [if_neg h12,if_pos (by omega)] at hp
 simp only [Bool.and_eq_true] at hp
 exact .inr hp.1
end Go.Proofs.YtiphlhoclaogjabGreatDoor
namespace Go.Proofs.YtiphlhoclaogjabGreatDoor
open Go Go.Av
attribute [local irreducible] D1 B5 D5 D3 DQ D7 E0 St.le B3 B6
set_option maxRecDepth 100000
theorem SA (sep:List UInt8) (hs:1 ≤ sep.length):∀ l:List (List UInt8),l.length ≤ (e9 sep l).length + 1
 | []=>by simp
 | [x]=>by simp
 | x :: y :: r=>by
   have:=SA sep hs (y :: r)
   rw [e9,List.length_append,List.length_append,List.length_cons]
   omega
def Vp (u:List UInt8):Prop:=∀ b r,u = b :: r → b.toNat = 32 ∨ b.toNat = 41
theorem Vp.stops {u:List UInt8} (h:Vp u):Vi u:=fun b r e=>by
 have:=h b r e
 unfold CO
 exact decide_eq_false (by omega)
theorem Jz (n:Int):∃ b r,Lib.itoa n = b :: r ∧ (b.toNat = 45 ∨ 48 ≤ b.toNat ∧ b.toNat ≤ 57):=by
 unfold Lib.itoa
 by_cases h:n < 0
 ·rw [if_pos h];exact ⟨45,_,rfl, .inl rfl⟩
 ·rw [if_neg h]
  obtain ⟨d1,d2,d3⟩:=j9 n.toNat
  cases hc:Lib.decDigits n.toNat with
  | nil=>rw [hc] at d3;simp at d3
  | cons c r=>exact ⟨c,r,rfl, .inr (GT d2 hc)⟩
end Go.Proofs.YtiphlhoclaogjabGreatDoor
