/- Chapter 8: the example of the chapter. -/
import Derived.Test.YthkklceofokkmaaGreatDoorBAvB
import Derived.Test.YthkklceofokkmaaGreatDoorBQp1
import Derived.Test.YthkklceofokkmaaGreatDoorBB12
import Derived.Test.YthkklceofokkmaaGreatDoorBXs
import Derived.Test.YthkklceofokkmaaGreatDoorBB9
set_option linter.unusedVariables false
set_option linter.unnecessarySimpa false
set_option linter.unusedSimpArgs false
namespace Go.Proofs.YthkklceofokkmaaGreatDoor
open Go Go.Av
attribute [local irreducible] E5 B7 E6 E7 DQ E8 F0 St.le B3 B5
set_option maxRecDepth 100000
def NR:B2:=⟨[([108],[⟨[97], -1⟩])],[⟨[119,104,111],1,0,0,0,[],false⟩,⟨[115,101,120],2,0,0,0,[],false⟩]⟩
abbrev QM:AV:=.agg [.sl 2 [[.str [108], .sl 2 [[.str [97], .i (-1)]]]], .sl 7 [[.str [119,104,111], .i 1, .i 0, .i 0, .i 0, .v (.slice none 0 0), .b false],[.str [115,101,120], .i 2, .i 0, .i 0, .i 0, .v (.slice none 0 0), .b false]]]
theorem bU:NL QM (sA NR):=Hh ⟨.refl _,ew ⟨⟨.refl _, .refl _, .refl _, .refl _, .refl _, .nil 1, .refl _,trivial⟩,⟨.refl _, .refl _, .refl _, .refl _, .refl _, .nil 1, .refl _,trivial⟩,trivial⟩,trivial⟩
theorem QN {f:Nat} {l:List AV} {r:AV} (h:B3 Tryz.prog f (sA NR :: l) r):B3 Tryz.prog f (QM :: l) r:=Xj h ⟨bU,Ff.refl l⟩
abbrev QO:List UInt8:=[112,114,111,106,101,99,116,32,112,10,115,111,117,114,99,101,32,115,10,99,111,104,111,114,116,32,97,108,108,10,115,97,109,112,108,101,32,49,32,111,102,32,50,32,115,101,101,100,32,51,10,116,97,98,108,101,32,116,32,98,121,32,115,101,120,47,48,32,119,104,101,114,101,32,110,111,116,32,97,108,108,10]
abbrev UA:D3:=⟨[116],1, .mk 7 0 0 0 0 [.mk 1 0 0 0 0 []],[⟨1,0⟩], -1,[],zX⟩
abbrev IG:F4:=⟨[112],[115], .mk 1 0 0 0 0 [],1,2,3,[UA]⟩
theorem dk:l8 NR QO = (IG,0,0):=by kernel_rfl
theorem dl:Hr NR IG = (QO,0):=by kernel_rfl
theorem dm:U8 NR IG = 0:=by kernel_rfl
set_option maxHeartbeats 4000000 in
theorem FJ:B3 Tryz.prog 8 [] (.b true):=by
 have c1:B3 Tryz.prog 19 [QM, .str QO] (.tup [M5 IG, .i 0, .i 0]):=QN ((BE NR QO).congr (congrArg (fun z:F4 × Int × Int=>AV.tup [M5 z.1, .i z.2.1, .i z.2.2]) dk))
 have c2:B3 Tryz.prog 18 [QM,M5 IG] (.tup [.str QO, .i 0]):=QN ((DF NR IG).congr (congrArg (fun z:List UInt8 × Int=>AV.tup [.str z.1, .i z.2]) dl))
 have c3:B3 Tryz.prog 13 [QM,M5 IG] (.i 0):=QN ((DD NR IG).congr (congrArg AV.i dm))
 have hx:[UA][(0:Int).toNat]? = some UA:=rfl
 refine F7 Tryz.func8 70 fun hrd E h0=>?_
 clear hrd
 repeat' ((first | refine B0 c1 ?_ | refine B0 c2 ?_ | refine B0 c3 ?_ | (refine B1 (x:=UA) hx (by omega) ?_) |refine A1 ?_|refine S1 ?_|refine Z1 ?_|refine Z2 ?_|(refine And.intro ?_ ?_<;>intro h<;>try first|(exfalso;omega)|exact absurd rfl h)|refine Z3 ?_|refine Z4 ?_|intro el hel hbB|intro el hel|intro ex|refine Z5 ?_|(refine A8 ?_ ?_;exact ⟨by kernel_rfl,by decide⟩)|refine A7 ?_ ?_|exact A6|refine A3 ?_ ?_|exact A2|(refine A0 ?_ ?_ ?_;kernel_rfl;kernel_rfl)) <;> (try (conv=>whnf)))
 all_goals first
  | exact A9 rfl rfl
end Go.Proofs.YthkklceofokkmaaGreatDoor
namespace Go.Proofs.YthkklceofokkmaaGreatDoor
open Go Go.Av
attribute [local irreducible] E5 B7 E6 E7 DQ E8 F0 St.le B3 B5
set_option maxRecDepth 100000
theorem IH {c:UInt8}:∀ {n u:List UInt8},n.all (B6 c) = true → (n ++ c :: u).takeWhile (B6 c) = n ∧ (n ++ c :: u).dropWhile (B6 c) = c :: u
 | [],u,_=>by
   have e:B6 c c = false:=by unfold B6;simp
   rw [List.nil_append,List.takeWhile_cons,List.dropWhile_cons,e]
   exact ⟨rfl,rfl⟩
 | a :: r,u,h=>by
   rw [List.all_cons,Bool.and_eq_true] at h
   obtain ⟨h1,h2⟩:=IH (u:=u) h.2
   rw [List.cons_append,List.takeWhile_cons,List.dropWhile_cons,h.1,h1,h2]
   exact ⟨rfl,rfl⟩
theorem SK {c:UInt8}:∀ {n:List UInt8},n.all (B6 c) = true → n.takeWhile (B6 c) = n ∧ n.dropWhile (B6 c) = []
 | [],_=>⟨rfl,rfl⟩
 | a :: r,h=>by
   rw [List.all_cons,Bool.and_eq_true] at h
   obtain ⟨h1,h2⟩:=SK h.2
   rw [List.takeWhile_cons,List.dropWhile_cons,h.1,h1,h2]
   exact ⟨rfl,rfl⟩
theorem Fn {c:UInt8}:∀ {t:List UInt8},t.dropWhile (B6 c) ≠ [] → t.dropWhile (B6 c) = c :: (t.dropWhile (B6 c)).drop 1
 | [],h=>absurd rfl h
 | a :: r,h=>by
   rw [List.dropWhile_cons] at h ⊢
   by_cases ha:B6 c a = true
   ·rw [if_pos ha] at h ⊢
    exact Fn h
   ·rw [if_neg ha]
    unfold B6 at ha
    have:a = c:=by simpa using ha
    rw [this];rfl
theorem QP (c:UInt8) (t:List UInt8):(t.takeWhile (B6 c)).all (B6 c) = true:=by
 induction t with
 | nil=>rfl
 | cons a r ih =>
   rw [List.takeWhile_cons]
   by_cases h:B6 c a = true
   ·rw [if_pos h,List.all_cons,h,ih];rfl
   ·rw [if_neg h];rfl
theorem Fo (c:UInt8) (t:List UInt8):t.takeWhile (B6 c) ++ t.dropWhile (B6 c) = t:=List.takeWhile_append_dropWhile
structure StmR (s:B2) (x:fH):Prop where
 ne:x.name ≠ []
 sp:x.name.all (B6 32) = true
 rig:fV s x.x = true
abbrev DZ (c:UInt8):Prop:=c = 10 ∨ c = 44 ∨ c = 59
theorem Yb {c:UInt8} (hc:DZ c) {l:List UInt8} (h:l.all J5 = true):l.all (B6 c) = true:=by
 rw [List.all_eq_true] at h ⊢
 intro b hb
 have:=h b hb
 unfold J5 at this
 have:=of_decide_eq_true this
 unfold B6
 rw [decide_eq_false (by intro e;subst e;revert this;rcases hc with rfl | rfl | rfl <;> decide)];rfl
theorem dn (c:UInt8) (a b:List UInt8):(a ++ b).all (B6 c) = (a.all (B6 c) && b.all (B6 c)):=List.all_append
theorem Ij {c:UInt8} (hc:DZ c) (n:Int):(Lib.itoa n).all (B6 c) = true:=by
 unfold Lib.itoa
 by_cases h:n < 0
 ·rw [if_pos h,List.all_cons]
  obtain ⟨_,d2,_⟩:=u6 n.natAbs
  rw [Yb hc (by rw [List.all_eq_true] at d2 ⊢;exact fun c hc=>Ab (d2 c hc))]
  rcases hc with rfl | rfl | rfl <;> rfl
 ·rw [if_neg h]
  obtain ⟨_,d2,_⟩:=u6 n.toNat
  exact Yb hc (by rw [List.all_eq_true] at d2 ⊢;exact fun c hc=>Ab (d2 c hc))
theorem Bl {c:UInt8} (hc:DZ c) {nm:List UInt8} (h:C9 nm = true):nm.all (B6 c) = true:=Yb hc (CI h).1
theorem WB {c:UInt8} (hc:DZ c) {s:B2} (hr:C8 s = 0) (k:Int):(R4 s k).all (B6 c) = true:=by
 unfold R4 C6
 rw [List.getD_eq_getElem?_getD]
 cases hx:s.cols[k.toNat]? with
 | none=>rfl
 | some x=>exact Bl hc (j3 hr hx).1
theorem dp {c:UInt8} (hc:DZ c) {s:B2} (hr:C8 s = 0) (i k:Int):(An s i k).all (B6 c) = true:=by
 unfold An D7
 rw [List.getD_eq_getElem?_getD,List.getD_eq_getElem?_getD]
 cases hl:s.lists[(C6 s i).lst.toNat]? with
 | none=>rfl
 | some l =>
   rw [Option.getD_some]
   cases hx:l.2[k.toNat]? with
   | none=>rfl
   | some x=>exact Bl hc (Ge hr (List.mem_of_getElem? hl) hx)
theorem QQ {c:UInt8} (hc:DZ c):U4.all (B6 c) = true ∧ P5.all (B6 c) = true ∧ CW.all (B6 c) = true ∧ m5.all (B6 c) = true ∧ S9.all (B6 c) = true ∧ d6.all (B6 c) = true ∧ d9.all (B6 c) = true ∧ CG.all (B6 c) = true ∧ [(40:UInt8)].all (B6 c) = true ∧ [(41:UInt8)].all (B6 c) = true ∧ [(45:UInt8)].all (B6 c) = true ∧ [(47:UInt8)].all (B6 c) = true:=by
 rcases hc with rfl | rfl | rfl <;> decide
theorem Ik {c:UInt8} (hc:DZ c) {s:B2} (hr:C8 s = 0) (x:A4):(D6 s x).all (B6 c) = true:=by
 obtain ⟨q1,q2,q3,q4,q5,q6,q7,q8,q9,q10,_,_⟩:=QQ hc
 refine Q3 (p:=fun x=>(D6 s x).all (B6 c) = true) (fun x ih=>?_) x
 have kid:∀ i:Nat,((x.kids.map (D6 s)).getD i []).all (B6 c) = true:=fun i=>by
  rw [List.getD_eq_getElem?_getD,List.getElem?_map]
  cases hk:x.kids[i]? with
  | none=>rfl
  | some k=>exact ih k (List.mem_of_getElem? hk)
 rw [Fi]
 (repeat' split) <;> simp only [dn,WB hc hr,dp hc hr,Ij hc,kid,q1,q2,q3,q4,q5,q6,q7,q8,q9,q10,Bool.and_true]
theorem LR {c:UInt8} (hc:DZ c) {s:B2} (hr:C8 s = 0) (k:Int):(H7 s k).all (B6 c) = true:=by
 unfold H7
 split
 ·exact (QQ hc).2.2.2.2.2.2.2.2.2.2.1
 ·exact WB hc hr k
end Go.Proofs.YthkklceofokkmaaGreatDoor
namespace Go.Proofs.YthkklceofokkmaaGreatDoor
open Go Go.Av
attribute [local irreducible] E5 B7 E6 E7 DQ E8 F0 St.le B3 B5
set_option maxRecDepth 100000
theorem Gr (sep:List UInt8):∀ {a b:List (List UInt8)},a ≠ [] → b ≠ [] → P9 sep (a ++ b) = P9 sep a ++ sep ++ P9 sep b
 | [],_,h,_=>absurd rfl h
 | [x],b,_,hb=>Cp sep x hb
 | x :: y :: r,b,_,hb=>by
   rw [List.cons_append,Cp sep x (by simp),Gr sep (by simp) hb,Cp sep x (by simp)]
   simp only [List.append_assoc]
theorem Ai {c:UInt8} {t:List UInt8} {ps:List (List UInt8)} (hne:ps ≠ []) (h:∀ p ∈ ps,p.all (B6 c) = true) (e:t = P9 [c] ps):E1 [c] t = ps:=by
 subst e
 exact MJ hne h
theorem Dy (c:UInt8) (t:List UInt8):E1 [c] t ≠ [] ∧ (∀ p ∈ E1 [c] t,p.all (B6 c) = true) ∧ t = P9 [c] (E1 [c] t) :=
 ⟨MH [c] _ t,SH _ t (Nat.le_refl _),(Gj _ t).symm⟩
theorem Gs (c:UInt8) (a b:List UInt8):E1 [c] (a ++ [c] ++ b) = E1 [c] a ++ E1 [c] b:=by
 obtain ⟨a1,a2,a3⟩:=Dy c a
 obtain ⟨b1,b2,b3⟩:=Dy c b
 refine Ai (by simp [a1]) (fun p hp=>?_) ?_
 ·rcases List.mem_append.1 hp with h | h
  ·exact a2 p h
  ·exact b2 p h
 ·rw [Gr _ a1 b1, ← a3, ← b3]
def X3 (t:List UInt8):Prop:=∀ w ∈ E1 [32] t,w ≠ DX
theorem Gt {a b:List UInt8} (ha:X3 a) (hb:X3 b):X3 (a ++ [32] ++ b):=fun w hw=>by
 rw [Gs] at hw
 rcases List.mem_append.1 hw with h | h
 ·exact ha w h
 ·exact hb w h
theorem w6 {w:List UInt8} (hn:w.all (B6 32) = true) (hw:w ≠ DX):X3 w:=fun x hx=>by
 rw [show E1 [32] w = [w] from Ai (by simp) (fun p hp=>by rw [List.mem_singleton.1 hp];exact hn) rfl] at hx
 rw [List.mem_singleton.1 hx];exact hw
theorem QR {a:List UInt8} (x:UInt8) (hx:x ≠ 32) (hx2:x ≠ 119) (ha:X3 a):X3 (x :: a):=fun w hw=>by
 obtain ⟨a1,a2,a3⟩:=Dy 32 a
 unfold X3 at ha
 generalize E1 [32] a = ps at *
 match ps,a1 with
 | p :: r,_ =>
   have e:x :: a = P9 [32] ((x :: p) :: r):=by
    rw [a3]
    cases r with
    | nil=>rfl
    | cons y l=>rfl
   rw [Ai (ps:=(x :: p) :: r) (by simp) (fun q hq=>by
    rcases List.mem_cons.1 hq with rfl | h
    ·rw [List.all_cons,a2 p (by simp)]
     unfold B6
     rw [decide_eq_false hx];rfl
    ·exact a2 q (by simp [h])) e] at hw
   rcases List.mem_cons.1 hw with rfl | h
   ·intro e2
    exact hx2 (List.cons.inj e2).1
   ·exact ha w (by simp [h])
theorem Yc {a:List UInt8} (y:UInt8) (hy:y ≠ 32) (hy2:y ≠ 101) (ha:X3 a):X3 (a ++ [y]):=fun w hw=>by
 obtain ⟨a1,a2,a3⟩:=Dy 32 a
 unfold X3 at ha
 generalize E1 [32] a = ps at *
 rcases List.eq_nil_or_concat ps with h | ⟨l,p,h⟩
 ·exact absurd h a1
 ·rw [List.concat_eq_append] at h
  subst h
  have key:a ++ [y] = P9 [32] (l ++ [p ++ [y]]):=by
   rw [a3]
   cases l with
   | nil=>rfl
   | cons x r=>rw [Gr _ (by simp) (by simp),Gr _ (by simp) (by simp),List.append_assoc];rfl
  rw [Ai (ps:=l ++ [p ++ [y]]) (by simp) (fun q hq=>by
   rcases List.mem_append.1 hq with h | h
   ·exact a2 q (by simp [h])
   ·rw [List.mem_singleton.1 h,List.all_append,a2 p (by simp)]
    unfold B6
    rw [List.all_cons,decide_eq_false hy];rfl) key] at hw
  rcases List.mem_append.1 hw with h | h
  ·exact ha w (by simp [h])
  ·rw [List.mem_singleton.1 h]
   intro e2
   have h3:(p ++ [y]).getLast? = some 101:=by rw [e2];rfl
   rw [List.getLast?_append] at h3
   simp at h3
   exact hy2 h3
theorem QT {t:List UInt8} (h:X3 t) (x y:List UInt8):[32] ++ t ≠ x ++ J1 ++ y:=fun e=>by
 have hW:E1 [32] DX = [DX]:=Ai (by simp) (fun p hp=>by rw [List.mem_singleton.1 hp];rfl) rfl
 cases x with
 | nil =>
   have e2:t = DX ++ [32] ++ y:=by simpa using e
   refine h DX ?_ rfl
   rw [e2,Gs,hW];simp
 | cons b x =>
   have e2:t = x ++ [32] ++ (DX ++ [32] ++ y):=by
    have:=(List.cons.inj (show 32 :: t = b :: (x ++ J1 ++ y) from by simpa using e)).2
    rw [this];simp
   refine h DX ?_ rfl
   rw [e2,Gs,Gs,hW];simp
theorem LS {l:List UInt8} (h:l.all J5 = true):l.all (B6 32) = true:=by
 rw [List.all_eq_true] at h ⊢
 intro b hb
 have:=of_decide_eq_true (h b hb)
 unfold B6
 by_cases e:b = 32
 ·subst e;revert this;decide
 ·rw [decide_eq_false e];rfl
theorem NS {n:List UInt8} (h:C9 n = true):X3 n:=by
 obtain ⟨h1,h2,_⟩:=CI h
 exact w6 (LS h1) fun e=>h2 (by rw [e];decide)
theorem FK:X3 []:=w6 (by rfl) (by decide)
theorem Yd {s:B2} (hr:C8 s = 0) (k:Int):X3 (R4 s k):=by
 unfold R4 C6
 rw [List.getD_eq_getElem?_getD]
 cases hx:s.cols[k.toNat]? with
 | none=>exact FK
 | some x=>exact NS (j3 hr hx).1
theorem Ye {s:B2} (hr:C8 s = 0) (i k:Int):X3 (An s i k):=by
 unfold An D7
 rw [List.getD_eq_getElem?_getD,List.getD_eq_getElem?_getD]
 cases hl:s.lists[(C6 s i).lst.toNat]? with
 | none=>exact FK
 | some l =>
   rw [Option.getD_some]
   cases hx:l.2[k.toNat]? with
   | none=>exact FK
   | some x=>exact NS (Ge hr (List.mem_of_getElem? hl) hx)
theorem NT (n:Int):X3 (Lib.itoa n):=by
 have key:∀ u,(Lib.decDigits u).all (B6 32) = true ∧ Lib.decDigits u ≠ DX:=fun u=>by
  obtain ⟨_,d2,_⟩:=u6 u
  refine ⟨LS (by rw [List.all_eq_true] at d2 ⊢;exact fun c hc=>Ab (d2 c hc)),fun e=>?_⟩
  rw [e] at d2
  revert d2;decide
 unfold Lib.itoa
 split
 ·exact QR 45 (by decide) (by decide) (w6 (key _).1 (key _).2)
 ·exact w6 (key _).1 (key _).2
theorem WC {s:B2} (hr:C8 s = 0) (x:A4):X3 (D6 s x):=by
 refine Q3 (p:=fun x=>X3 (D6 s x)) (fun x ih=>?_) x
 have hc:X3 ([]:List UInt8):=w6 (by rfl) (by decide)
 have kid:∀ i:Nat,X3 ((x.kids.map (D6 s)).getD i []):=fun i=>by
  rw [List.getD_eq_getElem?_getD,List.getElem?_map]
  cases hk:x.kids[i]? with
  | none=>exact hc
  | some k=>exact ih k (List.mem_of_getElem? hk)
 have mid:∀ (w:List UInt8),w.all (B6 32) = true → w ≠ DX → ∀ {a b:List UInt8},X3 a → X3 b → X3 (a ++ (32 :: (w ++ [32])) ++ b):=fun w h1 h2 a b ha hb=>by
  have:=Gt (Gt ha (w6 h1 h2)) hb
  simpa only [List.append_assoc,List.cons_append,List.nil_append] using this
 have hcol:=Yd hr x.col
 have hcod:=Ye hr x.col x.code
 have two:∀ (w:List UInt8),w.all (B6 32) = true → w ≠ DX → X3 ([40] ++ (x.kids.map (D6 s)).getD 0 [] ++ (32 :: (w ++ [32])) ++ (x.kids.map (D6 s)).getD 1 [] ++ [41]):=fun w h1 h2=>by
  have:=mid w h1 h2 (QR 40 (by decide) (by decide) (kid 0)) (Yc 41 (by decide) (by decide) (kid 1))
  simpa only [List.append_assoc,List.cons_append,List.nil_append] using this
 rw [Fi]
 split
 ·exact mid [117,110,100,101,114] (by decide) (by decide) hcol hcod
 split
 ·exact mid [116,111] (by decide) (by decide) (mid [102,114,111,109] (by decide) (by decide) hcol (NT _)) (NT _)
 split
 ·have:=Gt hcol (w6 (w:=[109,105,115,115,105,110,103]) (by decide) (by decide))
  simpa only [List.append_assoc,List.cons_append,List.nil_append] using this
 split
 ·exact two [97,110,100] (by decide) (by decide)
 split
 ·exact two [111,114] (by decide) (by decide)
 split
 ·have:=Gt (w6 (w:=[110,111,116]) (by decide) (by decide)) (kid 0)
  simpa only [List.append_assoc,List.cons_append,List.nil_append] using this
 ·exact w6 (by decide) (by decide)
theorem SL {s sub:List UInt8} {i:Nat} (h:Lib.occAt s sub i = true):s.drop i = sub ++ s.drop (i + sub.length):=by
 have:=Jm h
 rw [List.drop_drop] at this
 exact this
theorem UB {x y:List UInt8} (h:X3 y):Lib.lastIndex (x ++ J1 ++ y) J1 = x.length:=by
 unfold Lib.lastIndex
 have hl:(x ++ J1 ++ y).length = x.length + 7 + y.length:=by simp only [List.length_append,List.length_cons,List.length_nil]
 have h7:J1.length = 7:=rfl
 rw [if_pos (by omega),hl,h7]
 have hx:Lib.occAt (x ++ J1 ++ y) J1 x.length = true:=by
  unfold Lib.occAt
  rw [List.append_assoc,List.drop_left,List.isPrefixOf_iff_prefix]
  exact List.prefix_append _ _
 rcases Lib.lastOcc_spec (x ++ J1 ++ y) J1 (x.length + 7 + y.length - 7 + 1) with ⟨_,h2⟩ | ⟨i,h1,h2,h3,h4⟩
 ·rw [h2 x.length (by omega)] at hx;cases hx
 ·have hge:x.length ≤ i:=by
   refine Decidable.of_not_not fun hn=>?_
   rw [h4 x.length (by omega) (by omega)] at hx;cases hx
  rw [h2]
  refine Decidable.of_not_not fun hne=>?_
  obtain ⟨j,hj⟩:∃ j,i = x.length + (j + 1):=⟨i - x.length - 1,by omega⟩
  have h5:=SL h3
  rw [hj,List.append_assoc, ← List.drop_drop,List.drop_left] at h5
  generalize List.drop _ (x ++ (J1 ++ y)) = z at h5
  match j,h5 with
  | 0,h5=>cases (List.cons.inj h5).1
  | 1,h5=>cases (List.cons.inj h5).1
  | 2,h5=>cases (List.cons.inj h5).1
  | 3,h5=>cases (List.cons.inj h5).1
  | 4,h5=>cases (List.cons.inj h5).1
  | 5,h5=>exact QT h [] z h5
  | j + 6,h5 =>
    have e:(J1 ++ y).drop (j + 6 + 1) = y.drop j:=by
     show ([32,119,104,101,114,101,32] ++ y).drop (j + 7) = y.drop j
     rw [Nat.add_comm, ← List.drop_drop];rfl
    rw [e] at h5
    refine QT h ([32] ++ y.take j) z ?_
    rw [List.append_assoc,List.append_assoc, ← h5,List.take_append_drop]
theorem Yf {t:List UInt8} (h:0 ≤ Lib.lastIndex t J1):t = t.take (Lib.lastIndex t J1).toNat ++ J1 ++ t.drop ((Lib.lastIndex t J1).toNat + 7):=by
 unfold Lib.lastIndex at h ⊢
 split at h
 ·rename_i hl
  rw [if_pos hl]
  rcases Lib.lastOcc_spec t J1 (t.length - J1.length + 1) with ⟨h1,_⟩ | ⟨i,h1,h2,h3,_⟩
  ·rw [h1] at h;cases h
  ·have h5:=SL h3
   have h7:J1.length = 7:=rfl
   rw [h7] at h5
   rw [h2,Int.toNat_natCast,List.append_assoc, ← h5,List.take_append_drop]
 ·cases h
end Go.Proofs.YthkklceofokkmaaGreatDoor
