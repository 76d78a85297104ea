/- Plain lists: the first error, the first place, and what was passed. Chapter 1: names, and what they are. Chapter 1: the levels of codes. Chapter 1: leaves and depths, by the reference. Chapter 1: the check of a list. Chapter 1: the check of a list, by the reference. Chapter 1: levels, ancestors, codes of a level. Chapter 1: ancestors. Chapter 1: what stands below, codes of a level, codes with a name. Chapter 1: the codes of a level, and the example. Code lists that came in. -/
import Derived.Test.YthkklceofokkmaaGreatDoorBAvTy
import Derived.Test.YthkklceofokkmaaGreatDoorBE3
set_option linter.unusedVariables false
set_option linter.unnecessarySimpa false
set_option linter.unusedSimpArgs false
namespace Go.Proofs.YthkklceofokkmaaGreatDoor
open Go Go.Av
attribute [local irreducible] E5 B7 E6 E7 DQ E8 F0 St.le B3 B5
set_option maxRecDepth 100000
theorem M9 {α:Type} {l:List α} {k:Nat} {x:α} (h:l[k]? = some x):l.drop k = x :: l.drop (k + 1):=by
 obtain ⟨h1,h2⟩:=List.getElem?_eq_some_iff.1 h
 rw [List.drop_eq_getElem_cons h1,h2]
theorem IY {α:Type} {l:List α} {k:Nat} {x:α} (h:l[k]? = some x):l.take (k + 1) = l.take k ++ [x]:=by
 rw [List.take_add_one,h];rfl
theorem AW {α:Type} {l:List α} {k:Nat} (h:¬ (k:Int) < l.length):l.drop k = []:=List.drop_eq_nil_of_le (by omega)
theorem XN {α:Type} {l:List α} {k:Nat} (h:¬ (k:Int) < l.length):l.take k = l:=List.take_of_length_le (by omega)
theorem Q0 {α:Type} {l:List α} {k:Nat} {x:α} (h:l[k]? = some x):k < l.length:=(List.getElem?_eq_some_iff.1 h).1
def K2 {α:Type} (p:α → Bool):List α → Int → Int
 | [],_=>-1
 | x :: r,k=>if p x = true then k else K2 p r (k + 1)
theorem Ch {α:Type} (p:α → Bool):∀ (l:List α) (k:Int),0 ≤ k → decide (0 ≤ K2 p l k) = l.any p
 | [],k,_=>by simp [K2]
 | x :: r,k,h=>by
   unfold K2
   by_cases hp:p x = true
   ·rw [if_pos hp];simp [hp,h]
   ·rw [if_neg hp,Ch p r (k + 1) (by omega)]
    simp [hp]
theorem Rk {α:Type} (p:α → Bool):∀ (l:List α) (k:Int),K2 p l k = -1 ∨ (k ≤ K2 p l k ∧ K2 p l k < k + l.length)
 | [],k=>.inl rfl
 | x :: r,k=>by
   unfold K2
   by_cases hp:p x = true
   ·rw [if_pos hp];right;simp;omega
   ·rw [if_neg hp]
    rcases Rk p r (k + 1) with h | h
    ·exact .inl h
    ·right;simp;omega
def I2 {α:Type} (f:Nat → α → Int):Nat → List α → Int
 | _,[]=>0
 | i,x :: r=>if f i x = 0 then I2 f (i + 1) r else f i x
def L0 {α:Type} (f:Nat → α → Int) (l:List α) (k:Nat):Prop:=k ≤ l.length ∧ I2 f 0 l = I2 f k (l.drop k) ∧ ∀ (i:Nat) x,i < k → l[i]? = some x → f i x = 0
theorem L0.zero {α:Type} (f:Nat → α → Int) (l:List α):L0 f l 0:=⟨Nat.zero_le _,rfl,fun i x h=>absurd h (Nat.not_lt_zero _)⟩
theorem L0.step {α:Type} {f:Nat → α → Int} {l:List α} {k:Nat} {x:α} (h:L0 f l k) (hx:l[k]? = some x) (h0:f k x = 0):L0 f l (k + 1):=by
 refine ⟨Q0 hx,?_,fun i y hi hy=>?_⟩
 ·rw [h.2.1,M9 hx,I2,if_pos h0]
 ·by_cases e:i = k
  ·subst e;rw [hx] at hy;cases hy;exact h0
  ·exact h.2.2 i y (by omega) hy
theorem L0.hit {α:Type} {f:Nat → α → Int} {l:List α} {k:Nat} {x:α} (h:L0 f l k) (hx:l[k]? = some x) (h0:¬ f k x = 0):f k x = I2 f 0 l:=by
 rw [h.2.1,M9 hx,I2,if_neg h0]
theorem L0.done {α:Type} {f:Nat → α → Int} {l:List α} {k:Nat} (h:L0 f l k) (hk:¬ (k:Int) < l.length):I2 f 0 l = 0:=by
 rw [h.2.1,AW hk];rfl
theorem AA {α:Type} {f:Nat → α → Int}:∀ {l:List α} {k:Nat},I2 f k l = 0 → ∀ (i:Nat) x,l[i]? = some x → f (k + i) x = 0
 | [],k,_,i,x,h=>by simp at h
 | y :: r,k,h,i,x,hx=>by
   unfold I2 at h
   split at h
   ·cases i with
    | zero=>simp at hx;subst hx;assumption
    | succ i =>
      have:=AA h i x (by simpa using hx)
      rw [show k + (i + 1) = k + 1 + i by omega];exact this
   ·exact absurd h (by assumption)
def X9 {α:Type} (p:α → Bool) (l:List α) (k:Nat):Prop:=k ≤ l.length ∧ ∀ x ∈ l.take k,p x = false
theorem X9.zero {α:Type} (p:α → Bool) (l:List α):X9 p l 0:=⟨Nat.zero_le _,fun x hx=>by simp at hx⟩
theorem X9.step {α:Type} {p:α → Bool} {l:List α} {k:Nat} {x:α} (h:X9 p l k) (hx:l[k]? = some x) (h0:p x = false):X9 p l (k + 1):=by
 refine ⟨Q0 hx,fun y hy=>?_⟩
 rw [IY hx] at hy
 rcases List.mem_append.1 hy with hy | hy
 ·exact h.2 y hy
 ·simp at hy;subst hy;exact h0
theorem X9.hit {α:Type} {p:α → Bool} {l:List α} {k:Nat} {x:α} (h:X9 p l k) (hx:l[k]? = some x) (h0:p x = true):true = l.any p :=
 (List.any_eq_true.2 ⟨x,List.mem_of_getElem? hx,h0⟩).symm
theorem X9.done {α:Type} {p:α → Bool} {l:List α} {k:Nat} (h:X9 p l k) (hk:¬ (k:Int) < l.length):false = l.any p:=by
 have:=h.2
 rw [XN hk] at this
 exact (List.any_eq_false.2 (fun x hx=>by simp [this x hx])).symm
end Go.Proofs.YthkklceofokkmaaGreatDoor
namespace Go.Proofs.YthkklceofokkmaaGreatDoor
open Go Go.Av
attribute [local irreducible] E5 B7 E6 DQ E8 F0 St.le B3 B5
def CC (c:UInt8):Bool:=decide (97 ≤ c.toNat ∧ c.toNat ≤ 122 ∨ 48 ≤ c.toNat ∧ c.toNat ≤ 57 ∨ c.toNat = 95)
def words:List (List UInt8):=[[97,108,108],[97,110,100],[101,118,101,110,116],[102,114,111,109],[109,105,115,115,105,110,103],[110,111,116],[111,110],[111,114],[116,111],[117,110,100,101,114],[119,104,101,114,101]]
def Kp (l:List UInt8):Bool:=match l with | []=>false | c :: _=>decide (97 ≤ c.toNat ∧ c.toNat ≤ 122)
def C9 (l:List UInt8):Bool:=decide (l.length ≤ 16) && Kp l && l.all CC && !(decide (l ∈ words))
theorem JE {l:List UInt8} (h:(l.length:Int) < 1):false = C9 l:=by
 have:l = []:=List.eq_nil_of_length_eq_zero (by omega)
 subst this;rfl
theorem Kq {l:List UInt8} (h:16 < (l.length:Int)):false = C9 l:=by
 have:¬ l.length ≤ 16:=by omega
 simp [C9,this]
theorem Kr {l:List UInt8} {el:UInt8} (hel:l[Int.toNat 0]? = some el) (h:(el.toNat:Int) < 97 ∨ 122 < (el.toNat:Int)):false = C9 l:=by
 cases l with
 | nil=>rfl
 | cons c r =>
   have:c = el:=by simpa using hel
   subst this
   have:¬ (97 ≤ c.toNat ∧ c.toNat ≤ 122):=by omega
   simp [C9,Kp];omega
theorem Mv {l:List UInt8} {k:Nat} {el:UInt8} (hel:l[k]? = some el) (h:¬ (97 ≤ el.toNat ∧ el.toNat ≤ 122 ∨ 48 ≤ el.toNat ∧ el.toNat ≤ 57 ∨ el.toNat = 95)):false = C9 l:=by
 have:l.all CC = false:=by
  rw [List.all_eq_false]
  exact ⟨el,List.mem_of_getElem? hel,by simp [CC];omega⟩
 simp [C9,this]
theorem Ks {l:List UInt8} (h:l ∈ words):false = C9 l:=by simp [C9,h]
theorem Kt {l:List UInt8} {a b:UInt8} {k:Nat} (h1:¬ 16 < (l.length:Int)) (h2:¬ (a.toNat:Int) < 97) (ha:l[Int.toNat 0]? = some a) (h3:¬ 122 < (b.toNat:Int)) (hb:l[Int.toNat 0]? = some b) (h4:∀ c ∈ l.take k,CC c = true) (h5:¬ (k:Int) < l.length) (h6:l ∉ words):true = C9 l:=by
 rw [ha] at hb
 cases hb
 have e:l.take k = l:=List.take_of_length_le (by omega)
 rw [e] at h4
 have:Kp l = true:=by
  cases l with
  | nil=>cases ha
  | cons c r=>cases ha;simp [Kp];omega
 simp [C9,this,h6]
 exact ⟨by omega,h4⟩
theorem Rl {l:List UInt8} {k:Nat} {el:UInt8} (hI:∀ c ∈ l.take k,CC c = true) (hel:l[k]? = some el) (h:97 ≤ el.toNat ∧ el.toNat ≤ 122 ∨ 48 ≤ el.toNat ∧ el.toNat ≤ 57 ∨ el.toNat = 95):∀ c ∈ l.take (k + 1),CC c = true:=by
 intro c hc
 rw [List.take_add_one,hel] at hc
 rcases List.mem_append.1 hc with hc | hc
 ·exact hI c hc
 ·simp at hc;subst hc;simpa [CC] using h
set_option maxHeartbeats 1000000 in
theorem Bi (l:List UInt8):B3 Tryz.prog 32 [.str l] (.b (C9 l)):=by
 refine F7 Tryz.func32 62 fun hrd E h0=>?_
 repeat' ((first|refine A1 ?_|refine S1 ?_|refine Z1 ?_|refine Z2 ?_|(refine And.intro ?_ ?_<;>intro h<;>try first|(exfalso;omega)|exact absurd rfl h)|refine Z3 ?_|refine Z4 ?_|intro el hel hbB|intro el hel|intro ex|refine Z5 ?_|(refine A8 ?_ ?_;exact ⟨by kernel_rfl,by decide⟩)|refine A7 ?_ ?_|exact A6|refine A3 ?_ ?_|exact A2|(refine A0 ?_ ?_ ?_;kernel_rfl;kernel_rfl)) <;> (try (conv=>whnf)))
 rotate_left
 ·refine D8 (ι:=Nat) (fun k=>⟨[(0, .str l),(24, .sl 1 (l.map fun b=>[.v (.int .u8 b.toNat)])),(25, .i l.length),(26, .i k)],0,[]⟩) (fun k=>∀ c ∈ l.take k,CC c = true) (fun k=>l.length - k) 0 (by simp) (A5 h0 rfl ⟨rfl,rfl,rfl,rfl,trivial⟩ trivial rfl rfl rfl) (fun k hI=>?_)
  repeat' ((first|refine A1 ?_|refine S1 ?_|refine Z1 ?_|refine Z2 ?_|(refine And.intro ?_ ?_<;>intro h<;>try first|(exfalso;omega)|exact absurd rfl h)|refine Z3 ?_|refine Z4 ?_|intro el hel hbB|intro el hel|intro ex|refine Z5 ?_|(refine A8 ?_ ?_;exact ⟨by kernel_rfl,by decide⟩)|refine A7 ?_ ?_|exact A6|refine A3 ?_ ?_|exact A2|(refine A0 ?_ ?_ ?_;kernel_rfl;kernel_rfl)) <;> (try (conv=>whnf)))
  all_goals first
   | exact ⟨k + 1,Rl hI hel (by omega),by omega,A5 h0 rfl ⟨rfl,rfl,rfl,rfl,trivial⟩ trivial rfl rfl rfl⟩
   | (refine A9 rfl (congrArg AV.b ?_);first | exact Mv hel (by omega) | exact Ks (by subst h;decide) | exact Kt (by assumption) (by assumption) (by assumption) (by assumption) (by assumption) hI (by assumption) (by simp [words, *]))
 all_goals (refine A9 rfl (congrArg AV.b ?_);first | exact JE h | exact Kq h | exact Kr hel (by omega))
set_option maxHeartbeats 2000000 in
theorem Al (l:List UInt8):B3 Tryz.prog 37 [.str l] (.b (C9 l)):=by
 refine F7 Tryz.func37 70 fun hrd E h0=>?_
 repeat' ((first|refine A1 ?_|refine S1 ?_|refine Z1 ?_|refine Z2 ?_|(refine And.intro ?_ ?_<;>intro h<;>try first|(exfalso;omega)|exact absurd rfl h)|refine Z3 ?_|refine Z4 ?_|intro el hel hbB|intro el hel|intro ex|refine Z5 ?_|(refine A8 ?_ ?_;exact ⟨by kernel_rfl,by decide⟩)|refine A7 ?_ ?_|exact A6|refine A3 ?_ ?_|exact A2|(refine A0 ?_ ?_ ?_;kernel_rfl;kernel_rfl)) <;> (try (conv=>whnf)))
 rotate_left
 ·refine D8 (ι:=Nat) (fun k=>⟨[(0, .str l),(3, .i k)],0,[]⟩) (fun k=>∀ c ∈ l.take k,CC c = true) (fun k=>l.length - k) 0 (by simp) (A5 h0 rfl ⟨rfl,rfl,trivial⟩ trivial rfl rfl rfl) (fun k hI=>?_)
  repeat' ((first|refine A1 ?_|refine S1 ?_|refine Z1 ?_|refine Z2 ?_|(refine And.intro ?_ ?_<;>intro h<;>try first|(exfalso;omega)|exact absurd rfl h)|refine Z3 ?_|refine Z4 ?_|intro el hel hbB|intro el hel|intro ex|refine Z5 ?_|(refine A8 ?_ ?_;exact ⟨by kernel_rfl,by decide⟩)|refine A7 ?_ ?_|exact A6|refine A3 ?_ ?_|exact A2|(refine A0 ?_ ?_ ?_;kernel_rfl;kernel_rfl)) <;> (try (conv=>whnf)))
  all_goals first
   | exact ⟨k + 1,Rl hI hel (by omega),by omega,A5 h0 rfl ⟨rfl,rfl,trivial⟩ trivial rfl rfl rfl⟩
   | (refine A9 rfl (congrArg AV.b ?_);first | exact Mv hel (by omega) | exact Ks (by subst h;decide) | exact Kt (by assumption) (by assumption) (by assumption) (by assumption) (by assumption) hI (by assumption) (by simp [words, *]))
 all_goals first
  | (refine A9 rfl (congrArg AV.b ?_);first | exact JE h | exact Kq h | exact Kr hel (by omega))
structure Code where
 name:List UInt8
 parent:Int
deriving DecidableEq
abbrev cA (c:Code):List AV:=[.str c.name, .i c.parent]
abbrev iA (d:Nat):List AV:=[.i (d:Int)]
abbrev lA (nm:List UInt8) (cs:List Code):AV:=.agg [.str nm, .sl 2 (cs.map cA)]
def j6:List Nat → List Code → List Nat
 | out,[]=>out
 | out,c :: r=>j6 (out ++ [if out = [] then 0 else out.getD c.parent.toNat 0 + 1]) r
def R9 (cs:List Code):List Nat:=j6 [] cs
theorem Eo:∀ (cs:List Code) (out:List Nat),(j6 out cs).length = out.length + cs.length
 | [],out=>rfl
 | c :: r,out=>by simp only [j6,Eo r];simp;omega
theorem L7 (cs:List Code):(R9 cs).length = cs.length:=by simp [R9,Eo]
theorem EL:∀ (cs:List Code) (out:List Nat) (j:Nat),j < out.length → (j6 out cs)[j]? = out[j]?
 | [],out,j,_=>rfl
 | c :: r,out,j,h=>by
   simp only [j6]
   rw [EL r _ j (by simp;omega),List.getElem?_append_left h]
theorem Gy:∀ (cs:List Code) (out:List Nat) (k:Nat) (c:Code),cs[k]? = some c → ((out ++ [] = [] ∧ k = 0) ∨ True) →
  (j6 out cs)[out.length + k]? = some (if out.length + k = 0 then 0 else if c.parent.toNat < out.length + k then (j6 out cs).getD c.parent.toNat 0 + 1 else 1)
 | [],out,k,c,h,_=>by simp at h
 | a :: r,out,0,c,h,_=>by
   simp at h
   subst h
   simp only [j6,Nat.add_zero]
   rw [EL _ _ _ (by simp)]
   simp only [List.getElem?_append_right (Nat.le_refl _),Nat.sub_self,List.getElem?_cons_zero]
   congr 1
   by_cases e:out = []
   ·subst e;simp
   ·have hl:¬ out.length = 0:=by simpa using e
    rw [if_neg e,if_neg hl]
    by_cases hp:a.parent.toNat < out.length
    ·rw [if_pos hp,List.getD_eq_getElem?_getD,List.getD_eq_getElem?_getD,EL _ _ _ (by simp;omega),List.getElem?_append_left hp]
    ·rw [if_neg hp,List.getD_eq_getElem?_getD,List.getElem?_eq_none (by omega)]
     rfl
 | a :: r,out,k + 1,c,h,_=>by
   simp only [j6]
   have:=Gy r (out ++ [if out = [] then 0 else out.getD a.parent.toNat 0 + 1]) k c (by simpa using h) (.inr trivial)
   simp only [List.length_append,List.length_cons,List.length_nil] at this
   rw [show out.length + (k + 1) = out.length + (0 + 1) + k by omega]
   exact this
def FZ (cs:List Code):Prop:=∀ (i:Nat) c,cs[i]? = some c → 0 < i → 0 ≤ c.parent ∧ c.parent < i
theorem Ci {cs:List Code} (h:FZ cs) {k:Nat} {c:Code} (hc:cs[k]? = some c):(R9 cs)[k]? = some (if k = 0 then 0 else (R9 cs).getD c.parent.toNat 0 + 1):=by
 have h1:=Gy cs [] k c hc (.inr trivial)
 simp only [List.length_nil,Nat.zero_add] at h1
 unfold R9
 rw [h1]
 congr 1
 by_cases e:k = 0
 ·simp [e]
 ·rw [if_neg e,if_neg e]
  have:=h k c hc (by omega)
  rw [if_pos (by omega)]
def AX (D:List Nat) (n k:Nat):List Nat:=D.take k ++ List.replicate (n - k) 0
theorem JF {D:List Nat} {n k:Nat} (hD:D.length = n) (hk:k ≤ n):(AX D n k).length = n:=by simp [AX,hD];omega
theorem Ov {D:List Nat} {n k i:Nat} (hD:D.length = n) (hk:k ≤ n) (hi:i < k):(AX D n k)[i]? = D[i]?:=by
 rw [AX,List.getElem?_append_left (by simp;omega),List.getElem?_take_of_lt hi]
theorem XO {D:List Nat} {n k:Nat} {d:Nat} (hD:D.length = n) (hk:k < n) (hd:D[k]? = some d):((AX D n k).map iA).set k (iA d) = (AX D n (k + 1)).map iA:=by
 have e:n - k = (n - (k + 1)) + 1:=by omega
 have h1:(D.take k).length = k:=by rw [List.length_take];omega
 rw [AX,e,List.replicate_succ,AX,List.take_add_one,hd]
 rw [List.map_append,List.map_cons,List.set_append_right _ _ (by rw [List.length_map,h1];exact Nat.le_refl _),List.length_map,h1,Nat.sub_self]
 simp
theorem VF (D:List Nat) (n:Nat):(AX D n 0).map iA = List.replicate n (iA 0):=by simp [AX]
theorem VG {D:List Nat} {n:Nat} (hD:D.length = n):AX D n n = D:=by simp [AX, ← hD]
theorem VH {D:List Nat} {n k:Nat} (hD:D.length = n) (hk:k < n) (hd:D[k]? = some 0):AX D n k = AX D n (k + 1):=by
 have e:n - k = (n - (k + 1)) + 1:=by omega
 rw [AX,e,List.replicate_succ,AX,List.take_add_one,hd]
 simp
theorem Ln {cs:List Code} (h:FZ cs):∀ (j d:Nat),(R9 cs)[j]? = some d → d ≤ j:=by
 intro j
 induction j using Nat.strongRecOn with
 | _ j ih =>
   intro d hd
   have hlt:j < cs.length:=by rw [← L7 cs];exact (List.getElem?_eq_some_iff.1 hd).1
   have hc:=List.getElem?_eq_getElem hlt
   rw [Ci h hc] at hd
   by_cases e:j = 0
   ·simp [e] at hd;omega
   ·rw [if_neg e] at hd
    obtain ⟨h1,h2⟩:=h j _ hc (by omega)
    have hp:(cs[j].parent).toNat < j:=by omega
    have hp2:(cs[j].parent).toNat < (R9 cs).length:=by rw [L7];omega
    have:=ih _ hp _ (List.getElem?_eq_getElem hp2)
    rw [List.getD_eq_getElem?_getD,List.getElem?_eq_getElem hp2] at hd
    simp at hd
    omega
set_option maxHeartbeats 1000000 in
theorem JG (nm:List UInt8) (cs:List Code) (hb:FZ cs) (hlen:cs.length ≤ 1000000):B3 Tryz.prog 112 [lA nm cs] (.sl 1 ((R9 cs).map iA)):=by
 have hD:=L7 cs
 refine F7 Tryz.func112 31 fun hrd E h0=>?_
 repeat' ((first|refine A1 ?_|refine S1 ?_|refine Z1 ?_|refine Z2 ?_|(refine And.intro ?_ ?_<;>intro h<;>try first|(exfalso;omega)|exact absurd rfl h)|refine Z3 ?_|refine Z4 ?_|intro el hel hbB|intro el hel|intro ex|refine Z5 ?_|(refine A8 ?_ ?_;exact ⟨by kernel_rfl,by decide⟩)|refine A7 ?_ ?_|exact A6|refine A3 ?_ ?_|exact A2|(refine A0 ?_ ?_ ?_;kernel_rfl;kernel_rfl)) <;> (try (conv=>whnf)))
 refine D8 (ι:=Nat) (fun k=>⟨[(1, .ref 0 0),(3, .row 1 0 cs.length),(11, .sl 2 (cs.map cA)),(12, .i cs.length),(13, .i k)],2,[(0,some (.box [.str nm, .sl 2 (cs.map cA)])),(1,some (.row 3 1 0 ((AX (R9 cs) cs.length k).map iA)))]⟩) (fun k=>k ≤ cs.length) (fun k=>cs.length - k) 0 (Nat.zero_le _) (A5 h0 rfl ⟨rfl,rfl,rfl,rfl,rfl,trivial⟩ ⟨rfl,⟨0,by rw [VF];rfl⟩,trivial⟩ rfl rfl rfl) (fun k hI=>?_)
 repeat' ((first | (refine G2 ?_ ?_;(have:=hb k el hel (by omega);omega)) | (refine AR ?_ (fun x hx=>?_);(rw [JF hD hI];have:=hb k el hel (by omega);omega)) | (refine G2 ?_ ?_;(have h5:=hb k el hel (by omega);have h6:=Ln hb el.parent.toNat x (by rw [← Ov hD hI (by omega)];exact hx);omega)) | (refine AR ?_ (fun y hy=>?_);(rw [JF hD hI];omega)) |refine A1 ?_|refine S1 ?_|refine Z1 ?_|refine Z2 ?_|(refine And.intro ?_ ?_<;>intro h<;>try first|(exfalso;omega)|exact absurd rfl h)|refine Z3 ?_|refine Z4 ?_|intro el hel hbB|intro el hel|intro ex|refine Z5 ?_|(refine A8 ?_ ?_;exact ⟨by kernel_rfl,by decide⟩)|refine A7 ?_ ?_|exact A6|refine A3 ?_ ?_|exact A2|(refine A0 ?_ ?_ ?_;kernel_rfl;kernel_rfl)) <;> (try (conv=>whnf)))
 rotate_left
 ·refine ⟨k + 1,?_,?_,A5 h0 rfl ⟨rfl,rfl,rfl,rfl,rfl,trivial⟩ ⟨rfl,⟨0,?_⟩,trivial⟩ rfl rfl rfl⟩
  ·omega
  ·omega
  ·have hk0:k = 0:=by omega
   exact congrArg (fun l=>H4.row 3 1 0 (l.map iA)) (VH (k:=k) hD (by omega) (by rw [Ci hb hel,if_pos hk0])).symm
 ·apply A9
  ·rfl
  ·have e:k = cs.length:=by omega
   subst e
   exact congrArg (fun l=>AV.sl 1 (l.map iA)) (VG hD)
 ·rename_i _ z hz
  refine ⟨k + 1,?_,?_,A5 h0 rfl ⟨rfl,rfl,rfl,rfl,rfl,trivial⟩ ⟨rfl,⟨0,congrArg (H4.row 3 1 0) (XO hD ?_ ?_).symm⟩,trivial⟩ rfl rfl rfl⟩
  ·omega
  ·omega
  ·omega
  ·have h5:=hb k el hel (by omega)
   rw [Ov hD hI (by omega)] at hz
   rw [Ci hb hel,if_neg (by omega),List.getD_eq_getElem?_getD,hz]
   rfl
def g8 (cs:List Code) (code:Int):Bool:=cs.all fun c=>decide (c.parent ≠ code)
theorem Ow {α:Type} {l:List α} {p:α → Prop} {k:Nat} {el:α} (hI:∀ c ∈ l.take k,p c) (hel:l[k]? = some el) (h:p el):∀ c ∈ l.take (k + 1),p c:=by
 intro c hc
 rw [List.take_add_one,hel] at hc
 rcases List.mem_append.1 hc with hc | hc
 ·exact hI c hc
 ·simp at hc;subst hc;exact h
theorem aN {cs:List Code} {code:Int} {k:Nat} {el:Code} (hel:cs[k]? = some el) (h:el.parent = code):false = g8 cs code:=by
 refine (List.all_eq_false.2 ⟨el,List.mem_of_getElem? hel,by simp [h]⟩).symm
theorem XP {cs:List Code} {code:Int} {k:Nat} (hI:∀ c ∈ cs.take k,c.parent ≠ code) (h:¬ (k:Int) < cs.length):true = g8 cs code:=by
 have e:cs.take k = cs:=List.take_of_length_le (by omega)
 rw [e] at hI
 exact (List.all_eq_true.2 fun c hc=>by simpa using hI c hc).symm
set_option maxHeartbeats 1000000 in
theorem VI (nm:List UInt8) (cs:List Code) (code:Int) (hlen:cs.length ≤ 9223372036854775807):B3 Tryz.prog 119 [lA nm cs, .i code] (.b (g8 cs code)):=by
 refine F7 Tryz.func119 21 fun hrd E h0=>?_
 repeat' ((first|refine A1 ?_|refine S1 ?_|refine Z1 ?_|refine Z2 ?_|(refine And.intro ?_ ?_<;>intro h<;>try first|(exfalso;omega)|exact absurd rfl h)|refine Z3 ?_|refine Z4 ?_|intro el hel hbB|intro el hel|intro ex|refine Z5 ?_|(refine A8 ?_ ?_;exact ⟨by kernel_rfl,by decide⟩)|refine A7 ?_ ?_|exact A6|refine A3 ?_ ?_|exact A2|(refine A0 ?_ ?_ ?_;kernel_rfl;kernel_rfl)) <;> (try (conv=>whnf)))
 refine D8 (ι:=Nat) (fun k=>⟨[(1, .i code),(2, .ref 0 0),(5, .i k)],1,[(0,some (.box [.str nm, .sl 2 (cs.map cA)]))]⟩) (fun k=>∀ c ∈ cs.take k,c.parent ≠ code) (fun k=>cs.length - k) 0 (by simp) (A5 h0 rfl ⟨rfl,rfl,rfl,trivial⟩ ⟨rfl,trivial⟩ rfl rfl rfl) (fun k hI=>?_)
 repeat' ((first|refine A1 ?_|refine S1 ?_|refine Z1 ?_|refine Z2 ?_|(refine And.intro ?_ ?_<;>intro h<;>try first|(exfalso;omega)|exact absurd rfl h)|refine Z3 ?_|refine Z4 ?_|intro el hel hbB|intro el hel|intro ex|refine Z5 ?_|(refine A8 ?_ ?_;exact ⟨by kernel_rfl,by decide⟩)|refine A7 ?_ ?_|exact A6|refine A3 ?_ ?_|exact A2|(refine A0 ?_ ?_ ?_;kernel_rfl;kernel_rfl)) <;> (try (conv=>whnf)))
 all_goals first
  | exact ⟨k + 1,Ow hI hel h,by omega,A5 h0 rfl ⟨rfl,rfl,rfl,trivial⟩ ⟨rfl,trivial⟩ rfl rfl rfl⟩
  | (refine A9 rfl (congrArg AV.b ?_);first | exact aN hel h | exact XP hI h)
structure Good (cs:List Code):Prop where
 before:FZ cs
 root:∀ c,cs[0]? = some c → c.parent = -1
set_option maxHeartbeats 1000000 in
theorem Ku (nm:List UInt8) (cs:List Code) (code d:Nat) (hg:Good cs) (hlen:cs.length ≤ 9223372036854775807) (hd:(R9 cs)[code]? = some d):B3 Tryz.prog 120 [lA nm cs, .i code] (.i d):=by
 have hb:=hg.before
 have hdl:=Ln hb
 have hcl:code < cs.length:=by rw [← L7 cs];exact (List.getElem?_eq_some_iff.1 hd).1
 refine F7 Tryz.func120 22 fun hrd E h0=>?_
 repeat' ((first|refine A1 ?_|refine S1 ?_|refine Z1 ?_|refine Z2 ?_|(refine And.intro ?_ ?_<;>intro h<;>try first|(exfalso;omega)|exact absurd rfl h)|refine Z3 ?_|refine Z4 ?_|intro el hel hbB|intro el hel|intro ex|refine Z5 ?_|(refine A8 ?_ ?_;exact ⟨by kernel_rfl,by decide⟩)|refine A7 ?_ ?_|exact A6|refine A3 ?_ ?_|exact A2|(refine A0 ?_ ?_ ?_;kernel_rfl;kernel_rfl)) <;> (try (conv=>whnf)))
 refine D8 (ι:=Nat × Nat) (fun x=>⟨[(1, .i x.1),(2, .ref 0 0),(5, .i x.2)],1,[(0,some (.box [.str nm, .sl 2 (cs.map cA)]))]⟩) (fun x=>x.1 ≤ code ∧ (R9 cs)[x.1]?.map (· + x.2) = some d) (fun x=>x.1) (code,0) ⟨Nat.le_refl _,by simp [hd]⟩ (A5 h0 rfl ⟨rfl,rfl,rfl,trivial⟩ ⟨rfl,trivial⟩ rfl rfl rfl) (fun x hI=>?_)
 obtain ⟨j,m⟩:=x
 obtain ⟨hj,hI⟩:=hI
 rw [Option.map_eq_some_iff] at hI
 obtain ⟨dj,hdj,hsum⟩:=hI
 have hdjl:=hdl _ _ hd
 simp only at hj hdj hsum
 repeat' ((first|refine A1 ?_|refine S1 ?_|refine Z1 ?_|refine Z2 ?_|(refine And.intro ?_ ?_<;>intro h<;>try first|(exfalso;omega)|exact absurd rfl h)|refine Z3 ?_|refine Z4 ?_|intro el hel hbB|intro el hel|intro ex|refine Z5 ?_|(refine A8 ?_ ?_;exact ⟨by kernel_rfl,by decide⟩)|refine A7 ?_ ?_|exact A6|refine A3 ?_ ?_|exact A2|(refine A0 ?_ ?_ ?_;kernel_rfl;kernel_rfl)) <;> (try (conv=>whnf)))
 ·have hel':cs[j]? = some el:=hel
  have hj0:0 < j:=by
   rcases Nat.eq_zero_or_pos j with e | e
   ·subst e;have:=hg.root el hel';omega
   ·exact e
  obtain ⟨h1,h2⟩:=hb j el hel' hj0
  have h3:=Ci hb hel'
  rw [hdj,if_neg (by omega)] at h3
  have hp:el.parent.toNat < (R9 cs).length:=by rw [L7];omega
  rw [List.getD_eq_getElem?_getD,List.getElem?_eq_getElem hp] at h3
  simp at h3
  refine ⟨(el.parent.toNat,m + 1),⟨?_,?_⟩,?_,A5 h0 rfl ⟨congrArg (fun z=>some (AV.i z)) (Int.toNat_of_nonneg h1).symm,rfl,rfl,trivial⟩ ⟨rfl,trivial⟩ rfl rfl rfl⟩
  ·simp only;omega
  ·simp only [List.getElem?_eq_getElem hp,Option.map_some]
   congr 1
   omega
  ·simp only;omega
 ·refine A9 rfl (congrArg (fun z:Nat=>AV.i (z:Int)) ?_)
  have hel':cs[j]? = some el:=hel
  have hj0:j = 0:=by
   rcases Nat.eq_zero_or_pos j with e | e
   ·exact e
   ·have:=hb j el hel' e;omega
  subst hj0
  rw [Ci hb hel',if_pos rfl] at hdj
  cases hdj
  omega
def EM (i:Nat) (p:Int):Bool:=if i = 0 then decide (p ≠ -1) else decide (p < 0 ∨ (i:Int) ≤ p)
def scan:List Code → List Code → Option Int
 | _,[]=>none
 | pre,c :: r=>if C9 c.name = false then some 3 else if c.name ∈ pre.map (·.name) then some 10 else if EM pre.length c.parent = true then some 6 else scan (pre ++ [c]) r
def lv:Int → List (Bool × Nat) → Bool
 | _,[]=>true
 | l,(lf,d) :: r=>if lf = true then (if 0 ≤ l ∧ (d:Int) ≠ l then false else lv d r) else lv l r
def AL (cs:List Code):List (Bool × Nat):=(List.range cs.length).map fun (i:Nat)=>(g8 cs i,(R9 cs).getD i 0)
def chk (nm:List UInt8) (cs:List Code):Int :=
 if C9 nm = false then 3 else if cs.length = 0 then 5 else if 60 < cs.length then 1 else match scan [] cs with
 | some e=>e
 | none=>if lv (-1) (AL cs) = true then 0 else 5
theorem Ox {nm:List UInt8} {cs:List Code} (h:C9 nm = false):3 = chk nm cs:=by simp [chk,h]
theorem Rm {nm:List UInt8} {cs:List Code} (h:C9 nm = true) (h2:(cs.length:Int) = 0):5 = chk nm cs:=by
 have:cs.length = 0:=by omega
 simp [chk,h,this]
theorem Oy {nm:List UInt8} {cs:List Code} (h:C9 nm = true) (h3:(60:Int) < cs.length):1 = chk nm cs:=by
 have h1:¬ cs.length = 0:=by omega
 have h2:60 < cs.length:=by omega
 simp only [chk,h,h1,h2,if_true,if_false,Bool.true_eq_false]
theorem Cj {nm:List UInt8} {cs:List Code} {e:Int} (h:C9 nm = true) (h1:¬ (cs.length:Int) = 0) (h2:¬ (60:Int) < cs.length) (h3:scan [] cs = some e):e = chk nm cs:=by
 have h1:¬ cs.length = 0:=by omega
 have h2:¬ 60 < cs.length:=by omega
 simp only [chk,h,h1,h2,if_false,Bool.true_eq_false,h3]
theorem VJ {nm:List UInt8} {cs:List Code} {b:Bool} (h:C9 nm = true) (h1:¬ (cs.length:Int) = 0) (h2:¬ (60:Int) < cs.length) (h3:scan [] cs = none) (h4:lv (-1) (AL cs) = b):(if b = true then 0 else 5:Int) = chk nm cs:=by
 have h1:¬ cs.length = 0:=by omega
 have h2:¬ 60 < cs.length:=by omega
 simp only [chk,h,h1,h2,if_false,Bool.true_eq_false,h3,h4]
theorem g9 {α:Type} {l:List α} {k:Nat} {x:α} (h:l[k]? = some x):l.drop k = x :: l.drop (k + 1):=by
 obtain ⟨h1,h2⟩:=List.getElem?_eq_some_iff.1 h
 rw [List.drop_eq_getElem_cons h1,h2]
theorem Mw {α:Type} {l:List α} {k:Nat} {x:α} (h:l[k]? = some x):l.take (k + 1) = l.take k ++ [x]:=by
 rw [List.take_add_one,h];rfl
def o0 (cs:List Code) (k:Nat):Prop:=k ≤ cs.length ∧ scan [] cs = scan (cs.take k) (cs.drop k)
theorem o0.step {cs:List Code} {k:Nat} {c:Code} (h:o0 cs k) (hc:cs[k]? = some c) (h1:C9 c.name = true) (h2:c.name ∉ (cs.take k).map (·.name)) (h3:EM k c.parent = false):o0 cs (k + 1):=by
 have hlt:=(List.getElem?_eq_some_iff.1 hc).1
 refine ⟨hlt,?_⟩
 have hl:(cs.take k).length = k:=by rw [List.length_take];omega
 rw [h.2,g9 hc,Mw hc]
 simp only [scan,h1,h2,hl,h3,Bool.true_eq_false,if_false,Bool.false_eq_true]
theorem o0.name {cs:List Code} {k:Nat} {c:Code} (h:o0 cs k) (hc:cs[k]? = some c) (h1:C9 c.name = false):scan [] cs = some 3:=by
 rw [h.2,g9 hc];simp only [scan,h1,if_true]
theorem o0.dup {cs:List Code} {k:Nat} {c:Code} (h:o0 cs k) (hc:cs[k]? = some c) (h1:C9 c.name = true) (h2:c.name ∈ (cs.take k).map (·.name)):scan [] cs = some 10:=by
 rw [h.2,g9 hc];simp only [scan,h1,h2,if_true,Bool.true_eq_false,if_false]
theorem o0.bad {cs:List Code} {k:Nat} {c:Code} (h:o0 cs k) (hc:cs[k]? = some c) (h1:C9 c.name = true) (h2:c.name ∉ (cs.take k).map (·.name)) (h3:EM k c.parent = true):scan [] cs = some 6:=by
 have hlt:=(List.getElem?_eq_some_iff.1 hc).1
 have hl:(cs.take k).length = k:=by rw [List.length_take];omega
 rw [h.2,g9 hc];simp only [scan,h1,h2,hl,h3,if_true,Bool.true_eq_false,if_false]
theorem o0.done {cs:List Code} {k:Nat} (h:o0 cs k) (hk:¬ (k:Int) < cs.length):scan [] cs = none:=by
 have e:k = cs.length:=by have:=h.1;omega
 rw [h.2,e,List.drop_length];rfl
def IZ (cs:List Code) (k:Nat):List (Key × AV):=(cs.take k).map fun c=>(Key.s c.name,AV.b true)
theorem TL (cs:List Code) (k:Nat):Be .string (IZ cs k):=by
 intro p hp
 obtain ⟨c,_,rfl⟩:=List.mem_map.1 hp
 rfl
theorem XQ (l:List Code) (n:List UInt8):Bq (l.map fun c=>(Key.s c.name,AV.b true)) (.s n) (b9 (.bool false)) = .b (decide (n ∈ l.map (·.name))):=by
 induction l with
 | nil=>rfl
 | cons a r ih =>
   unfold Bq Cb at ih ⊢
   rw [List.map_cons,List.find?_cons]
   by_cases e:a.name = n
   ·subst e;simp
   ·have:¬ n = a.name:=fun h=>e h.symm
    simp only [Key.s.injEq,e,decide_false]
    rw [ih]
    simp [this]
theorem XR (cs:List Code) (k:Nat) (n:List UInt8):Bq (IZ cs k) (.s n) (b9 (.bool false)) = .b (decide (n ∈ (cs.take k).map (·.name))):=XQ _ n
theorem XS (l:List Code) (n:List UInt8) (h:n ∉ l.map (·.name)):Cc (l.map fun c=>(Key.s c.name,AV.b true)) (.s n) (.b true) = (l.map fun c=>(Key.s c.name,AV.b true)) ++ [(.s n, .b true)]:=by
 induction l with
 | nil=>rfl
 | cons a r ih =>
   simp only [List.map_cons,List.mem_cons,not_or] at h
   have:¬ Key.s a.name = Key.s n:=by simp;exact fun e=>h.1 e.symm
   simp only [List.map_cons,Cc,this,if_false,List.cons_append,ih h.2]
theorem Oz {cs:List Code} {k:Nat} {c:Code} (hc:cs[k]? = some c) (h:c.name ∉ (cs.take k).map (·.name)):Cc (IZ cs k) (.s c.name) (.b true) = IZ cs (k + 1):=by
 unfold IZ
 rw [XS _ _ h,Mw hc,List.map_append]
 rfl
def CT (cs:List Code):Nat → List Bool
 | 0=>List.replicate cs.length false
 | k + 1=>if k = 0 then CT cs k else match cs[k]? with
   | some c=>(CT cs k).set c.parent.toNat true
   | none=>CT cs k
theorem s7 (cs:List Code):∀ k,(CT cs k).length = cs.length
 | 0=>by simp [CT]
 | k + 1=>by
   unfold CT
   split
   ·exact s7 cs k
   ·split
    ·rw [List.length_set];exact s7 cs k
    ·exact s7 cs k
theorem PA {cs:List Code} {k:Nat} (hk:k = 0):CT cs (k + 1) = CT cs k:=by simp [CT,hk]
theorem Jd {cs:List Code} {k:Nat} {c:Code} (hk:0 < k) (hc:cs[k]? = some c):CT cs (k + 1) = (CT cs k).set c.parent.toNat true:=by
 have:¬ k = 0:=by omega
 rw [CT,if_neg this,hc]
theorem Je:∀ (cs pre:List Code),scan pre cs = none → ∀ (i:Nat) c,cs[i]? = some c → EM (pre.length + i) c.parent = false
 | [],pre,_,i,c,hc=>by simp at hc
 | a :: r,pre,h,i,c,hc=>by
   simp only [scan] at h
   split at h
   ·cases h
   ·split at h
    ·cases h
    ·split at h
     ·cases h
     ·rename_i h3
      cases i with
      | zero=>simp at hc;subst hc;simpa using h3
      | succ i =>
        have:=Je r (pre ++ [a]) h i c (by simpa using hc)
        rw [List.length_append,List.length_singleton] at this
        rw [show pre.length + (i + 1) = pre.length + 1 + i by omega]
        exact this
theorem Ep {cs:List Code} (h:scan [] cs = none):Good cs:=by
 refine ⟨fun i c hc hi=>?_,fun c hc=>?_⟩
 ·have:=Je cs [] h i c hc
  simp [EM,Nat.ne_of_gt hi] at this
  omega
 ·have:=Je cs [] h 0 c hc
  simpa [EM] using this
theorem Rn {nm:List UInt8} {cs:List Code} (h:C9 nm = true) (h1:¬ (cs.length:Int) = 0) (h2:¬ (60:Int) < cs.length) (h3:scan [] cs = none) (h4:lv (-1) (AL cs) = false):5 = chk nm cs:=by
 simpa using VJ h h1 h2 h3 h4
theorem VK {nm:List UInt8} {cs:List Code} (h:C9 nm = true) (h1:¬ (cs.length:Int) = 0) (h2:¬ (60:Int) < cs.length) (h3:scan [] cs = none) (h4:lv (-1) (AL cs) = true):0 = chk nm cs:=by
 simpa using VJ h h1 h2 h3 h4
theorem VL {cs:List Code} (hg:Good cs):∀ (k j:Nat),k ≤ cs.length → j < cs.length → ∃ b,(CT cs k)[j]? = some b ∧ (b = true ↔ ∃ (i:Nat) (c:Code),0 < i ∧ i < k ∧ cs[i]? = some c ∧ c.parent = j)
 | 0,j,_,hj=>⟨false,by simp [CT,hj],by simp⟩
 | k + 1,j,hk,hj=>by
   obtain ⟨b,hb,ih⟩:=VL hg k j (by omega) hj
   by_cases h0:k = 0
   ·subst h0
    refine ⟨b,by rw [PA rfl,hb],ih.trans ⟨?_,?_⟩⟩
    ·rintro ⟨i,c,h1,h2,_⟩;omega
    ·rintro ⟨i,c,h1,h2,_⟩;omega
   ·have hc:cs[k]? = some cs[k]:=List.getElem?_eq_getElem (by omega)
    obtain ⟨h1,h2⟩:=hg.before k _ hc (by omega)
    by_cases hp:(cs[k].parent).toNat = j
    ·refine ⟨true,?_,fun _=>⟨k,_,by omega,by omega,hc,by omega⟩,fun _=>rfl⟩
     rw [Jd (by omega) hc,List.getElem?_set,if_pos hp,if_pos (by rw [s7];omega)]
    ·refine ⟨b,?_,ih.trans ⟨?_,?_⟩⟩
     ·rw [Jd (by omega) hc,List.getElem?_set,if_neg hp,hb]
     ·rintro ⟨i,c,g1,g2,g3,g4⟩;exact ⟨i,c,g1,by omega,g3,g4⟩
     ·rintro ⟨i,c,g1,g2,g3,g4⟩
      refine ⟨i,c,g1,?_,g3,g4⟩
      rcases Nat.lt_or_ge i k with h | h
      ·exact h
      ·have:i = k:=by omega
       subst this
       rw [hc] at g3
       cases g3
       omega
theorem Jf {cs:List Code} (hg:Good cs) {j:Nat} {x:Bool} (h:(CT cs cs.length)[j]? = some x):g8 cs j = !x:=by
 have hj:j < cs.length:=by rw [← s7 cs cs.length];exact (List.getElem?_eq_some_iff.1 h).1
 obtain ⟨b,hb,hiff⟩:=VL hg _ j (Nat.le_refl _) hj
 rw [hb] at h
 cases h
 cases hx:g8 cs j with
 | true =>
   cases x with
   | false=>rfl
   | true =>
     obtain ⟨i,c,_,_,h3,h4⟩:=hiff.1 rfl
     have:=List.all_eq_true.1 hx c (List.mem_of_getElem? h3)
     simp [h4] at this
 | false =>
   cases x with
   | true=>rfl
   | false =>
     exfalso
     obtain ⟨c,hc,he⟩:=List.all_eq_false.1 hx
     obtain ⟨i,hi,rfl⟩:=List.getElem_of_mem hc
     have he:cs[i].parent = j:=by simpa using he
     have:(false = true):=hiff.2 ⟨i,_,by
      rcases Nat.eq_zero_or_pos i with e | e
      ·subst e
       have:=hg.root _ (List.getElem?_eq_getElem hi)
       omega
      ·exact e,hi,List.getElem?_eq_getElem hi,he⟩
     cases this
theorem EN {cs:List Code} {k d:Nat} (h:(R9 cs)[k]? = some d):(AL cs)[k]? = some (g8 cs k,d):=by
 have hk:k < cs.length:=by rw [← L7 cs];exact (List.getElem?_eq_some_iff.1 h).1
 simp [AL,hk,h]
theorem PB (cs:List Code):(AL cs).length = cs.length:=by simp [AL]
def DS (cs:List Code) (k:Nat) (l:Int):Prop:=k ≤ cs.length ∧ lv (-1) (AL cs) = lv l ((AL cs).drop k) ∧ -1 ≤ l
theorem DS.skip {cs:List Code} {k d:Nat} {l:Int} (h:DS cs k l) (hd:(R9 cs)[k]? = some d) (hl:g8 cs k = false):DS cs (k + 1) l:=by
 have hk:k < cs.length:=by rw [← L7 cs];exact (List.getElem?_eq_some_iff.1 hd).1
 refine ⟨hk,?_,h.2.2⟩
 rw [h.2.1,g9 (EN hd),hl]
 simp [lv]
theorem DS.next {cs:List Code} {k d:Nat} {l:Int} (h:DS cs k l) (hd:(R9 cs)[k]? = some d) (hl:g8 cs k = true) (h2:¬ (0 ≤ l ∧ (d:Int) ≠ l)):DS cs (k + 1) d:=by
 have hk:k < cs.length:=by rw [← L7 cs];exact (List.getElem?_eq_some_iff.1 hd).1
 refine ⟨hk,?_,by omega⟩
 rw [h.2.1,g9 (EN hd),hl]
 simp only [lv,if_true,if_neg h2]
theorem DS.bad {cs:List Code} {k d:Nat} {l:Int} (h:DS cs k l) (hd:(R9 cs)[k]? = some d) (hl:g8 cs k = true) (h2:0 ≤ l ∧ (d:Int) ≠ l):lv (-1) (AL cs) = false:=by
 rw [h.2.1,g9 (EN hd),hl]
 simp only [lv,if_true,if_pos h2]
theorem DS.done {cs:List Code} {k:Nat} {l:Int} (h:DS cs k l) (hk:¬ (k:Int) < cs.length):lv (-1) (AL cs) = true:=by
 have e:k = (AL cs).length:=by rw [PB];have:=h.1;omega
 rw [h.2.1,e,List.drop_length];rfl
abbrev bA (b:Bool):List AV:=[.b b]
set_option maxHeartbeats 4000000 in
theorem GP (nm:List UInt8) (cs:List Code) (hlen:cs.length ≤ 9223372036854775807):B3 Tryz.prog 64 [lA nm cs] (.i (chk nm cs)):=by
 refine F7 Tryz.func64 102 fun hrd E h0=>?_
 repeat' ((first | refine B0 (Bi _) ?_ | refine CB ⟨[(1, .ref 0 0),(2, .i 0),(3, .mp 1),(4, .row 2 0 cs.length)],3,[(0,some (.box [.str nm, .sl 2 (cs.map cA)])),(1,some (.map [])),(2,some (.row 4 1 0 (List.replicate cs.length [.b false])))]⟩ ?_ ?_ |refine A1 ?_|refine S1 ?_|refine Z1 ?_|refine Z2 ?_|(refine And.intro ?_ ?_<;>intro h<;>try first|(exfalso;omega)|exact absurd rfl h)|refine Z3 ?_|refine Z4 ?_|intro el hel hbB|intro el hel|intro ex|refine Z5 ?_|(refine A8 ?_ ?_;exact ⟨by kernel_rfl,by decide⟩)|refine A7 ?_ ?_|exact A6|refine A3 ?_ ?_|exact A2|(refine A0 ?_ ?_ ?_;kernel_rfl;kernel_rfl)) <;> (try (conv=>whnf)))
 case refine_1=>exact A9 rfl (congrArg AV.i (Ox h))
 case refine_2.refine_1=>exact A9 rfl (congrArg AV.i (Rm (by assumption) h))
 case refine_2.refine_2.refine_1=>exact A9 rfl (congrArg AV.i (Oy (by assumption) h))
 case refine_2.refine_2.refine_2.refine_2 =>
  rename_i hn hz
  have hl:=h
  clear h
  have hlen6:cs.length ≤ 1000000:=by omega
  refine D8 (ι:=Nat) (fun k=>⟨[(1, .ref 0 0),(3, .mp 1),(4, .row 2 0 cs.length),(31, .sl 2 (cs.map cA)),(32, .i cs.length),(33, .i k)],3,[(0,some (.box [.str nm, .sl 2 (cs.map cA)])),(1,some (.map (IZ cs k))),(2,some (.row 4 1 0 ((CT cs k).map bA)))]⟩) (fun k=>o0 cs k) (fun k=>cs.length - k) 0 ⟨Nat.zero_le _,by simp⟩ (A5 h0 rfl ⟨rfl,rfl,rfl,rfl,rfl,rfl,trivial⟩ ⟨rfl,rfl,⟨0,by simp [CT]⟩,trivial⟩ rfl rfl rfl) (fun k hI=>?_)
  repeat' ((first | refine B0 (Bi _) ?_ | refine B0 (JG _ _ (Ep (hI.done (by assumption))).before hlen6) ?_ | (refine G2 ?_ ?_;exact TL _ _) | refine eV (XR _ _ _) ?_ | (refine AR ?_ (fun x hx=>?_);(rw [s7];omega)) |refine A1 ?_|refine S1 ?_|refine Z1 ?_|refine Z2 ?_|(refine And.intro ?_ ?_<;>intro h<;>try first|(exfalso;omega)|exact absurd rfl h)|refine Z3 ?_|refine Z4 ?_|intro el hel hbB|intro el hel|intro ex|refine Z5 ?_|(refine A8 ?_ ?_;exact ⟨by kernel_rfl,by decide⟩)|refine A7 ?_ ?_|exact A6|refine A3 ?_ ?_|exact A2|(refine A0 ?_ ?_ ?_;kernel_rfl;kernel_rfl)) <;> (try (conv=>whnf)))
  all_goals first
   | exact A9 rfl (congrArg AV.i (Cj hn hz hl (hI.name hel (by assumption))))
   | exact A9 rfl (congrArg AV.i (Cj hn hz hl (hI.dup hel (by assumption) (by assumption))))
   | exact A9 rfl (congrArg AV.i (Cj hn hz hl (hI.bad hel (by assumption) (by assumption) (by unfold EM;split <;> simp <;> omega))))
   | exact ⟨k + 1,hI.step hel (by assumption) (by assumption) (by unfold EM;split <;> simp <;> omega),by omega,A5 h0 rfl ⟨rfl,rfl,rfl,rfl,rfl,rfl,trivial⟩ ⟨rfl,congrArg H4.map (Oz hel (by assumption)).symm,⟨0,congrArg (fun l=>H4.row 4 1 0 (l.map bA)) (PA (by omega))⟩,trivial⟩ rfl rfl rfl⟩
   | exact ⟨k + 1,hI.step hel (by assumption) (by assumption) (by unfold EM;split <;> simp <;> omega),by omega,A5 h0 rfl ⟨rfl,rfl,rfl,rfl,rfl,rfl,trivial⟩ ⟨rfl,congrArg H4.map (Oz hel (by assumption)).symm,⟨0,congrArg (H4.row 4 1 0) ((congrArg (List.map bA) (Jd (by omega) hel)).trans List.map_set)⟩,trivial⟩ rfl rfl rfl⟩
   | skip
  have hs:=hI.done h
  have hg:=Ep hs
  have hk:k = cs.length:=by have:=hI.1;omega
  subst hk
  refine D8 (ι:=Nat × Int) (fun x=>⟨[(4, .row 2 0 cs.length),(7, .i x.2),(82, .sl 1 ((R9 cs).map iA)),(83, .i (R9 cs).length),(84, .i x.1)],3,[(2,some (.row 4 1 0 ((CT cs cs.length).map bA)))]⟩) (fun x=>DS cs x.1 x.2) (fun x=>cs.length - x.1) (0, -1) ⟨Nat.zero_le _,by simp,by simp⟩ (A5 h0 rfl ⟨rfl,rfl,rfl,rfl,rfl,trivial⟩ ⟨⟨0,rfl⟩,trivial⟩ rfl rfl rfl) (fun x hJ=>?_)
  obtain ⟨j,l⟩:=x
  have hJ0:=hJ.1
  have hJ2:=hJ.2.2
  have hdl:=L7 cs
  simp only at hJ hJ0 hJ2
  repeat' ((first | (refine AR ?_ (fun x hx=>?_);(rw [s7];omega)) |refine A1 ?_|refine S1 ?_|refine Z1 ?_|refine Z2 ?_|(refine And.intro ?_ ?_<;>intro h<;>try first|(exfalso;omega)|exact absurd rfl h)|refine Z3 ?_|refine Z4 ?_|intro el hel hbB|intro el hel|intro ex|refine Z5 ?_|(refine A8 ?_ ?_;exact ⟨by kernel_rfl,by decide⟩)|refine A7 ?_ ?_|exact A6|refine A3 ?_ ?_|exact A2|(refine A0 ?_ ?_ ?_;kernel_rfl;kernel_rfl)) <;> (try (conv=>whnf)))
  all_goals first
   | exact ⟨(j + 1,l),hJ.skip hel (by rw [Jf (j:=j) hg hx,h];rfl),by simp only;omega,A5 h0 rfl ⟨rfl,rfl,rfl,rfl,rfl,trivial⟩ ⟨⟨0,rfl⟩,trivial⟩ rfl rfl rfl⟩
   | exact A9 rfl (congrArg AV.i (Rn hn hz hl hs (hJ.bad hel (by rw [Jf (j:=j) hg hx];simp [*]) ⟨by assumption,by assumption⟩)))
   | exact ⟨(j + 1,(el:Int)),hJ.next hel (by rw [Jf (j:=j) hg hx];simp [*]) (by simp only at *;omega),by simp only;omega,A5 h0 rfl ⟨rfl,rfl,rfl,rfl,rfl,trivial⟩ ⟨⟨0,rfl⟩,trivial⟩ rfl rfl rfl⟩
   | exact A9 rfl (congrArg AV.i (VK hn hz hl hs (hJ.done (by simp only at *;omega))))
 all_goals first
  | exact A5 h0 rfl ⟨rfl,rfl,rfl,rfl,trivial⟩ ⟨rfl,rfl,⟨0,rfl⟩,trivial⟩ rfl rfl rfl
  | exact B8 (FV 1 2 h0 rfl rfl) (A5 h0 rfl ⟨rfl,rfl,rfl,rfl,trivial⟩ ⟨rfl,rfl,⟨0,rfl⟩,trivial⟩ rfl rfl rfl)
theorem XT {cs:List Code} {i k:Nat} {a b:Code} (hi:cs[i]? = some a) (hI:∀ c ∈ cs.take k,c.name ≠ a.name) (hb:cs[k]? = some b) (h:¬ b.name = a.name):∀ c ∈ cs.take (k + 1),c.name ≠ a.name:=Ow hI hb h
theorem aO {cs:List Code} {i k:Nat} {a b:Code} (hki:k < i) (hb:cs[k]? = some b) (h:b.name = a.name):a.name ∈ (cs.take i).map (·.name) :=
 List.mem_map.2 ⟨b,List.mem_of_getElem? (i:=k) (by rw [List.getElem?_take_of_lt hki];exact hb),h⟩
theorem VM {cs:List Code} {i:Nat} {a:Code} (hI:∀ c ∈ cs.take i,c.name ≠ a.name):a.name ∉ (cs.take i).map (·.name):=by
 intro h
 obtain ⟨c,hc,he⟩:=List.mem_map.1 h
 exact hI c hc he
set_option maxHeartbeats 4000000 in
theorem JH (nm:List UInt8) (cs:List Code) (hlen:cs.length ≤ 9223372036854775807):B3 Tryz.prog 72 [lA nm cs] (.i (chk nm cs)):=by
 refine F7 Tryz.func72 100 fun hrd E h0=>?_
 repeat' ((first | refine B0 (Al _) ?_ |refine A1 ?_|refine S1 ?_|refine Z1 ?_|refine Z2 ?_|(refine And.intro ?_ ?_<;>intro h<;>try first|(exfalso;omega)|exact absurd rfl h)|refine Z3 ?_|refine Z4 ?_|intro el hel hbB|intro el hel|intro ex|refine Z5 ?_|(refine A8 ?_ ?_;exact ⟨by kernel_rfl,by decide⟩)|refine A7 ?_ ?_|exact A6|refine A3 ?_ ?_|exact A2|(refine A0 ?_ ?_ ?_;kernel_rfl;kernel_rfl)) <;> (try (conv=>whnf)))
 case refine_1=>exact A9 rfl (congrArg AV.i (Ox h))
 case refine_2.refine_1=>exact A9 rfl (congrArg AV.i (Rm (by assumption) h))
 case refine_2.refine_2.refine_1=>exact A9 rfl (congrArg AV.i (Oy (by assumption) h))
 rename_i hn hz
 have hl:=h
 clear h
 refine D8 (ι:=Nat) (fun k=>⟨[(1, .ref 0 0),(3, .i k)],1,[(0,some (.box [.str nm, .sl 2 (cs.map cA)]))]⟩) (fun k=>o0 cs k) (fun k=>cs.length - k) 0 ⟨Nat.zero_le _,by simp⟩ (A5 h0 rfl ⟨rfl,rfl,trivial⟩ ⟨rfl,trivial⟩ rfl rfl rfl) (fun k hI=>?_)
 repeat' ((first | refine B0 (Al _) ?_ |refine A1 ?_|refine S1 ?_|refine Z1 ?_|refine Z2 ?_|(refine And.intro ?_ ?_<;>intro h<;>try first|(exfalso;omega)|exact absurd rfl h)|refine Z3 ?_|refine Z4 ?_|intro el hel hbB|intro el hel|intro ex|refine Z5 ?_|(refine A8 ?_ ?_;exact ⟨by kernel_rfl,by decide⟩)|refine A7 ?_ ?_|exact A6|refine A3 ?_ ?_|exact A2|(refine A0 ?_ ?_ ?_;kernel_rfl;kernel_rfl)) <;> (try (conv=>whnf)))
 case refine_2.refine_2.refine_2.refine_1.refine_1=>exact A9 rfl (congrArg AV.i (Cj hn hz hl (hI.name hel h)))
 ·rename_i hk
  rename Code=>c
  rename cs[k]? = _=>hc
  have hnm:=h
  clear h
  refine D8 (ι:=Nat) (fun j=>⟨[(1, .ref 0 0),(3, .i k),(4, .i j)],1,[(0,some (.box [.str nm, .sl 2 (cs.map cA)]))]⟩) (fun j=>j ≤ k ∧ ∀ a ∈ cs.take j,a.name ≠ c.name) (fun j=>k - j) 0 ⟨Nat.zero_le _,by simp⟩ (A5 h0 rfl ⟨rfl,rfl,rfl,trivial⟩ ⟨rfl,trivial⟩ rfl rfl rfl) (fun j hJ=>?_)
  obtain ⟨hj,hJ⟩:=hJ
  repeat' ((first | (refine J2 ?_ ?_;kernel_rfl) |refine A1 ?_|refine S1 ?_|refine Z1 ?_|refine Z2 ?_|(refine And.intro ?_ ?_<;>intro h<;>try first|(exfalso;omega)|exact absurd rfl h)|refine Z3 ?_|refine Z4 ?_|intro el hel hbB|intro el hel|intro ex|refine Z5 ?_|(refine A8 ?_ ?_;exact ⟨by kernel_rfl,by decide⟩)|refine A7 ?_ ?_|exact A6|refine A3 ?_ ?_|exact A2|(refine A0 ?_ ?_ ?_;kernel_rfl;kernel_rfl)) <;> (try (conv=>whnf)))
  all_goals first
   | exact A9 rfl (congrArg AV.i (Cj hn hz hl (hI.dup hc hnm (aO (by omega) hel h))))
   | exact ⟨j + 1,⟨by omega,XT hc hJ hel h⟩,by omega,A5 h0 rfl ⟨rfl,rfl,rfl,trivial⟩ ⟨rfl,trivial⟩ rfl rfl rfl⟩
   | (have hjk:j = k:=by omega
      subst hjk
      first
       | exact ⟨j + 1,hI.step hc hnm (VM hJ) (by unfold EM;split <;> simp <;> omega),by omega,A5 h0 rfl ⟨rfl,rfl,trivial⟩ ⟨rfl,trivial⟩ rfl rfl rfl⟩
       | exact A9 rfl (congrArg AV.i (Cj hn hz hl (hI.bad hc hnm (VM hJ) (by unfold EM;split <;> simp <;> omega)))))
 ·have hs:=hI.done h
  have hg:=Ep hs
  have hdl:=L7 cs
  refine D8 (ι:=Nat × Int) (fun x=>⟨[(1, .ref 0 0),(6, .i x.2),(7, .i x.1)],1,[(0,some (.box [.str nm, .sl 2 (cs.map cA)]))]⟩) (fun x=>DS cs x.1 x.2) (fun x=>cs.length - x.1) (0, -1) ⟨Nat.zero_le _,by simp,by simp⟩ (A5 h0 rfl ⟨rfl,rfl,rfl,trivial⟩ ⟨rfl,trivial⟩ rfl rfl rfl) (fun x hJ=>?_)
  obtain ⟨j,l⟩:=x
  have hJ0:=hJ.1
  have hJ2:=hJ.2.2
  simp only at hJ hJ0 hJ2
  repeat' ((first | refine B0 (VI _ _ _ hlen) ?_ | refine B0 (Ku _ _ _ _ hg hlen (List.getElem?_eq_getElem (i:=j) (by omega))) ?_ |refine A1 ?_|refine S1 ?_|refine Z1 ?_|refine Z2 ?_|(refine And.intro ?_ ?_<;>intro h<;>try first|(exfalso;omega)|exact absurd rfl h)|refine Z3 ?_|refine Z4 ?_|intro el hel hbB|intro el hel|intro ex|refine Z5 ?_|(refine A8 ?_ ?_;exact ⟨by kernel_rfl,by decide⟩)|refine A7 ?_ ?_|exact A6|refine A3 ?_ ?_|exact A2|(refine A0 ?_ ?_ ?_;kernel_rfl;kernel_rfl)) <;> (try (conv=>whnf)))
  all_goals first
   | exact ⟨(j + 1,l),hJ.skip (List.getElem?_eq_getElem (by simp only at *;omega)) h,by simp only at *;omega,A5 h0 rfl ⟨rfl,rfl,rfl,trivial⟩ ⟨rfl,trivial⟩ rfl rfl rfl⟩
   | exact A9 rfl (congrArg AV.i (Rn hn hz hl hs (hJ.bad (List.getElem?_eq_getElem (by simp only at *;omega)) (by assumption) ⟨by assumption,by assumption⟩)))
   | exact ⟨(j + 1,((R9 cs)[j]'(by simp only at *;omega):Int)),hJ.next (List.getElem?_eq_getElem (by simp only at *;omega)) (by assumption) (by simp only at *;omega),by simp only at *;omega,A5 h0 rfl ⟨rfl,rfl,rfl,trivial⟩ ⟨rfl,trivial⟩ rfl rfl rfl⟩
   | exact A9 rfl (congrArg AV.i (VK hn hz hl hs (hJ.done (by simp only at *;omega))))
theorem j7 {nm:List UInt8} {cs:List Code} (h:chk nm cs = 0):Good cs ∧ 0 < cs.length ∧ cs.length ≤ 60:=by
 unfold chk at h
 split at h
 ·cases h
 ·split at h
  ·cases h
  ·split at h
   ·cases h
   ·rename_i h1 h2 h3
    cases hs:scan [] cs with
    | some e =>
      rw [hs] at h
      simp only at h
      subst h
      exfalso
      have:∀ (cs pre:List Code) e,scan pre cs = some e → e = 3 ∨ e = 10 ∨ e = 6:=by
       intro cs
       induction cs with
       | nil=>intro pre e h;cases h
       | cons a r ih =>
         intro pre e h
         simp only [scan] at h
         split at h
         ·cases h;exact .inl rfl
         ·split at h
          ·cases h;exact .inr (.inl rfl)
          ·split at h
           ·cases h;exact .inr (.inr rfl)
           ·exact ih _ _ h
      have:=this _ _ _ hs
      omega
    | none=>exact ⟨Ep hs,by omega,by omega⟩
theorem Kv {nm:List UInt8} {cs:List Code} (h:chk nm cs = 0):cs.length ≤ 1000000:=by have:=(j7 h).2.2;omega
def CD (ds:List Nat):Nat:=ds.foldl max 0
theorem PC {ds:List Nat} {k x:Nat} (h:ds[k]? = some x):(max (CD (ds.take k):Int) x) = (CD (ds.take (k + 1)):Nat):=by
 rw [List.take_add_one,h]
 unfold CD
 rw [List.foldl_append]
 simp only [Option.toList_some,List.foldl_cons,List.foldl_nil]
 omega
set_option maxHeartbeats 1000000 in
theorem XU (ds:List Nat) (hne:0 < ds.length) (hlen:ds.length ≤ 1000000):B3 Tryz.prog 193 [.sl 1 (ds.map iA)] (.i (CD ds)):=by
 refine F7 Tryz.func193 25 fun hrd E h0=>?_
 repeat' ((first|refine A1 ?_|refine S1 ?_|refine Z1 ?_|refine Z2 ?_|(refine And.intro ?_ ?_<;>intro h<;>try first|(exfalso;omega)|exact absurd rfl h)|refine Z3 ?_|refine Z4 ?_|intro el hel hbB|intro el hel|intro ex|refine Z5 ?_|(refine A8 ?_ ?_;exact ⟨by kernel_rfl,by decide⟩)|refine A7 ?_ ?_|exact A6|refine A3 ?_ ?_|exact A2|(refine A0 ?_ ?_ ?_;kernel_rfl;kernel_rfl)) <;> (try (conv=>whnf)))
 refine D8 (ι:=Nat) (fun k=>⟨[(0, .sl 1 (ds.map iA)),(3, .i (CD (ds.take k))),(4, .i k)],0,[]⟩) (fun k=>k ≤ ds.length) (fun k=>ds.length - k) 1 hne (A5 h0 rfl ⟨rfl,congrArg (fun z:Int=>some (AV.i z)) (by
  have:=PC (k:=0) hel
  rw [← this]
  simp [CD]),rfl,trivial⟩ trivial rfl rfl rfl) (fun k hI=>?_)
 repeat' ((first|refine A1 ?_|refine S1 ?_|refine Z1 ?_|refine Z2 ?_|(refine And.intro ?_ ?_<;>intro h<;>try first|(exfalso;omega)|exact absurd rfl h)|refine Z3 ?_|refine Z4 ?_|intro el hel hbB|intro el hel|intro ex|refine Z5 ?_|(refine A8 ?_ ?_;exact ⟨by kernel_rfl,by decide⟩)|refine A7 ?_ ?_|exact A6|refine A3 ?_ ?_|exact A2|(refine A0 ?_ ?_ ?_;kernel_rfl;kernel_rfl)) <;> (try (conv=>whnf)))
 all_goals first
  | exact ⟨k + 1,by omega,by omega,A5 h0 rfl ⟨rfl,congrArg (fun z:Int=>some (AV.i z)) (PC hel),rfl,trivial⟩ trivial rfl rfl rfl⟩
  | (refine A9 rfl (congrArg (fun z:Nat=>AV.i (z:Int)) ?_)
     rw [show k = ds.length by omega,List.take_length])
def hasB (nm:List UInt8) (cs:List Code) (code:Int):Bool:=decide (0 ≤ code) && decide (code < cs.length) && decide (chk nm cs = 0)
def G7 (nm:List UInt8) (cs:List Code):Int:=if chk nm cs = 0 then (CD (R9 cs):Int) + 1 else -1
theorem Jg {cs:List Code} (hb:FZ cs):CD (R9 cs) ≤ cs.length:=by
 have:∀ (ds:List Nat) (m a:Nat),(∀ d ∈ ds,d ≤ m) → a ≤ m → ds.foldl max a ≤ m:=by
  intro ds
  induction ds with
  | nil=>intro m a _ h;exact h
  | cons d r ih=>intro m a h ha;exact ih m _ (fun x hx=>h x (by simp [hx])) (by have:=h d (by simp);omega)
 refine this _ _ _ (fun d hd=>?_) (Nat.zero_le _)
 obtain ⟨i,hi,rfl⟩:=List.getElem_of_mem hd
 have h1:=Ln hb i _ (List.getElem?_eq_getElem hi)
 have h2:=L7 cs
 omega
set_option maxHeartbeats 1000000 in
theorem Qy (nm:List UInt8) (cs:List Code) (hlen:cs.length ≤ 9223372036854775807):B3 Tryz.prog 178 [lA nm cs] (.i (G7 nm cs)):=by
 have hdl:=L7 cs
 have hmx:=fun h=>And.intro (Jg (cs:=cs) (j7 (nm:=nm) h).1.before) (j7 (nm:=nm) (cs:=cs) h).2.2
 refine F7 Tryz.func178 10 fun hrd E h0=>?_
 repeat' ((first | refine B0 (GP _ _ hlen) ?_ | refine B0 (JG _ _ (j7 (by simpa using h)).1.before (Kv (nm:=nm) (by simpa using h))) ?_ | refine B0 (XU _ (by have:=j7 (nm:=nm) (cs:=cs) (by simpa using h);omega) (by have:=Kv (nm:=nm) (cs:=cs) (by simpa using h);omega)) ?_ | (refine G2 ?_ ?_;(have:=hmx (by simpa using h);omega)) |refine A1 ?_|refine S1 ?_|refine Z1 ?_|refine Z2 ?_|(refine And.intro ?_ ?_<;>intro h<;>try first|(exfalso;omega)|exact absurd rfl h)|refine Z3 ?_|refine Z4 ?_|intro el hel hbB|intro el hel|intro ex|refine Z5 ?_|(refine A8 ?_ ?_;exact ⟨by kernel_rfl,by decide⟩)|refine A7 ?_ ?_|exact A6|refine A3 ?_ ?_|exact A2|(refine A0 ?_ ?_ ?_;kernel_rfl;kernel_rfl)) <;> (try (conv=>whnf)))
 all_goals first
  | exact A9 rfl (congrArg AV.i (by simp [G7,h]))
  | exact A9 rfl (congrArg AV.i (by have h:chk nm cs = 0:=by simpa using h
                                    simp [G7,h]))
def par (cs:List Code) (code:Nat):Nat:=((cs[code]?).map (·.parent.toNat)).getD 0
def fF (cs:List Code) (code:Nat):Nat → Nat
 | 0=>code
 | s + 1=>fF cs (par cs code) s
def dep (cs:List Code) (code:Nat):Nat:=(R9 cs).getD code 0
def BC (nm:List UInt8) (cs:List Code) (code level:Int):Int :=
 if hasB nm cs code = true ∧ 0 ≤ level ∧ level ≤ dep cs code.toNat then (fF cs code.toNat (dep cs code.toNat - level.toNat):Int) else -1
theorem Ro {cs:List Code} {j d:Nat} (h:(R9 cs)[j]? = some d):dep cs j = d:=by rw [dep,List.getD_eq_getElem?_getD,h];rfl
theorem Kw {cs:List Code} {j:Nat} (h:j < cs.length):(R9 cs)[j]? = some (dep cs j):=by
 have h2:j < (R9 cs).length:=by rw [L7];exact h
 rw [dep,List.getD_eq_getElem?_getD,List.getElem?_eq_getElem h2];rfl
theorem aP {cs:List Code} (hb:FZ cs) {j:Nat} {c:Code} (hc:cs[j]? = some c) (hj:0 < j):dep cs j = dep cs (par cs j) + 1 ∧ par cs j < j ∧ (par cs j:Int) = c.parent:=by
 obtain ⟨h1,h2⟩:=hb j c hc hj
 have hp:par cs j = c.parent.toNat:=by rw [par,hc];rfl
 have h3:=Ci hb hc
 rw [if_neg (by omega)] at h3
 have:=Ro h3
 rw [hp]
 exact ⟨this,by omega,by omega⟩
def cq (nm:List UInt8) (cs:List Code) (code above:Int):Bool:=hasB nm cs code && hasB nm cs above && decide (BC nm cs code (dep cs above.toNat) = above)
def XV (c:Code) (nm:List UInt8):Bool:=decide (c.name = nm)
theorem TM (c:Code) (nm:List UInt8):B3 Tryz.prog 205 [.agg (cA c), .iptr [.str nm]] (.b (XV c nm)):=by
 refine F7 Tryz.func205 8 fun hrd E h0=>?_
 repeat' ((first|refine A1 ?_|refine S1 ?_|refine Z1 ?_|refine Z2 ?_|(refine And.intro ?_ ?_<;>intro h<;>try first|(exfalso;omega)|exact absurd rfl h)|refine Z3 ?_|refine Z4 ?_|intro el hel hbB|intro el hel|intro ex|refine Z5 ?_|(refine A8 ?_ ?_;exact ⟨by kernel_rfl,by decide⟩)|refine A7 ?_ ?_|exact A6|refine A3 ?_ ?_|exact A2|(refine A0 ?_ ?_ ?_;kernel_rfl;kernel_rfl)) <;> (try (conv=>whnf)))
 all_goals first
  | exact A9 rfl rfl
def GQ:List Code → List UInt8 → Int → Int
 | [],_,_=>-1
 | c :: r,nm,k=>if XV c nm = true then k else GQ r nm (k + 1)
set_option maxHeartbeats 2000000 in
theorem TN (cs:List Code) (nm:List UInt8) (hlen:cs.length ≤ 9223372036854775807):B3 Tryz.prog 204 [.sl 2 (cs.map cA), .fn 205 [.iptr [.str nm]]] (.i (GQ cs nm 0)):=by
 refine F7 Tryz.func204 19 fun hrd E h0=>?_
 repeat' ((first|refine A1 ?_|refine S1 ?_|refine Z1 ?_|refine Z2 ?_|(refine And.intro ?_ ?_<;>intro h<;>try first|(exfalso;omega)|exact absurd rfl h)|refine Z3 ?_|refine Z4 ?_|intro el hel hbB|intro el hel|intro ex|refine Z5 ?_|(refine A8 ?_ ?_;exact ⟨by kernel_rfl,by decide⟩)|refine A7 ?_ ?_|exact A6|refine A3 ?_ ?_|exact A2|(refine A0 ?_ ?_ ?_;kernel_rfl;kernel_rfl)) <;> (try (conv=>whnf)))
 refine D8 (ι:=Nat) (fun k=>⟨[(0, .sl 2 (cs.map cA)),(1, .fn 205 [.iptr [.str nm]]),(7, .i cs.length),(8, .i k)],0,[]⟩) (fun k=>k ≤ cs.length ∧ GQ cs nm 0 = GQ (cs.drop k) nm k) (fun k=>cs.length - k) 0 ⟨Nat.zero_le _,rfl⟩ (A5 h0 rfl ⟨rfl,rfl,rfl,rfl,trivial⟩ trivial rfl rfl rfl) (fun k hI=>?_)
 obtain ⟨hk,hI⟩:=hI
 repeat' ((first | refine B0 (TM _ _) ?_ |refine A1 ?_|refine S1 ?_|refine Z1 ?_|refine Z2 ?_|(refine And.intro ?_ ?_<;>intro h<;>try first|(exfalso;omega)|exact absurd rfl h)|refine Z3 ?_|refine Z4 ?_|intro el hel hbB|intro el hel|intro ex|refine Z5 ?_|(refine A8 ?_ ?_;exact ⟨by kernel_rfl,by decide⟩)|refine A7 ?_ ?_|exact A6|refine A3 ?_ ?_|exact A2|(refine A0 ?_ ?_ ?_;kernel_rfl;kernel_rfl)) <;> (try (conv=>whnf)))
 all_goals first
  | exact ⟨k + 1,⟨by omega,by rw [hI,g9 hel,GQ,if_neg (by simp [h])];rfl⟩,by omega,A5 h0 rfl ⟨rfl,rfl,rfl,rfl,trivial⟩ trivial rfl rfl rfl⟩
  | exact A9 rfl (congrArg AV.i (by rw [hI,g9 hel,GQ,if_pos (by simp [h])]))
  | exact A9 rfl (congrArg AV.i (by rw [hI,show k = cs.length by omega,List.drop_length];rfl))
def CE (nm:List UInt8) (cs:List Code) (n:List UInt8):Int:=if chk nm cs = 0 then GQ cs n 0 else -1
set_option maxHeartbeats 2000000 in
theorem VN (nm:List UInt8) (cs:List Code) (n:List UInt8) (hlen:cs.length ≤ 9223372036854775807):B3 Tryz.prog 195 [lA nm cs, .str n] (.i (CE nm cs n)):=by
 refine F7 Tryz.func195 12 fun hrd E h0=>?_
 repeat' ((first | refine B0 (GP _ _ hlen) ?_ | refine B0 (TN _ _ hlen) ?_ | refine Y8 1 ?_ |refine A1 ?_|refine S1 ?_|refine Z1 ?_|refine Z2 ?_|(refine And.intro ?_ ?_<;>intro h<;>try first|(exfalso;omega)|exact absurd rfl h)|refine Z3 ?_|refine Z4 ?_|intro el hel hbB|intro el hel|intro ex|refine Z5 ?_|(refine A8 ?_ ?_;exact ⟨by kernel_rfl,by decide⟩)|refine A7 ?_ ?_|exact A6|refine A3 ?_ ?_|exact A2|(refine A0 ?_ ?_ ?_;kernel_rfl;kernel_rfl)) <;> (try (conv=>whnf)))
 all_goals first
  | (refine A9 rfl (congrArg AV.i ?_);(rw [CE,if_neg h];done))
  | (refine A9 rfl (congrArg AV.i ?_);(rw [CE,if_pos (by simpa using h)];done))
def cr (cs:List Code) (level:Int) (k:Nat):List Nat:=(List.range k).filter fun i=>decide ((dep cs i:Int) = level)
theorem ct (cs:List Code) (level:Int) (k:Nat):(cr cs level k).length ≤ k:=by
 have:=List.length_filter_le (fun i=>decide ((dep cs i:Int) = level)) (List.range k)
 simpa [cr] using this
def V2 (nm:List UInt8) (cs:List Code) (level:Int):List Nat:=if chk nm cs = 0 then cr cs level cs.length else []
end Go.Proofs.YthkklceofokkmaaGreatDoor
namespace Go.Proofs.YthkklceofokkmaaGreatDoor
open Go Go.Av
set_option maxRecDepth 100000
def cu (n:Int):Prop:=-9223372036854775808 ≤ n ∧ n ≤ 9223372036854775807
theorem Ck {f:Nat} {l:List AV} (h:Sh Tryz.prog f 3 l):∃ n,cu n ∧ l = [.i n]:=by
 obtain ⟨n,h1,h2⟩:=Ko Tryz.underlying3 h
 exact ⟨n,wf_i64 h1,h2⟩
theorem XW {f:Nat} {l:List AV} (h:Sh Tryz.prog f 9 l):∃ s:List UInt8,s.length ≤ maxLen ∧ l = [.str s]:=Uy Tryz.underlying9 h
theorem PD {a:AV} (h:V8 Tryz.prog 22 a):∃ l:List UInt8,l.length ≤ maxLen ∧ a = .sl 1 (l.map S6):=VA Tryz.underlying22 Tryz.underlying5 (by kernel_rfl) h
theorem ZZ {a:AV} (h:V8 Tryz.prog 3 a):∃ n,cu n ∧ a = .i n:=aH Tryz.underlying3 h
theorem en {a:AV} (h:V8 Tryz.prog 9 a):∃ s:List UInt8,s.length ≤ maxLen ∧ a = .str s:=aI Tryz.underlying9 h
end Go.Proofs.YthkklceofokkmaaGreatDoor
