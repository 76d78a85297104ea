/- Plain lists: the first error, the first place, and what was passed. Chapter 1: names, and what they are. Chapter 1: the levels of codes. Chapter 1: leaves and depths, by the reference. Chapter 1: the check of a list. Chapter 1: the check of a list, by the reference. Chapter 1: levels, ancestors, codes of a level. Chapter 1: ancestors. Chapter 1: what stands below, codes of a level, codes with a name. Chapter 1: the codes of a level, and the example. Code lists that came in. -/
import Derived.Test.YtiphlhoclaogjabGreatDoorQAvTy
import Derived.Test.YtiphlhoclaogjabGreatDoorQE3
set_option linter.unusedVariables false
set_option linter.unnecessarySimpa false
set_option linter.unusedSimpArgs false
namespace Go.Proofs.YtiphlhoclaogjabGreatDoor
open Go Go.Av
attribute [local irreducible] D6 B8 D8 D7 DQ E0 E1 St.le B4 B9
set_option maxRecDepth 100000
theorem S3 {α:Type} {l:List α} {k:Nat} {x:α} (h:l[k]? = some x):l.drop k = x :: l.drop (k + 1):=by
 obtain ⟨h1,h2⟩:=List.getElem?_eq_some_iff.1 h
 rw [List.drop_eq_getElem_cons h1,h2]
theorem Q2 {α:Type} {l:List α} {k:Nat} {x:α} (h:l[k]? = some x):l.take (k + 1) = l.take k ++ [x]:=by
 rw [List.take_add_one,h];rfl
theorem LU {α:Type} {l:List α} {k:Nat} (h:¬ (k:Int) < l.length):l.drop k = []:=List.drop_eq_nil_of_le (by omega)
theorem TK {α:Type} {l:List α} {k:Nat} (h:¬ (k:Int) < l.length):l.take k = l:=List.take_of_length_le (by omega)
theorem R6 {α:Type} {l:List α} {k:Nat} {x:α} (h:l[k]? = some x):k < l.length:=(List.getElem?_eq_some_iff.1 h).1
def I5 {α:Type} (p:α → Bool):List α → Int → Int
 | [],_=>-1
 | x :: r,k=>if p x = true then k else I5 p r (k + 1)
theorem AN {α:Type} (p:α → Bool):∀ (l:List α) (k:Int),0 ≤ k → decide (0 ≤ I5 p l k) = l.any p
 | [],k,_=>by simp [I5]
 | x :: r,k,h=>by
   unfold I5
   by_cases hp:p x = true
   ·rw [if_pos hp];simp [hp,h]
   ·rw [if_neg hp,AN p r (k + 1) (by omega)]
    simp [hp]
def M2 {α:Type} (f:Nat → α → Int):Nat → List α → Int
 | _,[]=>0
 | i,x :: r=>if f i x = 0 then M2 f (i + 1) r else f i x
def V7 {α:Type} (f:Nat → α → Int) (l:List α) (k:Nat):Prop:=k ≤ l.length ∧ M2 f 0 l = M2 f k (l.drop k) ∧ ∀ (i:Nat) x,i < k → l[i]? = some x → f i x = 0
theorem V7.zero {α:Type} (f:Nat → α → Int) (l:List α):V7 f l 0:=⟨Nat.zero_le _,rfl,fun i x h=>absurd h (Nat.not_lt_zero _)⟩
theorem V7.step {α:Type} {f:Nat → α → Int} {l:List α} {k:Nat} {x:α} (h:V7 f l k) (hx:l[k]? = some x) (h0:f k x = 0):V7 f l (k + 1):=by
 refine ⟨R6 hx,?_,fun i y hi hy=>?_⟩
 ·rw [h.2.1,S3 hx,M2,if_pos h0]
 ·by_cases e:i = k
  ·subst e;rw [hx] at hy;cases hy;exact h0
  ·exact h.2.2 i y (by omega) hy
theorem V7.hit {α:Type} {f:Nat → α → Int} {l:List α} {k:Nat} {x:α} (h:V7 f l k) (hx:l[k]? = some x) (h0:¬ f k x = 0):f k x = M2 f 0 l:=by
 rw [h.2.1,S3 hx,M2,if_neg h0]
theorem V7.done {α:Type} {f:Nat → α → Int} {l:List α} {k:Nat} (h:V7 f l k) (hk:¬ (k:Int) < l.length):M2 f 0 l = 0:=by
 rw [h.2.1,LU hk];rfl
theorem Cb {α:Type} {f:Nat → α → Int}:∀ {l:List α} {k:Nat},M2 f k l = 0 → ∀ (i:Nat) x,l[i]? = some x → f (k + i) x = 0
 | [],k,_,i,x,h=>by simp at h
 | y :: r,k,h,i,x,hx=>by
   unfold M2 at h
   split at h
   ·cases i with
    | zero=>simp at hx;subst hx;assumption
    | succ i =>
      have:=Cb h i x (by simpa using hx)
      rw [show k + (i + 1) = k + 1 + i by omega];exact this
   ·exact absurd h (by assumption)
def V8 {α:Type} (p:α → Bool) (l:List α) (k:Nat):Prop:=k ≤ l.length ∧ ∀ x ∈ l.take k,p x = false
theorem V8.zero {α:Type} (p:α → Bool) (l:List α):V8 p l 0:=⟨Nat.zero_le _,fun x hx=>by simp at hx⟩
theorem V8.step {α:Type} {p:α → Bool} {l:List α} {k:Nat} {x:α} (h:V8 p l k) (hx:l[k]? = some x) (h0:p x = false):V8 p l (k + 1):=by
 refine ⟨R6 hx,fun y hy=>?_⟩
 rw [Q2 hx] at hy
 rcases List.mem_append.1 hy with hy | hy
 ·exact h.2 y hy
 ·simp at hy;subst hy;exact h0
theorem V8.hit {α:Type} {p:α → Bool} {l:List α} {k:Nat} {x:α} (h:V8 p l k) (hx:l[k]? = some x) (h0:p x = true):true = l.any p :=
 (List.any_eq_true.2 ⟨x,List.mem_of_getElem? hx,h0⟩).symm
theorem V8.done {α:Type} {p:α → Bool} {l:List α} {k:Nat} (h:V8 p l k) (hk:¬ (k:Int) < l.length):false = l.any p:=by
 have:=h.2
 rw [TK hk] at this
 exact (List.any_eq_false.2 (fun x hx=>by simp [this x hx])).symm
end Go.Proofs.YtiphlhoclaogjabGreatDoor
namespace Go.Proofs.YtiphlhoclaogjabGreatDoor
open Go Go.Av
attribute [local irreducible] D6 B8 D8 DQ E0 E1 St.le B4 B9
def w5 (c:UInt8):Bool:=decide (97 ≤ c.toNat ∧ c.toNat ≤ 122 ∨ 48 ≤ c.toNat ∧ c.toNat ≤ 57 ∨ c.toNat = 95)
def words:List (List UInt8):=[[97,108,108],[97,110,100],[101,118,101,110,116],[102,114,111,109],[109,105,115,115,105,110,103],[110,111,116],[111,110],[111,114],[116,111],[117,110,100,101,114],[119,104,101,114,101]]
def Ha (l:List UInt8):Bool:=match l with | []=>false | c :: _=>decide (97 ≤ c.toNat ∧ c.toNat ≤ 122)
def E7 (l:List UInt8):Bool:=decide (l.length ≤ 16) && Ha l && l.all w5 && !(decide (l ∈ words))
theorem Fy {l:List UInt8} (h:(l.length:Int) < 1):false = E7 l:=by
 have:l = []:=List.eq_nil_of_length_eq_zero (by omega)
 subst this;rfl
theorem Hb {l:List UInt8} (h:16 < (l.length:Int)):false = E7 l:=by
 have:¬ l.length ≤ 16:=by omega
 simp [E7,this]
theorem Hc {l:List UInt8} {el:UInt8} (hel:l[Int.toNat 0]? = some el) (h:(el.toNat:Int) < 97 ∨ 122 < (el.toNat:Int)):false = E7 l:=by
 cases l with
 | nil=>rfl
 | cons c r =>
   have:c = el:=by simpa using hel
   subst this
   have:¬ (97 ≤ c.toNat ∧ c.toNat ≤ 122):=by omega
   simp [E7,Ha];omega
theorem Jc {l:List UInt8} {k:Nat} {el:UInt8} (hel:l[k]? = some el) (h:¬ (97 ≤ el.toNat ∧ el.toNat ≤ 122 ∨ 48 ≤ el.toNat ∧ el.toNat ≤ 57 ∨ el.toNat = 95)):false = E7 l:=by
 have:l.all w5 = false:=by
  rw [List.all_eq_false]
  exact ⟨el,List.mem_of_getElem? hel,by simp [w5];omega⟩
 simp [E7,this]
theorem Hd {l:List UInt8} (h:l ∈ words):false = E7 l:=by simp [E7,h]
theorem He {l:List UInt8} {a b:UInt8} {k:Nat} (h1:¬ 16 < (l.length:Int)) (h2:¬ (a.toNat:Int) < 97) (ha:l[Int.toNat 0]? = some a) (h3:¬ 122 < (b.toNat:Int)) (hb:l[Int.toNat 0]? = some b) (h4:∀ c ∈ l.take k,w5 c = true) (h5:¬ (k:Int) < l.length) (h6:l ∉ words):true = E7 l:=by
 rw [ha] at hb
 cases hb
 have e:l.take k = l:=List.take_of_length_le (by omega)
 rw [e] at h4
 have:Ha l = true:=by
  cases l with
  | nil=>cases ha
  | cons c r=>cases ha;simp [Ha];omega
 simp [E7,this,h6]
 exact ⟨by omega,h4⟩
theorem Nh {l:List UInt8} {k:Nat} {el:UInt8} (hI:∀ c ∈ l.take k,w5 c = true) (hel:l[k]? = some el) (h:97 ≤ el.toNat ∧ el.toNat ≤ 122 ∨ 48 ≤ el.toNat ∧ el.toNat ≤ 57 ∨ el.toNat = 95):∀ c ∈ l.take (k + 1),w5 c = true:=by
 intro c hc
 rw [List.take_add_one,hel] at hc
 rcases List.mem_append.1 hc with hc | hc
 ·exact hI c hc
 ·simp at hc;subst hc;simpa [w5] using h
set_option maxHeartbeats 1000000 in
theorem Ei (l:List UInt8):B4 Tryz.prog 79 [.str l] (.b (E7 l)):=by
 refine F3 Tryz.func79 62 fun hrd E h0=>?_
 repeat' ((first|refine A4 ?_|refine S1 ?_|refine Z1 ?_|refine Z2 ?_|(refine And.intro ?_ ?_<;>intro h<;>try first|(exfalso;omega)|exact absurd rfl h)|refine Z3 ?_|refine Z4 ?_|intro el hel hbB|intro el hel|intro ex|refine Z5 ?_|(refine A9 ?_ ?_;exact ⟨by kernel_rfl,by decide⟩)|refine A8 ?_ ?_|exact A7|refine A6 ?_ ?_|exact A5|(refine A0 ?_ ?_ ?_;kernel_rfl;kernel_rfl)) <;> (try (conv=>whnf)))
 rotate_left
 ·refine C2 (ι:=Nat) (fun k=>⟨[(0, .str l),(24, .sl 1 (l.map fun b=>[.v (.int .u8 b.toNat)])),(25, .i l.length),(26, .i k)],0,[]⟩) (fun k=>∀ c ∈ l.take k,w5 c = true) (fun k=>l.length - k) 0 (by simp) (B0 h0 rfl ⟨rfl,rfl,rfl,rfl,trivial⟩ trivial rfl rfl rfl) (fun k hI=>?_)
  repeat' ((first|refine A4 ?_|refine S1 ?_|refine Z1 ?_|refine Z2 ?_|(refine And.intro ?_ ?_<;>intro h<;>try first|(exfalso;omega)|exact absurd rfl h)|refine Z3 ?_|refine Z4 ?_|intro el hel hbB|intro el hel|intro ex|refine Z5 ?_|(refine A9 ?_ ?_;exact ⟨by kernel_rfl,by decide⟩)|refine A8 ?_ ?_|exact A7|refine A6 ?_ ?_|exact A5|(refine A0 ?_ ?_ ?_;kernel_rfl;kernel_rfl)) <;> (try (conv=>whnf)))
  all_goals first
   | exact ⟨k + 1,Nh hI hel (by omega),by omega,B0 h0 rfl ⟨rfl,rfl,rfl,rfl,trivial⟩ trivial rfl rfl rfl⟩
   | (refine B5 rfl (congrArg AV.b ?_);first | exact Jc hel (by omega) | exact Hd (by subst h;decide) | exact He (by assumption) (by assumption) (by assumption) (by assumption) (by assumption) hI (by assumption) (by simp [words, *]))
 all_goals (refine B5 rfl (congrArg AV.b ?_);first | exact Fy h | exact Hb h | exact Hc hel (by omega))
set_option maxHeartbeats 2000000 in
theorem Dd (l:List UInt8):B4 Tryz.prog 115 [.str l] (.b (E7 l)):=by
 refine F3 Tryz.func115 70 fun hrd E h0=>?_
 repeat' ((first|refine A4 ?_|refine S1 ?_|refine Z1 ?_|refine Z2 ?_|(refine And.intro ?_ ?_<;>intro h<;>try first|(exfalso;omega)|exact absurd rfl h)|refine Z3 ?_|refine Z4 ?_|intro el hel hbB|intro el hel|intro ex|refine Z5 ?_|(refine A9 ?_ ?_;exact ⟨by kernel_rfl,by decide⟩)|refine A8 ?_ ?_|exact A7|refine A6 ?_ ?_|exact A5|(refine A0 ?_ ?_ ?_;kernel_rfl;kernel_rfl)) <;> (try (conv=>whnf)))
 rotate_left
 ·refine C2 (ι:=Nat) (fun k=>⟨[(0, .str l),(3, .i k)],0,[]⟩) (fun k=>∀ c ∈ l.take k,w5 c = true) (fun k=>l.length - k) 0 (by simp) (B0 h0 rfl ⟨rfl,rfl,trivial⟩ trivial rfl rfl rfl) (fun k hI=>?_)
  repeat' ((first|refine A4 ?_|refine S1 ?_|refine Z1 ?_|refine Z2 ?_|(refine And.intro ?_ ?_<;>intro h<;>try first|(exfalso;omega)|exact absurd rfl h)|refine Z3 ?_|refine Z4 ?_|intro el hel hbB|intro el hel|intro ex|refine Z5 ?_|(refine A9 ?_ ?_;exact ⟨by kernel_rfl,by decide⟩)|refine A8 ?_ ?_|exact A7|refine A6 ?_ ?_|exact A5|(refine A0 ?_ ?_ ?_;kernel_rfl;kernel_rfl)) <;> (try (conv=>whnf)))
  all_goals first
   | exact ⟨k + 1,Nh hI hel (by omega),by omega,B0 h0 rfl ⟨rfl,rfl,trivial⟩ trivial rfl rfl rfl⟩
   | (refine B5 rfl (congrArg AV.b ?_);first | exact Jc hel (by omega) | exact Hd (by subst h;decide) | exact He (by assumption) (by assumption) (by assumption) (by assumption) (by assumption) hI (by assumption) (by simp [words, *]))
 all_goals first
  | (refine B5 rfl (congrArg AV.b ?_);first | exact Fy h | exact Hb h | exact Hc hel (by omega))
structure Code where
 name:List UInt8
 parent:Int
deriving DecidableEq
abbrev cA (c:Code):List AV:=[.str c.name, .i c.parent]
abbrev iA (d:Nat):List AV:=[.i (d:Int)]
abbrev lA (nm:List UInt8) (cs:List Code):AV:=.agg [.str nm, .sl 2 (cs.map cA)]
def W6:List Nat → List Code → List Nat
 | out,[]=>out
 | out,c :: r=>W6 (out ++ [if out = [] then 0 else out.getD c.parent.toNat 0 + 1]) r
def M9 (cs:List Code):List Nat:=W6 [] cs
theorem CD:∀ (cs:List Code) (out:List Nat),(W6 out cs).length = out.length + cs.length
 | [],out=>rfl
 | c :: r,out=>by simp only [W6,CD r];simp;omega
theorem I9 (cs:List Code):(M9 cs).length = cs.length:=by simp [M9,CD]
theorem Bg:∀ (cs:List Code) (out:List Nat) (j:Nat),j < out.length → (W6 out cs)[j]? = out[j]?
 | [],out,j,_=>rfl
 | c :: r,out,j,h=>by
   simp only [W6]
   rw [Bg r _ j (by simp;omega),List.getElem?_append_left h]
theorem ED:∀ (cs:List Code) (out:List Nat) (k:Nat) (c:Code),cs[k]? = some c → ((out ++ [] = [] ∧ k = 0) ∨ True) →
  (W6 out cs)[out.length + k]? = some (if out.length + k = 0 then 0 else if c.parent.toNat < out.length + k then (W6 out cs).getD c.parent.toNat 0 + 1 else 1)
 | [],out,k,c,h,_=>by simp at h
 | a :: r,out,0,c,h,_=>by
   simp at h
   subst h
   simp only [W6,Nat.add_zero]
   rw [Bg _ _ _ (by simp)]
   simp only [List.getElem?_append_right (Nat.le_refl _),Nat.sub_self,List.getElem?_cons_zero]
   congr 1
   by_cases e:out = []
   ·subst e;simp
   ·have hl:¬ out.length = 0:=by simpa using e
    rw [if_neg e,if_neg hl]
    by_cases hp:a.parent.toNat < out.length
    ·rw [if_pos hp,List.getD_eq_getElem?_getD,List.getD_eq_getElem?_getD,Bg _ _ _ (by simp;omega),List.getElem?_append_left hp]
    ·rw [if_neg hp,List.getD_eq_getElem?_getD,List.getElem?_eq_none (by omega)]
     rfl
 | a :: r,out,k + 1,c,h,_=>by
   simp only [W6]
   have:=ED r (out ++ [if out = [] then 0 else out.getD a.parent.toNat 0 + 1]) k c (by simpa using h) (.inr trivial)
   simp only [List.length_append,List.length_cons,List.length_nil] at this
   rw [show out.length + (k + 1) = out.length + (0 + 1) + k by omega]
   exact this
def Cq (cs:List Code):Prop:=∀ (i:Nat) c,cs[i]? = some c → 0 < i → 0 ≤ c.parent ∧ c.parent < i
theorem AO {cs:List Code} (h:Cq cs) {k:Nat} {c:Code} (hc:cs[k]? = some c):(M9 cs)[k]? = some (if k = 0 then 0 else (M9 cs).getD c.parent.toNat 0 + 1):=by
 have h1:=ED cs [] k c hc (.inr trivial)
 simp only [List.length_nil,Nat.zero_add] at h1
 unfold M9
 rw [h1]
 congr 1
 by_cases e:k = 0
 ·simp [e]
 ·rw [if_neg e,if_neg e]
  have:=h k c hc (by omega)
  rw [if_pos (by omega)]
def j3 (D:List Nat) (n k:Nat):List Nat:=D.take k ++ List.replicate (n - k) 0
theorem Fz {D:List Nat} {n k:Nat} (hD:D.length = n) (hk:k ≤ n):(j3 D n k).length = n:=by simp [j3,hD];omega
theorem LV {D:List Nat} {n k i:Nat} (hD:D.length = n) (hk:k ≤ n) (hi:i < k):(j3 D n k)[i]? = D[i]?:=by
 rw [j3,List.getElem?_append_left (by simp;omega),List.getElem?_take_of_lt hi]
theorem TL {D:List Nat} {n k:Nat} {d:Nat} (hD:D.length = n) (hk:k < n) (hd:D[k]? = some d):((j3 D n k).map iA).set k (iA d) = (j3 D n (k + 1)).map iA:=by
 have e:n - k = (n - (k + 1)) + 1:=by omega
 have h1:(D.take k).length = k:=by rw [List.length_take];omega
 rw [j3,e,List.replicate_succ,j3,List.take_add_one,hd]
 rw [List.map_append,List.map_cons,List.set_append_right _ _ (by rw [List.length_map,h1];exact Nat.le_refl _),List.length_map,h1,Nat.sub_self]
 simp
theorem Qp (D:List Nat) (n:Nat):(j3 D n 0).map iA = List.replicate n (iA 0):=by simp [j3]
theorem Qq {D:List Nat} {n:Nat} (hD:D.length = n):j3 D n n = D:=by simp [j3, ← hD]
theorem Qr {D:List Nat} {n k:Nat} (hD:D.length = n) (hk:k < n) (hd:D[k]? = some 0):j3 D n k = j3 D n (k + 1):=by
 have e:n - k = (n - (k + 1)) + 1:=by omega
 rw [j3,e,List.replicate_succ,j3,List.take_add_one,hd]
 simp
theorem Ii {cs:List Code} (h:Cq cs):∀ (j d:Nat),(M9 cs)[j]? = some d → d ≤ j:=by
 intro j
 induction j using Nat.strongRecOn with
 | _ j ih =>
   intro d hd
   have hlt:j < cs.length:=by rw [← I9 cs];exact (List.getElem?_eq_some_iff.1 hd).1
   have hc:=List.getElem?_eq_getElem hlt
   rw [AO h hc] at hd
   by_cases e:j = 0
   ·simp [e] at hd;omega
   ·rw [if_neg e] at hd
    obtain ⟨h1,h2⟩:=h j _ hc (by omega)
    have hp:(cs[j].parent).toNat < j:=by omega
    have hp2:(cs[j].parent).toNat < (M9 cs).length:=by rw [I9];omega
    have:=ih _ hp _ (List.getElem?_eq_getElem hp2)
    rw [List.getD_eq_getElem?_getD,List.getElem?_eq_getElem hp2] at hd
    simp at hd
    omega
set_option maxHeartbeats 1000000 in
theorem Mz (nm:List UInt8) (cs:List Code) (hb:Cq cs) (hlen:cs.length ≤ 1000000):B4 Tryz.prog 80 [lA nm cs] (.sl 1 ((M9 cs).map iA)):=by
 have hD:=I9 cs
 refine F3 Tryz.func80 31 fun hrd E h0=>?_
 repeat' ((first|refine A4 ?_|refine S1 ?_|refine Z1 ?_|refine Z2 ?_|(refine And.intro ?_ ?_<;>intro h<;>try first|(exfalso;omega)|exact absurd rfl h)|refine Z3 ?_|refine Z4 ?_|intro el hel hbB|intro el hel|intro ex|refine Z5 ?_|(refine A9 ?_ ?_;exact ⟨by kernel_rfl,by decide⟩)|refine A8 ?_ ?_|exact A7|refine A6 ?_ ?_|exact A5|(refine A0 ?_ ?_ ?_;kernel_rfl;kernel_rfl)) <;> (try (conv=>whnf)))
 refine C2 (ι:=Nat) (fun k=>⟨[(1, .ref 0 0),(3, .row 1 0 cs.length),(11, .sl 2 (cs.map cA)),(12, .i cs.length),(13, .i k)],2,[(0,some (.box [.str nm, .sl 2 (cs.map cA)])),(1,some (.row 3 1 0 ((j3 (M9 cs) cs.length k).map iA)))]⟩) (fun k=>k ≤ cs.length) (fun k=>cs.length - k) 0 (Nat.zero_le _) (B0 h0 rfl ⟨rfl,rfl,rfl,rfl,rfl,trivial⟩ ⟨rfl,⟨0,by rw [Qp];rfl⟩,trivial⟩ rfl rfl rfl) (fun k hI=>?_)
 repeat' ((first | (refine G9 ?_ ?_;(have:=hb k el hel (by omega);omega)) | (refine f9 ?_ (fun x hx=>?_);(rw [Fz hD hI];have:=hb k el hel (by omega);omega)) | (refine G9 ?_ ?_;(have h5:=hb k el hel (by omega);have h6:=Ii hb el.parent.toNat x (by rw [← LV hD hI (by omega)];exact hx);omega)) | (refine f9 ?_ (fun y hy=>?_);(rw [Fz hD hI];omega)) |refine A4 ?_|refine S1 ?_|refine Z1 ?_|refine Z2 ?_|(refine And.intro ?_ ?_<;>intro h<;>try first|(exfalso;omega)|exact absurd rfl h)|refine Z3 ?_|refine Z4 ?_|intro el hel hbB|intro el hel|intro ex|refine Z5 ?_|(refine A9 ?_ ?_;exact ⟨by kernel_rfl,by decide⟩)|refine A8 ?_ ?_|exact A7|refine A6 ?_ ?_|exact A5|(refine A0 ?_ ?_ ?_;kernel_rfl;kernel_rfl)) <;> (try (conv=>whnf)))
 rotate_left
 ·refine ⟨k + 1,?_,?_,B0 h0 rfl ⟨rfl,rfl,rfl,rfl,rfl,trivial⟩ ⟨rfl,⟨0,?_⟩,trivial⟩ rfl rfl rfl⟩
  ·omega
  ·omega
  ·have hk0:k = 0:=by omega
   exact congrArg (fun l=>C6.row 3 1 0 (l.map iA)) (Qr (k:=k) hD (by omega) (by rw [AO hb hel,if_pos hk0])).symm
 ·apply B5
  ·rfl
  ·have e:k = cs.length:=by omega
   subst e
   exact congrArg (fun l=>AV.sl 1 (l.map iA)) (Qq hD)
 ·rename_i _ z hz
  refine ⟨k + 1,?_,?_,B0 h0 rfl ⟨rfl,rfl,rfl,rfl,rfl,trivial⟩ ⟨rfl,⟨0,congrArg (C6.row 3 1 0) (TL hD ?_ ?_).symm⟩,trivial⟩ rfl rfl rfl⟩
  ·omega
  ·omega
  ·omega
  ·have h5:=hb k el hel (by omega)
   rw [LV hD hI (by omega)] at hz
   rw [AO hb hel,if_neg (by omega),List.getD_eq_getElem?_getD,hz]
   rfl
def Q3 (cs:List Code) (code:Int):Bool:=cs.all fun c=>decide (c.parent ≠ code)
theorem LW {α:Type} {l:List α} {p:α → Prop} {k:Nat} {el:α} (hI:∀ c ∈ l.take k,p c) (hel:l[k]? = some el) (h:p el):∀ c ∈ l.take (k + 1),p c:=by
 intro c hc
 rw [List.take_add_one,hel] at hc
 rcases List.mem_append.1 hc with hc | hc
 ·exact hI c hc
 ·simp at hc;subst hc;exact h
theorem Vx {cs:List Code} {code:Int} {k:Nat} {el:Code} (hel:cs[k]? = some el) (h:el.parent = code):false = Q3 cs code:=by
 refine (List.all_eq_false.2 ⟨el,List.mem_of_getElem? hel,by simp [h]⟩).symm
theorem TM {cs:List Code} {code:Int} {k:Nat} (hI:∀ c ∈ cs.take k,c.parent ≠ code) (h:¬ (k:Int) < cs.length):true = Q3 cs code:=by
 have e:cs.take k = cs:=List.take_of_length_le (by omega)
 rw [e] at hI
 exact (List.all_eq_true.2 fun c hc=>by simpa using hI c hc).symm
set_option maxHeartbeats 1000000 in
theorem Qs (nm:List UInt8) (cs:List Code) (code:Int) (hlen:cs.length ≤ 9223372036854775807):B4 Tryz.prog 116 [lA nm cs, .i code] (.b (Q3 cs code)):=by
 refine F3 Tryz.func116 21 fun hrd E h0=>?_
 repeat' ((first|refine A4 ?_|refine S1 ?_|refine Z1 ?_|refine Z2 ?_|(refine And.intro ?_ ?_<;>intro h<;>try first|(exfalso;omega)|exact absurd rfl h)|refine Z3 ?_|refine Z4 ?_|intro el hel hbB|intro el hel|intro ex|refine Z5 ?_|(refine A9 ?_ ?_;exact ⟨by kernel_rfl,by decide⟩)|refine A8 ?_ ?_|exact A7|refine A6 ?_ ?_|exact A5|(refine A0 ?_ ?_ ?_;kernel_rfl;kernel_rfl)) <;> (try (conv=>whnf)))
 refine C2 (ι:=Nat) (fun k=>⟨[(1, .i code),(2, .ref 0 0),(5, .i k)],1,[(0,some (.box [.str nm, .sl 2 (cs.map cA)]))]⟩) (fun k=>∀ c ∈ cs.take k,c.parent ≠ code) (fun k=>cs.length - k) 0 (by simp) (B0 h0 rfl ⟨rfl,rfl,rfl,trivial⟩ ⟨rfl,trivial⟩ rfl rfl rfl) (fun k hI=>?_)
 repeat' ((first|refine A4 ?_|refine S1 ?_|refine Z1 ?_|refine Z2 ?_|(refine And.intro ?_ ?_<;>intro h<;>try first|(exfalso;omega)|exact absurd rfl h)|refine Z3 ?_|refine Z4 ?_|intro el hel hbB|intro el hel|intro ex|refine Z5 ?_|(refine A9 ?_ ?_;exact ⟨by kernel_rfl,by decide⟩)|refine A8 ?_ ?_|exact A7|refine A6 ?_ ?_|exact A5|(refine A0 ?_ ?_ ?_;kernel_rfl;kernel_rfl)) <;> (try (conv=>whnf)))
 all_goals first
  | exact ⟨k + 1,LW hI hel h,by omega,B0 h0 rfl ⟨rfl,rfl,rfl,trivial⟩ ⟨rfl,trivial⟩ rfl rfl rfl⟩
  | (refine B5 rfl (congrArg AV.b ?_);first | exact Vx hel h | exact TM hI h)
structure Good (cs:List Code):Prop where
 before:Cq cs
 root:∀ c,cs[0]? = some c → c.parent = -1
set_option maxHeartbeats 1000000 in
theorem BJ (nm:List UInt8) (cs:List Code) (code d:Nat) (hg:Good cs) (hlen:cs.length ≤ 9223372036854775807) (hd:(M9 cs)[code]? = some d):B4 Tryz.prog 117 [lA nm cs, .i code] (.i d):=by
 have hb:=hg.before
 have hdl:=Ii hb
 have hcl:code < cs.length:=by rw [← I9 cs];exact (List.getElem?_eq_some_iff.1 hd).1
 refine F3 Tryz.func117 22 fun hrd E h0=>?_
 repeat' ((first|refine A4 ?_|refine S1 ?_|refine Z1 ?_|refine Z2 ?_|(refine And.intro ?_ ?_<;>intro h<;>try first|(exfalso;omega)|exact absurd rfl h)|refine Z3 ?_|refine Z4 ?_|intro el hel hbB|intro el hel|intro ex|refine Z5 ?_|(refine A9 ?_ ?_;exact ⟨by kernel_rfl,by decide⟩)|refine A8 ?_ ?_|exact A7|refine A6 ?_ ?_|exact A5|(refine A0 ?_ ?_ ?_;kernel_rfl;kernel_rfl)) <;> (try (conv=>whnf)))
 refine C2 (ι:=Nat × Nat) (fun x=>⟨[(1, .i x.1),(2, .ref 0 0),(5, .i x.2)],1,[(0,some (.box [.str nm, .sl 2 (cs.map cA)]))]⟩) (fun x=>x.1 ≤ code ∧ (M9 cs)[x.1]?.map (· + x.2) = some d) (fun x=>x.1) (code,0) ⟨Nat.le_refl _,by simp [hd]⟩ (B0 h0 rfl ⟨rfl,rfl,rfl,trivial⟩ ⟨rfl,trivial⟩ rfl rfl rfl) (fun x hI=>?_)
 obtain ⟨j,m⟩:=x
 obtain ⟨hj,hI⟩:=hI
 rw [Option.map_eq_some_iff] at hI
 obtain ⟨dj,hdj,hsum⟩:=hI
 have hdjl:=hdl _ _ hd
 simp only at hj hdj hsum
 repeat' ((first|refine A4 ?_|refine S1 ?_|refine Z1 ?_|refine Z2 ?_|(refine And.intro ?_ ?_<;>intro h<;>try first|(exfalso;omega)|exact absurd rfl h)|refine Z3 ?_|refine Z4 ?_|intro el hel hbB|intro el hel|intro ex|refine Z5 ?_|(refine A9 ?_ ?_;exact ⟨by kernel_rfl,by decide⟩)|refine A8 ?_ ?_|exact A7|refine A6 ?_ ?_|exact A5|(refine A0 ?_ ?_ ?_;kernel_rfl;kernel_rfl)) <;> (try (conv=>whnf)))
 ·have hel':cs[j]? = some el:=hel
  have hj0:0 < j:=by
   rcases Nat.eq_zero_or_pos j with e | e
   ·subst e;have:=hg.root el hel';omega
   ·exact e
  obtain ⟨h1,h2⟩:=hb j el hel' hj0
  have h3:=AO hb hel'
  rw [hdj,if_neg (by omega)] at h3
  have hp:el.parent.toNat < (M9 cs).length:=by rw [I9];omega
  rw [List.getD_eq_getElem?_getD,List.getElem?_eq_getElem hp] at h3
  simp at h3
  refine ⟨(el.parent.toNat,m + 1),⟨?_,?_⟩,?_,B0 h0 rfl ⟨congrArg (fun z=>some (AV.i z)) (Int.toNat_of_nonneg h1).symm,rfl,rfl,trivial⟩ ⟨rfl,trivial⟩ rfl rfl rfl⟩
  ·simp only;omega
  ·simp only [List.getElem?_eq_getElem hp,Option.map_some]
   congr 1
   omega
  ·simp only;omega
 ·refine B5 rfl (congrArg (fun z:Nat=>AV.i (z:Int)) ?_)
  have hel':cs[j]? = some el:=hel
  have hj0:j = 0:=by
   rcases Nat.eq_zero_or_pos j with e | e
   ·exact e
   ·have:=hb j el hel' e;omega
  subst hj0
  rw [AO hb hel',if_pos rfl] at hdj
  cases hdj
  omega
def Aw (i:Nat) (p:Int):Bool:=if i = 0 then decide (p ≠ -1) else decide (p < 0 ∨ (i:Int) ≤ p)
def scan:List Code → List Code → Option Int
 | _,[]=>none
 | pre,c :: r=>if E7 c.name = false then some 3 else if c.name ∈ pre.map (·.name) then some 10 else if Aw pre.length c.parent = true then some 6 else scan (pre ++ [c]) r
def lv:Int → List (Bool × Nat) → Bool
 | _,[]=>true
 | l,(lf,d) :: r=>if lf = true then (if 0 ≤ l ∧ (d:Int) ≠ l then false else lv d r) else lv l r
def X1 (cs:List Code):List (Bool × Nat):=(List.range cs.length).map fun (i:Nat)=>(Q3 cs i,(M9 cs).getD i 0)
def chk (nm:List UInt8) (cs:List Code):Int :=
 if E7 nm = false then 3 else if cs.length = 0 then 5 else if 60 < cs.length then 1 else match scan [] cs with
 | some e=>e
 | none=>if lv (-1) (X1 cs) = true then 0 else 5
theorem Bh {nm:List UInt8} {cs:List Code} (h:E7 nm = false):3 = chk nm cs:=by simp [chk,h]
theorem Ni {nm:List UInt8} {cs:List Code} (h:E7 nm = true) (h2:(cs.length:Int) = 0):5 = chk nm cs:=by
 have:cs.length = 0:=by omega
 simp [chk,h,this]
theorem LX {nm:List UInt8} {cs:List Code} (h:E7 nm = true) (h3:(60:Int) < cs.length):1 = chk nm cs:=by
 have h1:¬ cs.length = 0:=by omega
 have h2:60 < cs.length:=by omega
 simp only [chk,h,h1,h2,if_true,if_false,Bool.true_eq_false]
theorem AP {nm:List UInt8} {cs:List Code} {e:Int} (h:E7 nm = true) (h1:¬ (cs.length:Int) = 0) (h2:¬ (60:Int) < cs.length) (h3:scan [] cs = some e):e = chk nm cs:=by
 have h1:¬ cs.length = 0:=by omega
 have h2:¬ 60 < cs.length:=by omega
 simp only [chk,h,h1,h2,if_false,Bool.true_eq_false,h3]
theorem Qt {nm:List UInt8} {cs:List Code} {b:Bool} (h:E7 nm = true) (h1:¬ (cs.length:Int) = 0) (h2:¬ (60:Int) < cs.length) (h3:scan [] cs = none) (h4:lv (-1) (X1 cs) = b):(if b = true then 0 else 5:Int) = chk nm cs:=by
 have h1:¬ cs.length = 0:=by omega
 have h2:¬ 60 < cs.length:=by omega
 simp only [chk,h,h1,h2,if_false,Bool.true_eq_false,h3,h4]
theorem j4 {α:Type} {l:List α} {k:Nat} {x:α} (h:l[k]? = some x):l.drop k = x :: l.drop (k + 1):=by
 obtain ⟨h1,h2⟩:=List.getElem?_eq_some_iff.1 h
 rw [List.drop_eq_getElem_cons h1,h2]
theorem Jd {α:Type} {l:List α} {k:Nat} {x:α} (h:l[k]? = some x):l.take (k + 1) = l.take k ++ [x]:=by
 rw [List.take_add_one,h];rfl
def Y3 (cs:List Code) (k:Nat):Prop:=k ≤ cs.length ∧ scan [] cs = scan (cs.take k) (cs.drop k)
theorem Y3.step {cs:List Code} {k:Nat} {c:Code} (h:Y3 cs k) (hc:cs[k]? = some c) (h1:E7 c.name = true) (h2:c.name ∉ (cs.take k).map (·.name)) (h3:Aw k c.parent = false):Y3 cs (k + 1):=by
 have hlt:=(List.getElem?_eq_some_iff.1 hc).1
 refine ⟨hlt,?_⟩
 have hl:(cs.take k).length = k:=by rw [List.length_take];omega
 rw [h.2,j4 hc,Jd hc]
 simp only [scan,h1,h2,hl,h3,Bool.true_eq_false,if_false,Bool.false_eq_true]
theorem Y3.name {cs:List Code} {k:Nat} {c:Code} (h:Y3 cs k) (hc:cs[k]? = some c) (h1:E7 c.name = false):scan [] cs = some 3:=by
 rw [h.2,j4 hc];simp only [scan,h1,if_true]
theorem Y3.dup {cs:List Code} {k:Nat} {c:Code} (h:Y3 cs k) (hc:cs[k]? = some c) (h1:E7 c.name = true) (h2:c.name ∈ (cs.take k).map (·.name)):scan [] cs = some 10:=by
 rw [h.2,j4 hc];simp only [scan,h1,h2,if_true,Bool.true_eq_false,if_false]
theorem Y3.bad {cs:List Code} {k:Nat} {c:Code} (h:Y3 cs k) (hc:cs[k]? = some c) (h1:E7 c.name = true) (h2:c.name ∉ (cs.take k).map (·.name)) (h3:Aw k c.parent = true):scan [] cs = some 6:=by
 have hlt:=(List.getElem?_eq_some_iff.1 hc).1
 have hl:(cs.take k).length = k:=by rw [List.length_take];omega
 rw [h.2,j4 hc];simp only [scan,h1,h2,hl,h3,if_true,Bool.true_eq_false,if_false]
theorem Y3.done {cs:List Code} {k:Nat} (h:Y3 cs k) (hk:¬ (k:Int) < cs.length):scan [] cs = none:=by
 have e:k = cs.length:=by have:=h.1;omega
 rw [h.2,e,List.drop_length];rfl
def FW (cs:List Code) (k:Nat):List (Key × AV):=(cs.take k).map fun c=>(Key.s c.name,AV.b true)
theorem Oz (cs:List Code) (k:Nat):X6 .string (FW cs k):=by
 intro p hp
 obtain ⟨c,_,rfl⟩:=List.mem_map.1 hp
 rfl
theorem TN (l:List Code) (n:List UInt8):k5 (l.map fun c=>(Key.s c.name,AV.b true)) (.s n) (R4 (.bool false)) = .b (decide (n ∈ l.map (·.name))):=by
 induction l with
 | nil=>rfl
 | cons a r ih =>
   unfold k5 X5 at ih ⊢
   rw [List.map_cons,List.find?_cons]
   by_cases e:a.name = n
   ·subst e;simp
   ·have:¬ n = a.name:=fun h=>e h.symm
    simp only [Key.s.injEq,e,decide_false]
    rw [ih]
    simp [this]
theorem TO (cs:List Code) (k:Nat) (n:List UInt8):k5 (FW cs k) (.s n) (R4 (.bool false)) = .b (decide (n ∈ (cs.take k).map (·.name))):=TN _ n
theorem TP (l:List Code) (n:List UInt8) (h:n ∉ l.map (·.name)):W3 (l.map fun c=>(Key.s c.name,AV.b true)) (.s n) (.b true) = (l.map fun c=>(Key.s c.name,AV.b true)) ++ [(.s n, .b true)]:=by
 induction l with
 | nil=>rfl
 | cons a r ih =>
   simp only [List.map_cons,List.mem_cons,not_or] at h
   have:¬ Key.s a.name = Key.s n:=by simp;exact fun e=>h.1 e.symm
   simp only [List.map_cons,W3,this,if_false,List.cons_append,ih h.2]
theorem LY {cs:List Code} {k:Nat} {c:Code} (hc:cs[k]? = some c) (h:c.name ∉ (cs.take k).map (·.name)):W3 (FW cs k) (.s c.name) (.b true) = FW cs (k + 1):=by
 unfold FW
 rw [TP _ _ h,Jd hc,List.map_append]
 rfl
def AC (cs:List Code):Nat → List Bool
 | 0=>List.replicate cs.length false
 | k + 1=>if k = 0 then AC cs k else match cs[k]? with
   | some c=>(AC cs k).set c.parent.toNat true
   | none=>AC cs k
theorem a8 (cs:List Code):∀ k,(AC cs k).length = cs.length
 | 0=>by simp [AC]
 | k + 1=>by
   unfold AC
   split
   ·exact a8 cs k
   ·split
    ·rw [List.length_set];exact a8 cs k
    ·exact a8 cs k
theorem LZ {cs:List Code} {k:Nat} (hk:k = 0):AC cs (k + 1) = AC cs k:=by simp [AC,hk]
theorem GV {cs:List Code} {k:Nat} {c:Code} (hk:0 < k) (hc:cs[k]? = some c):AC cs (k + 1) = (AC cs k).set c.parent.toNat true:=by
 have:¬ k = 0:=by omega
 rw [AC,if_neg this,hc]
theorem De:∀ (cs pre:List Code),scan pre cs = none → ∀ (i:Nat) c,cs[i]? = some c → Aw (pre.length + i) c.parent = false
 | [],pre,_,i,c,hc=>by simp at hc
 | a :: r,pre,h,i,c,hc=>by
   simp only [scan] at h
   split at h
   ·cases h
   ·split at h
    ·cases h
    ·split at h
     ·cases h
     ·rename_i h3
      cases i with
      | zero=>simp at hc;subst hc;simpa using h3
      | succ i =>
        have:=De r (pre ++ [a]) h i c (by simpa using hc)
        rw [List.length_append,List.length_singleton] at this
        rw [show pre.length + (i + 1) = pre.length + 1 + i by omega]
        exact this
theorem CE {cs:List Code} (h:scan [] cs = none):Good cs:=by
 refine ⟨fun i c hc hi=>?_,fun c hc=>?_⟩
 ·have:=De cs [] h i c hc
  simp [Aw,Nat.ne_of_gt hi] at this
  omega
 ·have:=De cs [] h 0 c hc
  simpa [Aw] using this
theorem Nj {nm:List UInt8} {cs:List Code} (h:E7 nm = true) (h1:¬ (cs.length:Int) = 0) (h2:¬ (60:Int) < cs.length) (h3:scan [] cs = none) (h4:lv (-1) (X1 cs) = false):5 = chk nm cs:=by
 simpa using Qt h h1 h2 h3 h4
theorem Qu {nm:List UInt8} {cs:List Code} (h:E7 nm = true) (h1:¬ (cs.length:Int) = 0) (h2:¬ (60:Int) < cs.length) (h3:scan [] cs = none) (h4:lv (-1) (X1 cs) = true):0 = chk nm cs:=by
 simpa using Qt h h1 h2 h3 h4
theorem Qv {cs:List Code} (hg:Good cs):∀ (k j:Nat),k ≤ cs.length → j < cs.length → ∃ b,(AC cs k)[j]? = some b ∧ (b = true ↔ ∃ (i:Nat) (c:Code),0 < i ∧ i < k ∧ cs[i]? = some c ∧ c.parent = j)
 | 0,j,_,hj=>⟨false,by simp [AC,hj],by simp⟩
 | k + 1,j,hk,hj=>by
   obtain ⟨b,hb,ih⟩:=Qv hg k j (by omega) hj
   by_cases h0:k = 0
   ·subst h0
    refine ⟨b,by rw [LZ rfl,hb],ih.trans ⟨?_,?_⟩⟩
    ·rintro ⟨i,c,h1,h2,_⟩;omega
    ·rintro ⟨i,c,h1,h2,_⟩;omega
   ·have hc:cs[k]? = some cs[k]:=List.getElem?_eq_getElem (by omega)
    obtain ⟨h1,h2⟩:=hg.before k _ hc (by omega)
    by_cases hp:(cs[k].parent).toNat = j
    ·refine ⟨true,?_,fun _=>⟨k,_,by omega,by omega,hc,by omega⟩,fun _=>rfl⟩
     rw [GV (by omega) hc,List.getElem?_set,if_pos hp,if_pos (by rw [a8];omega)]
    ·refine ⟨b,?_,ih.trans ⟨?_,?_⟩⟩
     ·rw [GV (by omega) hc,List.getElem?_set,if_neg hp,hb]
     ·rintro ⟨i,c,g1,g2,g3,g4⟩;exact ⟨i,c,g1,by omega,g3,g4⟩
     ·rintro ⟨i,c,g1,g2,g3,g4⟩
      refine ⟨i,c,g1,?_,g3,g4⟩
      rcases Nat.lt_or_ge i k with h | h
      ·exact h
      ·have:i = k:=by omega
       subst this
       rw [hc] at g3
       cases g3
       omega
theorem GW {cs:List Code} (hg:Good cs) {j:Nat} {x:Bool} (h:(AC cs cs.length)[j]? = some x):Q3 cs j = !x:=by
 have hj:j < cs.length:=by rw [← a8 cs cs.length];exact (List.getElem?_eq_some_iff.1 h).1
 obtain ⟨b,hb,hiff⟩:=Qv hg _ j (Nat.le_refl _) hj
 rw [hb] at h
 cases h
 cases hx:Q3 cs j with
 | true =>
   cases x with
   | false=>rfl
   | true =>
     obtain ⟨i,c,_,_,h3,h4⟩:=hiff.1 rfl
     have:=List.all_eq_true.1 hx c (List.mem_of_getElem? h3)
     simp [h4] at this
 | false =>
   cases x with
   | true=>rfl
   | false =>
     exfalso
     obtain ⟨c,hc,he⟩:=List.all_eq_false.1 hx
     obtain ⟨i,hi,rfl⟩:=List.getElem_of_mem hc
     have he:cs[i].parent = j:=by simpa using he
     have:(false = true):=hiff.2 ⟨i,_,by
      rcases Nat.eq_zero_or_pos i with e | e
      ·subst e
       have:=hg.root _ (List.getElem?_eq_getElem hi)
       omega
      ·exact e,hi,List.getElem?_eq_getElem hi,he⟩
     cases this
theorem p8 {cs:List Code} {k d:Nat} (h:(M9 cs)[k]? = some d):(X1 cs)[k]? = some (Q3 cs k,d):=by
 have hk:k < cs.length:=by rw [← I9 cs];exact (List.getElem?_eq_some_iff.1 h).1
 simp [X1,hk,h]
theorem La (cs:List Code):(X1 cs).length = cs.length:=by simp [X1]
def Ax (cs:List Code) (k:Nat) (l:Int):Prop:=k ≤ cs.length ∧ lv (-1) (X1 cs) = lv l ((X1 cs).drop k) ∧ -1 ≤ l
theorem Ax.skip {cs:List Code} {k d:Nat} {l:Int} (h:Ax cs k l) (hd:(M9 cs)[k]? = some d) (hl:Q3 cs k = false):Ax cs (k + 1) l:=by
 have hk:k < cs.length:=by rw [← I9 cs];exact (List.getElem?_eq_some_iff.1 hd).1
 refine ⟨hk,?_,h.2.2⟩
 rw [h.2.1,j4 (p8 hd),hl]
 simp [lv]
theorem Ax.next {cs:List Code} {k d:Nat} {l:Int} (h:Ax cs k l) (hd:(M9 cs)[k]? = some d) (hl:Q3 cs k = true) (h2:¬ (0 ≤ l ∧ (d:Int) ≠ l)):Ax cs (k + 1) d:=by
 have hk:k < cs.length:=by rw [← I9 cs];exact (List.getElem?_eq_some_iff.1 hd).1
 refine ⟨hk,?_,by omega⟩
 rw [h.2.1,j4 (p8 hd),hl]
 simp only [lv,if_true,if_neg h2]
theorem Ax.bad {cs:List Code} {k d:Nat} {l:Int} (h:Ax cs k l) (hd:(M9 cs)[k]? = some d) (hl:Q3 cs k = true) (h2:0 ≤ l ∧ (d:Int) ≠ l):lv (-1) (X1 cs) = false:=by
 rw [h.2.1,j4 (p8 hd),hl]
 simp only [lv,if_true,if_pos h2]
theorem Ax.done {cs:List Code} {k:Nat} {l:Int} (h:Ax cs k l) (hk:¬ (k:Int) < cs.length):lv (-1) (X1 cs) = true:=by
 have e:k = (X1 cs).length:=by rw [La];have:=h.1;omega
 rw [h.2.1,e,List.drop_length];rfl
abbrev bA (b:Bool):List AV:=[.b b]
set_option maxHeartbeats 4000000 in
theorem PA (nm:List UInt8) (cs:List Code) (hlen:cs.length ≤ 9223372036854775807):B4 Tryz.prog 54 [lA nm cs] (.i (chk nm cs)):=by
 refine F3 Tryz.func54 102 fun hrd E h0=>?_
 repeat' ((first | refine B2 (Ei _) ?_ | refine Am ⟨[(1, .ref 0 0),(2, .i 0),(3, .mp 1),(4, .row 2 0 cs.length)],3,[(0,some (.box [.str nm, .sl 2 (cs.map cA)])),(1,some (.map [])),(2,some (.row 4 1 0 (List.replicate cs.length [.b false])))]⟩ ?_ ?_ |refine A4 ?_|refine S1 ?_|refine Z1 ?_|refine Z2 ?_|(refine And.intro ?_ ?_<;>intro h<;>try first|(exfalso;omega)|exact absurd rfl h)|refine Z3 ?_|refine Z4 ?_|intro el hel hbB|intro el hel|intro ex|refine Z5 ?_|(refine A9 ?_ ?_;exact ⟨by kernel_rfl,by decide⟩)|refine A8 ?_ ?_|exact A7|refine A6 ?_ ?_|exact A5|(refine A0 ?_ ?_ ?_;kernel_rfl;kernel_rfl)) <;> (try (conv=>whnf)))
 case refine_1=>exact B5 rfl (congrArg AV.i (Bh h))
 case refine_2.refine_1=>exact B5 rfl (congrArg AV.i (Ni (by assumption) h))
 case refine_2.refine_2.refine_1=>exact B5 rfl (congrArg AV.i (LX (by assumption) h))
 case refine_2.refine_2.refine_2.refine_2 =>
  rename_i hn hz
  have hl:=h
  clear h
  have hlen6:cs.length ≤ 1000000:=by omega
  refine C2 (ι:=Nat) (fun k=>⟨[(1, .ref 0 0),(3, .mp 1),(4, .row 2 0 cs.length),(31, .sl 2 (cs.map cA)),(32, .i cs.length),(33, .i k)],3,[(0,some (.box [.str nm, .sl 2 (cs.map cA)])),(1,some (.map (FW cs k))),(2,some (.row 4 1 0 ((AC cs k).map bA)))]⟩) (fun k=>Y3 cs k) (fun k=>cs.length - k) 0 ⟨Nat.zero_le _,by simp⟩ (B0 h0 rfl ⟨rfl,rfl,rfl,rfl,rfl,rfl,trivial⟩ ⟨rfl,rfl,⟨0,by simp [AC]⟩,trivial⟩ rfl rfl rfl) (fun k hI=>?_)
  repeat' ((first | refine B2 (Ei _) ?_ | refine B2 (Mz _ _ (CE (hI.done (by assumption))).before hlen6) ?_ | (refine G9 ?_ ?_;exact Oz _ _) | refine Uw (TO _ _ _) ?_ | (refine f9 ?_ (fun x hx=>?_);(rw [a8];omega)) |refine A4 ?_|refine S1 ?_|refine Z1 ?_|refine Z2 ?_|(refine And.intro ?_ ?_<;>intro h<;>try first|(exfalso;omega)|exact absurd rfl h)|refine Z3 ?_|refine Z4 ?_|intro el hel hbB|intro el hel|intro ex|refine Z5 ?_|(refine A9 ?_ ?_;exact ⟨by kernel_rfl,by decide⟩)|refine A8 ?_ ?_|exact A7|refine A6 ?_ ?_|exact A5|(refine A0 ?_ ?_ ?_;kernel_rfl;kernel_rfl)) <;> (try (conv=>whnf)))
  all_goals first
   | exact B5 rfl (congrArg AV.i (AP hn hz hl (hI.name hel (by assumption))))
   | exact B5 rfl (congrArg AV.i (AP hn hz hl (hI.dup hel (by assumption) (by assumption))))
   | exact B5 rfl (congrArg AV.i (AP hn hz hl (hI.bad hel (by assumption) (by assumption) (by unfold Aw;split <;> simp <;> omega))))
   | exact ⟨k + 1,hI.step hel (by assumption) (by assumption) (by unfold Aw;split <;> simp <;> omega),by omega,B0 h0 rfl ⟨rfl,rfl,rfl,rfl,rfl,rfl,trivial⟩ ⟨rfl,congrArg C6.map (LY hel (by assumption)).symm,⟨0,congrArg (fun l=>C6.row 4 1 0 (l.map bA)) (LZ (by omega))⟩,trivial⟩ rfl rfl rfl⟩
   | exact ⟨k + 1,hI.step hel (by assumption) (by assumption) (by unfold Aw;split <;> simp <;> omega),by omega,B0 h0 rfl ⟨rfl,rfl,rfl,rfl,rfl,rfl,trivial⟩ ⟨rfl,congrArg C6.map (LY hel (by assumption)).symm,⟨0,congrArg (C6.row 4 1 0) ((congrArg (List.map bA) (GV (by omega) hel)).trans List.map_set)⟩,trivial⟩ rfl rfl rfl⟩
   | skip
  have hs:=hI.done h
  have hg:=CE hs
  have hk:k = cs.length:=by have:=hI.1;omega
  subst hk
  refine C2 (ι:=Nat × Int) (fun x=>⟨[(4, .row 2 0 cs.length),(7, .i x.2),(82, .sl 1 ((M9 cs).map iA)),(83, .i (M9 cs).length),(84, .i x.1)],3,[(2,some (.row 4 1 0 ((AC cs cs.length).map bA)))]⟩) (fun x=>Ax cs x.1 x.2) (fun x=>cs.length - x.1) (0, -1) ⟨Nat.zero_le _,by simp,by simp⟩ (B0 h0 rfl ⟨rfl,rfl,rfl,rfl,rfl,trivial⟩ ⟨⟨0,rfl⟩,trivial⟩ rfl rfl rfl) (fun x hJ=>?_)
  obtain ⟨j,l⟩:=x
  have hJ0:=hJ.1
  have hJ2:=hJ.2.2
  have hdl:=I9 cs
  simp only at hJ hJ0 hJ2
  repeat' ((first | (refine f9 ?_ (fun x hx=>?_);(rw [a8];omega)) |refine A4 ?_|refine S1 ?_|refine Z1 ?_|refine Z2 ?_|(refine And.intro ?_ ?_<;>intro h<;>try first|(exfalso;omega)|exact absurd rfl h)|refine Z3 ?_|refine Z4 ?_|intro el hel hbB|intro el hel|intro ex|refine Z5 ?_|(refine A9 ?_ ?_;exact ⟨by kernel_rfl,by decide⟩)|refine A8 ?_ ?_|exact A7|refine A6 ?_ ?_|exact A5|(refine A0 ?_ ?_ ?_;kernel_rfl;kernel_rfl)) <;> (try (conv=>whnf)))
  all_goals first
   | exact ⟨(j + 1,l),hJ.skip hel (by rw [GW (j:=j) hg hx,h];rfl),by simp only;omega,B0 h0 rfl ⟨rfl,rfl,rfl,rfl,rfl,trivial⟩ ⟨⟨0,rfl⟩,trivial⟩ rfl rfl rfl⟩
   | exact B5 rfl (congrArg AV.i (Nj hn hz hl hs (hJ.bad hel (by rw [GW (j:=j) hg hx];simp [*]) ⟨by assumption,by assumption⟩)))
   | exact ⟨(j + 1,(el:Int)),hJ.next hel (by rw [GW (j:=j) hg hx];simp [*]) (by simp only at *;omega),by simp only;omega,B0 h0 rfl ⟨rfl,rfl,rfl,rfl,rfl,trivial⟩ ⟨⟨0,rfl⟩,trivial⟩ rfl rfl rfl⟩
   | exact B5 rfl (congrArg AV.i (Qu hn hz hl hs (hJ.done (by simp only at *;omega))))
 all_goals first
  | exact B0 h0 rfl ⟨rfl,rfl,rfl,rfl,trivial⟩ ⟨rfl,rfl,⟨0,rfl⟩,trivial⟩ rfl rfl rfl
  | exact C3 (Bf 1 2 h0 rfl rfl) (B0 h0 rfl ⟨rfl,rfl,rfl,rfl,trivial⟩ ⟨rfl,rfl,⟨0,rfl⟩,trivial⟩ rfl rfl rfl)
theorem TQ {cs:List Code} {i k:Nat} {a b:Code} (hi:cs[i]? = some a) (hI:∀ c ∈ cs.take k,c.name ≠ a.name) (hb:cs[k]? = some b) (h:¬ b.name = a.name):∀ c ∈ cs.take (k + 1),c.name ≠ a.name:=LW hI hb h
theorem Vy {cs:List Code} {i k:Nat} {a b:Code} (hki:k < i) (hb:cs[k]? = some b) (h:b.name = a.name):a.name ∈ (cs.take i).map (·.name) :=
 List.mem_map.2 ⟨b,List.mem_of_getElem? (i:=k) (by rw [List.getElem?_take_of_lt hki];exact hb),h⟩
theorem Qw {cs:List Code} {i:Nat} {a:Code} (hI:∀ c ∈ cs.take i,c.name ≠ a.name):a.name ∉ (cs.take i).map (·.name):=by
 intro h
 obtain ⟨c,hc,he⟩:=List.mem_map.1 h
 exact hI c hc he
set_option maxHeartbeats 4000000 in
theorem Ag (nm:List UInt8) (cs:List Code) (hlen:cs.length ≤ 9223372036854775807):B4 Tryz.prog 91 [lA nm cs] (.i (chk nm cs)):=by
 refine F3 Tryz.func91 100 fun hrd E h0=>?_
 repeat' ((first | refine B2 (Dd _) ?_ |refine A4 ?_|refine S1 ?_|refine Z1 ?_|refine Z2 ?_|(refine And.intro ?_ ?_<;>intro h<;>try first|(exfalso;omega)|exact absurd rfl h)|refine Z3 ?_|refine Z4 ?_|intro el hel hbB|intro el hel|intro ex|refine Z5 ?_|(refine A9 ?_ ?_;exact ⟨by kernel_rfl,by decide⟩)|refine A8 ?_ ?_|exact A7|refine A6 ?_ ?_|exact A5|(refine A0 ?_ ?_ ?_;kernel_rfl;kernel_rfl)) <;> (try (conv=>whnf)))
 case refine_1=>exact B5 rfl (congrArg AV.i (Bh h))
 case refine_2.refine_1=>exact B5 rfl (congrArg AV.i (Ni (by assumption) h))
 case refine_2.refine_2.refine_1=>exact B5 rfl (congrArg AV.i (LX (by assumption) h))
 rename_i hn hz
 have hl:=h
 clear h
 refine C2 (ι:=Nat) (fun k=>⟨[(1, .ref 0 0),(3, .i k)],1,[(0,some (.box [.str nm, .sl 2 (cs.map cA)]))]⟩) (fun k=>Y3 cs k) (fun k=>cs.length - k) 0 ⟨Nat.zero_le _,by simp⟩ (B0 h0 rfl ⟨rfl,rfl,trivial⟩ ⟨rfl,trivial⟩ rfl rfl rfl) (fun k hI=>?_)
 repeat' ((first | refine B2 (Dd _) ?_ |refine A4 ?_|refine S1 ?_|refine Z1 ?_|refine Z2 ?_|(refine And.intro ?_ ?_<;>intro h<;>try first|(exfalso;omega)|exact absurd rfl h)|refine Z3 ?_|refine Z4 ?_|intro el hel hbB|intro el hel|intro ex|refine Z5 ?_|(refine A9 ?_ ?_;exact ⟨by kernel_rfl,by decide⟩)|refine A8 ?_ ?_|exact A7|refine A6 ?_ ?_|exact A5|(refine A0 ?_ ?_ ?_;kernel_rfl;kernel_rfl)) <;> (try (conv=>whnf)))
 case refine_2.refine_2.refine_2.refine_1.refine_1=>exact B5 rfl (congrArg AV.i (AP hn hz hl (hI.name hel h)))
 ·rename_i hk
  rename Code=>c
  rename cs[k]? = _=>hc
  have hnm:=h
  clear h
  refine C2 (ι:=Nat) (fun j=>⟨[(1, .ref 0 0),(3, .i k),(4, .i j)],1,[(0,some (.box [.str nm, .sl 2 (cs.map cA)]))]⟩) (fun j=>j ≤ k ∧ ∀ a ∈ cs.take j,a.name ≠ c.name) (fun j=>k - j) 0 ⟨Nat.zero_le _,by simp⟩ (B0 h0 rfl ⟨rfl,rfl,rfl,trivial⟩ ⟨rfl,trivial⟩ rfl rfl rfl) (fun j hJ=>?_)
  obtain ⟨hj,hJ⟩:=hJ
  repeat' ((first | (refine E3 ?_ ?_;kernel_rfl) |refine A4 ?_|refine S1 ?_|refine Z1 ?_|refine Z2 ?_|(refine And.intro ?_ ?_<;>intro h<;>try first|(exfalso;omega)|exact absurd rfl h)|refine Z3 ?_|refine Z4 ?_|intro el hel hbB|intro el hel|intro ex|refine Z5 ?_|(refine A9 ?_ ?_;exact ⟨by kernel_rfl,by decide⟩)|refine A8 ?_ ?_|exact A7|refine A6 ?_ ?_|exact A5|(refine A0 ?_ ?_ ?_;kernel_rfl;kernel_rfl)) <;> (try (conv=>whnf)))
  all_goals first
   | exact B5 rfl (congrArg AV.i (AP hn hz hl (hI.dup hc hnm (Vy (by omega) hel h))))
   | exact ⟨j + 1,⟨by omega,TQ hc hJ hel h⟩,by omega,B0 h0 rfl ⟨rfl,rfl,rfl,trivial⟩ ⟨rfl,trivial⟩ rfl rfl rfl⟩
   | (have hjk:j = k:=by omega
      subst hjk
      first
       | exact ⟨j + 1,hI.step hc hnm (Qw hJ) (by unfold Aw;split <;> simp <;> omega),by omega,B0 h0 rfl ⟨rfl,rfl,trivial⟩ ⟨rfl,trivial⟩ rfl rfl rfl⟩
       | exact B5 rfl (congrArg AV.i (AP hn hz hl (hI.bad hc hnm (Qw hJ) (by unfold Aw;split <;> simp <;> omega)))))
 ·have hs:=hI.done h
  have hg:=CE hs
  have hdl:=I9 cs
  refine C2 (ι:=Nat × Int) (fun x=>⟨[(1, .ref 0 0),(6, .i x.2),(7, .i x.1)],1,[(0,some (.box [.str nm, .sl 2 (cs.map cA)]))]⟩) (fun x=>Ax cs x.1 x.2) (fun x=>cs.length - x.1) (0, -1) ⟨Nat.zero_le _,by simp,by simp⟩ (B0 h0 rfl ⟨rfl,rfl,rfl,trivial⟩ ⟨rfl,trivial⟩ rfl rfl rfl) (fun x hJ=>?_)
  obtain ⟨j,l⟩:=x
  have hJ0:=hJ.1
  have hJ2:=hJ.2.2
  simp only at hJ hJ0 hJ2
  repeat' ((first | refine B2 (Qs _ _ _ hlen) ?_ | refine B2 (BJ _ _ _ _ hg hlen (List.getElem?_eq_getElem (i:=j) (by omega))) ?_ |refine A4 ?_|refine S1 ?_|refine Z1 ?_|refine Z2 ?_|(refine And.intro ?_ ?_<;>intro h<;>try first|(exfalso;omega)|exact absurd rfl h)|refine Z3 ?_|refine Z4 ?_|intro el hel hbB|intro el hel|intro ex|refine Z5 ?_|(refine A9 ?_ ?_;exact ⟨by kernel_rfl,by decide⟩)|refine A8 ?_ ?_|exact A7|refine A6 ?_ ?_|exact A5|(refine A0 ?_ ?_ ?_;kernel_rfl;kernel_rfl)) <;> (try (conv=>whnf)))
  all_goals first
   | exact ⟨(j + 1,l),hJ.skip (List.getElem?_eq_getElem (by simp only at *;omega)) h,by simp only at *;omega,B0 h0 rfl ⟨rfl,rfl,rfl,trivial⟩ ⟨rfl,trivial⟩ rfl rfl rfl⟩
   | exact B5 rfl (congrArg AV.i (Nj hn hz hl hs (hJ.bad (List.getElem?_eq_getElem (by simp only at *;omega)) (by assumption) ⟨by assumption,by assumption⟩)))
   | exact ⟨(j + 1,((M9 cs)[j]'(by simp only at *;omega):Int)),hJ.next (List.getElem?_eq_getElem (by simp only at *;omega)) (by assumption) (by simp only at *;omega),by simp only at *;omega,B0 h0 rfl ⟨rfl,rfl,rfl,trivial⟩ ⟨rfl,trivial⟩ rfl rfl rfl⟩
   | exact B5 rfl (congrArg AV.i (Qu hn hz hl hs (hJ.done (by simp only at *;omega))))
theorem M3 {nm:List UInt8} {cs:List Code} (h:chk nm cs = 0):Good cs ∧ 0 < cs.length ∧ cs.length ≤ 60:=by
 unfold chk at h
 split at h
 ·cases h
 ·split at h
  ·cases h
  ·split at h
   ·cases h
   ·rename_i h1 h2 h3
    cases hs:scan [] cs with
    | some e =>
      rw [hs] at h
      simp only at h
      subst h
      exfalso
      have:∀ (cs pre:List Code) e,scan pre cs = some e → e = 3 ∨ e = 10 ∨ e = 6:=by
       intro cs
       induction cs with
       | nil=>intro pre e h;cases h
       | cons a r ih =>
         intro pre e h
         simp only [scan] at h
         split at h
         ·cases h;exact .inl rfl
         ·split at h
          ·cases h;exact .inr (.inl rfl)
          ·split at h
           ·cases h;exact .inr (.inr rfl)
           ·exact ih _ _ h
      have:=this _ _ _ hs
      omega
    | none=>exact ⟨CE hs,by omega,by omega⟩
theorem Qx {nm:List UInt8} {cs:List Code} (h:chk nm cs = 0):cs.length ≤ 1000000:=by have:=(M3 h).2.2;omega
def Cc (ds:List Nat):Nat:=ds.foldl max 0
def hasB (nm:List UInt8) (cs:List Code) (code:Int):Bool:=decide (0 ≤ code) && decide (code < cs.length) && decide (chk nm cs = 0)
def F4 (nm:List UInt8) (cs:List Code):Int:=if chk nm cs = 0 then (Cc (M9 cs):Int) + 1 else -1
theorem Lb {cs:List Code} (hb:Cq cs):Cc (M9 cs) ≤ cs.length:=by
 have:∀ (ds:List Nat) (m a:Nat),(∀ d ∈ ds,d ≤ m) → a ≤ m → ds.foldl max a ≤ m:=by
  intro ds
  induction ds with
  | nil=>intro m a _ h;exact h
  | cons d r ih=>intro m a h ha;exact ih m _ (fun x hx=>h x (by simp [hx])) (by have:=h d (by simp);omega)
 refine this _ _ _ (fun d hd=>?_) (Nat.zero_le _)
 obtain ⟨i,hi,rfl⟩:=List.getElem_of_mem hd
 have h1:=Ii hb i _ (List.getElem?_eq_getElem hi)
 have h2:=I9 cs
 omega
def Ao (nm:List UInt8) (cs:List Code) (code:Int):Int:=if hasB nm cs code = true then ((M9 cs).getD code.toNat 0:Nat) else -1
def par (cs:List Code) (code:Nat):Nat:=((cs[code]?).map (·.parent.toNat)).getD 0
def Zd (cs:List Code) (code:Nat):Nat → Nat
 | 0=>code
 | s + 1=>Zd cs (par cs code) s
def s8 (cs:List Code) (code:Nat):Nat:=(M9 cs).getD code 0
def o0 (nm:List UInt8) (cs:List Code) (code level:Int):Int :=
 if hasB nm cs code = true ∧ 0 ≤ level ∧ level ≤ s8 cs code.toNat then (Zd cs code.toNat (s8 cs code.toNat - level.toNat):Int) else -1
theorem Ij {cs:List Code} {j d:Nat} (h:(M9 cs)[j]? = some d):s8 cs j = d:=by rw [s8,List.getD_eq_getElem?_getD,h];rfl
theorem Bi {cs:List Code} {j:Nat} (h:j < cs.length):(M9 cs)[j]? = some (s8 cs j):=by
 have h2:j < (M9 cs).length:=by rw [I9];exact h
 rw [s8,List.getD_eq_getElem?_getD,List.getElem?_eq_getElem h2];rfl
theorem Vz {cs:List Code} (hb:Cq cs) {j:Nat} {c:Code} (hc:cs[j]? = some c) (hj:0 < j):s8 cs j = s8 cs (par cs j) + 1 ∧ par cs j < j ∧ (par cs j:Int) = c.parent:=by
 obtain ⟨h1,h2⟩:=hb j c hc hj
 have hp:par cs j = c.parent.toNat:=by rw [par,hc];rfl
 have h3:=AO hb hc
 rw [if_neg (by omega)] at h3
 have:=Ij h3
 rw [hp]
 exact ⟨this,by omega,by omega⟩
def Xh (nm:List UInt8) (cs:List Code) (code above:Int):Bool:=hasB nm cs code && hasB nm cs above && decide (o0 nm cs code (s8 cs above.toNat) = above)
def EE (cs:List Code) (level:Int) (k:Nat):List Nat:=(List.range k).filter fun i=>decide ((s8 cs i:Int) = level)
theorem Xi (cs:List Code) (level:Int) (k:Nat):(EE cs level k).length ≤ k:=by
 have:=List.length_filter_le (fun i=>decide ((s8 cs i:Int) = level)) (List.range k)
 simpa [EE] using this
theorem Nk {cs:List Code} {level:Int} {k:Nat} (h:(s8 cs k:Int) = level):EE cs level (k + 1) = EE cs level k ++ [k]:=by
 simp [EE,List.range_succ,List.filter_append,h]
theorem Qy {cs:List Code} {level:Int} {k:Nat} (h:¬ (s8 cs k:Int) = level):EE cs level (k + 1) = EE cs level k:=by
 simp [EE,List.range_succ,List.filter_append,h]
def O3 (nm:List UInt8) (cs:List Code) (level:Int):List Nat:=if chk nm cs = 0 then EE cs level cs.length else []
end Go.Proofs.YtiphlhoclaogjabGreatDoor
namespace Go.Proofs.YtiphlhoclaogjabGreatDoor
open Go Go.Av
set_option maxRecDepth 100000
def am (n:Int):Prop:=-9223372036854775808 ≤ n ∧ n ≤ 9223372036854775807
theorem Xj {a:AV} (h:Y0 Tryz.prog 22 a):∃ l:List UInt8,l.length ≤ maxLen ∧ a = .sl 1 (l.map T7):=Qj Tryz.underlying22 Tryz.underlying5 (by kernel_rfl) h
theorem ZJ {a:AV} (h:Y0 Tryz.prog 3 a):∃ n,am n ∧ a = .i n:=Vq Tryz.underlying3 h
theorem ZK {a:AV} (h:Y0 Tryz.prog 9 a):∃ s:List UInt8,s.length ≤ maxLen ∧ a = .str s:=Vr Tryz.underlying9 h
end Go.Proofs.YtiphlhoclaogjabGreatDoor
