/- Plain lists: the first error, the first place, and what was passed. Chapter 1: names, and what they are. Chapter 1: the levels of codes. Chapter 1: leaves and depths, by the reference. Chapter 1: the check of a list. Chapter 1: the check of a list, by the reference. Chapter 1: levels, ancestors, codes of a level. Chapter 1: ancestors. Chapter 1: what stands below, codes of a level, codes with a name. Chapter 1: the codes of a level, and the example. Code lists that came in. -/
import Derived.Test.YtiphlhoclaogjabGreatDoorQAvTy
import Derived.Test.YtiphlhoclaogjabGreatDoorQE3
set_option linter.unusedVariables false
set_option linter.unnecessarySimpa false
set_option linter.unusedSimpArgs false
namespace Go.Proofs.YtiphlhoclaogjabGreatDoor
open Go Go.Av
attribute [local irreducible] D1 B5 D5 D3 DQ D7 E0 St.le B3 B6
set_option maxRecDepth 100000
theorem V8 {α:Type} {l:List α} {k:Nat} {x:α} (h:l[k]? = some x):l.drop k = x :: l.drop (k + 1):=by
 obtain ⟨h1,h2⟩:=List.getElem?_eq_some_iff.1 h
 rw [List.drop_eq_getElem_cons h1,h2]
theorem R9 {α:Type} {l:List α} {k:Nat} {x:α} (h:l[k]? = some x):l.take (k + 1) = l.take k ++ [x]:=by
 rw [List.take_add_one,h];rfl
theorem Ld {α:Type} {l:List α} {k:Nat} (h:¬ (k:Int) < l.length):l.drop k = []:=List.drop_eq_nil_of_le (by omega)
theorem Tm {α:Type} {l:List α} {k:Nat} (h:¬ (k:Int) < l.length):l.take k = l:=List.take_of_length_le (by omega)
theorem R0 {α:Type} {l:List α} {k:Nat} {x:α} (h:l[k]? = some x):k < l.length:=(List.getElem?_eq_some_iff.1 h).1
def H5 {α:Type} (p:α → Bool):List α → Int → Int
 | [],_=>-1
 | x :: r,k=>if p x = true then k else H5 p r (k + 1)
theorem AK {α:Type} (p:α → Bool):∀ (l:List α) (k:Int),0 ≤ k → decide (0 ≤ H5 p l k) = l.any p
 | [],k,_=>by simp [H5]
 | x :: r,k,h=>by
   unfold H5
   by_cases hp:p x = true
   ·rw [if_pos hp];simp [hp,h]
   ·rw [if_neg hp,AK p r (k + 1) (by omega)]
    simp [hp]
def K8 {α:Type} (f:Nat → α → Int):Nat → List α → Int
 | _,[]=>0
 | i,x :: r=>if f i x = 0 then K8 f (i + 1) r else f i x
def V9 {α:Type} (f:Nat → α → Int) (l:List α) (k:Nat):Prop:=k ≤ l.length ∧ K8 f 0 l = K8 f k (l.drop k) ∧ ∀ (i:Nat) x,i < k → l[i]? = some x → f i x = 0
theorem V9.zero {α:Type} (f:Nat → α → Int) (l:List α):V9 f l 0:=⟨Nat.zero_le _,rfl,fun i x h=>absurd h (Nat.not_lt_zero _)⟩
theorem V9.step {α:Type} {f:Nat → α → Int} {l:List α} {k:Nat} {x:α} (h:V9 f l k) (hx:l[k]? = some x) (h0:f k x = 0):V9 f l (k + 1):=by
 refine ⟨R0 hx,?_,fun i y hi hy=>?_⟩
 ·rw [h.2.1,V8 hx,K8,if_pos h0]
 ·by_cases e:i = k
  ·subst e;rw [hx] at hy;cases hy;exact h0
  ·exact h.2.2 i y (by omega) hy
theorem V9.hit {α:Type} {f:Nat → α → Int} {l:List α} {k:Nat} {x:α} (h:V9 f l k) (hx:l[k]? = some x) (h0:¬ f k x = 0):f k x = K8 f 0 l:=by
 rw [h.2.1,V8 hx,K8,if_neg h0]
theorem V9.done {α:Type} {f:Nat → α → Int} {l:List α} {k:Nat} (h:V9 f l k) (hk:¬ (k:Int) < l.length):K8 f 0 l = 0:=by
 rw [h.2.1,Ld hk];rfl
theorem Cd {α:Type} {f:Nat → α → Int}:∀ {l:List α} {k:Nat},K8 f k l = 0 → ∀ (i:Nat) x,l[i]? = some x → f (k + i) x = 0
 | [],k,_,i,x,h=>by simp at h
 | y :: r,k,h,i,x,hx=>by
   unfold K8 at h
   split at h
   ·cases i with
    | zero=>simp at hx;subst hx;assumption
    | succ i =>
      have:=Cd h i x (by simpa using hx)
      rw [show k + (i + 1) = k + 1 + i by omega];exact this
   ·exact absurd h (by assumption)
def W0 {α:Type} (p:α → Bool) (l:List α) (k:Nat):Prop:=k ≤ l.length ∧ ∀ x ∈ l.take k,p x = false
theorem W0.zero {α:Type} (p:α → Bool) (l:List α):W0 p l 0:=⟨Nat.zero_le _,fun x hx=>by simp at hx⟩
theorem W0.step {α:Type} {p:α → Bool} {l:List α} {k:Nat} {x:α} (h:W0 p l k) (hx:l[k]? = some x) (h0:p x = false):W0 p l (k + 1):=by
 refine ⟨R0 hx,fun y hy=>?_⟩
 rw [R9 hx] at hy
 rcases List.mem_append.1 hy with hy | hy
 ·exact h.2 y hy
 ·simp at hy;subst hy;exact h0
theorem W0.hit {α:Type} {p:α → Bool} {l:List α} {k:Nat} {x:α} (h:W0 p l k) (hx:l[k]? = some x) (h0:p x = true):true = l.any p :=
 (List.any_eq_true.2 ⟨x,List.mem_of_getElem? hx,h0⟩).symm
theorem W0.done {α:Type} {p:α → Bool} {l:List α} {k:Nat} (h:W0 p l k) (hk:¬ (k:Int) < l.length):false = l.any p:=by
 have:=h.2
 rw [Tm hk] at this
 exact (List.any_eq_false.2 (fun x hx=>by simp [this x hx])).symm
end Go.Proofs.YtiphlhoclaogjabGreatDoor
namespace Go.Proofs.YtiphlhoclaogjabGreatDoor
open Go Go.Av
attribute [local irreducible] D1 B5 D5 DQ D7 E0 St.le B3 B6
def w7 (c:UInt8):Bool:=decide (97 ≤ c.toNat ∧ c.toNat ≤ 122 ∨ 48 ≤ c.toNat ∧ c.toNat ≤ 57 ∨ c.toNat = 95)
def words:List (List UInt8):=[[97,108,108],[97,110,100],[101,118,101,110,116],[102,114,111,109],[109,105,115,115,105,110,103],[110,111,116],[111,110],[111,114],[116,111],[117,110,100,101,114],[119,104,101,114,101]]
def Hd (l:List UInt8):Bool:=match l with | []=>false | c :: _=>decide (97 ≤ c.toNat ∧ c.toNat ≤ 122)
def D0 (l:List UInt8):Bool:=decide (l.length ≤ 16) && Hd l && l.all w7 && !(decide (l ∈ words))
theorem Fp {l:List UInt8} (h:(l.length:Int) < 1):false = D0 l:=by
 have:l = []:=List.eq_nil_of_length_eq_zero (by omega)
 subst this;rfl
theorem He {l:List UInt8} (h:16 < (l.length:Int)):false = D0 l:=by
 have:¬ l.length ≤ 16:=by omega
 simp [D0,this]
theorem Hf {l:List UInt8} {el:UInt8} (hel:l[Int.toNat 0]? = some el) (h:(el.toNat:Int) < 97 ∨ 122 < (el.toNat:Int)):false = D0 l:=by
 cases l with
 | nil=>rfl
 | cons c r =>
   have:c = el:=by simpa using hel
   subst this
   have:¬ (97 ≤ c.toNat ∧ c.toNat ≤ 122):=by omega
   simp [D0,Hd];omega
theorem Ji {l:List UInt8} {k:Nat} {el:UInt8} (hel:l[k]? = some el) (h:¬ (97 ≤ el.toNat ∧ el.toNat ≤ 122 ∨ 48 ≤ el.toNat ∧ el.toNat ≤ 57 ∨ el.toNat = 95)):false = D0 l:=by
 have:l.all w7 = false:=by
  rw [List.all_eq_false]
  exact ⟨el,List.mem_of_getElem? hel,by simp [w7];omega⟩
 simp [D0,this]
theorem Hg {l:List UInt8} (h:l ∈ words):false = D0 l:=by simp [D0,h]
theorem Hh {l:List UInt8} {a b:UInt8} {k:Nat} (h1:¬ 16 < (l.length:Int)) (h2:¬ (a.toNat:Int) < 97) (ha:l[Int.toNat 0]? = some a) (h3:¬ 122 < (b.toNat:Int)) (hb:l[Int.toNat 0]? = some b) (h4:∀ c ∈ l.take k,w7 c = true) (h5:¬ (k:Int) < l.length) (h6:l ∉ words):true = D0 l:=by
 rw [ha] at hb
 cases hb
 have e:l.take k = l:=List.take_of_length_le (by omega)
 rw [e] at h4
 have:Hd l = true:=by
  cases l with
  | nil=>cases ha
  | cons c r=>cases ha;simp [Hd];omega
 simp [D0,this,h6]
 exact ⟨by omega,h4⟩
theorem Nz {l:List UInt8} {k:Nat} {el:UInt8} (hI:∀ c ∈ l.take k,w7 c = true) (hel:l[k]? = some el) (h:97 ≤ el.toNat ∧ el.toNat ≤ 122 ∨ 48 ≤ el.toNat ∧ el.toNat ≤ 57 ∨ el.toNat = 95):∀ c ∈ l.take (k + 1),w7 c = true:=by
 intro c hc
 rw [List.take_add_one,hel] at hc
 rcases List.mem_append.1 hc with hc | hc
 ·exact hI c hc
 ·simp at hc;subst hc;simpa [w7] using h
set_option maxHeartbeats 1000000 in
theorem Ec (l:List UInt8):B3 Tryz.prog 79 [.str l] (.b (D0 l)):=by
 refine F3 Tryz.func79 62 fun hrd E h0=>?_
 repeat' ((first|refine A1 ?_|refine S1 ?_|refine Z1 ?_|refine Z2 ?_|(refine And.intro ?_ ?_<;>intro h<;>try first|(exfalso;omega)|exact absurd rfl h)|refine Z3 ?_|refine Z4 ?_|intro el hel hbB|intro el hel|intro ex|refine Z5 ?_|(refine A6 ?_ ?_;exact ⟨by kernel_rfl,by decide⟩)|refine A5 ?_ ?_|exact A4|refine A3 ?_ ?_|exact A2|(refine A0 ?_ ?_ ?_;kernel_rfl;kernel_rfl)) <;> (try (conv=>whnf)))
 rotate_left
 ·refine C5 (ι:=Nat) (fun k=>⟨[(0, .str l),(24, .sl 1 (l.map fun b=>[.v (.int .u8 b.toNat)])),(25, .i l.length),(26, .i k)],0,[]⟩) (fun k=>∀ c ∈ l.take k,w7 c = true) (fun k=>l.length - k) 0 (by simp) (A8 h0 rfl ⟨rfl,rfl,rfl,rfl,trivial⟩ trivial rfl rfl rfl) (fun k hI=>?_)
  repeat' ((first|refine A1 ?_|refine S1 ?_|refine Z1 ?_|refine Z2 ?_|(refine And.intro ?_ ?_<;>intro h<;>try first|(exfalso;omega)|exact absurd rfl h)|refine Z3 ?_|refine Z4 ?_|intro el hel hbB|intro el hel|intro ex|refine Z5 ?_|(refine A6 ?_ ?_;exact ⟨by kernel_rfl,by decide⟩)|refine A5 ?_ ?_|exact A4|refine A3 ?_ ?_|exact A2|(refine A0 ?_ ?_ ?_;kernel_rfl;kernel_rfl)) <;> (try (conv=>whnf)))
  all_goals first
   | exact ⟨k + 1,Nz hI hel (by omega),by omega,A8 h0 rfl ⟨rfl,rfl,rfl,rfl,trivial⟩ trivial rfl rfl rfl⟩
   | (refine B2 rfl (congrArg AV.b ?_);first | exact Ji hel (by omega) | exact Hg (by subst h;decide) | exact Hh (by assumption) (by assumption) (by assumption) (by assumption) (by assumption) hI (by assumption) (by simp [words, *]))
 all_goals (refine B2 rfl (congrArg AV.b ?_);first | exact Fp h | exact He h | exact Hf hel (by omega))
set_option maxHeartbeats 2000000 in
theorem Dd (l:List UInt8):B3 Tryz.prog 115 [.str l] (.b (D0 l)):=by
 refine F3 Tryz.func115 70 fun hrd E h0=>?_
 repeat' ((first|refine A1 ?_|refine S1 ?_|refine Z1 ?_|refine Z2 ?_|(refine And.intro ?_ ?_<;>intro h<;>try first|(exfalso;omega)|exact absurd rfl h)|refine Z3 ?_|refine Z4 ?_|intro el hel hbB|intro el hel|intro ex|refine Z5 ?_|(refine A6 ?_ ?_;exact ⟨by kernel_rfl,by decide⟩)|refine A5 ?_ ?_|exact A4|refine A3 ?_ ?_|exact A2|(refine A0 ?_ ?_ ?_;kernel_rfl;kernel_rfl)) <;> (try (conv=>whnf)))
 rotate_left
 ·refine C5 (ι:=Nat) (fun k=>⟨[(0, .str l),(3, .i k)],0,[]⟩) (fun k=>∀ c ∈ l.take k,w7 c = true) (fun k=>l.length - k) 0 (by simp) (A8 h0 rfl ⟨rfl,rfl,trivial⟩ trivial rfl rfl rfl) (fun k hI=>?_)
  repeat' ((first|refine A1 ?_|refine S1 ?_|refine Z1 ?_|refine Z2 ?_|(refine And.intro ?_ ?_<;>intro h<;>try first|(exfalso;omega)|exact absurd rfl h)|refine Z3 ?_|refine Z4 ?_|intro el hel hbB|intro el hel|intro ex|refine Z5 ?_|(refine A6 ?_ ?_;exact ⟨by kernel_rfl,by decide⟩)|refine A5 ?_ ?_|exact A4|refine A3 ?_ ?_|exact A2|(refine A0 ?_ ?_ ?_;kernel_rfl;kernel_rfl)) <;> (try (conv=>whnf)))
  all_goals first
   | exact ⟨k + 1,Nz hI hel (by omega),by omega,A8 h0 rfl ⟨rfl,rfl,trivial⟩ trivial rfl rfl rfl⟩
   | (refine B2 rfl (congrArg AV.b ?_);first | exact Ji hel (by omega) | exact Hg (by subst h;decide) | exact Hh (by assumption) (by assumption) (by assumption) (by assumption) (by assumption) hI (by assumption) (by simp [words, *]))
 all_goals first
  | (refine B2 rfl (congrArg AV.b ?_);first | exact Fp h | exact He h | exact Hf hel (by omega))
structure Code where
 name:List UInt8
 parent:Int
deriving DecidableEq
abbrev cA (c:Code):List AV:=[.str c.name, .i c.parent]
abbrev iA (d:Nat):List AV:=[.i (d:Int)]
abbrev lA (nm:List UInt8) (cs:List Code):AV:=.agg [.str nm, .sl 2 (cs.map cA)]
def W7:List Nat → List Code → List Nat
 | out,[]=>out
 | out,c :: r=>W7 (out ++ [if out = [] then 0 else out.getD c.parent.toNat 0 + 1]) r
def L9 (cs:List Code):List Nat:=W7 [] cs
theorem CK:∀ (cs:List Code) (out:List Nat),(W7 out cs).length = out.length + cs.length
 | [],out=>rfl
 | c :: r,out=>by simp only [W7,CK r];simp;omega
theorem I2 (cs:List Code):(L9 cs).length = cs.length:=by simp [L9,CK]
theorem Bm:∀ (cs:List Code) (out:List Nat) (j:Nat),j < out.length → (W7 out cs)[j]? = out[j]?
 | [],out,j,_=>rfl
 | c :: r,out,j,h=>by
   simp only [W7]
   rw [Bm r _ j (by simp;omega),List.getElem?_append_left h]
theorem Dy:∀ (cs:List Code) (out:List Nat) (k:Nat) (c:Code),cs[k]? = some c → ((out ++ [] = [] ∧ k = 0) ∨ True) →
  (W7 out cs)[out.length + k]? = some (if out.length + k = 0 then 0 else if c.parent.toNat < out.length + k then (W7 out cs).getD c.parent.toNat 0 + 1 else 1)
 | [],out,k,c,h,_=>by simp at h
 | a :: r,out,0,c,h,_=>by
   simp at h
   subst h
   simp only [W7,Nat.add_zero]
   rw [Bm _ _ _ (by simp)]
   simp only [List.getElem?_append_right (Nat.le_refl _),Nat.sub_self,List.getElem?_cons_zero]
   congr 1
   by_cases e:out = []
   ·subst e;simp
   ·have hl:¬ out.length = 0:=by simpa using e
    rw [if_neg e,if_neg hl]
    by_cases hp:a.parent.toNat < out.length
    ·rw [if_pos hp,List.getD_eq_getElem?_getD,List.getD_eq_getElem?_getD,Bm _ _ _ (by simp;omega),List.getElem?_append_left hp]
    ·rw [if_neg hp,List.getD_eq_getElem?_getD,List.getElem?_eq_none (by omega)]
     rfl
 | a :: r,out,k + 1,c,h,_=>by
   simp only [W7]
   have:=Dy r (out ++ [if out = [] then 0 else out.getD a.parent.toNat 0 + 1]) k c (by simpa using h) (.inr trivial)
   simp only [List.length_append,List.length_cons,List.length_nil] at this
   rw [show out.length + (k + 1) = out.length + (0 + 1) + k by omega]
   exact this
def Ct (cs:List Code):Prop:=∀ (i:Nat) c,cs[i]? = some c → 0 < i → 0 ≤ c.parent ∧ c.parent < i
theorem AL {cs:List Code} (h:Ct cs) {k:Nat} {c:Code} (hc:cs[k]? = some c):(L9 cs)[k]? = some (if k = 0 then 0 else (L9 cs).getD c.parent.toNat 0 + 1):=by
 have h1:=Dy cs [] k c hc (.inr trivial)
 simp only [List.length_nil,Nat.zero_add] at h1
 unfold L9
 rw [h1]
 congr 1
 by_cases e:k = 0
 ·simp [e]
 ·rw [if_neg e,if_neg e]
  have:=h k c hc (by omega)
  rw [if_pos (by omega)]
def g8 (D:List Nat) (n k:Nat):List Nat:=D.take k ++ List.replicate (n - k) 0
theorem Fq {D:List Nat} {n k:Nat} (hD:D.length = n) (hk:k ≤ n):(g8 D n k).length = n:=by simp [g8,hD];omega
theorem Le {D:List Nat} {n k i:Nat} (hD:D.length = n) (hk:k ≤ n) (hi:i < k):(g8 D n k)[i]? = D[i]?:=by
 rw [g8,List.getElem?_append_left (by simp;omega),List.getElem?_take_of_lt hi]
theorem Tn {D:List Nat} {n k:Nat} {d:Nat} (hD:D.length = n) (hk:k < n) (hd:D[k]? = some d):((g8 D n k).map iA).set k (iA d) = (g8 D n (k + 1)).map iA:=by
 have e:n - k = (n - (k + 1)) + 1:=by omega
 have h1:(D.take k).length = k:=by rw [List.length_take];omega
 rw [g8,e,List.replicate_succ,g8,List.take_add_one,hd]
 rw [List.map_append,List.map_cons,List.set_append_right _ _ (by rw [List.length_map,h1];exact Nat.le_refl _),List.length_map,h1,Nat.sub_self]
 simp
theorem RF (D:List Nat) (n:Nat):(g8 D n 0).map iA = List.replicate n (iA 0):=by simp [g8]
theorem RG {D:List Nat} {n:Nat} (hD:D.length = n):g8 D n n = D:=by simp [g8, ← hD]
theorem RH {D:List Nat} {n k:Nat} (hD:D.length = n) (hk:k < n) (hd:D[k]? = some 0):g8 D n k = g8 D n (k + 1):=by
 have e:n - k = (n - (k + 1)) + 1:=by omega
 rw [g8,e,List.replicate_succ,g8,List.take_add_one,hd]
 simp
theorem Il {cs:List Code} (h:Ct cs):∀ (j d:Nat),(L9 cs)[j]? = some d → d ≤ j:=by
 intro j
 induction j using Nat.strongRecOn with
 | _ j ih =>
   intro d hd
   have hlt:j < cs.length:=by rw [← I2 cs];exact (List.getElem?_eq_some_iff.1 hd).1
   have hc:=List.getElem?_eq_getElem hlt
   rw [AL h hc] at hd
   by_cases e:j = 0
   ·simp [e] at hd;omega
   ·rw [if_neg e] at hd
    obtain ⟨h1,h2⟩:=h j _ hc (by omega)
    have hp:(cs[j].parent).toNat < j:=by omega
    have hp2:(cs[j].parent).toNat < (L9 cs).length:=by rw [I2];omega
    have:=ih _ hp _ (List.getElem?_eq_getElem hp2)
    rw [List.getD_eq_getElem?_getD,List.getElem?_eq_getElem hp2] at hd
    simp at hd
    omega
set_option maxHeartbeats 1000000 in
theorem NP (nm:List UInt8) (cs:List Code) (hb:Ct cs) (hlen:cs.length ≤ 1000000):B3 Tryz.prog 80 [lA nm cs] (.sl 1 ((L9 cs).map iA)):=by
 have hD:=I2 cs
 refine F3 Tryz.func80 31 fun hrd E h0=>?_
 repeat' ((first|refine A1 ?_|refine S1 ?_|refine Z1 ?_|refine Z2 ?_|(refine And.intro ?_ ?_<;>intro h<;>try first|(exfalso;omega)|exact absurd rfl h)|refine Z3 ?_|refine Z4 ?_|intro el hel hbB|intro el hel|intro ex|refine Z5 ?_|(refine A6 ?_ ?_;exact ⟨by kernel_rfl,by decide⟩)|refine A5 ?_ ?_|exact A4|refine A3 ?_ ?_|exact A2|(refine A0 ?_ ?_ ?_;kernel_rfl;kernel_rfl)) <;> (try (conv=>whnf)))
 refine C5 (ι:=Nat) (fun k=>⟨[(1, .ref 0 0),(3, .row 1 0 cs.length),(11, .sl 2 (cs.map cA)),(12, .i cs.length),(13, .i k)],2,[(0,some (.box [.str nm, .sl 2 (cs.map cA)])),(1,some (.row 3 1 0 ((g8 (L9 cs) cs.length k).map iA)))]⟩) (fun k=>k ≤ cs.length) (fun k=>cs.length - k) 0 (Nat.zero_le _) (A8 h0 rfl ⟨rfl,rfl,rfl,rfl,rfl,trivial⟩ ⟨rfl,⟨0,by rw [RF];rfl⟩,trivial⟩ rfl rfl rfl) (fun k hI=>?_)
 repeat' ((first | (refine G7 ?_ ?_;(have:=hb k el hel (by omega);omega)) | (refine f8 ?_ (fun x hx=>?_);(rw [Fq hD hI];have:=hb k el hel (by omega);omega)) | (refine G7 ?_ ?_;(have h5:=hb k el hel (by omega);have h6:=Il hb el.parent.toNat x (by rw [← Le hD hI (by omega)];exact hx);omega)) | (refine f8 ?_ (fun y hy=>?_);(rw [Fq hD hI];omega)) |refine A1 ?_|refine S1 ?_|refine Z1 ?_|refine Z2 ?_|(refine And.intro ?_ ?_<;>intro h<;>try first|(exfalso;omega)|exact absurd rfl h)|refine Z3 ?_|refine Z4 ?_|intro el hel hbB|intro el hel|intro ex|refine Z5 ?_|(refine A6 ?_ ?_;exact ⟨by kernel_rfl,by decide⟩)|refine A5 ?_ ?_|exact A4|refine A3 ?_ ?_|exact A2|(refine A0 ?_ ?_ ?_;kernel_rfl;kernel_rfl)) <;> (try (conv=>whnf)))
 rotate_left
 ·refine ⟨k + 1,?_,?_,A8 h0 rfl ⟨rfl,rfl,rfl,rfl,rfl,trivial⟩ ⟨rfl,⟨0,?_⟩,trivial⟩ rfl rfl rfl⟩
  ·omega
  ·omega
  ·have hk0:k = 0:=by omega
   exact congrArg (fun l=>C0.row 3 1 0 (l.map iA)) (RH (k:=k) hD (by omega) (by rw [AL hb hel,if_pos hk0])).symm
 ·apply B2
  ·rfl
  ·have e:k = cs.length:=by omega
   subst e
   exact congrArg (fun l=>AV.sl 1 (l.map iA)) (RG hD)
 ·rename_i _ z hz
  refine ⟨k + 1,?_,?_,A8 h0 rfl ⟨rfl,rfl,rfl,rfl,rfl,trivial⟩ ⟨rfl,⟨0,congrArg (C0.row 3 1 0) (Tn hD ?_ ?_).symm⟩,trivial⟩ rfl rfl rfl⟩
  ·omega
  ·omega
  ·omega
  ·have h5:=hb k el hel (by omega)
   rw [Le hD hI (by omega)] at hz
   rw [AL hb hel,if_neg (by omega),List.getD_eq_getElem?_getD,hz]
   rfl
def P7 (cs:List Code) (code:Int):Bool:=cs.all fun c=>decide (c.parent ≠ code)
theorem Lf {α:Type} {l:List α} {p:α → Prop} {k:Nat} {el:α} (hI:∀ c ∈ l.take k,p c) (hel:l[k]? = some el) (h:p el):∀ c ∈ l.take (k + 1),p c:=by
 intro c hc
 rw [List.take_add_one,hel] at hc
 rcases List.mem_append.1 hc with hc | hc
 ·exact hI c hc
 ·simp at hc;subst hc;exact h
theorem WW {cs:List Code} {code:Int} {k:Nat} {el:Code} (hel:cs[k]? = some el) (h:el.parent = code):false = P7 cs code:=by
 refine (List.all_eq_false.2 ⟨el,List.mem_of_getElem? hel,by simp [h]⟩).symm
theorem To {cs:List Code} {code:Int} {k:Nat} (hI:∀ c ∈ cs.take k,c.parent ≠ code) (h:¬ (k:Int) < cs.length):true = P7 cs code:=by
 have e:cs.take k = cs:=List.take_of_length_le (by omega)
 rw [e] at hI
 exact (List.all_eq_true.2 fun c hc=>by simpa using hI c hc).symm
set_option maxHeartbeats 1000000 in
theorem RI (nm:List UInt8) (cs:List Code) (code:Int) (hlen:cs.length ≤ 9223372036854775807):B3 Tryz.prog 116 [lA nm cs, .i code] (.b (P7 cs code)):=by
 refine F3 Tryz.func116 21 fun hrd E h0=>?_
 repeat' ((first|refine A1 ?_|refine S1 ?_|refine Z1 ?_|refine Z2 ?_|(refine And.intro ?_ ?_<;>intro h<;>try first|(exfalso;omega)|exact absurd rfl h)|refine Z3 ?_|refine Z4 ?_|intro el hel hbB|intro el hel|intro ex|refine Z5 ?_|(refine A6 ?_ ?_;exact ⟨by kernel_rfl,by decide⟩)|refine A5 ?_ ?_|exact A4|refine A3 ?_ ?_|exact A2|(refine A0 ?_ ?_ ?_;kernel_rfl;kernel_rfl)) <;> (try (conv=>whnf)))
 refine C5 (ι:=Nat) (fun k=>⟨[(1, .i code),(2, .ref 0 0),(5, .i k)],1,[(0,some (.box [.str nm, .sl 2 (cs.map cA)]))]⟩) (fun k=>∀ c ∈ cs.take k,c.parent ≠ code) (fun k=>cs.length - k) 0 (by simp) (A8 h0 rfl ⟨rfl,rfl,rfl,trivial⟩ ⟨rfl,trivial⟩ rfl rfl rfl) (fun k hI=>?_)
 repeat' ((first|refine A1 ?_|refine S1 ?_|refine Z1 ?_|refine Z2 ?_|(refine And.intro ?_ ?_<;>intro h<;>try first|(exfalso;omega)|exact absurd rfl h)|refine Z3 ?_|refine Z4 ?_|intro el hel hbB|intro el hel|intro ex|refine Z5 ?_|(refine A6 ?_ ?_;exact ⟨by kernel_rfl,by decide⟩)|refine A5 ?_ ?_|exact A4|refine A3 ?_ ?_|exact A2|(refine A0 ?_ ?_ ?_;kernel_rfl;kernel_rfl)) <;> (try (conv=>whnf)))
 all_goals first
  | exact ⟨k + 1,Lf hI hel h,by omega,A8 h0 rfl ⟨rfl,rfl,rfl,trivial⟩ ⟨rfl,trivial⟩ rfl rfl rfl⟩
  | (refine B2 rfl (congrArg AV.b ?_);first | exact WW hel h | exact To hI h)
structure Good (cs:List Code):Prop where
 before:Ct cs
 root:∀ c,cs[0]? = some c → c.parent = -1
set_option maxHeartbeats 1000000 in
theorem BK (nm:List UInt8) (cs:List Code) (code d:Nat) (hg:Good cs) (hlen:cs.length ≤ 9223372036854775807) (hd:(L9 cs)[code]? = some d):B3 Tryz.prog 117 [lA nm cs, .i code] (.i d):=by
 have hb:=hg.before
 have hdl:=Il hb
 have hcl:code < cs.length:=by rw [← I2 cs];exact (List.getElem?_eq_some_iff.1 hd).1
 refine F3 Tryz.func117 22 fun hrd E h0=>?_
 repeat' ((first|refine A1 ?_|refine S1 ?_|refine Z1 ?_|refine Z2 ?_|(refine And.intro ?_ ?_<;>intro h<;>try first|(exfalso;omega)|exact absurd rfl h)|refine Z3 ?_|refine Z4 ?_|intro el hel hbB|intro el hel|intro ex|refine Z5 ?_|(refine A6 ?_ ?_;exact ⟨by kernel_rfl,by decide⟩)|refine A5 ?_ ?_|exact A4|refine A3 ?_ ?_|exact A2|(refine A0 ?_ ?_ ?_;kernel_rfl;kernel_rfl)) <;> (try (conv=>whnf)))
 refine C5 (ι:=Nat × Nat) (fun x=>⟨[(1, .i x.1),(2, .ref 0 0),(5, .i x.2)],1,[(0,some (.box [.str nm, .sl 2 (cs.map cA)]))]⟩) (fun x=>x.1 ≤ code ∧ (L9 cs)[x.1]?.map (· + x.2) = some d) (fun x=>x.1) (code,0) ⟨Nat.le_refl _,by simp [hd]⟩ (A8 h0 rfl ⟨rfl,rfl,rfl,trivial⟩ ⟨rfl,trivial⟩ rfl rfl rfl) (fun x hI=>?_)
 obtain ⟨j,m⟩:=x
 obtain ⟨hj,hI⟩:=hI
 rw [Option.map_eq_some_iff] at hI
 obtain ⟨dj,hdj,hsum⟩:=hI
 have hdjl:=hdl _ _ hd
 simp only at hj hdj hsum
 repeat' ((first|refine A1 ?_|refine S1 ?_|refine Z1 ?_|refine Z2 ?_|(refine And.intro ?_ ?_<;>intro h<;>try first|(exfalso;omega)|exact absurd rfl h)|refine Z3 ?_|refine Z4 ?_|intro el hel hbB|intro el hel|intro ex|refine Z5 ?_|(refine A6 ?_ ?_;exact ⟨by kernel_rfl,by decide⟩)|refine A5 ?_ ?_|exact A4|refine A3 ?_ ?_|exact A2|(refine A0 ?_ ?_ ?_;kernel_rfl;kernel_rfl)) <;> (try (conv=>whnf)))
 ·have hel':cs[j]? = some el:=hel
  have hj0:0 < j:=by
   rcases Nat.eq_zero_or_pos j with e | e
   ·subst e;have:=hg.root el hel';omega
   ·exact e
  obtain ⟨h1,h2⟩:=hb j el hel' hj0
  have h3:=AL hb hel'
  rw [hdj,if_neg (by omega)] at h3
  have hp:el.parent.toNat < (L9 cs).length:=by rw [I2];omega
  rw [List.getD_eq_getElem?_getD,List.getElem?_eq_getElem hp] at h3
  simp at h3
  refine ⟨(el.parent.toNat,m + 1),⟨?_,?_⟩,?_,A8 h0 rfl ⟨congrArg (fun z=>some (AV.i z)) (Int.toNat_of_nonneg h1).symm,rfl,rfl,trivial⟩ ⟨rfl,trivial⟩ rfl rfl rfl⟩
  ·simp only;omega
  ·simp only [List.getElem?_eq_getElem hp,Option.map_some]
   congr 1
   omega
  ·simp only;omega
 ·refine B2 rfl (congrArg (fun z:Nat=>AV.i (z:Int)) ?_)
  have hel':cs[j]? = some el:=hel
  have hj0:j = 0:=by
   rcases Nat.eq_zero_or_pos j with e | e
   ·exact e
   ·have:=hb j el hel' e;omega
  subst hj0
  rw [AL hb hel',if_pos rfl] at hdj
  cases hdj
  omega
def Au (i:Nat) (p:Int):Bool:=if i = 0 then decide (p ≠ -1) else decide (p < 0 ∨ (i:Int) ≤ p)
def scan:List Code → List Code → Option Int
 | _,[]=>none
 | pre,c :: r=>if D0 c.name = false then some 3 else if c.name ∈ pre.map (·.name) then some 10 else if Au pre.length c.parent = true then some 6 else scan (pre ++ [c]) r
def lv:Int → List (Bool × Nat) → Bool
 | _,[]=>true
 | l,(lf,d) :: r=>if lf = true then (if 0 ≤ l ∧ (d:Int) ≠ l then false else lv d r) else lv l r
def X2 (cs:List Code):List (Bool × Nat):=(List.range cs.length).map fun (i:Nat)=>(P7 cs i,(L9 cs).getD i 0)
def chk (nm:List UInt8) (cs:List Code):Int :=
 if D0 nm = false then 3 else if cs.length = 0 then 5 else if 60 < cs.length then 1 else match scan [] cs with
 | some e=>e
 | none=>if lv (-1) (X2 cs) = true then 0 else 5
theorem AM {nm:List UInt8} {cs:List Code} (h:D0 nm = false):3 = chk nm cs:=by simp [chk,h]
theorem OA {nm:List UInt8} {cs:List Code} (h:D0 nm = true) (h2:(cs.length:Int) = 0):5 = chk nm cs:=by
 have:cs.length = 0:=by omega
 simp [chk,h,this]
theorem Lg {nm:List UInt8} {cs:List Code} (h:D0 nm = true) (h3:(60:Int) < cs.length):1 = chk nm cs:=by
 have h1:¬ cs.length = 0:=by omega
 have h2:60 < cs.length:=by omega
 simp only [chk,h,h1,h2,if_true,if_false,Bool.true_eq_false]
theorem AN {nm:List UInt8} {cs:List Code} {e:Int} (h:D0 nm = true) (h1:¬ (cs.length:Int) = 0) (h2:¬ (60:Int) < cs.length) (h3:scan [] cs = some e):e = chk nm cs:=by
 have h1:¬ cs.length = 0:=by omega
 have h2:¬ 60 < cs.length:=by omega
 simp only [chk,h,h1,h2,if_false,Bool.true_eq_false,h3]
theorem RJ {nm:List UInt8} {cs:List Code} {b:Bool} (h:D0 nm = true) (h1:¬ (cs.length:Int) = 0) (h2:¬ (60:Int) < cs.length) (h3:scan [] cs = none) (h4:lv (-1) (X2 cs) = b):(if b = true then 0 else 5:Int) = chk nm cs:=by
 have h1:¬ cs.length = 0:=by omega
 have h2:¬ 60 < cs.length:=by omega
 simp only [chk,h,h1,h2,if_false,Bool.true_eq_false,h3,h4]
theorem g9 {α:Type} {l:List α} {k:Nat} {x:α} (h:l[k]? = some x):l.drop k = x :: l.drop (k + 1):=by
 obtain ⟨h1,h2⟩:=List.getElem?_eq_some_iff.1 h
 rw [List.drop_eq_getElem_cons h1,h2]
theorem Jj {α:Type} {l:List α} {k:Nat} {x:α} (h:l[k]? = some x):l.take (k + 1) = l.take k ++ [x]:=by
 rw [List.take_add_one,h];rfl
def Y2 (cs:List Code) (k:Nat):Prop:=k ≤ cs.length ∧ scan [] cs = scan (cs.take k) (cs.drop k)
theorem Y2.step {cs:List Code} {k:Nat} {c:Code} (h:Y2 cs k) (hc:cs[k]? = some c) (h1:D0 c.name = true) (h2:c.name ∉ (cs.take k).map (·.name)) (h3:Au k c.parent = false):Y2 cs (k + 1):=by
 have hlt:=(List.getElem?_eq_some_iff.1 hc).1
 refine ⟨hlt,?_⟩
 have hl:(cs.take k).length = k:=by rw [List.length_take];omega
 rw [h.2,g9 hc,Jj hc]
 simp only [scan,h1,h2,hl,h3,Bool.true_eq_false,if_false,Bool.false_eq_true]
theorem Y2.name {cs:List Code} {k:Nat} {c:Code} (h:Y2 cs k) (hc:cs[k]? = some c) (h1:D0 c.name = false):scan [] cs = some 3:=by
 rw [h.2,g9 hc];simp only [scan,h1,if_true]
theorem Y2.dup {cs:List Code} {k:Nat} {c:Code} (h:Y2 cs k) (hc:cs[k]? = some c) (h1:D0 c.name = true) (h2:c.name ∈ (cs.take k).map (·.name)):scan [] cs = some 10:=by
 rw [h.2,g9 hc];simp only [scan,h1,h2,if_true,Bool.true_eq_false,if_false]
theorem Y2.bad {cs:List Code} {k:Nat} {c:Code} (h:Y2 cs k) (hc:cs[k]? = some c) (h1:D0 c.name = true) (h2:c.name ∉ (cs.take k).map (·.name)) (h3:Au k c.parent = true):scan [] cs = some 6:=by
 have hlt:=(List.getElem?_eq_some_iff.1 hc).1
 have hl:(cs.take k).length = k:=by rw [List.length_take];omega
 rw [h.2,g9 hc];simp only [scan,h1,h2,hl,h3,if_true,Bool.true_eq_false,if_false]
theorem Y2.done {cs:List Code} {k:Nat} (h:Y2 cs k) (hk:¬ (k:Int) < cs.length):scan [] cs = none:=by
 have e:k = cs.length:=by have:=h.1;omega
 rw [h.2,e,List.drop_length];rfl
def FQ (cs:List Code) (k:Nat):List (Key × AV):=(cs.take k).map fun c=>(Key.s c.name,AV.b true)
theorem PP (cs:List Code) (k:Nat):X7 .string (FQ cs k):=by
 intro p hp
 obtain ⟨c,_,rfl⟩:=List.mem_map.1 hp
 rfl
theorem Tp (l:List Code) (n:List UInt8):k9 (l.map fun c=>(Key.s c.name,AV.b true)) (.s n) (Q6 (.bool false)) = .b (decide (n ∈ l.map (·.name))):=by
 induction l with
 | nil=>rfl
 | cons a r ih =>
   unfold k9 X6 at ih ⊢
   rw [List.map_cons,List.find?_cons]
   by_cases e:a.name = n
   ·subst e;simp
   ·have:¬ n = a.name:=fun h=>e h.symm
    simp only [Key.s.injEq,e,decide_false]
    rw [ih]
    simp [this]
theorem Tq (cs:List Code) (k:Nat) (n:List UInt8):k9 (FQ cs k) (.s n) (Q6 (.bool false)) = .b (decide (n ∈ (cs.take k).map (·.name))):=Tp _ n
theorem Tr (l:List Code) (n:List UInt8) (h:n ∉ l.map (·.name)):W4 (l.map fun c=>(Key.s c.name,AV.b true)) (.s n) (.b true) = (l.map fun c=>(Key.s c.name,AV.b true)) ++ [(.s n, .b true)]:=by
 induction l with
 | nil=>rfl
 | cons a r ih =>
   simp only [List.map_cons,List.mem_cons,not_or] at h
   have:¬ Key.s a.name = Key.s n:=by simp;exact fun e=>h.1 e.symm
   simp only [List.map_cons,W4,this,if_false,List.cons_append,ih h.2]
theorem Lh {cs:List Code} {k:Nat} {c:Code} (hc:cs[k]? = some c) (h:c.name ∉ (cs.take k).map (·.name)):W4 (FQ cs k) (.s c.name) (.b true) = FQ cs (k + 1):=by
 unfold FQ
 rw [Tr _ _ h,Jj hc,List.map_append]
 rfl
def AB (cs:List Code):Nat → List Bool
 | 0=>List.replicate cs.length false
 | k + 1=>if k = 0 then AB cs k else match cs[k]? with
   | some c=>(AB cs k).set c.parent.toNat true
   | none=>AB cs k
theorem Z9 (cs:List Code):∀ k,(AB cs k).length = cs.length
 | 0=>by simp [AB]
 | k + 1=>by
   unfold AB
   split
   ·exact Z9 cs k
   ·split
    ·rw [List.length_set];exact Z9 cs k
    ·exact Z9 cs k
theorem Li {cs:List Code} {k:Nat} (hk:k = 0):AB cs (k + 1) = AB cs k:=by simp [AB,hk]
theorem GN {cs:List Code} {k:Nat} {c:Code} (hk:0 < k) (hc:cs[k]? = some c):AB cs (k + 1) = (AB cs k).set c.parent.toNat true:=by
 have:¬ k = 0:=by omega
 rw [AB,if_neg this,hc]
theorem De:∀ (cs pre:List Code),scan pre cs = none → ∀ (i:Nat) c,cs[i]? = some c → Au (pre.length + i) c.parent = false
 | [],pre,_,i,c,hc=>by simp at hc
 | a :: r,pre,h,i,c,hc=>by
   simp only [scan] at h
   split at h
   ·cases h
   ·split at h
    ·cases h
    ·split at h
     ·cases h
     ·rename_i h3
      cases i with
      | zero=>simp at hc;subst hc;simpa using h3
      | succ i =>
        have:=De r (pre ++ [a]) h i c (by simpa using hc)
        rw [List.length_append,List.length_singleton] at this
        rw [show pre.length + (i + 1) = pre.length + 1 + i by omega]
        exact this
theorem CM {cs:List Code} (h:scan [] cs = none):Good cs:=by
 refine ⟨fun i c hc hi=>?_,fun c hc=>?_⟩
 ·have:=De cs [] h i c hc
  simp [Au,Nat.ne_of_gt hi] at this
  omega
 ·have:=De cs [] h 0 c hc
  simpa [Au] using this
theorem OB {nm:List UInt8} {cs:List Code} (h:D0 nm = true) (h1:¬ (cs.length:Int) = 0) (h2:¬ (60:Int) < cs.length) (h3:scan [] cs = none) (h4:lv (-1) (X2 cs) = false):5 = chk nm cs:=by
 simpa using RJ h h1 h2 h3 h4
theorem RK {nm:List UInt8} {cs:List Code} (h:D0 nm = true) (h1:¬ (cs.length:Int) = 0) (h2:¬ (60:Int) < cs.length) (h3:scan [] cs = none) (h4:lv (-1) (X2 cs) = true):0 = chk nm cs:=by
 simpa using RJ h h1 h2 h3 h4
theorem RL {cs:List Code} (hg:Good cs):∀ (k j:Nat),k ≤ cs.length → j < cs.length → ∃ b,(AB cs k)[j]? = some b ∧ (b = true ↔ ∃ (i:Nat) (c:Code),0 < i ∧ i < k ∧ cs[i]? = some c ∧ c.parent = j)
 | 0,j,_,hj=>⟨false,by simp [AB,hj],by simp⟩
 | k + 1,j,hk,hj=>by
   obtain ⟨b,hb,ih⟩:=RL hg k j (by omega) hj
   by_cases h0:k = 0
   ·subst h0
    refine ⟨b,by rw [Li rfl,hb],ih.trans ⟨?_,?_⟩⟩
    ·rintro ⟨i,c,h1,h2,_⟩;omega
    ·rintro ⟨i,c,h1,h2,_⟩;omega
   ·have hc:cs[k]? = some cs[k]:=List.getElem?_eq_getElem (by omega)
    obtain ⟨h1,h2⟩:=hg.before k _ hc (by omega)
    by_cases hp:(cs[k].parent).toNat = j
    ·refine ⟨true,?_,fun _=>⟨k,_,by omega,by omega,hc,by omega⟩,fun _=>rfl⟩
     rw [GN (by omega) hc,List.getElem?_set,if_pos hp,if_pos (by rw [Z9];omega)]
    ·refine ⟨b,?_,ih.trans ⟨?_,?_⟩⟩
     ·rw [GN (by omega) hc,List.getElem?_set,if_neg hp,hb]
     ·rintro ⟨i,c,g1,g2,g3,g4⟩;exact ⟨i,c,g1,by omega,g3,g4⟩
     ·rintro ⟨i,c,g1,g2,g3,g4⟩
      refine ⟨i,c,g1,?_,g3,g4⟩
      rcases Nat.lt_or_ge i k with h | h
      ·exact h
      ·have:i = k:=by omega
       subst this
       rw [hc] at g3
       cases g3
       omega
theorem GO {cs:List Code} (hg:Good cs) {j:Nat} {x:Bool} (h:(AB cs cs.length)[j]? = some x):P7 cs j = !x:=by
 have hj:j < cs.length:=by rw [← Z9 cs cs.length];exact (List.getElem?_eq_some_iff.1 h).1
 obtain ⟨b,hb,hiff⟩:=RL hg _ j (Nat.le_refl _) hj
 rw [hb] at h
 cases h
 cases hx:P7 cs j with
 | true =>
   cases x with
   | false=>rfl
   | true =>
     obtain ⟨i,c,_,_,h3,h4⟩:=hiff.1 rfl
     have:=List.all_eq_true.1 hx c (List.mem_of_getElem? h3)
     simp [h4] at this
 | false =>
   cases x with
   | true=>rfl
   | false =>
     exfalso
     obtain ⟨c,hc,he⟩:=List.all_eq_false.1 hx
     obtain ⟨i,hi,rfl⟩:=List.getElem_of_mem hc
     have he:cs[i].parent = j:=by simpa using he
     have:(false = true):=hiff.2 ⟨i,_,by
      rcases Nat.eq_zero_or_pos i with e | e
      ·subst e
       have:=hg.root _ (List.getElem?_eq_getElem hi)
       omega
      ·exact e,hi,List.getElem?_eq_getElem hi,he⟩
     cases this
theorem q0 {cs:List Code} {k d:Nat} (h:(L9 cs)[k]? = some d):(X2 cs)[k]? = some (P7 cs k,d):=by
 have hk:k < cs.length:=by rw [← I2 cs];exact (List.getElem?_eq_some_iff.1 h).1
 simp [X2,hk,h]
theorem Lj (cs:List Code):(X2 cs).length = cs.length:=by simp [X2]
def Aw (cs:List Code) (k:Nat) (l:Int):Prop:=k ≤ cs.length ∧ lv (-1) (X2 cs) = lv l ((X2 cs).drop k) ∧ -1 ≤ l
theorem Aw.skip {cs:List Code} {k d:Nat} {l:Int} (h:Aw cs k l) (hd:(L9 cs)[k]? = some d) (hl:P7 cs k = false):Aw cs (k + 1) l:=by
 have hk:k < cs.length:=by rw [← I2 cs];exact (List.getElem?_eq_some_iff.1 hd).1
 refine ⟨hk,?_,h.2.2⟩
 rw [h.2.1,g9 (q0 hd),hl]
 simp [lv]
theorem Aw.next {cs:List Code} {k d:Nat} {l:Int} (h:Aw cs k l) (hd:(L9 cs)[k]? = some d) (hl:P7 cs k = true) (h2:¬ (0 ≤ l ∧ (d:Int) ≠ l)):Aw cs (k + 1) d:=by
 have hk:k < cs.length:=by rw [← I2 cs];exact (List.getElem?_eq_some_iff.1 hd).1
 refine ⟨hk,?_,by omega⟩
 rw [h.2.1,g9 (q0 hd),hl]
 simp only [lv,if_true,if_neg h2]
theorem Aw.bad {cs:List Code} {k d:Nat} {l:Int} (h:Aw cs k l) (hd:(L9 cs)[k]? = some d) (hl:P7 cs k = true) (h2:0 ≤ l ∧ (d:Int) ≠ l):lv (-1) (X2 cs) = false:=by
 rw [h.2.1,g9 (q0 hd),hl]
 simp only [lv,if_true,if_pos h2]
theorem Aw.done {cs:List Code} {k:Nat} {l:Int} (h:Aw cs k l) (hk:¬ (k:Int) < cs.length):lv (-1) (X2 cs) = true:=by
 have e:k = (X2 cs).length:=by rw [Lj];have:=h.1;omega
 rw [h.2.1,e,List.drop_length];rfl
abbrev bA (b:Bool):List AV:=[.b b]
set_option maxHeartbeats 4000000 in
theorem PQ (nm:List UInt8) (cs:List Code) (hlen:cs.length ≤ 9223372036854775807):B3 Tryz.prog 54 [lA nm cs] (.i (chk nm cs)):=by
 refine F3 Tryz.func54 102 fun hrd E h0=>?_
 repeat' ((first | refine A9 (Ec _) ?_ | refine Al ⟨[(1, .ref 0 0),(2, .i 0),(3, .mp 1),(4, .row 2 0 cs.length)],3,[(0,some (.box [.str nm, .sl 2 (cs.map cA)])),(1,some (.map [])),(2,some (.row 4 1 0 (List.replicate cs.length [.b false])))]⟩ ?_ ?_ |refine A1 ?_|refine S1 ?_|refine Z1 ?_|refine Z2 ?_|(refine And.intro ?_ ?_<;>intro h<;>try first|(exfalso;omega)|exact absurd rfl h)|refine Z3 ?_|refine Z4 ?_|intro el hel hbB|intro el hel|intro ex|refine Z5 ?_|(refine A6 ?_ ?_;exact ⟨by kernel_rfl,by decide⟩)|refine A5 ?_ ?_|exact A4|refine A3 ?_ ?_|exact A2|(refine A0 ?_ ?_ ?_;kernel_rfl;kernel_rfl)) <;> (try (conv=>whnf)))
 case refine_1=>exact B2 rfl (congrArg AV.i (AM h))
 case refine_2.refine_1=>exact B2 rfl (congrArg AV.i (OA (by assumption) h))
 case refine_2.refine_2.refine_1=>exact B2 rfl (congrArg AV.i (Lg (by assumption) h))
 case refine_2.refine_2.refine_2.refine_2 =>
  rename_i hn hz
  have hl:=h
  clear h
  have hlen6:cs.length ≤ 1000000:=by omega
  refine C5 (ι:=Nat) (fun k=>⟨[(1, .ref 0 0),(3, .mp 1),(4, .row 2 0 cs.length),(31, .sl 2 (cs.map cA)),(32, .i cs.length),(33, .i k)],3,[(0,some (.box [.str nm, .sl 2 (cs.map cA)])),(1,some (.map (FQ cs k))),(2,some (.row 4 1 0 ((AB cs k).map bA)))]⟩) (fun k=>Y2 cs k) (fun k=>cs.length - k) 0 ⟨Nat.zero_le _,by simp⟩ (A8 h0 rfl ⟨rfl,rfl,rfl,rfl,rfl,rfl,trivial⟩ ⟨rfl,rfl,⟨0,by simp [AB]⟩,trivial⟩ rfl rfl rfl) (fun k hI=>?_)
  repeat' ((first | refine A9 (Ec _) ?_ | refine A9 (NP _ _ (CM (hI.done (by assumption))).before hlen6) ?_ | (refine G7 ?_ ?_;exact PP _ _) | refine VS (Tq _ _ _) ?_ | (refine f8 ?_ (fun x hx=>?_);(rw [Z9];omega)) |refine A1 ?_|refine S1 ?_|refine Z1 ?_|refine Z2 ?_|(refine And.intro ?_ ?_<;>intro h<;>try first|(exfalso;omega)|exact absurd rfl h)|refine Z3 ?_|refine Z4 ?_|intro el hel hbB|intro el hel|intro ex|refine Z5 ?_|(refine A6 ?_ ?_;exact ⟨by kernel_rfl,by decide⟩)|refine A5 ?_ ?_|exact A4|refine A3 ?_ ?_|exact A2|(refine A0 ?_ ?_ ?_;kernel_rfl;kernel_rfl)) <;> (try (conv=>whnf)))
  all_goals first
   | exact B2 rfl (congrArg AV.i (AN hn hz hl (hI.name hel (by assumption))))
   | exact B2 rfl (congrArg AV.i (AN hn hz hl (hI.dup hel (by assumption) (by assumption))))
   | exact B2 rfl (congrArg AV.i (AN hn hz hl (hI.bad hel (by assumption) (by assumption) (by unfold Au;split <;> simp <;> omega))))
   | exact ⟨k + 1,hI.step hel (by assumption) (by assumption) (by unfold Au;split <;> simp <;> omega),by omega,A8 h0 rfl ⟨rfl,rfl,rfl,rfl,rfl,rfl,trivial⟩ ⟨rfl,congrArg C0.map (Lh hel (by assumption)).symm,⟨0,congrArg (fun l=>C0.row 4 1 0 (l.map bA)) (Li (by omega))⟩,trivial⟩ rfl rfl rfl⟩
   | exact ⟨k + 1,hI.step hel (by assumption) (by assumption) (by unfold Au;split <;> simp <;> omega),by omega,A8 h0 rfl ⟨rfl,rfl,rfl,rfl,rfl,rfl,trivial⟩ ⟨rfl,congrArg C0.map (Lh hel (by assumption)).symm,⟨0,congrArg (C0.row 4 1 0) ((congrArg (List.map bA) (GN (by omega) hel)).trans List.map_set)⟩,trivial⟩ rfl rfl rfl⟩
   | skip
  have hs:=hI.done h
  have hg:=CM hs
  have hk:k = cs.length:=by have:=hI.1;omega
  subst hk
  refine C5 (ι:=Nat × Int) (fun x=>⟨[(4, .row 2 0 cs.length),(7, .i x.2),(82, .sl 1 ((L9 cs).map iA)),(83, .i (L9 cs).length),(84, .i x.1)],3,[(2,some (.row 4 1 0 ((AB cs cs.length).map bA)))]⟩) (fun x=>Aw cs x.1 x.2) (fun x=>cs.length - x.1) (0, -1) ⟨Nat.zero_le _,by simp,by simp⟩ (A8 h0 rfl ⟨rfl,rfl,rfl,rfl,rfl,trivial⟩ ⟨⟨0,rfl⟩,trivial⟩ rfl rfl rfl) (fun x hJ=>?_)
  obtain ⟨j,l⟩:=x
  have hJ0:=hJ.1
  have hJ2:=hJ.2.2
  have hdl:=I2 cs
  simp only at hJ hJ0 hJ2
  repeat' ((first | (refine f8 ?_ (fun x hx=>?_);(rw [Z9];omega)) |refine A1 ?_|refine S1 ?_|refine Z1 ?_|refine Z2 ?_|(refine And.intro ?_ ?_<;>intro h<;>try first|(exfalso;omega)|exact absurd rfl h)|refine Z3 ?_|refine Z4 ?_|intro el hel hbB|intro el hel|intro ex|refine Z5 ?_|(refine A6 ?_ ?_;exact ⟨by kernel_rfl,by decide⟩)|refine A5 ?_ ?_|exact A4|refine A3 ?_ ?_|exact A2|(refine A0 ?_ ?_ ?_;kernel_rfl;kernel_rfl)) <;> (try (conv=>whnf)))
  all_goals first
   | exact ⟨(j + 1,l),hJ.skip hel (by rw [GO (j:=j) hg hx,h];rfl),by simp only;omega,A8 h0 rfl ⟨rfl,rfl,rfl,rfl,rfl,trivial⟩ ⟨⟨0,rfl⟩,trivial⟩ rfl rfl rfl⟩
   | exact B2 rfl (congrArg AV.i (OB hn hz hl hs (hJ.bad hel (by rw [GO (j:=j) hg hx];simp [*]) ⟨by assumption,by assumption⟩)))
   | exact ⟨(j + 1,(el:Int)),hJ.next hel (by rw [GO (j:=j) hg hx];simp [*]) (by simp only at *;omega),by simp only;omega,A8 h0 rfl ⟨rfl,rfl,rfl,rfl,rfl,trivial⟩ ⟨⟨0,rfl⟩,trivial⟩ rfl rfl rfl⟩
   | exact B2 rfl (congrArg AV.i (RK hn hz hl hs (hJ.done (by simp only at *;omega))))
 all_goals first
  | exact A8 h0 rfl ⟨rfl,rfl,rfl,rfl,trivial⟩ ⟨rfl,rfl,⟨0,rfl⟩,trivial⟩ rfl rfl rfl
  | exact C7 (Co 1 2 h0 rfl rfl) (A8 h0 rfl ⟨rfl,rfl,rfl,rfl,trivial⟩ ⟨rfl,rfl,⟨0,rfl⟩,trivial⟩ rfl rfl rfl)
theorem Ts {cs:List Code} {i k:Nat} {a b:Code} (hi:cs[i]? = some a) (hI:∀ c ∈ cs.take k,c.name ≠ a.name) (hb:cs[k]? = some b) (h:¬ b.name = a.name):∀ c ∈ cs.take (k + 1),c.name ≠ a.name:=Lf hI hb h
theorem WX {cs:List Code} {i k:Nat} {a b:Code} (hki:k < i) (hb:cs[k]? = some b) (h:b.name = a.name):a.name ∈ (cs.take i).map (·.name) :=
 List.mem_map.2 ⟨b,List.mem_of_getElem? (i:=k) (by rw [List.getElem?_take_of_lt hki];exact hb),h⟩
theorem RM {cs:List Code} {i:Nat} {a:Code} (hI:∀ c ∈ cs.take i,c.name ≠ a.name):a.name ∉ (cs.take i).map (·.name):=by
 intro h
 obtain ⟨c,hc,he⟩:=List.mem_map.1 h
 exact hI c hc he
set_option maxHeartbeats 4000000 in
theorem Ae (nm:List UInt8) (cs:List Code) (hlen:cs.length ≤ 9223372036854775807):B3 Tryz.prog 91 [lA nm cs] (.i (chk nm cs)):=by
 refine F3 Tryz.func91 100 fun hrd E h0=>?_
 repeat' ((first | refine A9 (Dd _) ?_ |refine A1 ?_|refine S1 ?_|refine Z1 ?_|refine Z2 ?_|(refine And.intro ?_ ?_<;>intro h<;>try first|(exfalso;omega)|exact absurd rfl h)|refine Z3 ?_|refine Z4 ?_|intro el hel hbB|intro el hel|intro ex|refine Z5 ?_|(refine A6 ?_ ?_;exact ⟨by kernel_rfl,by decide⟩)|refine A5 ?_ ?_|exact A4|refine A3 ?_ ?_|exact A2|(refine A0 ?_ ?_ ?_;kernel_rfl;kernel_rfl)) <;> (try (conv=>whnf)))
 case refine_1=>exact B2 rfl (congrArg AV.i (AM h))
 case refine_2.refine_1=>exact B2 rfl (congrArg AV.i (OA (by assumption) h))
 case refine_2.refine_2.refine_1=>exact B2 rfl (congrArg AV.i (Lg (by assumption) h))
 rename_i hn hz
 have hl:=h
 clear h
 refine C5 (ι:=Nat) (fun k=>⟨[(1, .ref 0 0),(3, .i k)],1,[(0,some (.box [.str nm, .sl 2 (cs.map cA)]))]⟩) (fun k=>Y2 cs k) (fun k=>cs.length - k) 0 ⟨Nat.zero_le _,by simp⟩ (A8 h0 rfl ⟨rfl,rfl,trivial⟩ ⟨rfl,trivial⟩ rfl rfl rfl) (fun k hI=>?_)
 repeat' ((first | refine A9 (Dd _) ?_ |refine A1 ?_|refine S1 ?_|refine Z1 ?_|refine Z2 ?_|(refine And.intro ?_ ?_<;>intro h<;>try first|(exfalso;omega)|exact absurd rfl h)|refine Z3 ?_|refine Z4 ?_|intro el hel hbB|intro el hel|intro ex|refine Z5 ?_|(refine A6 ?_ ?_;exact ⟨by kernel_rfl,by decide⟩)|refine A5 ?_ ?_|exact A4|refine A3 ?_ ?_|exact A2|(refine A0 ?_ ?_ ?_;kernel_rfl;kernel_rfl)) <;> (try (conv=>whnf)))
 case refine_2.refine_2.refine_2.refine_1.refine_1=>exact B2 rfl (congrArg AV.i (AN hn hz hl (hI.name hel h)))
 ·rename_i hk
  rename Code=>c
  rename cs[k]? = _=>hc
  have hnm:=h
  clear h
  refine C5 (ι:=Nat) (fun j=>⟨[(1, .ref 0 0),(3, .i k),(4, .i j)],1,[(0,some (.box [.str nm, .sl 2 (cs.map cA)]))]⟩) (fun j=>j ≤ k ∧ ∀ a ∈ cs.take j,a.name ≠ c.name) (fun j=>k - j) 0 ⟨Nat.zero_le _,by simp⟩ (A8 h0 rfl ⟨rfl,rfl,rfl,trivial⟩ ⟨rfl,trivial⟩ rfl rfl rfl) (fun j hJ=>?_)
  obtain ⟨hj,hJ⟩:=hJ
  repeat' ((first | (refine G3 ?_ ?_;kernel_rfl) |refine A1 ?_|refine S1 ?_|refine Z1 ?_|refine Z2 ?_|(refine And.intro ?_ ?_<;>intro h<;>try first|(exfalso;omega)|exact absurd rfl h)|refine Z3 ?_|refine Z4 ?_|intro el hel hbB|intro el hel|intro ex|refine Z5 ?_|(refine A6 ?_ ?_;exact ⟨by kernel_rfl,by decide⟩)|refine A5 ?_ ?_|exact A4|refine A3 ?_ ?_|exact A2|(refine A0 ?_ ?_ ?_;kernel_rfl;kernel_rfl)) <;> (try (conv=>whnf)))
  all_goals first
   | exact B2 rfl (congrArg AV.i (AN hn hz hl (hI.dup hc hnm (WX (by omega) hel h))))
   | exact ⟨j + 1,⟨by omega,Ts hc hJ hel h⟩,by omega,A8 h0 rfl ⟨rfl,rfl,rfl,trivial⟩ ⟨rfl,trivial⟩ rfl rfl rfl⟩
   | (have hjk:j = k:=by omega
      subst hjk
      first
       | exact ⟨j + 1,hI.step hc hnm (RM hJ) (by unfold Au;split <;> simp <;> omega),by omega,A8 h0 rfl ⟨rfl,rfl,trivial⟩ ⟨rfl,trivial⟩ rfl rfl rfl⟩
       | exact B2 rfl (congrArg AV.i (AN hn hz hl (hI.bad hc hnm (RM hJ) (by unfold Au;split <;> simp <;> omega)))))
 ·have hs:=hI.done h
  have hg:=CM hs
  have hdl:=I2 cs
  refine C5 (ι:=Nat × Int) (fun x=>⟨[(1, .ref 0 0),(6, .i x.2),(7, .i x.1)],1,[(0,some (.box [.str nm, .sl 2 (cs.map cA)]))]⟩) (fun x=>Aw cs x.1 x.2) (fun x=>cs.length - x.1) (0, -1) ⟨Nat.zero_le _,by simp,by simp⟩ (A8 h0 rfl ⟨rfl,rfl,rfl,trivial⟩ ⟨rfl,trivial⟩ rfl rfl rfl) (fun x hJ=>?_)
  obtain ⟨j,l⟩:=x
  have hJ0:=hJ.1
  have hJ2:=hJ.2.2
  simp only at hJ hJ0 hJ2
  repeat' ((first | refine A9 (RI _ _ _ hlen) ?_ | refine A9 (BK _ _ _ _ hg hlen (List.getElem?_eq_getElem (i:=j) (by omega))) ?_ |refine A1 ?_|refine S1 ?_|refine Z1 ?_|refine Z2 ?_|(refine And.intro ?_ ?_<;>intro h<;>try first|(exfalso;omega)|exact absurd rfl h)|refine Z3 ?_|refine Z4 ?_|intro el hel hbB|intro el hel|intro ex|refine Z5 ?_|(refine A6 ?_ ?_;exact ⟨by kernel_rfl,by decide⟩)|refine A5 ?_ ?_|exact A4|refine A3 ?_ ?_|exact A2|(refine A0 ?_ ?_ ?_;kernel_rfl;kernel_rfl)) <;> (try (conv=>whnf)))
  all_goals first
   | exact ⟨(j + 1,l),hJ.skip (List.getElem?_eq_getElem (by simp only at *;omega)) h,by simp only at *;omega,A8 h0 rfl ⟨rfl,rfl,rfl,trivial⟩ ⟨rfl,trivial⟩ rfl rfl rfl⟩
   | exact B2 rfl (congrArg AV.i (OB hn hz hl hs (hJ.bad (List.getElem?_eq_getElem (by simp only at *;omega)) (by assumption) ⟨by assumption,by assumption⟩)))
   | exact ⟨(j + 1,((L9 cs)[j]'(by simp only at *;omega):Int)),hJ.next (List.getElem?_eq_getElem (by simp only at *;omega)) (by assumption) (by simp only at *;omega),by simp only at *;omega,A8 h0 rfl ⟨rfl,rfl,rfl,trivial⟩ ⟨rfl,trivial⟩ rfl rfl rfl⟩
   | exact B2 rfl (congrArg AV.i (RK hn hz hl hs (hJ.done (by simp only at *;omega))))
theorem K9 {nm:List UInt8} {cs:List Code} (h:chk nm cs = 0):Good cs ∧ 0 < cs.length ∧ cs.length ≤ 60:=by
 unfold chk at h
 split at h
 ·cases h
 ·split at h
  ·cases h
  ·split at h
   ·cases h
   ·rename_i h1 h2 h3
    cases hs:scan [] cs with
    | some e =>
      rw [hs] at h
      simp only at h
      subst h
      exfalso
      have:∀ (cs pre:List Code) e,scan pre cs = some e → e = 3 ∨ e = 10 ∨ e = 6:=by
       intro cs
       induction cs with
       | nil=>intro pre e h;cases h
       | cons a r ih =>
         intro pre e h
         simp only [scan] at h
         split at h
         ·cases h;exact .inl rfl
         ·split at h
          ·cases h;exact .inr (.inl rfl)
          ·split at h
           ·cases h;exact .inr (.inr rfl)
           ·exact ih _ _ h
      have:=this _ _ _ hs
      omega
    | none=>exact ⟨CM hs,by omega,by omega⟩
theorem RN {nm:List UInt8} {cs:List Code} (h:chk nm cs = 0):cs.length ≤ 1000000:=by have:=(K9 h).2.2;omega
def Ce (ds:List Nat):Nat:=ds.foldl max 0
def hasB (nm:List UInt8) (cs:List Code) (code:Int):Bool:=decide (0 ≤ code) && decide (code < cs.length) && decide (chk nm cs = 0)
def E8 (nm:List UInt8) (cs:List Code):Int:=if chk nm cs = 0 then (Ce (L9 cs):Int) + 1 else -1
theorem Lk {cs:List Code} (hb:Ct cs):Ce (L9 cs) ≤ cs.length:=by
 have:∀ (ds:List Nat) (m a:Nat),(∀ d ∈ ds,d ≤ m) → a ≤ m → ds.foldl max a ≤ m:=by
  intro ds
  induction ds with
  | nil=>intro m a _ h;exact h
  | cons d r ih=>intro m a h ha;exact ih m _ (fun x hx=>h x (by simp [hx])) (by have:=h d (by simp);omega)
 refine this _ _ _ (fun d hd=>?_) (Nat.zero_le _)
 obtain ⟨i,hi,rfl⟩:=List.getElem_of_mem hd
 have h1:=Il hb i _ (List.getElem?_eq_getElem hi)
 have h2:=I2 cs
 omega
def An (nm:List UInt8) (cs:List Code) (code:Int):Int:=if hasB nm cs code = true then ((L9 cs).getD code.toNat 0:Nat) else -1
def par (cs:List Code) (code:Nat):Nat:=((cs[code]?).map (·.parent.toNat)).getD 0
def Zi (cs:List Code) (code:Nat):Nat → Nat
 | 0=>code
 | s + 1=>Zi cs (par cs code) s
def s9 (cs:List Code) (code:Nat):Nat:=(L9 cs).getD code 0
def o4 (nm:List UInt8) (cs:List Code) (code level:Int):Int :=
 if hasB nm cs code = true ∧ 0 ≤ level ∧ level ≤ s9 cs code.toNat then (Zi cs code.toNat (s9 cs code.toNat - level.toNat):Int) else -1
theorem Io {cs:List Code} {j d:Nat} (h:(L9 cs)[j]? = some d):s9 cs j = d:=by rw [s9,List.getD_eq_getElem?_getD,h];rfl
theorem Bn {cs:List Code} {j:Nat} (h:j < cs.length):(L9 cs)[j]? = some (s9 cs j):=by
 have h2:j < (L9 cs).length:=by rw [I2];exact h
 rw [s9,List.getD_eq_getElem?_getD,List.getElem?_eq_getElem h2];rfl
theorem WY {cs:List Code} (hb:Ct cs) {j:Nat} {c:Code} (hc:cs[j]? = some c) (hj:0 < j):s9 cs j = s9 cs (par cs j) + 1 ∧ par cs j < j ∧ (par cs j:Int) = c.parent:=by
 obtain ⟨h1,h2⟩:=hb j c hc hj
 have hp:par cs j = c.parent.toNat:=by rw [par,hc];rfl
 have h3:=AL hb hc
 rw [if_neg (by omega)] at h3
 have:=Io h3
 rw [hp]
 exact ⟨this,by omega,by omega⟩
def Xx (nm:List UInt8) (cs:List Code) (code above:Int):Bool:=hasB nm cs code && hasB nm cs above && decide (o4 nm cs code (s9 cs above.toNat) = above)
def Dz (cs:List Code) (level:Int) (k:Nat):List Nat:=(List.range k).filter fun i=>decide ((s9 cs i:Int) = level)
theorem Xy (cs:List Code) (level:Int) (k:Nat):(Dz cs level k).length ≤ k:=by
 have:=List.length_filter_le (fun i=>decide ((s9 cs i:Int) = level)) (List.range k)
 simpa [Dz] using this
theorem OC {cs:List Code} {level:Int} {k:Nat} (h:(s9 cs k:Int) = level):Dz cs level (k + 1) = Dz cs level k ++ [k]:=by
 simp [Dz,List.range_succ,List.filter_append,h]
theorem RO {cs:List Code} {level:Int} {k:Nat} (h:¬ (s9 cs k:Int) = level):Dz cs level (k + 1) = Dz cs level k:=by
 simp [Dz,List.range_succ,List.filter_append,h]
def N4 (nm:List UInt8) (cs:List Code) (level:Int):List Nat:=if chk nm cs = 0 then Dz cs level cs.length else []
end Go.Proofs.YtiphlhoclaogjabGreatDoor
namespace Go.Proofs.YtiphlhoclaogjabGreatDoor
open Go Go.Av
set_option maxRecDepth 100000
def OD (n:Int):Prop:=-9223372036854775808 ≤ n ∧ n ≤ 9223372036854775807
theorem Ip {f:Nat} {l:List AV} (h:Sh Tryz.prog f 3 l):∃ n,OD n ∧ l = [.i n]:=by
 obtain ⟨n,h1,h2⟩:=Hc Tryz.underlying3 h
 exact ⟨n,wf_i64 h1,h2⟩
theorem Tt {f:Nat} {l:List AV} (h:Sh Tryz.prog f 9 l):∃ s:List UInt8,s.length ≤ maxLen ∧ l = [.str s]:=Qx Tryz.underlying9 h
theorem WZ {f:Nat} {l:List AV} (h:Sh Tryz.prog f 79 l):∃ c:Code,OD c.parent ∧ l = cA c:=by
 obtain ⟨f',h,_⟩:=CJ (ts:=[9,3]) Tryz.underlying79 (by kernel_rfl) h
 obtain ⟨a,b,ha,⟨c,d,hc,hd,rfl⟩,rfl⟩:=h
 obtain ⟨s,_,rfl⟩:=Tt ha
 obtain ⟨n,hn,rfl⟩:=Ip hc
 cases hd
 exact ⟨⟨s,n⟩,hn,rfl⟩
theorem Wa {f:Nat} {l:List AV} (h:Sh Tryz.prog f 77 l):∃ (nm:List UInt8) (cs:List Code),cs.length ≤ maxLen ∧ (∀ c ∈ cs,OD c.parent) ∧ l = [.str nm, .sl 2 (cs.map cA)]:=by
 obtain ⟨f',h,_⟩:=CJ (ts:=[9,75]) Tryz.underlying77 (by kernel_rfl) h
 obtain ⟨a,b,ha,⟨c,d,hc,hd,rfl⟩,rfl⟩:=h
 obtain ⟨s,_,rfl⟩:=Tt ha
 obtain ⟨f2,ls,hl,hall,rfl,_⟩:=Bl (c:=2) Tryz.underlying75 (by kernel_rfl) hc
 cases hd
 obtain ⟨cs,rfl,hcs⟩:=p9 (F:=cA) (R:=fun c=>OD c.parent) (fun x hx=>WZ (hall x hx))
 exact ⟨s,cs,by rw [List.length_map] at hl;exact hl,hcs,rfl⟩
theorem Ll {a:AV} (h:Q9 Tryz.prog 22 a):∃ l:List UInt8,l.length ≤ maxLen ∧ a = .sl 1 (l.map R8):=Qz Tryz.underlying22 Tryz.underlying5 (by kernel_rfl) h
theorem Vb {a:AV} (h:Q9 Tryz.prog 3 a):∃ n,OD n ∧ a = .i n:=WP Tryz.underlying3 h
theorem Vc {a:AV} (h:Q9 Tryz.prog 9 a):∃ s:List UInt8,s.length ≤ maxLen ∧ a = .str s:=WQ Tryz.underlying9 h
end Go.Proofs.YtiphlhoclaogjabGreatDoor
